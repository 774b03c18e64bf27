/- The kinds of the values that the program's functions handle. Conditions: none. -/
import Derived.Test.YtkeccgkicffieaaGreatDoorProg
import Derived.Below
import Derived.Deep.Draws
import Derived.Deep.AppendLies
import Derived.Maps.AppendAt
import Derived.OwnWalk
import Derived.Laws.BytesArg
import Derived.Laws.MakeOwn
import Derived.Laws.OwnMore
import Derived.Deep.OwnRows
import Derived.Tactics
import Derived.Lib.ConvBytes
import Derived.Laws.Slices
import Derived.WalkKit
import Derived.KernelRfl
import Derived.RowKit3
import Derived.Deep.LoopGhost
import Derived.Deep.QuietTactic
import Derived.BigQuiet
import Derived.WideLaws
import Derived.Deep.DeepCutAuto
import Derived.Deep.CutBlock
import Derived.Deep.RegionHeld3
import Derived.Laws.Rows
import Derived.Lib.AppendStr
import Derived.ArgAppend
import Derived.Laws.IdiomCopy
import Derived.OrdersHeld
import Derived.Laws.BitsLemmas
import Derived.RowKit
import Derived.Test.YtkeccgkicffieaaGreatDoorTopW
import Derived.Outline
namespace Go.Proofs.YtkeccgkicffieaaGreatDoor.PTopWider
open Go.RowKit Go.Proofs.YtkeccgkicffieaaGreatDoorW.PrintWords Go.Proofs.YtkeccgkicffieaaGreatDoorW.PrintLast Go.Proofs.YtkeccgkicffieaaGreatDoorW.PrintMore
attribute [local go_sem] max2_int min2_int max_two min_two max_three min_three max_four min_four
set_option linter.unusedVariables false
set_option linter.unusedSimpArgs false
def errW : Option Int → Value
 | none => .nilIface
 | some c => .iface 0 (.int .i64 c)
theorem errW_none : errW none = .nilIface := rfl
theorem errW_some (c : Int) : errW (some c) = .iface 0 (.int .i64 c) := rfl
theorem info3 : (Tryz.prog.info? 3).map (fun i => (i.zero, i.size, i.bytes)) = some (some (.int .i64 0), 1, 8) := by kernel_rfl
theorem info5 : (Tryz.prog.info? 5).map (fun i => (i.zero, i.size, i.bytes)) = some (some (.int .u8 0), 1, 1) := by kernel_rfl
theorem info50 : (Tryz.prog.info? 50).map (fun i => (i.zero, i.size, i.bytes)) = some (some (.agg #[(.int .i64 0), (.int .i64 0), (.int .i64 0), (.int .u8 0)]), 4, 32) := by kernel_rfl
theorem info69 : (Tryz.prog.info? 69).map (fun i => (i.zero, i.size, i.bytes)) = some (some (.agg #[(.int .i32 0), (.int .i32 0), (.int .i64 0)]), 3, 16) := by kernel_rfl
theorem info82 : (Tryz.prog.info? 82).map (fun i => (i.zero, i.size, i.bytes)) = some (some (.int .u32 0), 1, 4) := by kernel_rfl
theorem info127 : (Tryz.prog.info? 127).map (fun i => (i.zero, i.size, i.bytes)) = some (some (.agg #[(.int .i64 0), (.int .i64 0), (.int .i64 0), (.int .u8 0)]), 4, 32) := by kernel_rfl
theorem info140 : (Tryz.prog.info? 140).map (fun i => (i.zero, i.size, i.bytes)) = some (some (.agg #[(.int .u8 0), (.int .u32 0), (.slice none 0 0)]), 3, 32) := by kernel_rfl
theorem info149 : (Tryz.prog.info? 149).map (fun i => (i.zero, i.size, i.bytes)) = some (some (.agg #[(.int .i32 0), (.int .i64 0), (.int .i64 0)]), 3, 24) := by kernel_rfl
structure S140 where
 f0 : Int
 f1 : Int
 f2 : (List S140)
def rd_L4 (xs : List (List Int)) (i : Int) : (List Int) := xs.getD i.toNat ([] : List Int)
theorem at_L4 {w : World} {A : Option Addr} {n : Nat} {xs : List (List Int)} (h : Kd.C (Kd.slice 3 (Kd.int .i64)) w A n xs) (i : Int) (h0 : 0 ≤ i) (h1 : i < n) : ∃ ad A0 c0, A = some ad ∧ w.cell? (ad.add i.toNat) = some (.slice A0 (rd_L4 xs i).length c0) ∧ (rd_L4 xs i).length ≤ c0 ∧ (Kd.int .i64).C w A0 (rd_L4 xs i).length (rd_L4 xs i) := by
 obtain ⟨ad, c, e, _, hK, hc0⟩ := Kd.C_get h ([] : List Int) i h0 h1
 have hc : ∀ j u, c[j]? = some u → w.cell? (ad.add (i.toNat * 1 + j)) = some u := hc0
 obtain ⟨A0, c0, rfl, l0, g0⟩ := hK
 exact ⟨ad, A0, c0, e, by have hq := hc 0 _ rfl; rwa [Nat.mul_one, Nat.add_zero] at hq, l0, g0⟩
structure S69 where
 f0 : Int
 f1 : Int
 f2 : Int
def z69 : S69 := ⟨(0 : Int), (0 : Int), (0 : Int)⟩
def k69 : Kd S69 := Kd.iso (Kd.pair (Kd.int .i32) (Kd.pair (Kd.int .i32) (Kd.int .i64))) (fun x : S69 => (x.f0, x.f1, x.f2))
theorem k69_open {w : World} {x : S69} {cs : List Value} (h : k69.K w x cs) : cs = [.int .i32 x.f0, .int .i32 x.f1, .int .i64 x.f2] := by
 obtain ⟨_, _, rfl, rfl, ⟨_, _, rfl, rfl, rfl⟩⟩ := h
 exact rfl
theorem k69_openM {w : World} {base : Nat} {ok : Nat → Prop} {x : S69} {cs : List Value} (h : k69.M w base ok x cs) : cs = [.int .i32 x.f0, .int .i32 x.f1, .int .i64 x.f2] := by
 obtain ⟨_, _, rfl, rfl, ⟨_, _, rfl, rfl, rfl⟩⟩ := h
 exact rfl
theorem k69_mk (w : World) (x : S69)  : k69.K w x [.int .i32 x.f0, .int .i32 x.f1, .int .i64 x.f2] := ⟨[.int .i32 x.f0], [.int .i32 x.f1, .int .i64 x.f2], rfl, rfl, ⟨[.int .i32 x.f1], [.int .i64 x.f2], rfl, rfl, rfl⟩⟩
theorem k69_mkM (w : World) (base : Nat) (ok : Nat → Prop) (x : S69)  : k69.M w base ok x [.int .i32 x.f0, .int .i32 x.f1, .int .i64 x.f2] := ⟨[.int .i32 x.f0], [.int .i32 x.f1, .int .i64 x.f2], rfl, rfl, ⟨[.int .i32 x.f1], [.int .i64 x.f2], rfl, rfl, rfl⟩⟩
def rd_T69 (xs : List S69) (i : Int) : S69 := xs.getD i.toNat z69
theorem at_T69 {w : World} {A : Option Addr} {n : Nat} {xs : List S69} (h : Kd.C k69 w A n xs) (i : Int) (h0 : 0 ≤ i) (h1 : i < n) : ∃ ad , A = some ad ∧ w.cell? (ad.add (i.toNat * 3)) = some (.int .i32 (rd_T69 xs i).f0) ∧ w.cell? ⟨(ad.add (i.toNat * 3)).block, (ad.add (i.toNat * 3)).off + 1, none⟩ = some (.int .i32 (rd_T69 xs i).f1) ∧ w.cell? ⟨(ad.add (i.toNat * 3)).block, (ad.add (i.toNat * 3)).off + 2, none⟩ = some (.int .i64 (rd_T69 xs i).f2) := by
 obtain ⟨ad, c, e, _, hK, hc0⟩ := Kd.C_get h z69 i h0 h1
 have hc : ∀ j u, c[j]? = some u → w.cell? (ad.add (i.toNat * 3 + j)) = some u := hc0
 obtain rfl := k69_open hK
 exact ⟨ad, e, hc 0 _ rfl, by rw [← add_field _ _ 1 (by omega)]; exact hc 1 _ rfl, by rw [← add_field _ _ 2 (by omega)]; exact hc 2 _ rfl⟩
structure S149 where
 f0 : Int
 f1 : Int
 f2 : Int
def z149 : S149 := ⟨(0 : Int), (0 : Int), (0 : Int)⟩
def k149 : Kd S149 := Kd.iso (Kd.pair (Kd.int .i32) (Kd.pair (Kd.int .i64) (Kd.int .i64))) (fun x : S149 => (x.f0, x.f1, x.f2))
theorem k149_open {w : World} {x : S149} {cs : List Value} (h : k149.K w x cs) : cs = [.int .i32 x.f0, .int .i64 x.f1, .int .i64 x.f2] := by
 obtain ⟨_, _, rfl, rfl, ⟨_, _, rfl, rfl, rfl⟩⟩ := h
 exact rfl
theorem k149_mkM (w : World) (base : Nat) (ok : Nat → Prop) (x : S149)  : k149.M w base ok x [.int .i32 x.f0, .int .i64 x.f1, .int .i64 x.f2] := ⟨[.int .i32 x.f0], [.int .i64 x.f1, .int .i64 x.f2], rfl, rfl, ⟨[.int .i64 x.f1], [.int .i64 x.f2], rfl, rfl, rfl⟩⟩
def rd_T149 (xs : List S149) (i : Int) : S149 := xs.getD i.toNat z149
theorem at_T149 {w : World} {A : Option Addr} {n : Nat} {xs : List S149} (h : Kd.C k149 w A n xs) (i : Int) (h0 : 0 ≤ i) (h1 : i < n) : ∃ ad , A = some ad ∧ w.cell? (ad.add (i.toNat * 3)) = some (.int .i32 (rd_T149 xs i).f0) ∧ w.cell? ⟨(ad.add (i.toNat * 3)).block, (ad.add (i.toNat * 3)).off + 1, none⟩ = some (.int .i64 (rd_T149 xs i).f1) ∧ w.cell? ⟨(ad.add (i.toNat * 3)).block, (ad.add (i.toNat * 3)).off + 2, none⟩ = some (.int .i64 (rd_T149 xs i).f2) := by
 obtain ⟨ad, c, e, _, hK, hc0⟩ := Kd.C_get h z149 i h0 h1
 have hc : ∀ j u, c[j]? = some u → w.cell? (ad.add (i.toNat * 3 + j)) = some u := hc0
 obtain rfl := k149_open hK
 exact ⟨ad, e, hc 0 _ rfl, by rw [← add_field _ _ 1 (by omega)]; exact hc 1 _ rfl, by rw [← add_field _ _ 2 (by omega)]; exact hc 2 _ rfl⟩
structure S130 where
 f0 : Int
 f1 : Int
 f2 : Int
 f3 : Int
def z130 : S130 := ⟨(0 : Int), (0 : Int), (0 : Int), (0 : Int)⟩
def k130 : Kd S130 := Kd.iso (Kd.pair (Kd.int .i64) (Kd.pair (Kd.int .i64) (Kd.pair (Kd.int .i64) (Kd.int .u8)))) (fun x : S130 => (x.f0, x.f1, x.f2, x.f3))
theorem k130_open {w : World} {x : S130} {cs : List Value} (h : k130.K w x cs) : cs = [.int .i64 x.f0, .int .i64 x.f1, .int .i64 x.f2, .int .u8 x.f3] := by
 obtain ⟨_, _, rfl, rfl, ⟨_, _, rfl, rfl, ⟨_, _, rfl, rfl, rfl⟩⟩⟩ := h
 exact rfl
theorem k130_openM {w : World} {base : Nat} {ok : Nat → Prop} {x : S130} {cs : List Value} (h : k130.M w base ok x cs) : cs = [.int .i64 x.f0, .int .i64 x.f1, .int .i64 x.f2, .int .u8 x.f3] := by
 obtain ⟨_, _, rfl, rfl, ⟨_, _, rfl, rfl, ⟨_, _, rfl, rfl, rfl⟩⟩⟩ := h
 exact rfl
theorem k130_mkM (w : World) (base : Nat) (ok : Nat → Prop) (x : S130)  : k130.M w base ok x [.int .i64 x.f0, .int .i64 x.f1, .int .i64 x.f2, .int .u8 x.f3] := ⟨[.int .i64 x.f0], [.int .i64 x.f1, .int .i64 x.f2, .int .u8 x.f3], rfl, rfl, ⟨[.int .i64 x.f1], [.int .i64 x.f2, .int .u8 x.f3], rfl, rfl, ⟨[.int .i64 x.f2], [.int .u8 x.f3], rfl, rfl, rfl⟩⟩⟩
def rd_T130 (xs : List S130) (i : Int) : S130 := xs.getD i.toNat z130
theorem at_T130 {w : World} {A : Option Addr} {n : Nat} {xs : List S130} (h : Kd.C k130 w A n xs) (i : Int) (h0 : 0 ≤ i) (h1 : i < n) : ∃ ad , A = some ad ∧ w.cell? (ad.add (i.toNat * 4)) = some (.int .i64 (rd_T130 xs i).f0) ∧ w.cell? ⟨(ad.add (i.toNat * 4)).block, (ad.add (i.toNat * 4)).off + 1, none⟩ = some (.int .i64 (rd_T130 xs i).f1) ∧ w.cell? ⟨(ad.add (i.toNat * 4)).block, (ad.add (i.toNat * 4)).off + 2, none⟩ = some (.int .i64 (rd_T130 xs i).f2) ∧ w.cell? ⟨(ad.add (i.toNat * 4)).block, (ad.add (i.toNat * 4)).off + 3, none⟩ = some (.int .u8 (rd_T130 xs i).f3) := by
 obtain ⟨ad, c, e, _, hK, hc0⟩ := Kd.C_get h z130 i h0 h1
 have hc : ∀ j u, c[j]? = some u → w.cell? (ad.add (i.toNat * 4 + j)) = some u := hc0
 obtain rfl := k130_open hK
 exact ⟨ad, e, hc 0 _ rfl, by rw [← add_field _ _ 1 (by omega)]; exact hc 1 _ rfl, by rw [← add_field _ _ 2 (by omega)]; exact hc 2 _ rfl, by rw [← add_field _ _ 3 (by omega)]; exact hc 3 _ rfl⟩
structure S219 where
 f0 : Int
 f1 : Int
structure S127 where
 f0 : Int
 f1 : Int
 f2 : Int
 f3 : Int
def z127 : S127 := ⟨(0 : Int), (0 : Int), (0 : Int), (0 : Int)⟩
def k127 : Kd S127 := Kd.iso (Kd.pair (Kd.int .i64) (Kd.pair (Kd.int .i64) (Kd.pair (Kd.int .i64) (Kd.int .u8)))) (fun x : S127 => (x.f0, x.f1, x.f2, x.f3))
theorem k127_open {w : World} {x : S127} {cs : List Value} (h : k127.K w x cs) : cs = [.int .i64 x.f0, .int .i64 x.f1, .int .i64 x.f2, .int .u8 x.f3] := by
 obtain ⟨_, _, rfl, rfl, ⟨_, _, rfl, rfl, ⟨_, _, rfl, rfl, rfl⟩⟩⟩ := h
 exact rfl
theorem k127_mkM (w : World) (base : Nat) (ok : Nat → Prop) (x : S127)  : k127.M w base ok x [.int .i64 x.f0, .int .i64 x.f1, .int .i64 x.f2, .int .u8 x.f3] := ⟨[.int .i64 x.f0], [.int .i64 x.f1, .int .i64 x.f2, .int .u8 x.f3], rfl, rfl, ⟨[.int .i64 x.f1], [.int .i64 x.f2, .int .u8 x.f3], rfl, rfl, ⟨[.int .i64 x.f2], [.int .u8 x.f3], rfl, rfl, rfl⟩⟩⟩
def rd_T127 (xs : List S127) (i : Int) : S127 := xs.getD i.toNat z127
theorem at_T127 {w : World} {A : Option Addr} {n : Nat} {xs : List S127} (h : Kd.C k127 w A n xs) (i : Int) (h0 : 0 ≤ i) (h1 : i < n) : ∃ ad , A = some ad ∧ w.cell? (ad.add (i.toNat * 4)) = some (.int .i64 (rd_T127 xs i).f0) ∧ w.cell? ⟨(ad.add (i.toNat * 4)).block, (ad.add (i.toNat * 4)).off + 1, none⟩ = some (.int .i64 (rd_T127 xs i).f1) ∧ w.cell? ⟨(ad.add (i.toNat * 4)).block, (ad.add (i.toNat * 4)).off + 2, none⟩ = some (.int .i64 (rd_T127 xs i).f2) ∧ w.cell? ⟨(ad.add (i.toNat * 4)).block, (ad.add (i.toNat * 4)).off + 3, none⟩ = some (.int .u8 (rd_T127 xs i).f3) := by
 obtain ⟨ad, c, e, _, hK, hc0⟩ := Kd.C_get h z127 i h0 h1
 have hc : ∀ j u, c[j]? = some u → w.cell? (ad.add (i.toNat * 4 + j)) = some u := hc0
 obtain rfl := k127_open hK
 exact ⟨ad, e, hc 0 _ rfl, by rw [← add_field _ _ 1 (by omega)]; exact hc 1 _ rfl, by rw [← add_field _ _ 2 (by omega)]; exact hc 2 _ rfl, by rw [← add_field _ _ 3 (by omega)]; exact hc 3 _ rfl⟩
structure S50 where
 f0 : Int
 f1 : Int
 f2 : Int
 f3 : Int
def z50 : S50 := ⟨(0 : Int), (0 : Int), (0 : Int), (0 : Int)⟩
def k50 : Kd S50 := Kd.iso (Kd.pair (Kd.int .i64) (Kd.pair (Kd.int .i64) (Kd.pair (Kd.int .i64) (Kd.int .u8)))) (fun x : S50 => (x.f0, x.f1, x.f2, x.f3))
theorem k50_open {w : World} {x : S50} {cs : List Value} (h : k50.K w x cs) : cs = [.int .i64 x.f0, .int .i64 x.f1, .int .i64 x.f2, .int .u8 x.f3] := by
 obtain ⟨_, _, rfl, rfl, ⟨_, _, rfl, rfl, ⟨_, _, rfl, rfl, rfl⟩⟩⟩ := h
 exact rfl
theorem k50_openM {w : World} {base : Nat} {ok : Nat → Prop} {x : S50} {cs : List Value} (h : k50.M w base ok x cs) : cs = [.int .i64 x.f0, .int .i64 x.f1, .int .i64 x.f2, .int .u8 x.f3] := by
 obtain ⟨_, _, rfl, rfl, ⟨_, _, rfl, rfl, ⟨_, _, rfl, rfl, rfl⟩⟩⟩ := h
 exact rfl
theorem k50_mkM (w : World) (base : Nat) (ok : Nat → Prop) (x : S50)  : k50.M w base ok x [.int .i64 x.f0, .int .i64 x.f1, .int .i64 x.f2, .int .u8 x.f3] := ⟨[.int .i64 x.f0], [.int .i64 x.f1, .int .i64 x.f2, .int .u8 x.f3], rfl, rfl, ⟨[.int .i64 x.f1], [.int .i64 x.f2, .int .u8 x.f3], rfl, rfl, ⟨[.int .i64 x.f2], [.int .u8 x.f3], rfl, rfl, rfl⟩⟩⟩
def rd_T50 (xs : List S50) (i : Int) : S50 := xs.getD i.toNat z50
theorem at_T50 {w : World} {A : Option Addr} {n : Nat} {xs : List S50} (h : Kd.C k50 w A n xs) (i : Int) (h0 : 0 ≤ i) (h1 : i < n) : ∃ ad , A = some ad ∧ w.cell? (ad.add (i.toNat * 4)) = some (.int .i64 (rd_T50 xs i).f0) ∧ w.cell? ⟨(ad.add (i.toNat * 4)).block, (ad.add (i.toNat * 4)).off + 1, none⟩ = some (.int .i64 (rd_T50 xs i).f1) ∧ w.cell? ⟨(ad.add (i.toNat * 4)).block, (ad.add (i.toNat * 4)).off + 2, none⟩ = some (.int .i64 (rd_T50 xs i).f2) ∧ w.cell? ⟨(ad.add (i.toNat * 4)).block, (ad.add (i.toNat * 4)).off + 3, none⟩ = some (.int .u8 (rd_T50 xs i).f3) := by
 obtain ⟨ad, c, e, _, hK, hc0⟩ := Kd.C_get h z50 i h0 h1
 have hc : ∀ j u, c[j]? = some u → w.cell? (ad.add (i.toNat * 4 + j)) = some u := hc0
 obtain rfl := k50_open hK
 exact ⟨ad, e, hc 0 _ rfl, by rw [← add_field _ _ 1 (by omega)]; exact hc 1 _ rfl, by rw [← add_field _ _ 2 (by omega)]; exact hc 2 _ rfl, by rw [← add_field _ _ 3 (by omega)]; exact hc 3 _ rfl⟩
end Go.Proofs.YtkeccgkicffieaaGreatDoor.PTopWider
namespace Go.Proofs.YtkeccgkicffieaaGreatDoor.PTopWider
open Go.RowKit Go.Proofs.YtkeccgkicffieaaGreatDoorW.PrintWords Go.Proofs.YtkeccgkicffieaaGreatDoorW.PrintLast Go.Proofs.YtkeccgkicffieaaGreatDoorW.PrintMore
set_option linter.unusedVariables false
section
variable {P : Program} {md : Region.Mode} {ops : Array Oper} {Q : Exit → Act → World → Prop} {S : World → Prop} {ds : List Nat}
theorem putQ {o : Option Tmp} {v : Value} (hQ : ∀ c a n u w, Q (.panic c) (Act.put a (some n) u) w → Q (.panic c) a w) (c) (a : Act) (w : World) (h : Q (.panic c) (a.put o v) w) : Q (.panic c) a w := by
 cases o with
 | none => exact h
 | some n => exact hQ c a n v w h
theorem pu (i : Nat) (N : Option Tmp) {oi : Oper} {v : Value} {fuel : Nat} {l l' : Array Bool} {a a' : Act} {w : World} (h : wpAnyLast P md ops Q S ds fuel l' a' w) (hi : ops[i]? = some oi := by exact rfl) (hN : oi.dst = N := by exact rfl)
  (hl : l.setIfInBounds i true = l' := by simp only [List.setIfInBounds_toArray, List.set_cons_zero, List.set_cons_succ]; rfl) (hc : anyB md ops l l' i = true := by kernel_rfl)
  (hQ : ∀ c a n u w, Q (.panic c) (Act.put a (some n) u) w → Q (.panic c) a w := by exact fun _ _ _ _ _ h => h) (hw : Region.wanted oi (yielded ops a.tmps) = true := by rfl) (hr : ∀ w, (execOp a.eval oi).run P w = .ok (.value v) w := by intro w'; go_simp; try (with_reducible rfl)) (ha : a.put N v = a' := by simp only [Act.put, List.setIfInBounds_toArray, List.set_cons_zero, List.set_cons_succ, i64_w, i32_w]; rfl) :
  wpAnyLast P md ops Q S ds (fuel + 1) l a w := pure_ l' hi hN hc (putQ hQ) (Or.inl ⟨hw, hr⟩) ha h
theorem pq (i : Nat) (N : Option Tmp) {oi : Oper} {fuel : Nat} {l l' : Array Bool} {a a' : Act} {w : World} (h : wpAnyLast P md ops Q S ds fuel l' a' w) (hi : ops[i]? = some oi := by exact rfl) (hN : oi.dst = N := by exact rfl)
  (hl : l.setIfInBounds i true = l' := by simp only [List.setIfInBounds_toArray, List.set_cons_zero, List.set_cons_succ]; rfl) (hc : anyB md ops l l' i = true := by kernel_rfl) (hQ : ∀ c a n u w, Q (.panic c) (Act.put a (some n) u) w → Q (.panic c) a w := by exact fun _ _ _ _ _ h => h)
  (hw : Region.wanted oi (yielded ops a.tmps) = false := by rfl) (ha : a.put N undef = a' := by simp only [Act.put, List.setIfInBounds_toArray, List.set_cons_zero, List.set_cons_succ, i64_w, i32_w]; rfl) :
  wpAnyLast P md ops Q S ds (fuel + 1) l a w := pure_ l' hi hN hc (putQ hQ) (Or.inr ⟨hw, rfl⟩) ha h
theorem ta (i : Nat) (N : Option Tmp) {X : World → Prop} {oi : Oper} {v : Value} {fuel : Nat} {l l' : Array Bool} {a a' : Act} {w : World} (hX : ∀ w', S w' → X w') (hS : S w) (h : wpAnyLast P md ops Q S ds fuel l' a' w) (hi : ops[i]? = some oi := by exact rfl) (hN : oi.dst = N := by exact rfl)
  (hl : l.setIfInBounds i true = l' := by simp only [List.setIfInBounds_toArray, List.set_cons_zero, List.set_cons_succ]; rfl) (hc : takeB md ops ds l l' i = true := by kernel_rfl) (hQ : ∀ c a n u w, Q (.panic c) (Act.put a (some n) u) w → Q (.panic c) a w := by exact fun _ _ _ _ _ h => h)
  (hw : Region.wanted oi (yielded ops a.tmps) = true := by rfl) (hr : ∀ w', S w' → X w' → (execOp a.eval oi).run P w' = .ok (.value v) w' := by intro w' s_ k0; go_simp; try (with_reducible rfl)) (ha : a.put N v = a' := by simp only [Act.put, List.setIfInBounds_toArray, List.set_cons_zero, List.set_cons_succ, i64_w, i32_w]; rfl) :
  wpAnyLast P md ops Q S ds (fuel + 1) l a w := take_ l' hi hN hc (putQ hQ) (Or.inl ⟨hw, fun w' s => hr w' s (hX w' s)⟩) hS ha h
theorem on (i : Nat) (N : Option Tmp) {oi : Oper} {fuel : Nat} {l l' : Array Bool} {a : Act} {w : World}
  (h : ∀ K : Act → World → Prop, Shut (∀ a' w', S w' → (S w' → wpAnyLast P md ops Q S ds fuel l' a' w') → K a' w') → if Region.wanted oi (yielded ops a.tmps) = true then Oper.wp P oi a w K Q else K (a.put N undef) w)
  (hi : ops[i]? = some oi := by exact rfl) (hN : oi.dst = N := by exact rfl) (hl : l.setIfInBounds i true = l' := by simp only [List.setIfInBounds_toArray, List.set_cons_zero, List.set_cons_succ]; rfl) (hc : readyB md ops l l' i = true := by kernel_rfl) (hd : i ∉ ds := by decide) :
  wpAnyLast P md ops Q S ds (fuel + 1) l a w := one_ l' hi hN hc hd h
theorem la (i : Nat) (N : Option Tmp) {oi : Oper} {fuel : Nat} {l l' : Array Bool} {a : Act} {w : World}
  (h : ∀ K : Act → World → Prop, Shut (∀ a' w', wpAnyLast P md ops Q S ds fuel l' a' w' → K a' w') → if Region.wanted oi (yielded ops a.tmps) = true then Oper.wp P oi a w K Q else K (a.put N undef) w)
  (hi : ops[i]? = some oi := by exact rfl) (hN : oi.dst = N := by exact rfl) (hl : l.setIfInBounds i true = l' := by simp only [List.setIfInBounds_toArray, List.set_cons_zero, List.set_cons_succ]; rfl) (hc : readyB md ops l l' i = true := by kernel_rfl) (hd : i ∈ ds := by decide) :
  wpAnyLast P md ops Q S ds (fuel + 1) l a w := last_ l' hi hN hc hd h
theorem nrm (n : Nat) {fuel : Nat} {l : Array Bool} {a b a' : Act} {v : Value} {w : World} (h : wpAnyLast P md ops Q S ds fuel l a' w) (hh : a = Act.put b (some n) v := by exact rfl) (ha : Act.put b (some n) v = a' := by simp only [Act.put, List.setIfInBounds_toArray, List.set_cons_zero, List.set_cons_succ, i64_w, i32_w]; rfl) : wpAnyLast P md ops Q S ds fuel l a w := norm_ (hh.trans ha) h
theorem st (n : Nat) (w : World) (ds : List Nat) {id : Nat} {a : Act} {l : Array Bool} (h : Below w.heap.size w w.drew → wpAnyLast P .any ops Q (fun w' => Below w.heap.size w w') ds n l a w.drew) (hm : P.follows .mixedOrders = true := by kernel_rfl) (hn : ops.size = n := by exact rfl)
  (hl : Array.replicate n false = l := by simp only [← List.toArray_replicate, List.reduceReplicate]; rfl) : (Code.region id ops true).wp P Q a w := start_ l hm hn hl (below_drew1 (Below.refl w.heap.size w)) h
theorem gs {oi : Oper} {N : Option Tmp} {a : Act} {w : World} {K : Act → World → Prop} {f : FuncId} {fn : Func} {ar : Array Operand} {ts : Array TypeId} (hf : P.funcs[f]? = some fn) (args : Array Value)
  (h : Calls P f args w fun e w' => ∃ v, e = .returned v ∧ K (a.put N v) w') (hname : (fn.name == "runtime.NumGoroutine") = false := by kernel_rfl) (hb : fn.body.isSome = true := by exact rfl) (hw : Region.wanted oi (yielded ops a.tmps) = true := by rfl) (hN : oi.dst = N := by exact rfl) (hop : oi.op = .call { callee := .value (.func f), args := ar, argTypes := ts } := by exact rfl)
  (hargs : ar.map a.eval = args := by (try simp only [List.map_toArray, List.map_cons, List.map_nil]); first | done | rfl) : if Region.wanted oi (yielded ops a.tmps) = true then Oper.wp P oi a w K Q else K (a.put N undef) w := goes_ hf hname hb args hw hN hop hargs h
end
theorem bel {w W : World} (h : Below w.heap.size w W := by repeat (first | (with_reducible first | exact HB.out | apply below_alloc | apply pw_below_drewN | apply below_drew1 | refine below_set ?_ (Aside0.out (by assumption))) | exact HB.out)) : Below w.heap.size w W := h
theorem blk {w : World} {g : Nat} {o : Obj} (h : w.heap[g]? = some o := by (with_reducible repeat (first | refine blk_drewN ?_ _ | refine blk_drew ?_ | refine blk_alloc ?_ _)); exact Aside0.out (by assumption)) : w.heap[g]? = some o := h
theorem eqv {p : Prop} (h : p := by first | rfl | (simp [errW_none, errW_some] <;> rfl) | (simp [*, errW_none, errW_some] <;> rfl)) : p := h
theorem eqs {p : Prop} (h : p := by first | rfl | (simp; done) | (simp [*]; done)) : p := h
theorem rup {p : Prop} (h : p := by (with_reducible repeat (first | apply Kd.R_alloc | apply Kd.R_drewN | apply Kd.R_drew)); exact Aside0.out (by assumption)) : p := h
theorem box_ev {P : Program} {Q : Exit → Act → World → Prop} {o : Oper} {rest : List Oper} {ops : Array Oper} {a : Act} {W : World} {N : Tmp} {cs : Array Value} {t : TypeId}
  (h : ∀ g, g = W.heap.size → ∀ w1, w1.heap[g]? = some (.cells cs t (0, 0)) → Below W.heap.size W w1 → wpList P ops Q rest (a.put o.dst (.pointer (some ⟨g, 0, none⟩))) w1) (hd : o.dst = some N := by exact rfl) (hgd : o.guard = none := by exact rfl)
  (hrun : (execOp a.eval o).run P W = .ok (.value (.pointer (some ⟨W.heap.size, 0, none⟩))) (W.alloc (.cells cs t (0, 0))) := by first | (go_simp; done) | (go_simp; rfl)) : wpList P ops Q (o :: rest) a W := box_event hgd hd hrun h
theorem szb {w W : World} {g : Nat} (hg : g = W.heap.size) (h : Below w.heap.size w W := by repeat (first | (with_reducible first | exact HB.out | apply below_alloc | apply pw_below_drewN | apply below_drew1 | refine below_set ?_ (Aside0.out (by assumption))) | exact HB.out)) : w.heap.size ≤ g := by rw [hg]; exact below_size h
theorem bbw {w0 W w1 : World} {g : Nat} {o : Obj} (b : Aside0 (w0.heap[g]? = some o)) (hb : Below W.heap.size W w1) (h : W.heap[g]? = some o := by (with_reducible repeat (first | refine blk_drewN ?_ _ | refine blk_drew ?_ | refine blk_alloc ?_ _)); exact Aside0.out (by assumption)) : w1.heap[g]? = some o := blk_below h hb
theorem neb {w0 W : World} {g g' : Nat} {o : Obj} (hg : g' = W.heap.size) (b : Aside0 (w0.heap[g]? = some o)) (h : W.heap[g]? = some o := by (with_reducible repeat (first | refine blk_drewN ?_ _ | refine blk_drew ?_ | refine blk_alloc ?_ _)); exact Aside0.out (by assumption)) : g ≠ g' := by rw [hg]; exact Nat.ne_of_lt (blk_lt h)
theorem cup {α : Type} {d : Kd α} {w0 W : World} {A : Option Addr} {n : Nat} {xs : List α} (h : Aside0 (d.C w0 A n xs)) (r : d.C W A n xs := by repeat (first | exact (Kd.C_below (Aside0.out (by assumption)) HB.out) | (with_reducible refine Kd.C_alloc ?_ _) | (with_reducible refine Kd.C_drewN ?_ _) | (with_reducible refine Kd.C_drew ?_))) : d.C W A n xs := r
theorem cs1 {w : World} {g : Nat} {t : TypeId} {a : Value} (h : Aside0 (w.heap[g]? = some (.cells #[a] t (0, 0)))) : w.cell? ⟨g, 0, none⟩ = some a ∧ w.frozen? ⟨g, 0, none⟩ = false := ⟨blk_cell h.out 0, blk_frozen h.out 0⟩
theorem cs2 {w : World} {g : Nat} {t : TypeId} {a b : Value} (h : Aside0 (w.heap[g]? = some (.cells #[a, b] t (0, 0)))) : w.cell? ⟨g, 0, none⟩ = some a ∧ w.cell? ⟨g, 1, none⟩ = some b ∧ w.frozen? ⟨g, 0, none⟩ = false ∧ w.frozen? ⟨g, 1, none⟩ = false := ⟨blk_cell h.out 0, blk_cell h.out 1, blk_frozen h.out 0, blk_frozen h.out 1⟩
theorem cs3 {w : World} {g : Nat} {t : TypeId} {a b c : Value} (h : Aside0 (w.heap[g]? = some (.cells #[a, b, c] t (0, 0)))) : w.cell? ⟨g, 0, none⟩ = some a ∧ w.cell? ⟨g, 1, none⟩ = some b ∧ w.cell? ⟨g, 2, none⟩ = some c ∧ w.frozen? ⟨g, 0, none⟩ = false ∧ w.frozen? ⟨g, 1, none⟩ = false ∧ w.frozen? ⟨g, 2, none⟩ = false := ⟨blk_cell h.out 0, blk_cell h.out 1, blk_cell h.out 2, blk_frozen h.out 0, blk_frozen h.out 1, blk_frozen h.out 2⟩
theorem cs4 {w : World} {g : Nat} {t : TypeId} {a b c d : Value} (h : Aside0 (w.heap[g]? = some (.cells #[a, b, c, d] t (0, 0)))) : w.cell? ⟨g, 0, none⟩ = some a ∧ w.cell? ⟨g, 1, none⟩ = some b ∧ w.cell? ⟨g, 2, none⟩ = some c ∧ w.cell? ⟨g, 3, none⟩ = some d ∧ w.frozen? ⟨g, 0, none⟩ = false ∧ w.frozen? ⟨g, 1, none⟩ = false ∧ w.frozen? ⟨g, 2, none⟩ = false ∧ w.frozen? ⟨g, 3, none⟩ = false := ⟨blk_cell h.out 0, blk_cell h.out 1, blk_cell h.out 2, blk_cell h.out 3, blk_frozen h.out 0, blk_frozen h.out 1, blk_frozen h.out 2, blk_frozen h.out 3⟩
theorem cs6 {w : World} {g : Nat} {t : TypeId} {a b c d e f : Value} (h : Aside0 (w.heap[g]? = some (.cells #[a, b, c, d, e, f] t (0, 0)))) : w.cell? ⟨g, 0, none⟩ = some a ∧ w.cell? ⟨g, 1, none⟩ = some b ∧ w.cell? ⟨g, 2, none⟩ = some c ∧ w.cell? ⟨g, 3, none⟩ = some d ∧ w.cell? ⟨g, 4, none⟩ = some e ∧ w.cell? ⟨g, 5, none⟩ = some f ∧ w.frozen? ⟨g, 0, none⟩ = false ∧ w.frozen? ⟨g, 1, none⟩ = false ∧ w.frozen? ⟨g, 2, none⟩ = false ∧ w.frozen? ⟨g, 3, none⟩ = false ∧ w.frozen? ⟨g, 4, none⟩ = false ∧ w.frozen? ⟨g, 5, none⟩ = false := ⟨blk_cell h.out 0, blk_cell h.out 1, blk_cell h.out 2, blk_cell h.out 3, blk_cell h.out 4, blk_cell h.out 5, blk_frozen h.out 0, blk_frozen h.out 1, blk_frozen h.out 2, blk_frozen h.out 3, blk_frozen h.out 4, blk_frozen h.out 5⟩
theorem tr {P : Program} {md : Region.Mode} {ops : Array Oper} {Q : Exit → Act → World → Prop} {S : World → Prop} {ds : List Nat} (i : Nat) (N : Option Tmp) {oi : Oper} {v : Value} {fuel : Nat} {l l' : Array Bool} {a a' : Act} {w : World} (hS : S w) (h : wpAnyLast P md ops Q S ds fuel l' a' w) (hi : ops[i]? = some oi := by exact rfl) (hN : oi.dst = N := by exact rfl)
  (hl : l.setIfInBounds i true = l' := by simp only [List.setIfInBounds_toArray, List.set_cons_zero, List.set_cons_succ]; rfl) (hc : takeB md ops ds l l' i = true := by kernel_rfl) (hQ : ∀ c a n u w, Q (.panic c) (Act.put a (some n) u) w → Q (.panic c) a w := by exact fun _ _ _ _ _ h => h)
  (hw : Region.wanted oi (yielded ops a.tmps) = true := by rfl) (hr : ∀ w', S w' → (execOp a.eval oi).run P w' = .ok (.value v) w' := by intro w' s_; (try obtain ⟨s0, s_⟩ := s_); (try obtain ⟨s1, s_⟩ := s_); (try obtain ⟨s2, s_⟩ := s_); (try obtain ⟨s3, s_⟩ := s_); (try obtain ⟨s4, s_⟩ := s_); (try obtain ⟨s5, s_⟩ := s_); go_simp; try (with_reducible rfl)) (ha : a.put N v = a' := by simp only [Act.put, List.setIfInBounds_toArray, List.set_cons_zero, List.set_cons_succ, i64_w, i32_w]; rfl) :
  wpAnyLast P md ops Q S ds (fuel + 1) l a w := take_ l' hi hN hc (putQ hQ) (Or.inl ⟨hw, hr⟩) hS ha h
theorem oda {p : Prop} [Decidable p] (h : decide p = true := by first | (with_reducible assumption) | assumption) : p := of_decide_eq_true h
theorem bc {w W : World} {a : Addr} {v : Value} (b : Aside0 (Below w.heap.size w W)) (h : w.cell? a = some v) : W.cell? a = some v := (b.out.cell (World.block_lt_of_cell? w _ h)).trans h
theorem rua {α : Type} {d : Kd α} {e : TypeId} {w0 W : World} {b : Nat} {ok : Nat → Prop} {v : Value} {xs : List α} (h : Aside0 (d.R e w0 b ok v xs)) (r : d.R e W b ok v xs := by (with_reducible repeat (first | apply Kd.R_alloc | apply Kd.R_drewN | apply Kd.R_drew)); exact Aside0.out (by assumption)) : d.R e W b ok v xs := r
end Go.Proofs.YtkeccgkicffieaaGreatDoor.PTopWider
namespace Go.Proofs.YtkeccgkicffieaaGreatDoor.PTopWider
open Go.RowKit Go.Proofs.YtkeccgkicffieaaGreatDoorW.PrintWords Go.Proofs.YtkeccgkicffieaaGreatDoorW.PrintLast Go.Proofs.YtkeccgkicffieaaGreatDoorW.PrintMore
set_option linter.unusedVariables false
set_option linter.unusedSimpArgs false
/-- Two values have no block together. -/
def Ne2 (u v : Value) : Prop := ∀ k, u.ownBlock = some k → v.ownBlock ≠ some k
theorem Ne2.symm {u v : Value} (h : Ne2 u v) : Ne2 v u := fun k hk he => h k he hk
theorem Ne2.nil (v : Value) : Ne2 (.slice none 0 0) v := fun k hk => by simp [Value.ownBlock] at hk
/-- A row of one's own, its block told by itself. -/
def Own1 {α : Type} (d : Kd α) (e base : Nat) (W : World) (v : Value) (xs : List α) : Prop := d.R e W base (fun k => v.ownBlock = some k) v xs
section
variable {α β : Type} {d : Kd α} {d' : Kd β} {e e' base : Nat} {W w1 : World} {u v v1 : Value} {xs : List α} {ys : List β}
theorem Own1.nil (d : Kd α) (e base : Nat) (W : World) : Own1 d e base W (.slice none 0 0) [] := Kd.R_nil _ _ _ _ _
theorem Own1.grown (h : Own1 d e base W v xs) {row : Option Nat} (hg : W.grownBy w1 row) (hn : ∀ k, v.ownBlock = some k → row ≠ some k) : Own1 d e base w1 v xs :=
 Kd.R_grown h hg (fun k hk he => hn k hk he.symm)
theorem Own1.keep (h : Own1 d e base W v xs) (hg : W.grownBy w1 u.ownBlock) (hn : Ne2 v u) : Own1 d e base w1 v xs := h.grown hg hn
theorem Own1.still (h : Own1 d e base W v xs) (hg : W.grownBy w1 none) : Own1 d e base w1 v xs := h.grown hg (fun _ _ he => by cases he)
theorem Own1.below (h : Own1 d e base W v xs) (hb : Below W.heap.size W w1) : Own1 d e base w1 v xs := Kd.R_below h hb
/-- Apart still, behind one's growth. -/
theorem Ne2.grew (h : Ne2 v u) (hu : Own1 d' e' base W u ys) (hat : v1.ownBlock = v.ownBlock ∨ ∃ b, v1.ownBlock = some b ∧ W.heap.size ≤ b) : Ne2 v1 u := by
 intro k hk he
 rcases hat with hat | ⟨b, hb, hle⟩
 ·exact h k (hat ▸ hk) he
 ·rw [hb] at hk
  injection hk with hk
  have := Kd.R_lt hu k he
  omega
theorem Ne2.fresh (hu : Own1 d' e' base W u ys) (hat : ∃ b, v1.ownBlock = some b ∧ W.heap.size ≤ b) : Ne2 v1 u := by
 intro k hk he
 obtain ⟨b, hb, hle⟩ := hat
 rw [hb] at hk
 injection hk with hk
 have := Kd.R_lt hu k he
 omega
theorem Own1.mono (h : Own1 d e base W v xs) {ok : Nat → Prop} (hok : ∀ k, v.ownBlock = some k → ok k) : d.R e W base ok v xs := Kd.R_mono h hok
end
theorem Own1.tight {k : IntKind} {e base : Nat} {W : World} {v : Value} {xs : List Int} {ok : Nat → Prop} (h : (Kd.int k).R e W base ok v xs) : Own1 (Kd.int k) e base W v xs := Kd.R_of_own (Kd.own_of_R h) (fun _ hk => hk)
/-- Two rows that grow, and what is put behind each (a row of its own, or not there yet). -/
structure Four (k k' : IntKind) (e e' base : Nat) (w0 W : World) (u : Value) (xs : List Int) (v : Value) (ys : List Int) (a : Value) (az : List Int) (b : Value) (bz : List Int) : Prop where
 ru : Own1 (Kd.int k) e base W u xs
 rv : Own1 (Kd.int k') e' base W v ys
 ra : Own1 (Kd.int k) e base W a az
 rb : Own1 (Kd.int k') e' base W b bz
 uv : Ne2 u v
 ua : Ne2 u a
 ub : Ne2 u b
 va : Ne2 v a
 vb : Ne2 v b
 ab : Ne2 a b
 low : Below base w0 W
section
variable {k k' : IntKind} {e e' base : Nat} {w0 W w1 : World} {u v a b u1 a1 : Value} {xs ys az bz : List Int}
theorem Four.swap (h : Four k k' e e' base w0 W u xs v ys a az b bz) : Four k' k e' e base w0 W v ys u xs b bz a az :=
 ⟨h.rv, h.ru, h.rb, h.ra, h.uv.symm, h.vb, h.va, h.ub, h.ua, h.ab.symm, h.low⟩
theorem Four.lit (h : Four k k' e e' base w0 W u xs v ys a az b bz) {zs : List Int} {ok : Nat → Prop} (hr : (Kd.int k).R e w1 base ok a1 zs) (hb : Below base w0 w1) (hg : W.grownBy w1 none) (hat : ∃ q, a1.ownBlock = some q ∧ W.heap.size ≤ q) : Four k k' e e' base w0 w1 u xs v ys a1 zs b bz :=
 ⟨h.ru.still hg, h.rv.still hg, Own1.tight hr, h.rb.still hg, h.uv, (Ne2.fresh h.ru hat).symm, h.ub, (Ne2.fresh h.rv hat).symm, h.vb, Ne2.fresh h.rb hat, hb⟩
theorem Four.grow (h : Four k k' e e' base w0 W u xs v ys a az b bz) {zs : List Int} {ok : Nat → Prop} (hr : (Kd.int k).R e w1 base ok u1 zs) (hb : Below base w0 w1) (hg : W.grownBy w1 u.ownBlock) (hat : u1.ownBlock = u.ownBlock ∨ ∃ q, u1.ownBlock = some q ∧ W.heap.size ≤ q) : Four k k' e e' base w0 w1 u1 zs v ys a az b bz :=
 ⟨Own1.tight hr, h.rv.keep hg h.uv.symm, h.ra.keep hg h.ua.symm, h.rb.keep hg h.ub.symm, h.uv.grew h.rv hat, h.ua.grew h.ra hat, h.ub.grew h.rb hat, h.va, h.vb, h.ab, hb⟩
theorem Four.start (hu : Own1 (Kd.int k) e base W u xs) (hv : Own1 (Kd.int k') e' base W v ys) (hn : Ne2 u v) (hb : Below base w0 W) : Four k k' e e' base w0 W u xs v ys (.slice none 0 0) [] (.slice none 0 0) [] :=
 ⟨hu, hv, Own1.nil _ _ _ _, Own1.nil _ _ _ _, hn, (Ne2.nil _).symm, (Ne2.nil _).symm, (Ne2.nil _).symm, (Ne2.nil _).symm, Ne2.nil _, hb⟩
end
/-- A table in memory: at block g; f: what it says of each number. -/
def IsTab (w : World) (g : Nat) (f : Int → Int) : Prop :=
 ∃ b n c, w.cell? ⟨g, 4352, none⟩ = some (.slice (some ⟨b, 0, none⟩) n c) ∧ ∀ q : Int, 0 ≤ q → q < 4352 → ∃ j : Int, 0 ≤ j ∧ j < n ∧ w.cell? ⟨g, q.toNat, none⟩ = some (.int .i64 j) ∧
  ∀ k : Int, 0 ≤ k → k < 256 → 0 ≤ f (q * 256 + k) ∧ f (q * 256 + k) < 256 ∧ w.cell? ⟨b, j.toNat * 256 + k.toNat, none⟩ = some (.int .u8 (f (q * 256 + k)))
theorem IsTab.on {w w1 : World} {g : Nat} {f : Int → Int} (h : IsTab w g f) (hb : Below w.heap.size w w1) : IsTab w1 g f := by
 obtain ⟨b, n, c, h1, h2⟩ := h
 refine ⟨b, n, c, pw_cell_below hb h1, fun q q0 q1 => ?_⟩
 obtain ⟨j, j0, j1, h3, h4⟩ := h2 q q0 q1
 refine ⟨j, j0, j1, pw_cell_below hb h3, fun k k0 k1 => ?_⟩
 obtain ⟨f0, f1, h5⟩ := h4 k k0 k1
 exact ⟨f0, f1, pw_cell_below hb h5⟩
/-- What Of answers. -/
def tabOf (f : Int → Int) (r : Int) : Int := if r < 0 ∨ 1114111 < r then 0 else f r
set_option maxHeartbeats 4000000 in
set_option maxRecDepth 100000 in
theorem of_walk (g b : Nat) (r j x : Int) (n c : Nat) (w : World) (h0 : 0 ≤ r) (h1 : r ≤ 1114111) (hj0 : 0 ≤ j) (hj1 : j < n) (hx0 : 0 ≤ x) (hx1 : x < 256)
  (hb : w.cell? ⟨g, 4352, none⟩ = some (.slice (some ⟨b, 0, none⟩) n c)) (hi : w.cell? ⟨g, (r / 256).toNat, none⟩ = some (.int .i64 j)) (hx : w.cell? ⟨b, j.toNat * 256 + (r % 256).toNat, none⟩ = some (.int .u8 x)) :
  Calls Tryz.prog 50 #[.pointer (some ⟨g, 0, none⟩), .int .i32 r] w fun e w' => e = .returned (.int .i64 x) ∧ Below w.heap.size w w' := by
 have hw : wrap64 x = x := by unfold wrap64; omega
 have q0 : 0 ≤ r / 256 := by omega
 have q1 : r / 256 < 4352 := by omega
 have hk : Go.bits .and .i32 r 255 = r % 256 := bits_mask .i32 31 (by decide) wraps_i32 8 (by decide) r h0 (by omega)
 have k0 : 0 ≤ r % 256 := by omega
 have k1 : r % 256 < 256 := by omega
 go_enter Tryz.func50, Tryz.ntmps50
 go_wp2
 go_region
 go_wp2
 go_ret
 exact ⟨rfl, below_drew1 (Below.refl _ _)⟩
set_option maxHeartbeats 4000000 in
set_option maxRecDepth 100000 in
theorem of_out (g : Nat) (r : Int) (w : World) (h : r < 0 ∨ 1114111 < r) :
  Calls Tryz.prog 50 #[.pointer (some ⟨g, 0, none⟩), .int .i32 r] w fun e w' => e = .returned (.int .i64 0) ∧ Below w.heap.size w w' := by
 by_cases h0 : r < 0
 ·go_enter Tryz.func50, Tryz.ntmps50
  go_wp2
  go_ret
  exact ⟨rfl, Below.refl _ _⟩
 ·have h1 : 1114111 < r := by omega
  clear h
  go_enter Tryz.func50, Tryz.ntmps50
  go_wp2
  go_ret
  exact ⟨rfl, Below.refl _ _⟩
theorem of_calls (g : Nat) (f : Int → Int) (r : Int) (w : World) (h : IsTab w g f) :
  Calls Tryz.prog 50 #[.pointer (some ⟨g, 0, none⟩), .int .i32 r] w fun e w' => e = .returned (.int .i64 (tabOf f r)) ∧ Below w.heap.size w w' := by
 unfold tabOf
 by_cases ho : r < 0 ∨ 1114111 < r
 ·rw [if_pos ho]
  exact of_out g r w ho
 ·rw [if_neg ho]
  obtain ⟨b, n, c, h1, h2⟩ := h
  obtain ⟨j, j0, j1, h3, h4⟩ := h2 (r / 256) (by omega) (by omega)
  obtain ⟨f0, f1, h5⟩ := h4 (r % 256) (by omega) (by omega)
  have e : r / 256 * 256 + r % 256 = r := by omega
  rw [e] at f0 f1 h5
  exact of_walk g b r j (f r) n c w (by omega) (by omega) j0 j1 f0 f1 h1 h3 h5
/-- The row as it stands when x signs are told. -/
def told (f : Int → Int) (l : List S149) (x : Int) : List Int := (l.take x.toNat).map (fun s => tabOf f s.f0) ++ List.replicate (l.length - x.toNat) 0
theorem told_length (f : Int → Int) (l : List S149) (x : Int) (h : x ≤ l.length) : (told f l x).length = l.length := by
 unfold told
 rw [List.length_append, List.length_map, List.length_take, List.length_replicate]
 omega
theorem told_set (f : Int → Int) (l : List S149) (x : Int) (h0 : 0 ≤ x) (h : x < l.length) : (told f l x).set x.toNat (tabOf f (rd_T149 l x).f0) = told f l (x + 1) := by
 obtain ⟨i, rfl⟩ := Int.eq_ofNat_of_zero_le h0
 have hi : i < l.length := by omega
 unfold told rd_T149
 have e : ((i : Int) + 1).toNat = i + 1 := by omega
 rw [e, Int.toNat_natCast, List.set_append_right _ _ (by rw [List.length_map, List.length_take]; omega), List.length_map, List.length_take, Nat.min_eq_left (by omega), Nat.sub_self]
 obtain ⟨m, hm⟩ : ∃ m, l.length - i = m + 1 := ⟨l.length - i - 1, by omega⟩
 rw [hm, List.replicate_succ, List.set_cons_zero, show l.length - (i + 1) = m by omega, List.take_succ_eq_append_getElem hi, List.map_append, List.append_assoc]
 simp [List.getD_eq_getElem?_getD, List.getElem?_eq_getElem hi]
set_option maxHeartbeats 4000000 in
set_option maxRecDepth 100000 in
theorem each_calls (g : Nat) (f : Int → Int) (A : Option Addr) (c : Nat) (l : List S149) (w : World) (hC : Kd.C k149 w A l.length l) (hc : l.length ≤ c) (hl : l.length ≤ 1000000) (hT : IsTab w g f) :
  Calls Tryz.prog 29 #[.pointer (some ⟨g, 0, none⟩), .slice A l.length c] w fun e w' => ∃ v, e = .returned v ∧ Kd.R (Kd.int .i64) 3 w' w.heap.size (fun _ => True) v (l.map (fun s => tabOf f s.f0)) ∧ Below w.heap.size w w' := by
 have HC := Aside0.mk hC
 have HT := Aside0.mk hT
 clear hC hT
 go_enter Tryz.func29, Tryz.ntmps29
 go_wp2_with (at_make; refine Kd.R_make (Kd.int .i64) (w0 := w) w.heap.size 3 rfl (N := 10) rfl 83 (.tmp 9) (.tmp 9) rfl (l.length : Int) rfl rfl Tryz.underlying83 (.int .i64 0) 8 info3 rfl (by decide) (by decide) 0 (ok := fun _ => True) (okp := fun _ => True) ?hz (fun _ _ => trivial) trivial (by omega) (by omega) (Below.refl _ _) (Nat.le_refl _) ?_; (case hz => rfl); intro v1 w1 hR1 hb1 hg1 hat1; clear hg1 hat1; rw [Int.toNat_natCast] at hR1)
 obtain ⟨A1, c1, rfl⟩ := Kd.R_slice hR1
 have htold : List.replicate l.length (0 : Int) = told f l 0 := by unfold told; simp
 rw [List.length_replicate] at hR1 ⊢
 rw [htold] at hR1
 go_loopg [13] l.length (fun kq v13 w' => ∃ x : Int, v13 = .int .i64 x ∧ Aside0 (0 ≤ x ∧ x + kq = l.length) ∧ Aside0 (Kd.R (Kd.int .i64) 3 w' w.heap.size (fun _ => True) (.slice A1 l.length c1) (told f l x)) ∧ Aside0 (Below w.heap.size w w'))
 case atStart => exact ⟨0, rfl, ⟨by omega⟩, ⟨hR1⟩, ⟨hb1⟩⟩
 case round =>
  obtain ⟨x, rfl, HK, HR, HB⟩ := hrel
  have hk := HK.out
  clear hR1 hb1 htold
  cases gk with
  | zero =>
   have hx : told f l x = l.map (fun s => tabOf f s.f0) := by
    unfold told
    rw [List.take_of_length_le (by omega), show l.length - x.toNat = 0 by omega]
    simp
   rw [hx] at HR
   go_wp2
   go_ret
   exact ⟨_, rfl, HR.out, HB.out⟩
  | succ k1 =>
   have hx : x < l.length := by omega
   obtain ⟨ad, ea, z0, z1, z2⟩ := at_T149 (Kd.C_below HC.out HB.out) x hk.1 hx
   subst ea
   have hlen := told_length f l x (by omega)
   have hil : wrap64 (x + 1) = x + 1 := by unfold wrap64; omega
   go_wp2_with fail
   refine (of_calls g f _ _ (HT.out.on (below_alloc HB.out _))).mono ?_
   rintro e w5 ⟨rfl, hb5⟩
   have HR5 := Kd.R_below (Kd.R_alloc HR.out _) hb5
   have HB5 := Aside0.mk (below_step (below_alloc HB.out _) hb5)
   obtain ⟨ga, ca, ea, ga0, ga1, _⟩ := Kd.R_form HR5 (by omega)
   rw [hlen] at ea
   injection ea with ea _ ec
   subst ea
   subst ec
   obtain ⟨y0, y1⟩ := Kd.R_celln 0 HR5 x hk.1 hx
   have HP := Kd.R_putn HR5 x (tabOf f (rd_T149 l x).f0)
   rw [told_set f l x hk.1 hx] at HP
   have HP := Aside0.mk HP
   clear HR5 hb5 HR
   go_wp2
   go_roundg k1
   case measure => omega
   case rel => exact ⟨x + 1, by first | rfl | (rw [hil]), ⟨by omega⟩, HP, ⟨HB5.out.setCell ga0 _⟩⟩
def dbTab : List Int := [0, 1, 28, 2, 29, 14, 24, 3, 30, 22, 20, 15, 25, 17, 4, 8, 31, 27, 13, 23, 21, 19, 16, 7, 26, 12, 18, 6, 11, 5, 10, 9]
/-- The library's table, at its place. -/
def IsDb (w : World) : Prop := ∀ k : Nat, k < 32 → w.cell? ⟨0, k, none⟩ = some (.int .u8 (dbTab.getD k 0))
set_option maxHeartbeats 4000000 in
set_option maxRecDepth 100000 in
theorem tz_walk (x y z t : Int) (w : World) (hT : IsDb w) (hx : x ≠ 0) (h1 : Go.bits .and .u32 x (-x % 4294967296) = y) (h2 : y * 125613361 % 4294967296 / 134217728 = z) (hz0 : 0 ≤ z) (hz1 : z < 32) (ht : dbTab.getD z.toNat 0 = t) (ht0 : 0 ≤ t) (ht1 : t < 32) :
  Calls Tryz.prog 49 #[.int .u32 x] w fun e w' => e = .returned (.int .i64 t) ∧ Below w.heap.size w w' := by
 have hc := hT z.toNat (by omega)
 rw [ht] at hc
 have hw : wrap64 t = t := by unfold wrap64; omega
 have hx' : (x == 0) = false := by simpa using hx
 go_enter Tryz.func49, Tryz.ntmps49
 go_wp2
 go_ret
 exact ⟨rfl, Below.refl _ _⟩
/-- How many zeros stand behind the last one, of 1 to 15. -/
def tzOf (x : Int) : Int := if x % 2 = 1 then 0 else if x % 4 = 2 then 1 else if x % 8 = 4 then 2 else 3
theorem tz_calls (x : Int) (w : World) (hT : IsDb w) (h0 : 1 ≤ x) (h1 : x ≤ 15) :
  Calls Tryz.prog 49 #[.int .u32 x] w fun e w' => e = .returned (.int .i64 (tzOf x)) ∧ Below w.heap.size w w' := by
 have : x = 1 ∨ x = 2 ∨ x = 3 ∨ x = 4 ∨ x = 5 ∨ x = 6 ∨ x = 7 ∨ x = 8 ∨ x = 9 ∨ x = 10 ∨ x = 11 ∨ x = 12 ∨ x = 13 ∨ x = 14 ∨ x = 15 := by omega
 rcases this with rfl | rfl | rfl | rfl | rfl | rfl | rfl | rfl | rfl | rfl | rfl | rfl | rfl | rfl | rfl
 all_goals (refine tz_walk _ _ _ _ w hT (by decide) rfl rfl ?_ ?_ ?_ ?_ ?_ <;> decide)
end Go.Proofs.YtkeccgkicffieaaGreatDoor.PTopWider
namespace Go.Proofs.YtkeccgkicffieaaGreatDoor.PTopWider
open Go.RowKit Go.Proofs.YtkeccgkicffieaaGreatDoorW.PrintWords Go.Proofs.YtkeccgkicffieaaGreatDoorW.PrintLast Go.Proofs.YtkeccgkicffieaaGreatDoorW.PrintMore
attribute [local go_sem] max2_int min2_int max_two min_two max_three min_three max_four min_four
set_option linter.unusedVariables false
set_option linter.unusedSimpArgs false
theorem run_store_float {P : Program} {w : World} {a : Addr} {m : Mode} (k : FloatKind) (x : Nat) : (store a (.float k x) m).run P w = stored P w a (.float k x) m := run_store P w a _ m rfl
attribute [local go_sem] run_store_float
def stanzahand03_Config.f (a0_0 : Int) (a0_1 : Int) (a0_2 : Int) (a0_3 : Int) (a0_4 : Int) (a0_5 : Nat) : Option (Int × Int × Int × Int × Int × Nat) := some (wrap64 (1 + (wrap64 (a0_0))), wrap64 (1 + (wrap64 (Int.tmod a0_1 64))), Int.tmod a0_2 2, wrap64 (a0_3), wrap64 (a0_4), a0_5)
set_option maxHeartbeats 8000000 in
set_option maxRecDepth 100000 in
theorem stanzahand03_Config.calls (a0_0 : Int) (a0_1 : Int) (a0_2 : Int) (a0_3 : Int) (a0_4 : Int) (a0_5 : Nat) (r1 : Int) (r2 : Int) (r3 : Int) (r4 : Int) (r5 : Int) (r6 : Nat) (w : World) (h : stanzahand03_Config.f a0_0 a0_1 a0_2 a0_3 a0_4 a0_5 = some (r1, r2, r3, r4, r5, r6)) :
  Calls Tryz.prog 7 #[.agg #[.int .u8 a0_0, .int .u8 a0_1, .int .u8 a0_2, .int .u16 a0_3, .int .u16 a0_4, .float .f64 a0_5]] w fun e w' => e = .returned (.agg #[.int .i64 r1, .int .i64 r2, .int .u8 r3, .int .i64 r4, .int .i64 r5, .float .f64 r6]) ∧ Below w.heap.size w w' := by
 have hu26 := Tryz.underlying26
 have hu40 := Tryz.underlying40
 have HB := Aside0.mk (Below.refl w.heap.size w)
 have H : (some (wrap64 (1 + (wrap64 (a0_0))), wrap64 (1 + (wrap64 (Int.tmod a0_1 64))), Int.tmod a0_2 2, wrap64 (a0_3), wrap64 (a0_4), a0_5)) = some (r1, r2, r3, r4, r5, r6) := h
 clear h
 simp only [Option.some.injEq, Prod.mk.injEq] at H
 obtain ⟨rfl, rfl, rfl, rfl, rfl, rfl⟩ := H
 go_enter Tryz.func7, Tryz.ntmps7
 go_wp2_with (first | ((with_reducible refine gate_dst (N := 1) rfl ?_); refine box_ev (N := 1) (cs := #[.int .u8 a0_0, .int .u8 a0_1, .int .u8 a0_2, .int .u16 a0_3, .int .u16 a0_4, .float .f64 a0_5]) (t := 26) ?_; intro gb404 hg w2 hbox hb; have n0_ := Aside0.mk (below_step bel hb); have n1_ := Aside0.mk (hbox); have n2_ := Aside0.mk (szb hg); have n3_ := Aside0.mk (szb hg); clear HB; revert n0_ n1_ n2_ n3_; intro HB BK404 GW404 GE404; clear hb hbox hg) | ((with_reducible refine gate_dst (N := 2) rfl ?_); refine box_ev (N := 2) (cs := #[.int .i64 0, .int .i64 0, .int .u8 0, .int .i64 0, .int .i64 0, .float .f64 0]) (t := 40) ?_; intro gb405 hg w3 hbox hb; have n0_ := Aside0.mk (bbw BK404 hb); have n1_ := Aside0.mk (below_step bel hb); have n2_ := Aside0.mk (hbox); have n3_ := Aside0.mk (szb hg); have n4_ := Aside0.mk (szb hg); have n5_ := Aside0.mk (neb hg BK404); have n6_ := Aside0.mk (neb hg BK404).symm; clear BK404 HB; revert n0_ n1_ n2_ n3_ n4_ n5_ n6_; intro BK404 HB BK405 GW405 GE405 NB404_405 NB405_404; clear hb hbox hg; have hnb4 := NB404_405.out; have hnc4 := NB405_404.out; obtain ⟨hcz5_0, hcz5_1, hcz5_2, hcz5_3, hcz5_4, hcz5_5, hfz5_0, hfz5_1, hfz5_2, hfz5_3, hfz5_4, hfz5_5⟩ := cs6 BK404; obtain ⟨hcz6_0, hcz6_1, hcz6_2, hcz6_3, hcz6_4, hcz6_5, hfz6_0, hfz6_1, hfz6_2, hfz6_3, hfz6_4, hfz6_5⟩ := cs6 BK405))
 refine bodyPost_ret (results_cell_row rfl _ _ gb405 40 #[.int .i64 (wrap64 (1 + (wrap64 (a0_0)))), .int .i64 (wrap64 (1 + (wrap64 (Int.tmod a0_1 64)))), .int .u8 (Int.tmod a0_2 2), .int .i64 (wrap64 (a0_3)), .int .i64 (wrap64 (a0_4)), .float .f64 a0_5] (0, 0) _ rfl (by (with_reducible repeat (first | refine blk_drewN ?_ _ | refine blk_drew ?_ | refine blk_alloc ?_ _)); refine blk_put (cs := #[.int .i64 (wrap64 (1 + (wrap64 (a0_0)))), .int .i64 (wrap64 (1 + (wrap64 (Int.tmod a0_1 64)))), .int .u8 (Int.tmod a0_2 2), .int .i64 (wrap64 (a0_3)), .int .i64 (wrap64 (a0_4)), .float .f64 0]) ?_ 5 _ rfl; (with_reducible repeat (first | refine blk_drewN ?_ _ | refine blk_drew ?_ | refine blk_alloc ?_ _)); refine blk_put (cs := #[.int .i64 (wrap64 (1 + (wrap64 (a0_0)))), .int .i64 (wrap64 (1 + (wrap64 (Int.tmod a0_1 64)))), .int .u8 (Int.tmod a0_2 2), .int .i64 (wrap64 (a0_3)), .int .i64 0, .float .f64 0]) ?_ 4 _ rfl; (with_reducible repeat (first | refine blk_drewN ?_ _ | refine blk_drew ?_ | refine blk_alloc ?_ _)); refine blk_put (cs := #[.int .i64 (wrap64 (1 + (wrap64 (a0_0)))), .int .i64 (wrap64 (1 + (wrap64 (Int.tmod a0_1 64)))), .int .u8 (Int.tmod a0_2 2), .int .i64 0, .int .i64 0, .float .f64 0]) ?_ 3 _ rfl; (with_reducible repeat (first | refine blk_drewN ?_ _ | refine blk_drew ?_ | refine blk_alloc ?_ _)); refine blk_put (cs := #[.int .i64 (wrap64 (1 + (wrap64 (a0_0)))), .int .i64 (wrap64 (1 + (wrap64 (Int.tmod a0_1 64)))), .int .u8 0, .int .i64 0, .int .i64 0, .float .f64 0]) ?_ 2 _ rfl; (with_reducible repeat (first | refine blk_drewN ?_ _ | refine blk_drew ?_ | refine blk_alloc ?_ _)); refine blk_put (cs := #[.int .i64 (wrap64 (1 + (wrap64 (a0_0)))), .int .i64 0, .int .u8 0, .int .i64 0, .int .i64 0, .float .f64 0]) ?_ 1 _ rfl; (with_reducible repeat (first | refine blk_drewN ?_ _ | refine blk_drew ?_ | refine blk_alloc ?_ _)); refine blk_put (cs := #[.int .i64 0, .int .i64 0, .int .u8 0, .int .i64 0, .int .i64 0, .float .f64 0]) ?_ 0 _ rfl; (with_reducible repeat (first | refine blk_drewN ?_ _ | refine blk_drew ?_ | refine blk_alloc ?_ _)); exact BK405.out) Tryz.underlying40 rfl (by kernel_rfl)) rfl ?_
 exact ⟨eqv, bel⟩
end Go.Proofs.YtkeccgkicffieaaGreatDoor.PTopWider
