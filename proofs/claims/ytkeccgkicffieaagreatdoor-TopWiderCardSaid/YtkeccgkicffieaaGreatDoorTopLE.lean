/- Tables in memory: what prop's Make lays. Conditions: none. -/
import Derived.Test.YtkeccgkicffieaaGreatDoorTopKC
import Derived.Test.YtkeccgkicffieaaGreatDoorTopT
import Derived.Laws.StructEq
import Derived.Laws.Tables
import Derived.Deep.MidRow
import Derived.Great.BuildSlice
import Derived.Test.YtkeccgkicffieaaGreatDoorTopLA
namespace Go.Proofs.YtkeccgkicffieaaGreatDoor.PTopWider
open Go.RowKit Go.Proofs.YtkeccgkicffieaaGreatDoorW.PrintWords Go.Proofs.YtkeccgkicffieaaGreatDoorW.PrintLast Go.Proofs.YtkeccgkicffieaaGreatDoorW.PrintMore
set_option linter.unusedVariables false
set_option linter.unusedSimpArgs false
/-- Bytes' cells; 256 of them as one. -/
def bB (xs : List Int) : Array Value := (xs.map (Value.int .u8)).toArray
def zs256 : List Int := List.replicate 256 0
theorem zc105 : Tryz.zeroCells105 = bB zs256 := by kernel_rfl
theorem zc101 : Tryz.zeroCells101 = (List.replicate 4352 (Value.int .i64 0) ++ [Value.slice none 0 0]).toArray := by kernel_rfl
theorem oneB : ∀ xs : List Int, (xs.map (Value.int .u8)).all Value.oneCell' = true
 | [] => rfl
 | _ :: r => by simp [Value.oneCell']
def blkC (xs : List Int) (h : xs.length = 256) : Cl 256 := ⟨xs.map (Value.int .u8), by rw [List.length_map]; exact h, oneB xs⟩
theorem zs_len : zs256.length = 256 := List.length_replicate
def z105 : Value := .agg (bB zs256)
theorem info105 : (Tryz.prog.info? 105).map (fun i => (i.zero, i.size, i.bytes)) = some (some z105, 256, 256) := by kernel_rfl
theorem size105 : z105.cells.size = 256 := by kernel_rfl
theorem und102 : Tryz.prog.underlying 102 = some (.map 105 3) := by kernel_rfl
/-- A first look and a first write. -/
theorem look0 (w : World) (gm : Nat) (x : Value) (hm : w.heap[gm]? = some (.map #[] 0)) (hc : ∀ e, (Instr.checkKey e 10000 105 x).run Tryz.prog w = .ok () w) : (Instr.lookup 102 (.map (some gm)) x true).run Tryz.prog w = .ok (.tuple #[.int .i64 0, .bool false]) w := by
 have hz : (zeroValue 3).run Tryz.prog w = .ok (.int .i64 0) w := by kernel_rfl
 simp [Instr.lookup, run_underlying und102, MapKept.run_getObj_map hm, hc, Instr.findKey, run_underlying Tryz.underlying105, Instr.findNow, hz, Result.andThen]
theorem put0 (w : World) (gm : Nat) (x v : Value) (hm : w.heap[gm]? = some (.map #[] 0)) (hc : ∀ e, (Instr.checkKey e 10000 105 x).run Tryz.prog w = .ok () w) : (Instr.mapUpdate 102 (.map (some gm)) x v).run Tryz.prog w = .ok () (putMap w gm (.map #[{ key := x, val := v, born := 0 }] 1)) := by
 simp [Instr.mapUpdate, run_underlying und102, MapKept.run_getObj_map hm, hc, Instr.findKey, run_underlying Tryz.underlying105, Instr.findNow, MapKept.run_setObj_map _ hm, Result.andThen, putMap]
theorem eqz (w : World) : (Op.equalIn 10000 105 (.agg (bB zs256)) (.agg (bB zs256))).run Tryz.prog w = .ok true w := by kernel_rfl
theorem eqz' (w : World) : (Op.equalIn 10000 105 (.agg (bB zs256)) (.agg Tryz.zeroCells105)).run Tryz.prog w = .ok true w := by rw [zc105]; exact eqz w
theorem wp_load105 {op : Oper} {a : Act} {w : World} {K : Act → World → Prop} {Q : Exit → Act → World → Prop} (x : Operand) (bb : Nat) (xs : List Int) (ho : op.op = .load 105 x) (hx : a.eval x = .pointer (some ⟨bb, 0, none⟩)) (hl : xs.length = 256) (hb : w.heap[bb]? = some (.cells (bB xs) 105 (0, 0)))
  (h : K (a.put op.dst (.agg (bB xs))) w) : op.wp Tryz.prog a w K Q :=
 wp_load_mid 105 x ho bb 0 hx (xs.map (Value.int .u8)) _ (fun j v hj => by rw [Nat.zero_add]; exact (blk_cell hb j).trans (by simpa [bB] using hj)) Tryz.underlying105 rfl (by rw [List.length_map, hl]; kernel_rfl) h
theorem bB_set (xs : List Int) (i : Nat) (x : Int) : (bB xs).setIfInBounds i (.int .u8 x) = bB (xs.set i x) := by simp [bB, List.map_set]
theorem lit105 (w : World) (xs : List Int) (x : Operand) (o : Oper) (a : Act) (ho : o.op = .buildSlice 98 1 #[(0, x)]) (hx : a.eval x = .agg (bB xs)) (hf : Instr.fill (fun i => some (i * 256, 256)) ((Array.range 256).map (z105.cells[· % z105.cells.size]!)) [(0, .agg (bB xs))] = some (bB xs)) :
  (execOp a.eval o).run Tryz.prog w = .ok (.value (.slice (some ⟨w.heap.size, 0, none⟩) 1 1)) (w.alloc (.cells (bB xs) 105)) := by
 obtain ⟨ie, hie, hh⟩ := Option.map_eq_some_iff.1 info105
 simp only [Prod.mk.injEq] at hh
 obtain ⟨h1, h2, h3⟩ := hh
 have hp : (#[((0 : Nat), x)].map fun (i, y) => (i, a.eval y)).toList = [(0, .agg (bB xs))] := by simp [hx]
 have hr := run_buildSlice (P := Tryz.prog) w 98 105 1 (#[((0 : Nat), x)].map fun (i, y) => (i, a.eval y)) (bB xs) ie z105 Tryz.underlying98 hie h1 (by rw [h2]; decide) (by rw [h2]; decide) (by rw [h2, hp]; exact hf)
 unfold execOp
 simp only [ho]
 simp only [Sem.run_bind, hr, Result.andThen_ok, Sem.run_pure]
/-- What one block's ranges say. -/
def fillF : Nat → Int → Int → Int → List Int → Option (List Int)
 | 0, _, _, _, _ => none
 | f + 1, r, hi, v, xs => if r ≤ hi then fillF f (r + 1) hi v (xs.set r.toNat v) else some xs
def rowsP (f : Nat) : List S69 → List Int → Option (List Int)
 | [], xs => some xs
 | s :: r, xs => if 0 ≤ s.f0 ∧ s.f0 ≤ 255 ∧ 0 ≤ s.f1 ∧ s.f1 ≤ 255 ∧ 0 ≤ s.f2 ∧ s.f2 < 256 then (match fillF f s.f0 s.f1 s.f2 xs with | none => none | some ys => rowsP f r ys) else none
/-- What the table says. -/
def tabF (xs : List Int) (r : Int) : Int := if 0 ≤ r ∧ r < 256 then rd xs r else 0
/-- A whole table, in blocks. -/
def TabB (w : World) (base gt : Nat) (f : Int → Int) : Prop :=
 ∃ (C : Array Value) (b n c : Nat) (xs : List (Cl 256)), w.heap[gt]? = some (.cells C 101 (0, 0)) ∧ C[4352]? = some (.slice (some ⟨b, 0, none⟩) n c) ∧ Own1 (kcl 256) 105 base w (.slice (some ⟨b, 0, none⟩) n c) xs ∧
  ∀ q : Nat, q < 4352 → ∃ j : Nat, j < n ∧ C[q]? = some (.int .i64 (j : Int)) ∧ ∀ k : Nat, k < 256 → 0 ≤ f ((q : Int) * 256 + k) ∧ f ((q : Int) * 256 + k) < 256 ∧ (xs.getD j (zcl 256)).l[k]? = some (.int .u8 (f ((q : Int) * 256 + k)))
theorem TabB.low {w w1 : World} {base gt : Nat} {f : Int → Int} (h : TabB w base gt f) (hb : Below w.heap.size w w1) : TabB w1 base gt f := by
 obtain ⟨C, b, n, c, xs, h1, h2, h3, h4⟩ := h
 exact ⟨C, b, n, c, xs, blk_below h1 hb, h2, h3.below hb, h4⟩
theorem TabB.tab {w : World} {base gt : Nat} {f : Int → Int} (h : TabB w base gt f) : IsTab w gt f := by
 obtain ⟨C, b, n, c, xs, h1, h2, h3, h4⟩ := h
 refine ⟨b, n, c, (blk_cell h1 4352).trans h2, fun q q0 q1 => ?_⟩
 obtain ⟨j, j1, h5, h6⟩ := h4 q.toNat (by omega)
 have r3 := Own1.reads h3
 refine ⟨(j : Int), by omega, by omega, (blk_cell h1 q.toNat).trans h5, fun k k0 k1 => ?_⟩
 obtain ⟨f0, f1, h7⟩ := h6 k.toNat (by omega)
 have e1 : ((q.toNat : Int) * 256 + (k.toNat : Int)) = q * 256 + k := by omega
 rw [e1] at f0 f1 h7
 refine ⟨f0, f1, ?_⟩
 obtain ⟨ad, ha, hc⟩ := cl_at r3.2.2 (j : Int) (by omega) (by omega)
 injection ha with ha
 subst ha
 rw [Int.toNat_natCast] at hc
 have h8 := hc k.toNat _ h7
 rw [add_plain] at h8
 rw [Int.toNat_natCast]
 exact h8
theorem z101_at (q : Nat) (h : q < 4352) : Tryz.zeroCells101[q]? = some (.int .i64 0) := by
 rw [zc101, List.getElem?_toArray, List.getElem?_append_left (by rw [List.length_replicate]; exact h), List.getElem?_replicate, if_pos h]
theorem z101_size : Tryz.zeroCells101.size = 4353 := by rw [zc101, List.size_toArray, List.length_append, List.length_replicate]; rfl
theorem zs_get (k : Nat) (h : k < 256) : (zs256.map (Value.int .u8))[k]? = some (.int .u8 0) := by rw [zs256, List.map_replicate, List.getElem?_replicate, if_pos h]
theorem zs_rd (i : Int) : rd zs256 i = 0 := by
 simp only [rd, zs256, List.getD_eq_getElem?_getD, List.getElem?_replicate]
 split <;> rfl
theorem tabF_zero (r : Int) : tabF zs256 r = 0 := by unfold tabF; split <;> simp [zs_rd]
theorem tabB_one {w : World} {g gt b c : Nat} (hT : w.heap[gt]? = some (.cells (Tryz.zeroCells101.setIfInBounds 4352 (.slice (some ⟨b, 0, none⟩) 1 c)) 101 (0, 0))) (hO : Own1 (kcl 256) 105 g w (.slice (some ⟨b, 0, none⟩) 1 c) [blkC zs256 zs_len]) : TabB w g gt (tabF zs256) := by
 refine ⟨_, b, 1, c, _, hT, ?_, hO, fun q hq => ⟨0, by omega, ?_, fun k hk => ?_⟩⟩
 ·rw [Array.getElem?_setIfInBounds_self]
  simp [z101_size]
 ·rw [Array.getElem?_setIfInBounds_ne (by omega)]
  exact z101_at q hq
 ·rw [tabF_zero]
  exact ⟨by omega, by omega, zs_get k hk⟩
theorem tabB_two {w : World} {g gt c : Nat} {A : Option Addr} {u : Value} {xs : List Int} (hx : xs.length = 256) (hr : ∀ x ∈ xs, 0 ≤ x ∧ x < 256) (hT : w.heap[gt]? = some (.cells (((Tryz.zeroCells101.setIfInBounds 4352 u).setIfInBounds 4352 (.slice A 2 c)).setIfInBounds 0 (.int .i64 1)) 101 (0, 0))) (hO : Own1 (kcl 256) 105 g w (.slice A 2 c) ([blkC zs256 zs_len] ++ [blkC xs hx])) : TabB w g gt (tabF xs) := by
 obtain ⟨b, c', he, _⟩ := Kd.R_form hO (by simp)
 injection he with he _ hec
 subst he
 refine ⟨_, b, 2, c, _, hT, ?_, hO, fun q hq => ?_⟩
 ·rw [Array.getElem?_setIfInBounds_ne (by omega), Array.getElem?_setIfInBounds_self, Array.size_setIfInBounds, z101_size]
  simp
 ·by_cases h0 : q = 0
  ·subst h0
   refine ⟨1, by omega, ?_, fun k hk => ?_⟩
   ·rw [Array.getElem?_setIfInBounds_self, Array.size_setIfInBounds, Array.size_setIfInBounds, z101_size]
    simp
   ·have e1 : tabF xs (((0 : Nat) : Int) * 256 + (k : Int)) = rd xs k := by unfold tabF; rw [if_pos (by omega)]; congr 1; omega
    have hm := hr (rd xs k) (getD_mem _ _ _ (by omega))
    rw [e1]
    refine ⟨hm.1, hm.2, ?_⟩
    show (xs.map (Value.int .u8))[k]? = _
    have hk2 : k < xs.length := by omega
    simp [rd, List.getD, hk2]
  ·refine ⟨0, by omega, ?_, fun k hk => ?_⟩
   ·rw [Array.getElem?_setIfInBounds_ne (by omega), Array.getElem?_setIfInBounds_ne (by omega), Array.getElem?_setIfInBounds_ne (by omega)]
    exact z101_at q hq
   ·have e1 : tabF xs ((q : Int) * 256 + (k : Int)) = 0 := by unfold tabF; rw [if_neg (by omega)]
    rw [e1]
    exact ⟨by omega, by omega, zs_get k hk⟩
/-- What prop's Make comes to. -/
def PropE (w : World) (f : Int → Int) (e : Ending) (w' : World) : Prop := ∃ g, e = .returned (.tuple #[.pointer (some ⟨g, 0, none⟩), .int .i64 0]) ∧ w.heap.size ≤ g ∧ IsTab w' g f ∧ Below w.heap.size w w'
end Go.Proofs.YtkeccgkicffieaaGreatDoor.PTopWider
