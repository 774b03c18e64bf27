/- The walk of rules.Parse. Conditions: the text is right, and short. -/
import Derived.Test.YtkeccgkicffieaaGreatDoorTopRF
import Derived.Defers
import Derived.Recover
import Derived.KernelRfl
namespace Go.Proofs.YtkeccgkicffieaaGreatDoor.PTopWider
open Go.RowKit Go.Proofs.YtkeccgkicffieaaGreatDoorW.PrintWords Go.Proofs.YtkeccgkicffieaaGreatDoorW.PrintLast Go.Proofs.YtkeccgkicffieaaGreatDoorW.PrintMore
set_option linter.unusedVariables false
set_option linter.unusedSimpArgs false
theorem catch_idle (p q : Value) (w : World) :
  CallsD Tryz.prog 33 #[p, q] .returning w fun e u' w' => e = .returned (.tuple #[]) ∧ u' = .returning ∧ w' = w := by
 refine callsD_of_wpS Tryz.func33 rfl fun c₀ cs hu => ?_
 apply wpS_seq
 apply wpS_region
 simp [wpOpsS, go_sem, recoverD, hu, Tryz.ntmps33, Exit.thenS]
 apply wpS_seq
 apply wpS_region
 simp [wpOpsS, go_sem, hu, Tryz.ntmps33, Exit.thenS]
 refine wpS_cond (t := false) (by simp [Act.eval, Array.replicate]) ?_
 simp only [Bool.false_eq_true, if_false]
 refine wpS_of_wp (wp_skip ?_)
 cases c₀
 simp_all [bodyPostS, results, Tryz.results33]
theorem RsOk.lower {w : World} {base b' : Nat} (hb : b' ≤ base) : ∀ {rs : List RX} {cs : List (Cl 7)}, RsOk w base rs cs → RsOk w b' rs cs
 | [], [], _ => trivial
 | _ :: _, _ :: _, ⟨⟨A, n, c, B, m, d, h1, h2, h3⟩, h4⟩ => ⟨⟨A, n, c, B, m, d, h1, h2.lower hb, h3.lower hb⟩, RsOk.lower hb h4⟩
 | [], _ :: _, h => h.elim
 | _ :: _, [], h => h.elim
/-- Rules in memory. -/
def RulesIs (w : World) (base : Nat) (n : Nat) (rs : List RX) (vC vT vL : Value) : Prop :=
 (∃ ns, ns.length = n ∧ Own1 Kd.string 9 base w vC ns) ∧ Own1 (Kd.int .i64) 3 base w vT (cnt n) ∧ ∃ cs, Own1 (kcl 7) 142 base w vL cs ∧ RsOk w base rs cs
def ParseE (w : World) (n : Nat) (rs : List RX) (e : Ending) (w' : World) : Prop :=
 ∃ vC vT vL, e = .returned (.tuple #[.agg #[vC, .int .u32 0, .int .u32 0, vT, vL], .agg #[.int .i64 0, .int .i64 0]]) ∧ RulesIs w' w.heap.size n rs vC vT vL ∧ Below w.heap.size w w'
set_option maxHeartbeats 40000000 in
set_option maxRecDepth 100000 in
theorem parse_calls (s : ByteArray) (N f n : Nat) (rs : List RX) (w : World) (hs : s.size ≤ 4096) (hC : allF s N f 0 0 0 #[] 0 [] = some (n, rs)) :
  Calls Tryz.prog 19 #[.string s] w fun e w' => ParseE w n rs e w' := by
 have hmf : ∀ (fn : Fn) (first cap : Array Value) (w : World), (Instr.makeFunc fn first cap).run Tryz.prog w = .ok (.func fn first cap) w := fun _ _ _ _ => rfl
 have m0 : ∀ w : World, (Instr.makeMap 132 none).run Tryz.prog w = .ok (.map (some w.heap.size)) (w.alloc (.map #[] 0)) := fun w => run_makeMap_plain (w := w) 132
 have HC := Aside0.mk hC
 clear hC
 go_enter_defers Tryz.func19, Tryz.ntmps19
 go_wp2_with fail
 have z1 : (w.alloc (.cells #[.slice none 0 0, .int .u32 0, .int .u32 0, .slice none 0 0, .slice none 0 0] 86)).heap.size = w.heap.size + 1 := by simp
 have z2 : ((w.alloc (.cells #[.slice none 0 0, .int .u32 0, .int .u32 0, .slice none 0 0, .slice none 0 0] 86)).alloc (.cells #[.int .i64 0, .int .i64 0] 31)).heap.size = w.heap.size + 1 + 1 := by simp
 have z3 : (((w.alloc (.cells #[.slice none 0 0, .int .u32 0, .int .u32 0, .slice none 0 0, .slice none 0 0] 86)).alloc (.cells #[.int .i64 0, .int .i64 0] 31)).alloc (.map #[] 0)).heap.size = w.heap.size + 1 + 1 + 1 := by simp
 have z4 : ((((w.alloc (.cells #[.slice none 0 0, .int .u32 0, .int .u32 0, .slice none 0 0, .slice none 0 0] 86)).alloc (.cells #[.int .i64 0, .int .i64 0] 31)).alloc (.map #[] 0)).alloc (.cells #[.string s, .int .i64 0, .slice none 0 0, .int .u32 0, .int .u32 0, .slice none 0 0, .slice none 0 0, .map (some (w.heap.size + 1 + 1)), .int .i64 0, .int .i64 0] 134)).heap.size = w.heap.size + 1 + 1 + 1 + 1 := by simp
 have K0 := blk_alloc (blk_alloc (blk_alloc (blk_new w (.cells #[.slice none 0 0, .int .u32 0, .int .u32 0, .slice none 0 0, .slice none 0 0] 86)) (.cells #[.int .i64 0, .int .i64 0] 31)) (.map #[] 0)) (.cells #[.string s, .int .i64 0, .slice none 0 0, .int .u32 0, .int .u32 0, .slice none 0 0, .slice none 0 0, .map (some (w.heap.size + 1 + 1)), .int .i64 0, .int .i64 0] 134)
 have K1 := blk_alloc (blk_alloc (blk_new (w.alloc (.cells #[.slice none 0 0, .int .u32 0, .int .u32 0, .slice none 0 0, .slice none 0 0] 86)) (.cells #[.int .i64 0, .int .i64 0] 31)) (.map #[] 0)) (.cells #[.string s, .int .i64 0, .slice none 0 0, .int .u32 0, .int .u32 0, .slice none 0 0, .slice none 0 0, .map (some (w.heap.size + 1 + 1)), .int .i64 0, .int .i64 0] 134)
 have K2 := blk_alloc (blk_new ((w.alloc (.cells #[.slice none 0 0, .int .u32 0, .int .u32 0, .slice none 0 0, .slice none 0 0] 86)).alloc (.cells #[.int .i64 0, .int .i64 0] 31)) (.map #[] 0)) (.cells #[.string s, .int .i64 0, .slice none 0 0, .int .u32 0, .int .u32 0, .slice none 0 0, .slice none 0 0, .map (some (w.heap.size + 1 + 1)), .int .i64 0, .int .i64 0] 134)
 have K3 := blk_new (((w.alloc (.cells #[.slice none 0 0, .int .u32 0, .int .u32 0, .slice none 0 0, .slice none 0 0] 86)).alloc (.cells #[.int .i64 0, .int .i64 0] 31)).alloc (.map #[] 0)) (.cells #[.string s, .int .i64 0, .slice none 0 0, .int .u32 0, .int .u32 0, .slice none 0 0, .slice none 0 0, .map (some (w.heap.size + 1 + 1)), .int .i64 0, .int .i64 0] 134)
 have hB := below_alloc (below_alloc (below_alloc (below_alloc (Below.refl w.heap.size w) (.cells #[.slice none 0 0, .int .u32 0, .int .u32 0, .slice none 0 0, .slice none 0 0] 86)) (.cells #[.int .i64 0, .int .i64 0] 31)) (.map #[] 0)) (.cells #[.string s, .int .i64 0, .slice none 0 0, .int .u32 0, .int .u32 0, .slice none 0 0, .slice none 0 0, .map (some (w.heap.size + 1 + 1)), .int .i64 0, .int .i64 0] 134)
 rw [z1] at K1
 rw [z2] at K2
 rw [z3] at K3
 clear z1 z2 z3
 have HF0 : Full ((((w.alloc (.cells #[.slice none 0 0, .int .u32 0, .int .u32 0, .slice none 0 0, .slice none 0 0] 86)).alloc (.cells #[.int .i64 0, .int .i64 0] 31)).alloc (.map #[] 0)).alloc (.cells #[.string s, .int .i64 0, .slice none 0 0, .int .u32 0, .int .u32 0, .slice none 0 0, .slice none 0 0, .map (some (w.heap.size + 1 + 1)), .int .i64 0, .int .i64 0] 134)) (w.heap.size + 1 + 1 + 1) (w.heap.size + 1 + 1) ⟨s, .slice none 0 0, .slice none 0 0, .slice none 0 0, w.heap.size + 1 + 1⟩ 0 0 0 [] #[] 0 :=
  ⟨K3, K2, by simp only; omega, by omega, by simp only; omega, ⟨[], rfl, Own1.nil _ _ _ _⟩, Own1.nil _ _ _ _, [], Own1.nil _ _ _ _, trivial⟩
 have KK := Aside0.mk (And.intro K0 (And.intro K1 (And.intro HF0 hB)))
 have Z4 := Aside0.mk z4
 clear K0 K1 K2 K3 HF0 hB z4
 refine (all_calls _ (w.heap.size + 1 + 1) _ N f 0 0 0 n [] rs #[] 0 _ (by omega) hs KK.out.2.2.1 (by simp only; omega) HC.out (by rw [Z4.out]; omega)).mono ?_
 rintro e w5 ⟨rfl, vC, vT, vL, k, pl, es, clock, hF5, hB5⟩
 have K05 := (hB5.block w.heap.size (by omega)).trans KK.out.1
 have K15 := (hB5.block (w.heap.size + 1) (by omega)).trans KK.out.2.1
 have HB5 := Aside0.mk (KK.out.2.2.2.trans ⟨hB5.os, hB5.tape, hB5.output, hB5.size, fun i hi => hB5.block i (by omega)⟩)
 obtain ⟨f1, _, _, _, _, ⟨ns, f6, f7⟩, f8, cs, f9, f10⟩ := hF5
 obtain ⟨AC, cC, eC⟩ := Kd.R_slice f7
 obtain ⟨AT, cT, eT⟩ := Kd.R_slice f8
 obtain ⟨AL, cL, eL⟩ := Kd.R_slice f9
 rw [f6] at eC
 rw [cnt_length] at eT
 rw [f10.len] at eL
 have eC : vC = .slice AC n cC := eC
 have eT : vT = .slice AT n cT := eT
 have eL : vL = .slice AL rs.length cL := eL
 have F6 := Aside0.mk f6
 clear f6
 subst eC
 subst eT
 subst eL
 have y2 := f1.c2
 have y3 : w5.cell? ⟨w.heap.size + 1 + 1 + 1, 3, none⟩ = some (.int .u32 0) := blk_cell f1 3
 have y4 : w5.cell? ⟨w.heap.size + 1 + 1 + 1, 4, none⟩ = some (.int .u32 0) := blk_cell f1 4
 have y5 := f1.c5
 have y6 := f1.c6
 have x0 : w5.cell? ⟨w.heap.size, 0, none⟩ = some (.slice none 0 0) := blk_cell K05 0
 have x1 : w5.cell? ⟨w.heap.size, 1, none⟩ = some (.int .u32 0) := blk_cell K05 1
 have x2 : w5.cell? ⟨w.heap.size, 2, none⟩ = some (.int .u32 0) := blk_cell K05 2
 have x3 : w5.cell? ⟨w.heap.size, 3, none⟩ = some (.slice none 0 0) := blk_cell K05 3
 have x4 : w5.cell? ⟨w.heap.size, 4, none⟩ = some (.slice none 0 0) := blk_cell K05 4
 have u0 := blk_frozen K05 0
 have u1 := blk_frozen K05 1
 have u2 := blk_frozen K05 2
 have u3 := blk_frozen K05 3
 have u4 := blk_frozen K05 4
 have t0 : w5.cell? ⟨w.heap.size + 1, 0, none⟩ = some (.int .i64 0) := blk_cell K15 0
 have t1 : w5.cell? ⟨w.heap.size + 1, 1, none⟩ = some (.int .i64 0) := blk_cell K15 1
 have t2 := blk_frozen K15 0
 have t3 := blk_frozen K15 1
 have V := Aside0.mk (And.intro f7 (And.intro f8 (And.intro f9 (And.intro f10 (And.intro K05 K15)))))
 clear f1 f7 f8 f9 f10 hB5 KK
 have kz0 := (blk_far (blk_far (blk_set (blk_set (blk_set (blk_set (blk_set K05 0 (.slice AC n cC)) 1 (.int .u32 0)) 2 (.int .u32 0)) 3 (.slice AT n cT)) 4 (.slice AL rs.length cL)) (p := ⟨w.heap.size + 1, 0, none⟩) (by simp) (.int .i64 0)) (p := ⟨w.heap.size + 1, 1, none⟩) (by simp) (.int .i64 0))
 have kz1 := (blk_set (blk_set (blk_far (blk_far (blk_far (blk_far (blk_far K15 (p := ⟨w.heap.size, 0, none⟩) (by simp) (.slice AC n cC)) (p := ⟨w.heap.size, 1, none⟩) (by simp) (.int .u32 0)) (p := ⟨w.heap.size, 2, none⟩) (by simp) (.int .u32 0)) (p := ⟨w.heap.size, 3, none⟩) (by simp) (.slice AT n cT)) (p := ⟨w.heap.size, 4, none⟩) (by simp) (.slice AL rs.length cL)) 0 (.int .i64 0)) 1 (.int .i64 0))
 have sz : ∀ t : Nat, t ≠ 86 → t ≠ 31 → Same t w5 (((((((w5.setCell ⟨w.heap.size, 0, none⟩ (.slice AC n cC)).setCell ⟨w.heap.size, 1, none⟩ (.int .u32 0)).setCell ⟨w.heap.size, 2, none⟩ (.int .u32 0)).setCell ⟨w.heap.size, 3, none⟩ (.slice AT n cT)).setCell ⟨w.heap.size, 4, none⟩ (.slice AL rs.length cL)).setCell ⟨w.heap.size + 1, 0, none⟩ (.int .i64 0)).setCell ⟨w.heap.size + 1, 1, none⟩ (.int .i64 0)) := fun t h86 h31 => ((((((((Same.refl t w5).trans (Same.set K05 (by assumption) 0 (.slice AC n cC))).trans (Same.set (blk_set K05 0 (.slice AC n cC)) (by assumption) 1 (.int .u32 0))).trans (Same.set (blk_set (blk_set K05 0 (.slice AC n cC)) 1 (.int .u32 0)) (by assumption) 2 (.int .u32 0))).trans (Same.set (blk_set (blk_set (blk_set K05 0 (.slice AC n cC)) 1 (.int .u32 0)) 2 (.int .u32 0)) (by assumption) 3 (.slice AT n cT))).trans (Same.set (blk_set (blk_set (blk_set (blk_set K05 0 (.slice AC n cC)) 1 (.int .u32 0)) 2 (.int .u32 0)) 3 (.slice AT n cT)) (by assumption) 4 (.slice AL rs.length cL))).trans (Same.set (blk_far (blk_far (blk_far (blk_far (blk_far K15 (p := ⟨w.heap.size, 0, none⟩) (by simp) (.slice AC n cC)) (p := ⟨w.heap.size, 1, none⟩) (by simp) (.int .u32 0)) (p := ⟨w.heap.size, 2, none⟩) (by simp) (.int .u32 0)) (p := ⟨w.heap.size, 3, none⟩) (by simp) (.slice AT n cT)) (p := ⟨w.heap.size, 4, none⟩) (by simp) (.slice AL rs.length cL)) (by assumption) 0 (.int .i64 0))).trans (Same.set (blk_set (blk_far (blk_far (blk_far (blk_far (blk_far K15 (p := ⟨w.heap.size, 0, none⟩) (by simp) (.slice AC n cC)) (p := ⟨w.heap.size, 1, none⟩) (by simp) (.int .u32 0)) (p := ⟨w.heap.size, 2, none⟩) (by simp) (.int .u32 0)) (p := ⟨w.heap.size, 3, none⟩) (by simp) (.slice AT n cT)) (p := ⟨w.heap.size, 4, none⟩) (by simp) (.slice AL rs.length cL)) 0 (.int .i64 0)) (by assumption) 1 (.int .i64 0)))
 have bz := (Below.setCell (Below.setCell (Below.setCell (Below.setCell (Below.setCell (Below.setCell (Below.setCell HB5.out (p := ⟨w.heap.size, 0, none⟩) (by simp) (.slice AC n cC)) (p := ⟨w.heap.size, 1, none⟩) (by simp) (.int .u32 0)) (p := ⟨w.heap.size, 2, none⟩) (by simp) (.int .u32 0)) (p := ⟨w.heap.size, 3, none⟩) (by simp) (.slice AT n cT)) (p := ⟨w.heap.size, 4, none⟩) (by simp) (.slice AL rs.length cL)) (p := ⟨(w.heap.size + 1), 0, none⟩) (by simp) (.int .i64 0)) (p := ⟨(w.heap.size + 1), 1, none⟩) (by simp) (.int .i64 0))
 have VZ := Aside0.mk (And.intro (V.out.1.same (sz 9 (by decide) (by decide))) (And.intro (V.out.2.1.same (sz 3 (by decide) (by decide))) (And.intro (V.out.2.2.1.same (sz 142 (by decide) (by decide))) (And.intro (RsOk.same (sz 140 (by decide) (by decide)) V.out.2.2.2.1) bz))))
 have KZ := Aside0.mk (And.intro kz0 kz1)
 clear kz0 kz1 sz bz V K05 K15
 go_wp2
 clear x0 x1 x2 x3 x4 u0 u1 u2 u3 u4 t0 t1 t2 t3 y2 y3 y4 y5 y6
 generalize (((((((w5.setCell ⟨w.heap.size, 0, none⟩ (.slice AC n cC)).setCell ⟨w.heap.size, 1, none⟩ (.int .u32 0)).setCell ⟨w.heap.size, 2, none⟩ (.int .u32 0)).setCell ⟨w.heap.size, 3, none⟩ (.slice AT n cT)).setCell ⟨w.heap.size, 4, none⟩ (.slice AL rs.length cL)).setCell ⟨w.heap.size + 1, 0, none⟩ (.int .i64 0)).setCell ⟨w.heap.size + 1, 1, none⟩ (.int .i64 0)) = wz at VZ KZ ⊢
 have c0 : wz.cell? ⟨w.heap.size, 0, none⟩ = some (.slice AC n cC) := blk_cell KZ.out.1 0
 have c1 : wz.cell? ⟨w.heap.size, 1, none⟩ = some (.int .u32 0) := blk_cell KZ.out.1 1
 have c2 : wz.cell? ⟨w.heap.size, 2, none⟩ = some (.int .u32 0) := blk_cell KZ.out.1 2
 have c3 : wz.cell? ⟨w.heap.size, 3, none⟩ = some (.slice AT n cT) := blk_cell KZ.out.1 3
 have c4 : wz.cell? ⟨w.heap.size, 4, none⟩ = some (.slice AL rs.length cL) := blk_cell KZ.out.1 4
 have d0 : wz.cell? ⟨w.heap.size + 1, 0, none⟩ = some (.int .i64 0) := blk_cell KZ.out.2 0
 have d1 : wz.cell? ⟨w.heap.size + 1, 1, none⟩ = some (.int .i64 0) := blk_cell KZ.out.2 1
 refine leaves_cons (f := 33) (args := #[.pointer (some ⟨w.heap.size, 0, none⟩), .pointer (some ⟨w.heap.size + 1, 0, none⟩)]) (by simp) (by simp [go_sem]) ?_
 refine (catch_idle _ _ _).mono ?_
 rintro e u' w'' ⟨rfl, rfl, rfl⟩
 have hpost : ParseE w n rs (.returned (.tuple #[.agg #[.slice AC n cC, .int .u32 0, .int .u32 0, .slice AT n cT, .slice AL rs.length cL], .agg #[.int .i64 0, .int .i64 0]])) w'' :=
  ⟨_, _, _, rfl, ⟨⟨ns, F6.out, VZ.out.1.lower (by omega)⟩, VZ.out.2.1.lower (by omega), cs, VZ.out.2.2.1.lower (by omega), RsOk.lower (by omega) VZ.out.2.2.2.1⟩, VZ.out.2.2.2.2⟩
 simp [Leaves, settle, results, Tryz.results19, go_sem, c0, c1, c2, c3, c4, d0, d1]
 exact hpost
end Go.Proofs.YtkeccgkicffieaaGreatDoor.PTopWider
namespace Go.Proofs.YtkeccgkicffieaaGreatDoor.PTopWider
open Go.RowKit
def txtM : ByteArray := ByteArray.mk #[99, 108, 97, 115, 115, 32, 79, 59, 32, 109, 97, 121, 32, 79, 32, 47, 32, 79, 59]
def txtP : ByteArray := ByteArray.mk #[99, 108, 97, 115, 115, 32, 79, 32, 83, 32, 78, 59, 32, 109, 117, 115, 116, 32, 78, 32, 47, 32, 46, 59, 32, 107, 101, 101, 112, 32, 46, 32, 47, 32, 83, 32, 124, 32, 78, 59, 32, 109, 97, 121, 32, 83, 32, 47, 32, 46, 59, 32, 107, 101, 101, 112, 32, 46, 32, 47, 32, 46, 59]
def txtX : ByteArray := ByteArray.mk #[99, 108, 97, 115, 115, 32, 79, 32, 83, 32, 78, 59, 32, 107, 101, 101, 112, 32, 83, 32, 47, 32, 83, 59, 32, 109, 97, 121, 32, 83, 32, 47, 32, 46, 59, 32, 109, 117, 115, 116, 32, 78, 32, 47, 32, 46, 59, 32, 107, 101, 101, 112, 32, 46, 32, 47, 32, 46, 59]
set_option maxRecDepth 100000
theorem allM : allF txtM 200 9 0 0 0 #[] 0 [] = some (1, [⟨1, .one 1, .one 1⟩]) := by kernel_rfl
theorem allP : allF txtP 200 9 0 0 0 #[] 0 [] = some (3, [⟨2, .one 4, .one 7⟩, ⟨0, .one 7, .two 2 4⟩, ⟨1, .one 2, .one 7⟩, ⟨0, .one 7, .one 7⟩]) := by kernel_rfl
theorem allX : allF txtX 200 9 0 0 0 #[] 0 [] = some (3, [⟨0, .one 2, .one 2⟩, ⟨1, .one 2, .one 7⟩, ⟨2, .one 4, .one 7⟩, ⟨0, .one 7, .one 7⟩]) := by kernel_rfl
end Go.Proofs.YtkeccgkicffieaaGreatDoor.PTopWider
