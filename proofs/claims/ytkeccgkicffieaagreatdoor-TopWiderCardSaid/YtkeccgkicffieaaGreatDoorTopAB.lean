/- The walk of auto's maker.of at a leaf and at one of two leaves. Conditions: the maker lies in memory as IsMk tells. -/
import Derived.Test.YtkeccgkicffieaaGreatDoorTopT
import Derived.Test.YtkeccgkicffieaaGreatDoorTopAA
import Derived.Test.YtkeccgkicffieaaGreatDoorTopRD
namespace Go.Proofs.YtkeccgkicffieaaGreatDoor.PTopWider
open Go.RowKit Go.Proofs.YtkeccgkicffieaaGreatDoorW.PrintWords Go.Proofs.YtkeccgkicffieaaGreatDoorW.PrintLast Go.Proofs.YtkeccgkicffieaaGreatDoorW.PrintMore
set_option linter.unusedVariables false
set_option linter.unusedSimpArgs false
/-- A set in four cells. -/
def setC (x : Int) : Cl 4 := ⟨[.int .u64 x, .int .u64 0, .int .u64 0, .int .u64 0], rfl, rfl⟩
/-- The maker in memory. -/
def IsMk (w : World) (mp base : Nat) (S : List Int) : Prop :=
 ∃ A c B d, w.heap[mp]? = some (.cells #[.slice A S.length c, .slice B S.length d, .bool false] 189 (0, 0)) ∧ Own1 (Kd.int .u32) 82 base w (.slice A S.length c) S ∧ Own1 (kcl 4) 193 base w (.slice B S.length d) (List.replicate S.length (setC 0)) ∧ base ≤ mp
theorem info193 : (Tryz.prog.info? 193).map (fun i => (i.zero, i.size, i.bytes)) = some (some (.agg #[(.int .u64 0), (.int .u64 0), (.int .u64 0), (.int .u64 0)]), 4, 32) := by kernel_rfl
/-- What of comes to. -/
def OfE (w : World) (mp base : Nat) (S : List Int) (m : Int) (e : Ending) (w' : World) : Prop :=
 e = .returned (.agg #[.bool false, .int .u64 m, .int .u64 0, .int .u64 0, .int .u64 0, .int .u64 m, .int .u64 0, .int .u64 0, .int .u64 0]) ∧ IsMk w' mp base S ∧ Below base w w' ∧ ∀ t, t ≠ 189 → t ≠ 82 → t ≠ 193 → Same t w w'
theorem Same.of_low {t : Nat} {w w1 : World} (h : Below w.heap.size w w1) : Same t w w1 := Same.below h
theorem Same.alloc (t : Nat) (w : World) (o : Obj) : Same t w (w.alloc o) := Same.below (below_alloc (Below.refl _ _) o)
/-- Cells of a block of one's own, written: nothing older turns. -/
theorem Same.new {t : Nat} {w0 w : World} {b i : Nat} {v : Value} (h : Same t w0 w) (hb : w0.heap.size ≤ b) : Same t w0 (w.setCell ⟨b, i, none⟩ v) := fun g cs fr hc =>
 (Below.heap_setCell w ⟨b, i, none⟩ v g (fun he => by simp at he; have := blk_lt hc; omega)).trans (h g cs fr hc)
set_option maxHeartbeats 40000000 in
set_option maxRecDepth 100000 in
theorem of_leaf (mp base : Nat) (S : List Int) (v : Int) (w : World) (hS : S.length < 64) (hM : IsMk w mp base S) :
  Calls Tryz.prog 62 #[.pointer (some ⟨mp, 0, none⟩), .agg #[.int .u8 1, .int .u32 v, .slice none 0 0]] w fun e w' => OfE w mp base (S ++ [v]) (addF 0 S.length) e w' := by
 obtain ⟨A, c, B, d, hK, h0, h1, hb⟩ := hM
 have hmp := blk_lt hK
 have hw4 : Go.bits .or .u64 0 0 = 0 := by decide
 obtain ⟨m, hm⟩ : ∃ m, Aside0 (addF 0 (S.length : Int) = m) := ⟨_, ⟨rfl⟩⟩
 rw [hm.out]
 have z1 : (w.alloc (.cells #[.int .u8 1, .int .u32 v, .slice none 0 0] 140)).heap.size = w.heap.size + 1 := by simp
 have z2 : ((w.alloc (.cells #[.int .u8 1, .int .u32 v, .slice none 0 0] 140)).alloc (.cells #[.bool false, .int .u64 0, .int .u64 0, .int .u64 0, .int .u64 0, .int .u64 0, .int .u64 0, .int .u64 0, .int .u64 0] 195)).heap.size = w.heap.size + 1 + 1 := by simp
 have z3 : (((w.alloc (.cells #[.int .u8 1, .int .u32 v, .slice none 0 0] 140)).alloc (.cells #[.bool false, .int .u64 0, .int .u64 0, .int .u64 0, .int .u64 0, .int .u64 0, .int .u64 0, .int .u64 0, .int .u64 0] 195)).alloc (.cells #[.bool false, .int .u64 0, .int .u64 0, .int .u64 0, .int .u64 0, .int .u64 0, .int .u64 0, .int .u64 0, .int .u64 0] 195)).heap.size = w.heap.size + 1 + 1 + 1 := by simp
 have Z3 := Aside0.mk z3
 have B1 := below_alloc (Below.refl w.heap.size w) (.cells #[.int .u8 1, .int .u32 v, .slice none 0 0] 140)
 have B2 := below_alloc B1 (.cells #[.bool false, .int .u64 0, .int .u64 0, .int .u64 0, .int .u64 0, .int .u64 0, .int .u64 0, .int .u64 0, .int .u64 0] 195)
 have B3 := below_alloc B2 (.cells #[.bool false, .int .u64 0, .int .u64 0, .int .u64 0, .int .u64 0, .int .u64 0, .int .u64 0, .int .u64 0, .int .u64 0] 195)
 have K3 := blk_new w (.cells #[.int .u8 1, .int .u32 v, .slice none 0 0] 140)
 have e0 : ((w.alloc (.cells #[.int .u8 1, .int .u32 v, .slice none 0 0] 140)).alloc (.cells #[.bool false, .int .u64 0, .int .u64 0, .int .u64 0, .int .u64 0, .int .u64 0, .int .u64 0, .int .u64 0, .int .u64 0] 195)).cell? ⟨w.heap.size, 0, none⟩ = some (.int .u8 1) := blk_cell (blk_alloc K3 _) 0
 have K32 := blk_alloc K3 (.cells #[.bool false, .int .u64 0, .int .u64 0, .int .u64 0, .int .u64 0, .int .u64 0, .int .u64 0, .int .u64 0, .int .u64 0] 195)
 have K33 := blk_alloc K32 (.cells #[.bool false, .int .u64 0, .int .u64 0, .int .u64 0, .int .u64 0, .int .u64 0, .int .u64 0, .int .u64 0, .int .u64 0] 195)
 have K4 := blk_new (w.alloc (.cells #[.int .u8 1, .int .u32 v, .slice none 0 0] 140)) (.cells #[.bool false, .int .u64 0, .int .u64 0, .int .u64 0, .int .u64 0, .int .u64 0, .int .u64 0, .int .u64 0, .int .u64 0] 195)
 rw [z1] at K4
 have K43 := blk_alloc K4 (.cells #[.bool false, .int .u64 0, .int .u64 0, .int .u64 0, .int .u64 0, .int .u64 0, .int .u64 0, .int .u64 0, .int .u64 0] 195)
 have K5 := blk_new ((w.alloc (.cells #[.int .u8 1, .int .u32 v, .slice none 0 0] 140)).alloc (.cells #[.bool false, .int .u64 0, .int .u64 0, .int .u64 0, .int .u64 0, .int .u64 0, .int .u64 0, .int .u64 0, .int .u64 0] 195)) (.cells #[.bool false, .int .u64 0, .int .u64 0, .int .u64 0, .int .u64 0, .int .u64 0, .int .u64 0, .int .u64 0, .int .u64 0] 195)
 rw [z2] at K5
 have KM2 := blk_below hK B2
 have KM3 := blk_below hK B3
 have a0 : ((w.alloc (.cells #[.int .u8 1, .int .u32 v, .slice none 0 0] 140)).alloc (.cells #[.bool false, .int .u64 0, .int .u64 0, .int .u64 0, .int .u64 0, .int .u64 0, .int .u64 0, .int .u64 0, .int .u64 0] 195)).cell? ⟨mp, 0, none⟩ = some (.slice A S.length c) := blk_cell KM2 0
 have a1 : (((w.alloc (.cells #[.int .u8 1, .int .u32 v, .slice none 0 0] 140)).alloc (.cells #[.bool false, .int .u64 0, .int .u64 0, .int .u64 0, .int .u64 0, .int .u64 0, .int .u64 0, .int .u64 0, .int .u64 0] 195)).alloc (.cells #[.bool false, .int .u64 0, .int .u64 0, .int .u64 0, .int .u64 0, .int .u64 0, .int .u64 0, .int .u64 0, .int .u64 0] 195)).cell? ⟨mp, 0, none⟩ = some (.slice A S.length c) := blk_cell KM3 0
 have hl2 : decide ((200 : Int) ≤ (S.length : Int)) = false := by simp; omega
 have KK := Aside0.mk (And.intro K33 (And.intro K43 (And.intro K5 (And.intro KM3 B3))))
 have OO := Aside0.mk (And.intro h0 (And.intro h1 hb))
 clear z1 z2 z3 B1 B2 B3 K3 K32 K33 K4 K43 K5 KM2 KM3 h0 h1 hK
 go_enter Tryz.func62, Tryz.ntmps62
 go_wp2_with fail
 refine (add_calls (w.heap.size + 1 + 1) 1 0 (S.length : Int) _ (by omega) (by omega) (blk_cell KK.out.2.2.1 1) (blk_frozen KK.out.2.2.1 1) (blk_lt KK.out.2.2.1)).mono ?_
 rw [hm.out]
 rintro e w4s ⟨rfl, w4, hb4, rfl⟩
 have k5 := blk_set (blk_below KK.out.2.2.1 hb4) 1 (.int .u64 m)
 have y1 : (w4.setCell ⟨w.heap.size + 1 + 1, 1, none⟩ (.int .u64 m)).cell? ⟨w.heap.size + 1 + 1, 1, none⟩ = some (.int .u64 m) := blk_cell k5 1
 have y2 : (w4.setCell ⟨w.heap.size + 1 + 1, 1, none⟩ (.int .u64 m)).cell? ⟨w.heap.size + 1 + 1, 2, none⟩ = some (.int .u64 0) := blk_cell k5 2
 have y3 : (w4.setCell ⟨w.heap.size + 1 + 1, 1, none⟩ (.int .u64 m)).cell? ⟨w.heap.size + 1 + 1, 3, none⟩ = some (.int .u64 0) := blk_cell k5 3
 have y4 : (w4.setCell ⟨w.heap.size + 1 + 1, 1, none⟩ (.int .u64 m)).cell? ⟨w.heap.size + 1 + 1, 4, none⟩ = some (.int .u64 0) := blk_cell k5 4
 have y5 : (w4.setCell ⟨w.heap.size + 1 + 1, 1, none⟩ (.int .u64 m)).cell? ⟨w.heap.size + 1 + 1, 5, none⟩ = some (.int .u64 0) := blk_cell k5 5
 have y6 : (w4.setCell ⟨w.heap.size + 1 + 1, 1, none⟩ (.int .u64 m)).cell? ⟨w.heap.size + 1 + 1, 6, none⟩ = some (.int .u64 0) := blk_cell k5 6
 have y7 : (w4.setCell ⟨w.heap.size + 1 + 1, 1, none⟩ (.int .u64 m)).cell? ⟨w.heap.size + 1 + 1, 7, none⟩ = some (.int .u64 0) := blk_cell k5 7
 have y8 : (w4.setCell ⟨w.heap.size + 1 + 1, 1, none⟩ (.int .u64 m)).cell? ⟨w.heap.size + 1 + 1, 8, none⟩ = some (.int .u64 0) := blk_cell k5 8
 have x5 := blk_frozen k5 5
 have x6 := blk_frozen k5 6
 have x7 := blk_frozen k5 7
 have x8 := blk_frozen k5 8
 have k5f := (blk_set (blk_set (blk_set (blk_set k5 5 (.int .u64 m)) 6 (.int .u64 0)) 7 (.int .u64 0)) 8 (.int .u64 0))
 have k3f := (blk_far (blk_far (blk_far (blk_far (blk_far (blk_below KK.out.1 hb4) (p := ⟨w.heap.size + 1 + 1, 1, none⟩) (by first | (simp; done) | (simp; omega)) (.int .u64 m)) (p := ⟨w.heap.size + 1 + 1, 5, none⟩) (by first | (simp; done) | (simp; omega)) (.int .u64 m)) (p := ⟨w.heap.size + 1 + 1, 6, none⟩) (by first | (simp; done) | (simp; omega)) (.int .u64 0)) (p := ⟨w.heap.size + 1 + 1, 7, none⟩) (by first | (simp; done) | (simp; omega)) (.int .u64 0)) (p := ⟨w.heap.size + 1 + 1, 8, none⟩) (by first | (simp; done) | (simp; omega)) (.int .u64 0))
 have k4f := (blk_far (blk_far (blk_far (blk_far (blk_far (blk_below KK.out.2.1 hb4) (p := ⟨w.heap.size + 1 + 1, 1, none⟩) (by first | (simp; done) | (simp; omega)) (.int .u64 m)) (p := ⟨w.heap.size + 1 + 1, 5, none⟩) (by first | (simp; done) | (simp; omega)) (.int .u64 m)) (p := ⟨w.heap.size + 1 + 1, 6, none⟩) (by first | (simp; done) | (simp; omega)) (.int .u64 0)) (p := ⟨w.heap.size + 1 + 1, 7, none⟩) (by first | (simp; done) | (simp; omega)) (.int .u64 0)) (p := ⟨w.heap.size + 1 + 1, 8, none⟩) (by first | (simp; done) | (simp; omega)) (.int .u64 0))
 have kmf := (blk_far (blk_far (blk_far (blk_far (blk_far (blk_below KK.out.2.2.2.1 hb4) (p := ⟨w.heap.size + 1 + 1, 1, none⟩) (by simp; omega) (.int .u64 m)) (p := ⟨w.heap.size + 1 + 1, 5, none⟩) (by simp; omega) (.int .u64 m)) (p := ⟨w.heap.size + 1 + 1, 6, none⟩) (by simp; omega) (.int .u64 0)) (p := ⟨w.heap.size + 1 + 1, 7, none⟩) (by simp; omega) (.int .u64 0)) (p := ⟨w.heap.size + 1 + 1, 8, none⟩) (by simp; omega) (.int .u64 0))
 have bwf := (Below.setCell (Below.setCell (Below.setCell (Below.setCell (Below.setCell (below_step KK.out.2.2.2.2 hb4) (p := ⟨w.heap.size + 1 + 1, 1, none⟩) (by simp; try omega) (.int .u64 m)) (p := ⟨w.heap.size + 1 + 1, 5, none⟩) (by simp; try omega) (.int .u64 m)) (p := ⟨w.heap.size + 1 + 1, 6, none⟩) (by simp; try omega) (.int .u64 0)) (p := ⟨w.heap.size + 1 + 1, 7, none⟩) (by simp; try omega) (.int .u64 0)) (p := ⟨w.heap.size + 1 + 1, 8, none⟩) (by simp; try omega) (.int .u64 0))
 have P6 := Aside0.mk (And.intro k5f (And.intro k3f (And.intro k4f (And.intro kmf bwf))))
 clear k5f k3f k4f kmf bwf hb4 KK
 clear k5 a0 a1 e0
 go_upto_region 9 with fail
 clear y1 y2 y3 y4 y5 y6 y7 y8 x5 x6 x7 x8
 generalize (((((w4.setCell ⟨w.heap.size + 1 + 1, 1, none⟩ (.int .u64 m)).setCell ⟨w.heap.size + 1 + 1, 5, none⟩ (.int .u64 m)).setCell ⟨w.heap.size + 1 + 1, 6, none⟩ (.int .u64 0)).setCell ⟨w.heap.size + 1 + 1, 7, none⟩ (.int .u64 0)).setCell ⟨w.heap.size + 1 + 1, 8, none⟩ (.int .u64 0)) = w6 at P6 ⊢
 have S82 : Aside0 (Own1 (Kd.int .u32) 82 base w6 (.slice A S.length c) S) := ⟨OO.out.1.same (Same.of_low P6.out.2.2.2.2)⟩
 have S193 : Aside0 (Own1 (kcl 4) 193 base w6 (.slice B S.length d) (List.replicate S.length (setC 0))) := ⟨OO.out.2.1.same (Same.of_low P6.out.2.2.2.2)⟩
 have hbz6 : base ≤ w6.heap.size := by have := P6.out.2.2.2.2.size; have := OO.out.2.2; omega
 refine st 12 w6 [8, 11] fun hHeld => ?_
 generalize w6.drew = w7 at hHeld ⊢
 refine pu 0 (some 39) ?_
 refine pu 1 (some 40) ?_
 refine pu 2 (some 41) ?_
 refine pu 3 (some 42) ?_
 refine pu 5 (some 44) ?_
 refine take_ (i := 4) (N := some 43) (v := ?_) (a' := ?_) #[true, true, true, true, true, true, false, false, false, false, false, false] rfl rfl (by kernel_rfl) (fun _ _ _ h => h) (Or.inl ⟨by rfl, ?_⟩) hHeld ?_ ?_
 rotate_left
 ·intro w' s_
  have k0 : w'.cell? ⟨mp, 0, none⟩ = some (.slice A S.length c) := blk_cell (blk_below P6.out.2.2.2.1 s_) 0
  go_simp
  try (with_reducible rfl)
 rotate_left
 ·simp only [Act.put, List.setIfInBounds_toArray, List.set_cons_zero, List.set_cons_succ, i64_w, i32_w]
  rfl
 refine take_ (i := 6) (N := some 45) (v := ?_) (a' := ?_) #[true, true, true, true, true, true, true, false, false, false, false, false] rfl rfl (by kernel_rfl) (fun _ _ _ h => h) (Or.inl ⟨by rfl, ?_⟩) hHeld ?_ ?_
 rotate_left
 ·intro w' s_
  have k0 : w'.cell? ⟨w.heap.size, 1, none⟩ = some (.int .u32 v) := blk_cell (blk_below P6.out.2.1 s_) 1
  go_simp
  try (with_reducible rfl)
 rotate_left
 ·simp only [Act.put, List.setIfInBounds_toArray, List.set_cons_zero, List.set_cons_succ, i64_w, i32_w]
  rfl
 refine on 7 (some 46) fun K hK => ?_
 refine Kd.R_lit_step (Kd.int .u32) (w0 := w6) w6.heap.size 82 (by rfl) (N := 46) rfl (xs := [v]) (inner := [.int .u32 v]) (ok := fun _ => True) (okp := fun _ => True) ?hrun ?hrep (fun _ hk => hk) trivial hHeld hHeld.size (by simp) ?_
 case hrun => first | (go_simp; done) | (go_simp; rfl)
 case hrep => exact (Reps.one (show Kd.M (Kd.int .u32) _ _ _ v [.int .u32 v] from rfl) (Reps.none _ _))
 intro v1 x1 hr_ hb_ hg_ hat_
 refine hK.out _ _ hb_ (fun hHeld => ?_)
 clear hK K
 refine nrm 46 ?_
 refine la 8 (some 47) fun K hK => ?_
 obtain ⟨A_, c_, e_⟩ := Kd.R_slice hr_
 have hc_ := hr_
 rw [e_] at hc_
 refine Kd.R_append_rows_step (Kd.int .u32) (w0 := w6) base (by rfl) (.tmp 43) (.tmp 46) 92 82 (.int .u32 0) 4 rfl Tryz.underlying92 info82 rfl (by decide) (by decide) _ _ _ A_ 1 c_ (fun _ => True) (fun _ => False) rfl (by first | exact e_ | rfl) (S82.out.below hHeld).loose (Kd.R_reads' hc_).2.2 (fun p cs hk => hk) (fun _ hk => hk.elim) (fun _ _ => trivial) ?hbb ?hbz ?hl ?_
 case hbb => exact ⟨hHeld.os, hHeld.tape, hHeld.output, hHeld.size, fun i hi => hHeld.block i (by omega)⟩
 case hbz => have := hHeld.size; omega
 case hl => omega
 intro v4 x4 hr4 hb4 hg4 hat4
 refine hK.out _ _ ?_
 clear hK K
 refine nrm 47 ?_
 obtain ⟨gl, cl, e4, gl0, gl1, _⟩ := Kd.R_form hr4 (by simp)
 rw [show (S ++ [v]).length = S.length + 1 by rw [List.length_append]; rfl] at e4
 subst e4
 have sM := (Same.grown (t := 189) (S82.out.below hHeld) hg4 (by decide))
 have kM : x4.heap[mp]? = _ := (sM mp _ _ (blk_below P6.out.2.2.2.1 hHeld)).trans (blk_below P6.out.2.2.2.1 hHeld)
 have y1 : x4.cell? ⟨mp, 0, none⟩ = some (.slice A S.length c) := blk_cell kM 0
 have y2 := blk_frozen kM 0
 refine pu 9 (some 48) ?_
 refine pu 10 (some 49) ?_
 refine la 11 none fun K hK => ?_
 refine skip_ (w1 := ?_) (by rfl) rfl ?_ ?_
 rotate_left
 ·go_simp
  rfl
 refine hK.out _ _ ?_
 clear hK K
 refine done_ (by kernel_rfl) ?_
 have hBx := S82.out.below hHeld
 have s195 : Same 195 w6 x4 := (Same.below hHeld).trans (Same.grown (t := 195) hBx hg4 (by decide))
 have s193 : Same 193 w6 x4 := (Same.below hHeld).trans (Same.grown (t := 193) hBx hg4 (by decide))
 have k5 : (x4.setCell ⟨mp, 0, none⟩ (.slice (some ⟨gl, 0, none⟩) (S.length + 1) cl)).heap[w.heap.size + 1 + 1]? = some (.cells #[.bool false, .int .u64 m, .int .u64 0, .int .u64 0, .int .u64 0, .int .u64 m, .int .u64 0, .int .u64 0, .int .u64 0] 195 (0, 0)) := blk_far ((s195 _ _ _ P6.out.1).trans P6.out.1) (p := ⟨mp, 0, none⟩) (by simp; omega) _
 have k4 : (x4.setCell ⟨mp, 0, none⟩ (.slice (some ⟨gl, 0, none⟩) (S.length + 1) cl)).heap[w.heap.size + 1]? = some (.cells #[.bool false, .int .u64 0, .int .u64 0, .int .u64 0, .int .u64 0, .int .u64 0, .int .u64 0, .int .u64 0, .int .u64 0] 195 (0, 0)) := blk_far ((s195 _ _ _ P6.out.2.2.1).trans P6.out.2.2.1) (p := ⟨mp, 0, none⟩) (by simp; omega) _
 have km : (x4.setCell ⟨mp, 0, none⟩ (.slice (some ⟨gl, 0, none⟩) (S.length + 1) cl)).heap[mp]? = some (.cells #[(.slice (some ⟨gl, 0, none⟩) (S.length + 1) cl), .slice B S.length d, .bool false] 189 (0, 0)) := blk_set kM 0 (.slice (some ⟨gl, 0, none⟩) (S.length + 1) cl)
 have o82 := (Own1.flat (flatInt .u32) hr4).same (Same.set (t := 82) kM (by decide) 0 (.slice (some ⟨gl, 0, none⟩) (S.length + 1) cl))
 have o193 := (S193.out.same s193).same (Same.set (t := 193) kM (by decide) 0 (.slice (some ⟨gl, 0, none⟩) (S.length + 1) cl))
 have hT9 : Aside0 (∀ t, t ≠ 189 → t ≠ 82 → t ≠ 193 → Same t w (x4.setCell ⟨mp, 0, none⟩ (.slice (some ⟨gl, 0, none⟩) (S.length + 1) cl))) := ⟨fun t h1 h2 h3 => (((Same.of_low P6.out.2.2.2.2).trans (Same.below hHeld)).trans (Same.grown hBx hg4 h2)).trans (Same.set kM h1 0 (.slice (some ⟨gl, 0, none⟩) (S.length + 1) cl))⟩
 have b7 : Below base w (x4.setCell ⟨mp, 0, none⟩ (.slice (some ⟨gl, 0, none⟩) (S.length + 1) cl)) := ((P6.out.2.2.2.2.mono (by omega)).trans hb4).setCell (p := ⟨mp, 0, none⟩) (by exact hb) (.slice (some ⟨gl, 0, none⟩) (S.length + 1) cl)
 clear hBx s195 s193 sM kM y1 y2 hr4 hb4 hg4 hat4 hr_ hb_ hg_ hat_ hHeld e_ hc_ S82 S193 P6 OO
 generalize x4.setCell ⟨mp, 0, none⟩ (.slice (some ⟨gl, 0, none⟩) (S.length + 1) cl) = x7 at k5 k4 km o82 o193 hT9 b7 ⊢
 have OO := Aside0.mk (And.intro o82 (And.intro o193 b7))
 have y1 : x7.cell? ⟨mp, 1, none⟩ = some (.slice B S.length d) := blk_cell km 1
 have y2 := blk_frozen km 1
 have hbz7 : base ≤ x7.heap.size := by have := b7.size; omega
 have P7 := Aside0.mk (And.intro k5 (And.intro k4 km))
 clear k5 k4 km o82 o193 b7 hbz6
 go_wp2_with (at_builtin; go_loud (refine Kd.R_append (kcl 4) (w0 := x7) base rfl (.tmp 54) (.tmp 56) 187 193 (.agg #[.int .u64 0, .int .u64 0, .int .u64 0, .int .u64 0]) 32 rfl Tryz.underlying187 info193 rfl (by decide) (by decide) (.slice B S.length d) (List.replicate S.length (setC 0)) (setC 0) [.int .u64 0, .int .u64 0, .int .u64 0, .int .u64 0] (fun _ => True) (fun _ => False) rfl rfl rfl (fun _ hk => hk.elim) (fun _ _ => trivial) OO.out.2.1.loose (Below.refl _ _) hbz7 ?hl2 ?_; (case hl2 => simp; omega); intro v5 x5 hr5 hb5 hg5 hat5; obtain ⟨gn, cn, e5, gn0, gn1, _⟩ := Kd.R_form hr5 (by simp); rw [show (List.replicate S.length (setC 0) ++ [setC 0]).length = S.length + 1 by rw [List.length_append, List.length_replicate]; rfl] at e5; subst e5; have s195 := Same.grown (t := 195) OO.out.2.1 hg5 (by decide); have s189 := Same.grown (t := 189) OO.out.2.1 hg5 (by decide); have km : x5.heap[mp]? = some (.cells #[(.slice (some ⟨gl, 0, none⟩) (S.length + 1) cl), .slice B S.length d, .bool false] 189 (0, 0)) := (s189 _ _ _ P7.out.2.2).trans P7.out.2.2; have k5 : (x5.setCell ⟨mp, 1, none⟩ (.slice (some ⟨gn, 0, none⟩) (S.length + 1) cn)).heap[w.heap.size + 1 + 1]? = some (.cells #[.bool false, .int .u64 m, .int .u64 0, .int .u64 0, .int .u64 0, .int .u64 m, .int .u64 0, .int .u64 0, .int .u64 0] 195 (0, 0)) := blk_far ((s195 _ _ _ P7.out.1).trans P7.out.1) (p := ⟨mp, 1, none⟩) (by simp; omega) _; have k4 : (x5.setCell ⟨mp, 1, none⟩ (.slice (some ⟨gn, 0, none⟩) (S.length + 1) cn)).heap[w.heap.size + 1]? = some (.cells #[.bool false, .int .u64 0, .int .u64 0, .int .u64 0, .int .u64 0, .int .u64 0, .int .u64 0, .int .u64 0, .int .u64 0] 195 (0, 0)) := blk_far ((s195 _ _ _ P7.out.2.1).trans P7.out.2.1) (p := ⟨mp, 1, none⟩) (by simp; omega) _; clear y1 y2 s195 s189; have y1 : x5.cell? ⟨mp, 1, none⟩ = some (.slice B S.length d) := blk_cell km 1; have y2 := blk_frozen km 1; have q0 : (x5.setCell ⟨mp, 1, none⟩ (.slice (some ⟨gn, 0, none⟩) (S.length + 1) cn)).cell? ⟨w.heap.size + 1 + 1, 0, none⟩ = some (.bool false) := blk_cell k5 0; have u0 : (x5.setCell ⟨mp, 1, none⟩ (.slice (some ⟨gn, 0, none⟩) (S.length + 1) cn)).cell? ⟨w.heap.size + 1, 0, none⟩ = some (.bool false) := blk_cell k4 0; have r0 : (x5.setCell ⟨mp, 1, none⟩ (.slice (some ⟨gn, 0, none⟩) (S.length + 1) cn)).frozen? ⟨w.heap.size + 1, 0, none⟩ = false := blk_frozen k4 0; have q1 : (x5.setCell ⟨mp, 1, none⟩ (.slice (some ⟨gn, 0, none⟩) (S.length + 1) cn)).cell? ⟨w.heap.size + 1 + 1, 1, none⟩ = some (.int .u64 m) := blk_cell k5 1; have u1 : (x5.setCell ⟨mp, 1, none⟩ (.slice (some ⟨gn, 0, none⟩) (S.length + 1) cn)).cell? ⟨w.heap.size + 1, 1, none⟩ = some (.int .u64 0) := blk_cell k4 1; have r1 : (x5.setCell ⟨mp, 1, none⟩ (.slice (some ⟨gn, 0, none⟩) (S.length + 1) cn)).frozen? ⟨w.heap.size + 1, 1, none⟩ = false := blk_frozen k4 1; have q2 : (x5.setCell ⟨mp, 1, none⟩ (.slice (some ⟨gn, 0, none⟩) (S.length + 1) cn)).cell? ⟨w.heap.size + 1 + 1, 2, none⟩ = some (.int .u64 0) := blk_cell k5 2; have u2 : (x5.setCell ⟨mp, 1, none⟩ (.slice (some ⟨gn, 0, none⟩) (S.length + 1) cn)).cell? ⟨w.heap.size + 1, 2, none⟩ = some (.int .u64 0) := blk_cell k4 2; have r2 : (x5.setCell ⟨mp, 1, none⟩ (.slice (some ⟨gn, 0, none⟩) (S.length + 1) cn)).frozen? ⟨w.heap.size + 1, 2, none⟩ = false := blk_frozen k4 2; have q3 : (x5.setCell ⟨mp, 1, none⟩ (.slice (some ⟨gn, 0, none⟩) (S.length + 1) cn)).cell? ⟨w.heap.size + 1 + 1, 3, none⟩ = some (.int .u64 0) := blk_cell k5 3; have u3 : (x5.setCell ⟨mp, 1, none⟩ (.slice (some ⟨gn, 0, none⟩) (S.length + 1) cn)).cell? ⟨w.heap.size + 1, 3, none⟩ = some (.int .u64 0) := blk_cell k4 3; have r3 : (x5.setCell ⟨mp, 1, none⟩ (.slice (some ⟨gn, 0, none⟩) (S.length + 1) cn)).frozen? ⟨w.heap.size + 1, 3, none⟩ = false := blk_frozen k4 3; have q4 : (x5.setCell ⟨mp, 1, none⟩ (.slice (some ⟨gn, 0, none⟩) (S.length + 1) cn)).cell? ⟨w.heap.size + 1 + 1, 4, none⟩ = some (.int .u64 0) := blk_cell k5 4; have u4 : (x5.setCell ⟨mp, 1, none⟩ (.slice (some ⟨gn, 0, none⟩) (S.length + 1) cn)).cell? ⟨w.heap.size + 1, 4, none⟩ = some (.int .u64 0) := blk_cell k4 4; have r4 : (x5.setCell ⟨mp, 1, none⟩ (.slice (some ⟨gn, 0, none⟩) (S.length + 1) cn)).frozen? ⟨w.heap.size + 1, 4, none⟩ = false := blk_frozen k4 4; have q5 : (x5.setCell ⟨mp, 1, none⟩ (.slice (some ⟨gn, 0, none⟩) (S.length + 1) cn)).cell? ⟨w.heap.size + 1 + 1, 5, none⟩ = some (.int .u64 m) := blk_cell k5 5; have u5 : (x5.setCell ⟨mp, 1, none⟩ (.slice (some ⟨gn, 0, none⟩) (S.length + 1) cn)).cell? ⟨w.heap.size + 1, 5, none⟩ = some (.int .u64 0) := blk_cell k4 5; have r5 : (x5.setCell ⟨mp, 1, none⟩ (.slice (some ⟨gn, 0, none⟩) (S.length + 1) cn)).frozen? ⟨w.heap.size + 1, 5, none⟩ = false := blk_frozen k4 5; have q6 : (x5.setCell ⟨mp, 1, none⟩ (.slice (some ⟨gn, 0, none⟩) (S.length + 1) cn)).cell? ⟨w.heap.size + 1 + 1, 6, none⟩ = some (.int .u64 0) := blk_cell k5 6; have u6 : (x5.setCell ⟨mp, 1, none⟩ (.slice (some ⟨gn, 0, none⟩) (S.length + 1) cn)).cell? ⟨w.heap.size + 1, 6, none⟩ = some (.int .u64 0) := blk_cell k4 6; have r6 : (x5.setCell ⟨mp, 1, none⟩ (.slice (some ⟨gn, 0, none⟩) (S.length + 1) cn)).frozen? ⟨w.heap.size + 1, 6, none⟩ = false := blk_frozen k4 6; have q7 : (x5.setCell ⟨mp, 1, none⟩ (.slice (some ⟨gn, 0, none⟩) (S.length + 1) cn)).cell? ⟨w.heap.size + 1 + 1, 7, none⟩ = some (.int .u64 0) := blk_cell k5 7; have u7 : (x5.setCell ⟨mp, 1, none⟩ (.slice (some ⟨gn, 0, none⟩) (S.length + 1) cn)).cell? ⟨w.heap.size + 1, 7, none⟩ = some (.int .u64 0) := blk_cell k4 7; have r7 : (x5.setCell ⟨mp, 1, none⟩ (.slice (some ⟨gn, 0, none⟩) (S.length + 1) cn)).frozen? ⟨w.heap.size + 1, 7, none⟩ = false := blk_frozen k4 7; have q8 : (x5.setCell ⟨mp, 1, none⟩ (.slice (some ⟨gn, 0, none⟩) (S.length + 1) cn)).cell? ⟨w.heap.size + 1 + 1, 8, none⟩ = some (.int .u64 0) := blk_cell k5 8; have u8 : (x5.setCell ⟨mp, 1, none⟩ (.slice (some ⟨gn, 0, none⟩) (S.length + 1) cn)).cell? ⟨w.heap.size + 1, 8, none⟩ = some (.int .u64 0) := blk_cell k4 8; have r8 : (x5.setCell ⟨mp, 1, none⟩ (.slice (some ⟨gn, 0, none⟩) (S.length + 1) cn)).frozen? ⟨w.heap.size + 1, 8, none⟩ = false := blk_frozen k4 8; have S10 := Aside0.mk (And.intro km (And.intro k5 (And.intro k4 (And.intro hr5 (And.intro hg5 hb5))))); clear km k5 k4 hr5 hg5 hb5 hat5))
 have kbz : KB (x5.setCell ⟨mp, 1, none⟩ (.slice (some ⟨gn, 0, none⟩) (S.length + 1) cn)) ((((((((((x5.setCell ⟨mp, 1, none⟩ (.slice (some ⟨gn, 0, none⟩) (S.length + 1) cn)).setCell ⟨w.heap.size + 1, 0, none⟩ (.bool false)).setCell ⟨w.heap.size + 1, 1, none⟩ (.int .u64 m)).setCell ⟨w.heap.size + 1, 2, none⟩ (.int .u64 0)).setCell ⟨w.heap.size + 1, 3, none⟩ (.int .u64 0)).setCell ⟨w.heap.size + 1, 4, none⟩ (.int .u64 0)).setCell ⟨w.heap.size + 1, 5, none⟩ (.int .u64 m)).setCell ⟨w.heap.size + 1, 6, none⟩ (.int .u64 0)).setCell ⟨w.heap.size + 1, 7, none⟩ (.int .u64 0)).setCell ⟨w.heap.size + 1, 8, none⟩ (.int .u64 0)) (w.heap.size + 1) := (kb_set (kb_set (kb_set (kb_set (kb_set (kb_set (kb_set (kb_set (kb_set (kb_refl _ _) 0 (.bool false)) 1 (.int .u64 m)) 2 (.int .u64 0)) 3 (.int .u64 0)) 4 (.int .u64 0)) 5 (.int .u64 m)) 6 (.int .u64 0)) 7 (.int .u64 0)) 8 (.int .u64 0))
 have k4z : (((((((((((x5.setCell ⟨mp, 1, none⟩ (.slice (some ⟨gn, 0, none⟩) (S.length + 1) cn)).setCell ⟨w.heap.size + 1, 0, none⟩ (.bool false)).setCell ⟨w.heap.size + 1, 1, none⟩ (.int .u64 m)).setCell ⟨w.heap.size + 1, 2, none⟩ (.int .u64 0)).setCell ⟨w.heap.size + 1, 3, none⟩ (.int .u64 0)).setCell ⟨w.heap.size + 1, 4, none⟩ (.int .u64 0)).setCell ⟨w.heap.size + 1, 5, none⟩ (.int .u64 m)).setCell ⟨w.heap.size + 1, 6, none⟩ (.int .u64 0)).setCell ⟨w.heap.size + 1, 7, none⟩ (.int .u64 0)).setCell ⟨w.heap.size + 1, 8, none⟩ (.int .u64 0))).heap[w.heap.size + 1]? = some (.cells #[.bool false, .int .u64 m, .int .u64 0, .int .u64 0, .int .u64 0, .int .u64 m, .int .u64 0, .int .u64 0, .int .u64 0] 195 (0, 0)) := (blk_set (blk_set (blk_set (blk_set (blk_set (blk_set (blk_set (blk_set (blk_set S10.out.2.2.1 0 (.bool false)) 1 (.int .u64 m)) 2 (.int .u64 0)) 3 (.int .u64 0)) 4 (.int .u64 0)) 5 (.int .u64 m)) 6 (.int .u64 0)) 7 (.int .u64 0)) 8 (.int .u64 0))
 have sz : w.heap.size + 1 < (x5.setCell ⟨mp, 1, none⟩ (.slice (some ⟨gn, 0, none⟩) (S.length + 1) cn)).heap.size := blk_lt S10.out.2.2.1
 generalize ((((((((((x5.setCell ⟨mp, 1, none⟩ (.slice (some ⟨gn, 0, none⟩) (S.length + 1) cn)).setCell ⟨w.heap.size + 1, 0, none⟩ (.bool false)).setCell ⟨w.heap.size + 1, 1, none⟩ (.int .u64 m)).setCell ⟨w.heap.size + 1, 2, none⟩ (.int .u64 0)).setCell ⟨w.heap.size + 1, 3, none⟩ (.int .u64 0)).setCell ⟨w.heap.size + 1, 4, none⟩ (.int .u64 0)).setCell ⟨w.heap.size + 1, 5, none⟩ (.int .u64 m)).setCell ⟨w.heap.size + 1, 6, none⟩ (.int .u64 0)).setCell ⟨w.heap.size + 1, 7, none⟩ (.int .u64 0)).setCell ⟨w.heap.size + 1, 8, none⟩ (.int .u64 0)) = z at kbz k4z ⊢
 have km1 := blk_set S10.out.1 1 (.slice (some ⟨gn, 0, none⟩) (S.length + 1) cn)
 have o82 := ((OO.out.1.same (Same.grown (t := 82) OO.out.2.1 S10.out.2.2.2.2.1 (by decide))).same (Same.set S10.out.1 (by decide) 1 (.slice (some ⟨gn, 0, none⟩) (S.length + 1) cn))).same (Same.kb kbz S10.out.2.2.1 (by decide))
 have o193 := ((Own1.flat (flatCl 4) S10.out.2.2.2.1).same (Same.set S10.out.1 (by decide) 1 (.slice (some ⟨gn, 0, none⟩) (S.length + 1) cn))).same (Same.kb kbz S10.out.2.2.1 (by decide))
 rw [show List.replicate S.length (setC 0) ++ [setC 0] = List.replicate (S.length + 1) (setC 0) from (List.replicate_succ').symm] at o193
 have bz : Below base w z := ((OO.out.2.2.trans S10.out.2.2.2.2.2).setCell (p := ⟨mp, 1, none⟩) (by exact hb) (.slice (some ⟨gn, 0, none⟩) (S.length + 1) cn)).trans (kb_low kbz (by omega) (by omega))
 have hl : (S ++ [v]).length = S.length + 1 := by simp
 have sw : w.heap.size ≤ (x5.setCell ⟨mp, 1, none⟩ (.slice (some ⟨gn, 0, none⟩) (S.length + 1) cn)).heap.size := by omega
 have IM : IsMk z mp base (S ++ [v]) := ⟨_, cl, _, cn, by rw [hl]; exact kb_blk kbz km1 (by omega), by rw [hl]; exact o82, by rw [hl]; exact o193, hb⟩
 refine bodyPost_ret (results_cell_row rfl _ _ (w.heap.size + 1) 195 #[.bool false, .int .u64 m, .int .u64 0, .int .u64 0, .int .u64 0, .int .u64 m, .int .u64 0, .int .u64 0, .int .u64 0] (0, 0) _ rfl k4z Tryz.underlying195 rfl (by kernel_rfl)) rfl ⟨rfl, IM, bz, fun t h1 h2 h3 g cs fr hc => ?_⟩
 have hlt := blk_lt hc
 exact (kbz.k.2 g (by omega) (by omega) (by simp)).trans ((((hT9.out t h1 h2 h3).trans (Same.grown OO.out.2.1 S10.out.2.2.2.2.1 h3)).trans (Same.set S10.out.1 h1 1 (.slice (some ⟨gn, 0, none⟩) (S.length + 1) cn))) g cs fr hc)
end Go.Proofs.YtkeccgkicffieaaGreatDoor.PTopWider
