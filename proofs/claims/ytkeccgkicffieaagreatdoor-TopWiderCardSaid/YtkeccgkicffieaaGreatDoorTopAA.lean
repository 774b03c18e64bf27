/- The walks of the sets of package auto: or, has, add, meets. Conditions: the sets' places are below 64. -/
import Derived.Test.YtkeccgkicffieaaGreatDoorTopT
import Derived.Test.YtkeccgkicffieaaGreatDoorTopRB
namespace Go.Proofs.YtkeccgkicffieaaGreatDoor.PTopWider
open Go.RowKit Go.Proofs.YtkeccgkicffieaaGreatDoorW.PrintWords Go.Proofs.YtkeccgkicffieaaGreatDoorW.PrintLast Go.Proofs.YtkeccgkicffieaaGreatDoorW.PrintMore
set_option linter.unusedVariables false
set_option linter.unusedSimpArgs false
/-- A set of places below 64, as a value. -/
def setV (x : Int) : Value := .agg #[.int .u64 x, .int .u64 0, .int .u64 0, .int .u64 0]
set_option maxHeartbeats 40000000 in
set_option maxRecDepth 100000 in
theorem has_calls (x i : Int) (w : World) (h0 : 0 ≤ i) (h1 : i < 64) :
  Calls Tryz.prog 64 #[.agg #[.int .u64 x, .int .u64 0, .int .u64 0, .int .u64 0], .int .i64 i] w fun e w' => e = .returned (.bool (Go.bits .and .u64 (x / 2 ^ i.toNat) 1 == 1)) ∧ Below w.heap.size w w' := by
 have q0 : i / 64 = 0 := by omega
 have q1 : i % 64 = i := by omega
 have hba := below_alloc (Below.refl w.heap.size w) (.cells #[.int .u64 x, .int .u64 0, .int .u64 0, .int .u64 0] 193)
 have y0 : (w.alloc (.cells #[.int .u64 x, .int .u64 0, .int .u64 0, .int .u64 0] 193)).cell? ⟨w.heap.size, 0, none⟩ = some (.int .u64 x) := blk_cell (blk_new w _) 0
 go_enter Tryz.func64, Tryz.ntmps64
 go_wp2
 go_ret
 exact ⟨rfl, hba⟩
set_option maxHeartbeats 40000000 in
set_option maxRecDepth 100000 in
theorem or_calls (x y : Int) (w : World) :
  Calls Tryz.prog 63 #[.agg #[.int .u64 x, .int .u64 0, .int .u64 0, .int .u64 0], .agg #[.int .u64 y, .int .u64 0, .int .u64 0, .int .u64 0]] w fun e w' => e = .returned (.agg #[.int .u64 (Go.bits .or .u64 x y), .int .u64 0, .int .u64 0, .int .u64 0]) ∧ Below w.heap.size w w' := by
 have z1 : (w.alloc (.cells #[.int .u64 x, .int .u64 0, .int .u64 0, .int .u64 0] 193)).heap.size = w.heap.size + 1 := by simp
 have z2 : ((w.alloc (.cells #[.int .u64 x, .int .u64 0, .int .u64 0, .int .u64 0] 193)).alloc (.cells #[.int .u64 y, .int .u64 0, .int .u64 0, .int .u64 0] 193)).heap.size = w.heap.size + 1 + 1 := by simp
 have K0 := blk_alloc (blk_alloc (blk_new w (.cells #[.int .u64 x, .int .u64 0, .int .u64 0, .int .u64 0] 193)) (.cells #[.int .u64 y, .int .u64 0, .int .u64 0, .int .u64 0] 193)) (.cells #[.int .u64 0, .int .u64 0, .int .u64 0, .int .u64 0] 193)
 have K1 := blk_alloc (blk_new (w.alloc (.cells #[.int .u64 x, .int .u64 0, .int .u64 0, .int .u64 0] 193)) (.cells #[.int .u64 y, .int .u64 0, .int .u64 0, .int .u64 0] 193)) (.cells #[.int .u64 0, .int .u64 0, .int .u64 0, .int .u64 0] 193)
 have K2 := blk_new ((w.alloc (.cells #[.int .u64 x, .int .u64 0, .int .u64 0, .int .u64 0] 193)).alloc (.cells #[.int .u64 y, .int .u64 0, .int .u64 0, .int .u64 0] 193)) (.cells #[.int .u64 0, .int .u64 0, .int .u64 0, .int .u64 0] 193)
 have hB := below_alloc (below_alloc (below_alloc (Below.refl w.heap.size w) (.cells #[.int .u64 x, .int .u64 0, .int .u64 0, .int .u64 0] 193)) (.cells #[.int .u64 y, .int .u64 0, .int .u64 0, .int .u64 0] 193)) (.cells #[.int .u64 0, .int .u64 0, .int .u64 0, .int .u64 0] 193)
 rw [z1] at K1
 rw [z2] at K2
 clear z1 z2
 have KK0 := Aside0.mk K0
 have KK1 := Aside0.mk K1
 have KK2 := Aside0.mk K2
 have KB0 := Aside0.mk hB
 clear K0 K1 K2 hB
 have hoo : Go.bits .or .u64 0 0 = 0 := by decide
 go_enter Tryz.func63, Tryz.ntmps63
 go_wp2
 generalize (((w.alloc (.cells #[.int .u64 x, .int .u64 0, .int .u64 0, .int .u64 0] 193)).alloc (.cells #[.int .u64 y, .int .u64 0, .int .u64 0, .int .u64 0] 193)).alloc (.cells #[.int .u64 0, .int .u64 0, .int .u64 0, .int .u64 0] 193)) = v0 at KK0 KK1 KK2 KB0 ⊢
 refine wp_loop_rounds 5 ?_
 rw [rounds_succ]
 go_wp2
 refine st 9 v0 [8] fun hHeld => ?_
 generalize v0.drew = u0 at hHeld ⊢
 refine pu 0 (some 9) ?_
 refine pu 1 (some 10) ?_
 refine pu 3 (some 12) ?_
 refine pu 4 (some 13) ?_
 refine take_ (i := 2) (N := some 11) (v := ?_) (a' := ?_) #[true, true, true, true, true, false, false, false, false] rfl rfl (by kernel_rfl) (fun _ _ _ h => h) (Or.inl ⟨by rfl, ?_⟩) hHeld ?_ ?_
 rotate_left
 ·intro w' s_
  have k0 : w'.cell? ⟨w.heap.size, 0, none⟩ = some (.int .u64 (x)) := blk_cell (blk_below KK0.out s_) 0
  go_simp
  try (with_reducible rfl)
 rotate_left
 ·simp only [Act.put, List.setIfInBounds_toArray, List.set_cons_zero, List.set_cons_succ, i64_w, i32_w]
  rfl
 refine take_ (i := 5) (N := some 14) (v := ?_) (a' := ?_) #[true, true, true, true, true, true, false, false, false] rfl rfl (by kernel_rfl) (fun _ _ _ h => h) (Or.inl ⟨by rfl, ?_⟩) hHeld ?_ ?_
 rotate_left
 ·intro w' s_
  have k0 : w'.cell? ⟨w.heap.size + 1, 0, none⟩ = some (.int .u64 (y)) := blk_cell (blk_below KK1.out s_) 0
  go_simp
  try (with_reducible rfl)
 rotate_left
 ·simp only [Act.put, List.setIfInBounds_toArray, List.set_cons_zero, List.set_cons_succ, i64_w, i32_w]
  rfl
 refine pu 6 (some 15) ?_
 refine pu 7 (some 16) ?_
 refine la 8 none fun K hK => ?_
 have y0 : u0.cell? ⟨w.heap.size, 0, none⟩ = some (.int .u64 (x)) := blk_cell (blk_below KK0.out hHeld) 0
 have y1 := blk_frozen (blk_below KK0.out hHeld) 0
 refine skip_ (w1 := ?_) (by rfl) rfl ?_ ?_
 rotate_left
 ·go_simp
  rfl
 refine hK.out _ _ ?_
 clear hK K
 refine done_ (by kernel_rfl) ?_
 have hK0 := blk_set (blk_below KK0.out hHeld) 0 (.int .u64 (Go.bits .or .u64 x y))
 have hK1 := blk_far (blk_below KK1.out hHeld) (p := ⟨w.heap.size, 0, none⟩) (by first | (simp; done) | (simp; omega)) (.int .u64 (Go.bits .or .u64 x y))
 have hK2 := blk_far (blk_below KK2.out hHeld) (p := ⟨w.heap.size, 0, none⟩) (by first | (simp; done) | (simp; omega)) (.int .u64 (Go.bits .or .u64 x y))
 have hKB := (below_step KB0.out hHeld).setCell (p := ⟨w.heap.size, 0, none⟩) (Nat.le_refl _) (.int .u64 (Go.bits .or .u64 x y))
 clear KK0 KK1 KK2 KB0 hHeld y0 y1
 have KK0 := Aside0.mk hK0
 have KK1 := Aside0.mk hK1
 have KK2 := Aside0.mk hK2
 have KB0 := Aside0.mk hKB
 clear hK0 hK1 hK2 hKB
 go_wp2
 generalize u0.setCell ⟨w.heap.size, 0, none⟩ (.int .u64 (Go.bits .or .u64 x y)) = v1 at KK0 KK1 KK2 KB0 ⊢
 rw [rounds_succ]
 go_wp2
 refine st 9 v1 [8] fun hHeld => ?_
 generalize v1.drew = u1 at hHeld ⊢
 refine pu 0 (some 9) ?_
 refine pu 1 (some 10) ?_
 refine pu 3 (some 12) ?_
 refine pu 4 (some 13) ?_
 refine take_ (i := 2) (N := some 11) (v := ?_) (a' := ?_) #[true, true, true, true, true, false, false, false, false] rfl rfl (by kernel_rfl) (fun _ _ _ h => h) (Or.inl ⟨by rfl, ?_⟩) hHeld ?_ ?_
 rotate_left
 ·intro w' s_
  have k0 : w'.cell? ⟨w.heap.size, 1, none⟩ = some (.int .u64 (0)) := blk_cell (blk_below KK0.out s_) 1
  go_simp
  try (with_reducible rfl)
 rotate_left
 ·simp only [Act.put, List.setIfInBounds_toArray, List.set_cons_zero, List.set_cons_succ, i64_w, i32_w]
  rfl
 refine take_ (i := 5) (N := some 14) (v := ?_) (a' := ?_) #[true, true, true, true, true, true, false, false, false] rfl rfl (by kernel_rfl) (fun _ _ _ h => h) (Or.inl ⟨by rfl, ?_⟩) hHeld ?_ ?_
 rotate_left
 ·intro w' s_
  have k0 : w'.cell? ⟨w.heap.size + 1, 1, none⟩ = some (.int .u64 (0)) := blk_cell (blk_below KK1.out s_) 1
  go_simp
  try (with_reducible rfl)
 rotate_left
 ·simp only [Act.put, List.setIfInBounds_toArray, List.set_cons_zero, List.set_cons_succ, i64_w, i32_w]
  rfl
 refine pu 6 (some 15) ?_
 refine pu 7 (some 16) ?_
 refine la 8 none fun K hK => ?_
 have y0 : u1.cell? ⟨w.heap.size, 1, none⟩ = some (.int .u64 (0)) := blk_cell (blk_below KK0.out hHeld) 1
 have y1 := blk_frozen (blk_below KK0.out hHeld) 1
 refine skip_ (w1 := ?_) (by rfl) rfl ?_ ?_
 rotate_left
 ·go_simp
  rfl
 refine hK.out _ _ ?_
 clear hK K
 refine done_ (by kernel_rfl) ?_
 have hK0 := blk_set (blk_below KK0.out hHeld) 1 (.int .u64 (0))
 have hK1 := blk_far (blk_below KK1.out hHeld) (p := ⟨w.heap.size, 1, none⟩) (by first | (simp; done) | (simp; omega)) (.int .u64 (0))
 have hK2 := blk_far (blk_below KK2.out hHeld) (p := ⟨w.heap.size, 1, none⟩) (by first | (simp; done) | (simp; omega)) (.int .u64 (0))
 have hKB := (below_step KB0.out hHeld).setCell (p := ⟨w.heap.size, 1, none⟩) (Nat.le_refl _) (.int .u64 (0))
 clear KK0 KK1 KK2 KB0 hHeld y0 y1
 have KK0 := Aside0.mk hK0
 have KK1 := Aside0.mk hK1
 have KK2 := Aside0.mk hK2
 have KB0 := Aside0.mk hKB
 clear hK0 hK1 hK2 hKB
 go_wp2
 generalize u1.setCell ⟨w.heap.size, 1, none⟩ (.int .u64 (0)) = v2 at KK0 KK1 KK2 KB0 ⊢
 rw [rounds_succ]
 go_wp2
 refine st 9 v2 [8] fun hHeld => ?_
 generalize v2.drew = u2 at hHeld ⊢
 refine pu 0 (some 9) ?_
 refine pu 1 (some 10) ?_
 refine pu 3 (some 12) ?_
 refine pu 4 (some 13) ?_
 refine take_ (i := 2) (N := some 11) (v := ?_) (a' := ?_) #[true, true, true, true, true, false, false, false, false] rfl rfl (by kernel_rfl) (fun _ _ _ h => h) (Or.inl ⟨by rfl, ?_⟩) hHeld ?_ ?_
 rotate_left
 ·intro w' s_
  have k0 : w'.cell? ⟨w.heap.size, 2, none⟩ = some (.int .u64 (0)) := blk_cell (blk_below KK0.out s_) 2
  go_simp
  try (with_reducible rfl)
 rotate_left
 ·simp only [Act.put, List.setIfInBounds_toArray, List.set_cons_zero, List.set_cons_succ, i64_w, i32_w]
  rfl
 refine take_ (i := 5) (N := some 14) (v := ?_) (a' := ?_) #[true, true, true, true, true, true, false, false, false] rfl rfl (by kernel_rfl) (fun _ _ _ h => h) (Or.inl ⟨by rfl, ?_⟩) hHeld ?_ ?_
 rotate_left
 ·intro w' s_
  have k0 : w'.cell? ⟨w.heap.size + 1, 2, none⟩ = some (.int .u64 (0)) := blk_cell (blk_below KK1.out s_) 2
  go_simp
  try (with_reducible rfl)
 rotate_left
 ·simp only [Act.put, List.setIfInBounds_toArray, List.set_cons_zero, List.set_cons_succ, i64_w, i32_w]
  rfl
 refine pu 6 (some 15) ?_
 refine pu 7 (some 16) ?_
 refine la 8 none fun K hK => ?_
 have y0 : u2.cell? ⟨w.heap.size, 2, none⟩ = some (.int .u64 (0)) := blk_cell (blk_below KK0.out hHeld) 2
 have y1 := blk_frozen (blk_below KK0.out hHeld) 2
 refine skip_ (w1 := ?_) (by rfl) rfl ?_ ?_
 rotate_left
 ·go_simp
  rfl
 refine hK.out _ _ ?_
 clear hK K
 refine done_ (by kernel_rfl) ?_
 have hK0 := blk_set (blk_below KK0.out hHeld) 2 (.int .u64 (0))
 have hK1 := blk_far (blk_below KK1.out hHeld) (p := ⟨w.heap.size, 2, none⟩) (by first | (simp; done) | (simp; omega)) (.int .u64 (0))
 have hK2 := blk_far (blk_below KK2.out hHeld) (p := ⟨w.heap.size, 2, none⟩) (by first | (simp; done) | (simp; omega)) (.int .u64 (0))
 have hKB := (below_step KB0.out hHeld).setCell (p := ⟨w.heap.size, 2, none⟩) (Nat.le_refl _) (.int .u64 (0))
 clear KK0 KK1 KK2 KB0 hHeld y0 y1
 have KK0 := Aside0.mk hK0
 have KK1 := Aside0.mk hK1
 have KK2 := Aside0.mk hK2
 have KB0 := Aside0.mk hKB
 clear hK0 hK1 hK2 hKB
 go_wp2
 generalize u2.setCell ⟨w.heap.size, 2, none⟩ (.int .u64 (0)) = v3 at KK0 KK1 KK2 KB0 ⊢
 rw [rounds_succ]
 go_wp2
 refine st 9 v3 [8] fun hHeld => ?_
 generalize v3.drew = u3 at hHeld ⊢
 refine pu 0 (some 9) ?_
 refine pu 1 (some 10) ?_
 refine pu 3 (some 12) ?_
 refine pu 4 (some 13) ?_
 refine take_ (i := 2) (N := some 11) (v := ?_) (a' := ?_) #[true, true, true, true, true, false, false, false, false] rfl rfl (by kernel_rfl) (fun _ _ _ h => h) (Or.inl ⟨by rfl, ?_⟩) hHeld ?_ ?_
 rotate_left
 ·intro w' s_
  have k0 : w'.cell? ⟨w.heap.size, 3, none⟩ = some (.int .u64 (0)) := blk_cell (blk_below KK0.out s_) 3
  go_simp
  try (with_reducible rfl)
 rotate_left
 ·simp only [Act.put, List.setIfInBounds_toArray, List.set_cons_zero, List.set_cons_succ, i64_w, i32_w]
  rfl
 refine take_ (i := 5) (N := some 14) (v := ?_) (a' := ?_) #[true, true, true, true, true, true, false, false, false] rfl rfl (by kernel_rfl) (fun _ _ _ h => h) (Or.inl ⟨by rfl, ?_⟩) hHeld ?_ ?_
 rotate_left
 ·intro w' s_
  have k0 : w'.cell? ⟨w.heap.size + 1, 3, none⟩ = some (.int .u64 (0)) := blk_cell (blk_below KK1.out s_) 3
  go_simp
  try (with_reducible rfl)
 rotate_left
 ·simp only [Act.put, List.setIfInBounds_toArray, List.set_cons_zero, List.set_cons_succ, i64_w, i32_w]
  rfl
 refine pu 6 (some 15) ?_
 refine pu 7 (some 16) ?_
 refine la 8 none fun K hK => ?_
 have y0 : u3.cell? ⟨w.heap.size, 3, none⟩ = some (.int .u64 (0)) := blk_cell (blk_below KK0.out hHeld) 3
 have y1 := blk_frozen (blk_below KK0.out hHeld) 3
 refine skip_ (w1 := ?_) (by rfl) rfl ?_ ?_
 rotate_left
 ·go_simp
  rfl
 refine hK.out _ _ ?_
 clear hK K
 refine done_ (by kernel_rfl) ?_
 have hK0 := blk_set (blk_below KK0.out hHeld) 3 (.int .u64 (0))
 have hK1 := blk_far (blk_below KK1.out hHeld) (p := ⟨w.heap.size, 3, none⟩) (by first | (simp; done) | (simp; omega)) (.int .u64 (0))
 have hK2 := blk_far (blk_below KK2.out hHeld) (p := ⟨w.heap.size, 3, none⟩) (by first | (simp; done) | (simp; omega)) (.int .u64 (0))
 have hKB := (below_step KB0.out hHeld).setCell (p := ⟨w.heap.size, 3, none⟩) (Nat.le_refl _) (.int .u64 (0))
 clear KK0 KK1 KK2 KB0 hHeld y0 y1
 have KK0 := Aside0.mk hK0
 have KK1 := Aside0.mk hK1
 have KK2 := Aside0.mk hK2
 have KB0 := Aside0.mk hKB
 clear hK0 hK1 hK2 hKB
 go_wp2
 generalize u3.setCell ⟨w.heap.size, 3, none⟩ (.int .u64 (0)) = v4 at KK0 KK1 KK2 KB0 ⊢
 rw [rounds_succ]
 have y0 : v4.cell? ⟨w.heap.size, 0, none⟩ = some (.int .u64 (Go.bits .or .u64 x y)) := blk_cell KK0.out 0
 have y1 : v4.cell? ⟨w.heap.size, 1, none⟩ = some (.int .u64 0) := blk_cell KK0.out 1
 have y2 : v4.cell? ⟨w.heap.size, 2, none⟩ = some (.int .u64 0) := blk_cell KK0.out 2
 have y3 : v4.cell? ⟨w.heap.size, 3, none⟩ = some (.int .u64 0) := blk_cell KK0.out 3
 have t0 : v4.cell? ⟨w.heap.size + 1 + 1, 0, none⟩ = some (.int .u64 0) := blk_cell KK2.out 0
 have t1 : v4.cell? ⟨w.heap.size + 1 + 1, 1, none⟩ = some (.int .u64 0) := blk_cell KK2.out 1
 have t2 : v4.cell? ⟨w.heap.size + 1 + 1, 2, none⟩ = some (.int .u64 0) := blk_cell KK2.out 2
 have t3 : v4.cell? ⟨w.heap.size + 1 + 1, 3, none⟩ = some (.int .u64 0) := blk_cell KK2.out 3
 have s0 := blk_frozen KK2.out 0
 have s1 := blk_frozen KK2.out 1
 have s2 := blk_frozen KK2.out 2
 have s3 := blk_frozen KK2.out 3
 have KZ := Aside0.mk (blk_set (blk_set (blk_set (blk_set KK2.out 0 (.int .u64 (Go.bits .or .u64 x y))) 1 (.int .u64 0)) 2 (.int .u64 0)) 3 (.int .u64 0))
 have BZ := Aside0.mk ((((KB0.out.setCell (p := ⟨w.heap.size + 1 + 1, 0, none⟩) (by simp; omega) (.int .u64 (Go.bits .or .u64 x y))).setCell (p := ⟨w.heap.size + 1 + 1, 1, none⟩) (by simp; omega) (.int .u64 0)).setCell (p := ⟨w.heap.size + 1 + 1, 2, none⟩) (by simp; omega) (.int .u64 0)).setCell (p := ⟨w.heap.size + 1 + 1, 3, none⟩) (by simp; omega) (.int .u64 0))
 clear KK0 KK1 KK2 KB0
 go_wp2
 refine bodyPost_ret (results_cell_row rfl _ _ (w.heap.size + 1 + 1) 193 #[.int .u64 (Go.bits .or .u64 x y), .int .u64 0, .int .u64 0, .int .u64 0] (0, 0) _ rfl KZ.out Tryz.underlying193 rfl (by kernel_rfl)) rfl ⟨rfl, BZ.out⟩
/-- A place more. -/
def addF (x i : Int) : Int := Go.bits .or .u64 x (IntKind.u64.wrap (2 ^ i.toNat))
set_option maxHeartbeats 40000000 in
set_option maxRecDepth 100000 in
theorem add_calls (b o : Nat) (x i : Int) (w : World) (h0 : 0 ≤ i) (h1 : i < 64) (hc : w.cell? ⟨b, o, none⟩ = some (.int .u64 x)) (hf : w.frozen? ⟨b, o, none⟩ = false) (hb : b < w.heap.size) :
  Calls Tryz.prog 66 #[.pointer (some ⟨b, o, none⟩), .int .i64 i] w fun e w' => e = .returned (.tuple #[]) ∧ ∃ w1, Below w.heap.size w w1 ∧ w' = w1.setCell ⟨b, o, none⟩ (.int .u64 (addF x i)) := by
 have q0 : i / 64 = 0 := by omega
 have q1 : i % 64 = i := by omega
 have q4 : i.tdiv 64 = 0 := Int.tdiv_eq_zero_of_lt h0 h1
 have q3 : i.tmod 64 = i := Int.tmod_eq_of_lt h0 h1
 have q5 : wrap64 (i.tdiv 64) = 0 := by rw [q4]; unfold wrap64; omega
 have q6 : IntKind.i64.wrap (i.tdiv 64) = 0 := by rw [q4]; rfl
 have q7 : IntKind.i64.wrap 0 = 0 := rfl
 have HC := Aside0.mk hc
 clear hc
 go_enter Tryz.func66, Tryz.ntmps66
 go_wp2
 refine st 13 w [12] fun hHeld => ?_
 generalize w.drew = w1 at hHeld ⊢
 refine pu 0 (some 4) ?_
 refine pu 1 (some 5) ?_
 refine pu 2 (some 6) ?_
 refine pu 3 (some 7) ?_
 refine pu 4 (some 8) ?_
 refine pu 6 (some 10) ?_
 refine pu 7 (some 11) ?_
 refine pu 8 (some 12) ?_
 refine pu 10 (some 14) ?_
 refine ta 5 (some 9) (fun _ s => pw_cell_below s HC.out) hHeld ?_
 refine pu 9 (some 13) ?_
 refine pu 11 (some 15) ?_
 refine la 12 none fun K hK => ?_
 have y0 := pw_cell_below hHeld HC.out
 have y1 : w1.frozen? ⟨b, o, none⟩ = false := (hHeld.frozen (p := ⟨b, o, none⟩) hb).trans hf
 refine skip_ (w1 := ?_) (by rfl) rfl ?_ ?_
 rotate_left
 ·go_simp
  rfl
 refine hK.out _ _ ?_
 clear hK K
 refine done_ (by kernel_rfl) ?_
 go_end0
 exact ⟨rfl, w1, hHeld, rfl⟩
set_option maxHeartbeats 40000000 in
set_option maxRecDepth 100000 in
theorem meets_yes (x y : Int) (w : World) (h : (Go.bits .and .u64 x y != 0) = true) :
  Calls Tryz.prog 65 #[.agg #[.int .u64 x, .int .u64 0, .int .u64 0, .int .u64 0], .agg #[.int .u64 y, .int .u64 0, .int .u64 0, .int .u64 0]] w fun e w' => e = .returned (.bool true) ∧ Below w.heap.size w w' := by
 have z1 : (w.alloc (.cells #[.int .u64 x, .int .u64 0, .int .u64 0, .int .u64 0] 193)).heap.size = w.heap.size + 1 := by simp
 have K0 := blk_alloc (blk_new w (.cells #[.int .u64 x, .int .u64 0, .int .u64 0, .int .u64 0] 193)) (.cells #[.int .u64 y, .int .u64 0, .int .u64 0, .int .u64 0] 193)
 have K1 := blk_new (w.alloc (.cells #[.int .u64 x, .int .u64 0, .int .u64 0, .int .u64 0] 193)) (.cells #[.int .u64 y, .int .u64 0, .int .u64 0, .int .u64 0] 193)
 have hB := below_alloc (below_alloc (Below.refl w.heap.size w) (.cells #[.int .u64 x, .int .u64 0, .int .u64 0, .int .u64 0] 193)) (.cells #[.int .u64 y, .int .u64 0, .int .u64 0, .int .u64 0] 193)
 rw [z1] at K1
 clear z1
 have KK0 := Aside0.mk K0
 have KK1 := Aside0.mk K1
 have KB0 := Aside0.mk hB
 clear K0 K1 hB
 have haa : Go.bits .and .u64 0 0 = 0 := by decide
 go_enter Tryz.func65, Tryz.ntmps65
 go_wp2
 generalize ((w.alloc (.cells #[.int .u64 x, .int .u64 0, .int .u64 0, .int .u64 0] 193)).alloc (.cells #[.int .u64 y, .int .u64 0, .int .u64 0, .int .u64 0] 193)) = v0 at KK0 KK1 KB0 ⊢
 refine wp_loop_rounds 5 ?_
 rw [rounds_succ]
 go_wp2
 refine st 8 v0 [] fun hHeld => ?_
 generalize v0.drew = v1 at hHeld ⊢
 refine pu 0 (some 9) ?_
 refine pu 1 (some 10) ?_
 refine pu 3 (some 12) ?_
 refine pu 4 (some 13) ?_
 refine take_ (i := 2) (N := some 11) (v := ?_) (a' := ?_) #[true, true, true, true, true, false, false, false] rfl rfl (by kernel_rfl) (fun _ _ _ h => h) (Or.inl ⟨by rfl, ?_⟩) hHeld ?_ ?_
 rotate_left
 ·intro w' s_
  have k0 : w'.cell? ⟨w.heap.size, 0, none⟩ = some (.int .u64 x) := blk_cell (blk_below KK0.out s_) 0
  go_simp
  try (with_reducible rfl)
 rotate_left
 ·simp only [Act.put, List.setIfInBounds_toArray, List.set_cons_zero, List.set_cons_succ, i64_w, i32_w]
  rfl
 refine take_ (i := 5) (N := some 14) (v := ?_) (a' := ?_) #[true, true, true, true, true, true, false, false] rfl rfl (by kernel_rfl) (fun _ _ _ h => h) (Or.inl ⟨by rfl, ?_⟩) hHeld ?_ ?_
 rotate_left
 ·intro w' s_
  have k0 : w'.cell? ⟨w.heap.size + 1, 0, none⟩ = some (.int .u64 y) := blk_cell (blk_below KK1.out s_) 0
  go_simp
  try (with_reducible rfl)
 rotate_left
 ·simp only [Act.put, List.setIfInBounds_toArray, List.set_cons_zero, List.set_cons_succ, i64_w, i32_w]
  rfl
 refine pu 6 (some 15) ?_
 refine pu 7 (some 16) ?_
 refine done_ (by kernel_rfl) ?_
 have hK0 := blk_below KK0.out hHeld
 have hK1 := blk_below KK1.out hHeld
 have hKB := below_step KB0.out hHeld
 clear KK0 KK1 KB0 hHeld
 have KK0 := Aside0.mk hK0
 have KK1 := Aside0.mk hK1
 have KB0 := Aside0.mk hKB
 clear hK0 hK1 hKB
 go_wp2
 go_ret
 exact ⟨rfl, KB0.out⟩
set_option maxHeartbeats 40000000 in
set_option maxRecDepth 100000 in
theorem meets_no (x y : Int) (w : World) (h : (Go.bits .and .u64 x y != 0) = false) :
  Calls Tryz.prog 65 #[.agg #[.int .u64 x, .int .u64 0, .int .u64 0, .int .u64 0], .agg #[.int .u64 y, .int .u64 0, .int .u64 0, .int .u64 0]] w fun e w' => e = .returned (.bool false) ∧ Below w.heap.size w w' := by
 have z1 : (w.alloc (.cells #[.int .u64 x, .int .u64 0, .int .u64 0, .int .u64 0] 193)).heap.size = w.heap.size + 1 := by simp
 have K0 := blk_alloc (blk_new w (.cells #[.int .u64 x, .int .u64 0, .int .u64 0, .int .u64 0] 193)) (.cells #[.int .u64 y, .int .u64 0, .int .u64 0, .int .u64 0] 193)
 have K1 := blk_new (w.alloc (.cells #[.int .u64 x, .int .u64 0, .int .u64 0, .int .u64 0] 193)) (.cells #[.int .u64 y, .int .u64 0, .int .u64 0, .int .u64 0] 193)
 have hB := below_alloc (below_alloc (Below.refl w.heap.size w) (.cells #[.int .u64 x, .int .u64 0, .int .u64 0, .int .u64 0] 193)) (.cells #[.int .u64 y, .int .u64 0, .int .u64 0, .int .u64 0] 193)
 rw [z1] at K1
 clear z1
 have KK0 := Aside0.mk K0
 have KK1 := Aside0.mk K1
 have KB0 := Aside0.mk hB
 clear K0 K1 hB
 have haa : Go.bits .and .u64 0 0 = 0 := by decide
 go_enter Tryz.func65, Tryz.ntmps65
 go_wp2
 generalize ((w.alloc (.cells #[.int .u64 x, .int .u64 0, .int .u64 0, .int .u64 0] 193)).alloc (.cells #[.int .u64 y, .int .u64 0, .int .u64 0, .int .u64 0] 193)) = v0 at KK0 KK1 KB0 ⊢
 refine wp_loop_rounds 5 ?_
 rw [rounds_succ]
 go_wp2
 refine st 8 v0 [] fun hHeld => ?_
 generalize v0.drew = v1 at hHeld ⊢
 refine pu 0 (some 9) ?_
 refine pu 1 (some 10) ?_
 refine pu 3 (some 12) ?_
 refine pu 4 (some 13) ?_
 refine take_ (i := 2) (N := some 11) (v := ?_) (a' := ?_) #[true, true, true, true, true, false, false, false] rfl rfl (by kernel_rfl) (fun _ _ _ h => h) (Or.inl ⟨by rfl, ?_⟩) hHeld ?_ ?_
 rotate_left
 ·intro w' s_
  have k0 : w'.cell? ⟨w.heap.size, 0, none⟩ = some (.int .u64 x) := blk_cell (blk_below KK0.out s_) 0
  go_simp
  try (with_reducible rfl)
 rotate_left
 ·simp only [Act.put, List.setIfInBounds_toArray, List.set_cons_zero, List.set_cons_succ, i64_w, i32_w]
  rfl
 refine take_ (i := 5) (N := some 14) (v := ?_) (a' := ?_) #[true, true, true, true, true, true, false, false] rfl rfl (by kernel_rfl) (fun _ _ _ h => h) (Or.inl ⟨by rfl, ?_⟩) hHeld ?_ ?_
 rotate_left
 ·intro w' s_
  have k0 : w'.cell? ⟨w.heap.size + 1, 0, none⟩ = some (.int .u64 y) := blk_cell (blk_below KK1.out s_) 0
  go_simp
  try (with_reducible rfl)
 rotate_left
 ·simp only [Act.put, List.setIfInBounds_toArray, List.set_cons_zero, List.set_cons_succ, i64_w, i32_w]
  rfl
 refine pu 6 (some 15) ?_
 refine pu 7 (some 16) ?_
 refine done_ (by kernel_rfl) ?_
 have hK0 := blk_below KK0.out hHeld
 have hK1 := blk_below KK1.out hHeld
 have hKB := below_step KB0.out hHeld
 clear KK0 KK1 KB0 hHeld
 have KK0 := Aside0.mk hK0
 have KK1 := Aside0.mk hK1
 have KB0 := Aside0.mk hKB
 clear hK0 hK1 hKB
 go_wp2
 rw [rounds_succ]
 go_wp2
 refine st 8 v1 [] fun hHeld => ?_
 generalize v1.drew = v2 at hHeld ⊢
 refine pu 0 (some 9) ?_
 refine pu 1 (some 10) ?_
 refine pu 3 (some 12) ?_
 refine pu 4 (some 13) ?_
 refine take_ (i := 2) (N := some 11) (v := ?_) (a' := ?_) #[true, true, true, true, true, false, false, false] rfl rfl (by kernel_rfl) (fun _ _ _ h => h) (Or.inl ⟨by rfl, ?_⟩) hHeld ?_ ?_
 rotate_left
 ·intro w' s_
  have k0 : w'.cell? ⟨w.heap.size, 1, none⟩ = some (.int .u64 0) := blk_cell (blk_below KK0.out s_) 1
  go_simp
  try (with_reducible rfl)
 rotate_left
 ·simp only [Act.put, List.setIfInBounds_toArray, List.set_cons_zero, List.set_cons_succ, i64_w, i32_w]
  rfl
 refine take_ (i := 5) (N := some 14) (v := ?_) (a' := ?_) #[true, true, true, true, true, true, false, false] rfl rfl (by kernel_rfl) (fun _ _ _ h => h) (Or.inl ⟨by rfl, ?_⟩) hHeld ?_ ?_
 rotate_left
 ·intro w' s_
  have k0 : w'.cell? ⟨w.heap.size + 1, 1, none⟩ = some (.int .u64 0) := blk_cell (blk_below KK1.out s_) 1
  go_simp
  try (with_reducible rfl)
 rotate_left
 ·simp only [Act.put, List.setIfInBounds_toArray, List.set_cons_zero, List.set_cons_succ, i64_w, i32_w]
  rfl
 refine pu 6 (some 15) ?_
 refine pu 7 (some 16) ?_
 refine done_ (by kernel_rfl) ?_
 have hK0 := blk_below KK0.out hHeld
 have hK1 := blk_below KK1.out hHeld
 have hKB := below_step KB0.out hHeld
 clear KK0 KK1 KB0 hHeld
 have KK0 := Aside0.mk hK0
 have KK1 := Aside0.mk hK1
 have KB0 := Aside0.mk hKB
 clear hK0 hK1 hKB
 go_wp2
 rw [rounds_succ]
 go_wp2
 refine st 8 v2 [] fun hHeld => ?_
 generalize v2.drew = v3 at hHeld ⊢
 refine pu 0 (some 9) ?_
 refine pu 1 (some 10) ?_
 refine pu 3 (some 12) ?_
 refine pu 4 (some 13) ?_
 refine take_ (i := 2) (N := some 11) (v := ?_) (a' := ?_) #[true, true, true, true, true, false, false, false] rfl rfl (by kernel_rfl) (fun _ _ _ h => h) (Or.inl ⟨by rfl, ?_⟩) hHeld ?_ ?_
 rotate_left
 ·intro w' s_
  have k0 : w'.cell? ⟨w.heap.size, 2, none⟩ = some (.int .u64 0) := blk_cell (blk_below KK0.out s_) 2
  go_simp
  try (with_reducible rfl)
 rotate_left
 ·simp only [Act.put, List.setIfInBounds_toArray, List.set_cons_zero, List.set_cons_succ, i64_w, i32_w]
  rfl
 refine take_ (i := 5) (N := some 14) (v := ?_) (a' := ?_) #[true, true, true, true, true, true, false, false] rfl rfl (by kernel_rfl) (fun _ _ _ h => h) (Or.inl ⟨by rfl, ?_⟩) hHeld ?_ ?_
 rotate_left
 ·intro w' s_
  have k0 : w'.cell? ⟨w.heap.size + 1, 2, none⟩ = some (.int .u64 0) := blk_cell (blk_below KK1.out s_) 2
  go_simp
  try (with_reducible rfl)
 rotate_left
 ·simp only [Act.put, List.setIfInBounds_toArray, List.set_cons_zero, List.set_cons_succ, i64_w, i32_w]
  rfl
 refine pu 6 (some 15) ?_
 refine pu 7 (some 16) ?_
 refine done_ (by kernel_rfl) ?_
 have hK0 := blk_below KK0.out hHeld
 have hK1 := blk_below KK1.out hHeld
 have hKB := below_step KB0.out hHeld
 clear KK0 KK1 KB0 hHeld
 have KK0 := Aside0.mk hK0
 have KK1 := Aside0.mk hK1
 have KB0 := Aside0.mk hKB
 clear hK0 hK1 hKB
 go_wp2
 rw [rounds_succ]
 go_wp2
 refine st 8 v3 [] fun hHeld => ?_
 generalize v3.drew = v4 at hHeld ⊢
 refine pu 0 (some 9) ?_
 refine pu 1 (some 10) ?_
 refine pu 3 (some 12) ?_
 refine pu 4 (some 13) ?_
 refine take_ (i := 2) (N := some 11) (v := ?_) (a' := ?_) #[true, true, true, true, true, false, false, false] rfl rfl (by kernel_rfl) (fun _ _ _ h => h) (Or.inl ⟨by rfl, ?_⟩) hHeld ?_ ?_
 rotate_left
 ·intro w' s_
  have k0 : w'.cell? ⟨w.heap.size, 3, none⟩ = some (.int .u64 0) := blk_cell (blk_below KK0.out s_) 3
  go_simp
  try (with_reducible rfl)
 rotate_left
 ·simp only [Act.put, List.setIfInBounds_toArray, List.set_cons_zero, List.set_cons_succ, i64_w, i32_w]
  rfl
 refine take_ (i := 5) (N := some 14) (v := ?_) (a' := ?_) #[true, true, true, true, true, true, false, false] rfl rfl (by kernel_rfl) (fun _ _ _ h => h) (Or.inl ⟨by rfl, ?_⟩) hHeld ?_ ?_
 rotate_left
 ·intro w' s_
  have k0 : w'.cell? ⟨w.heap.size + 1, 3, none⟩ = some (.int .u64 0) := blk_cell (blk_below KK1.out s_) 3
  go_simp
  try (with_reducible rfl)
 rotate_left
 ·simp only [Act.put, List.setIfInBounds_toArray, List.set_cons_zero, List.set_cons_succ, i64_w, i32_w]
  rfl
 refine pu 6 (some 15) ?_
 refine pu 7 (some 16) ?_
 refine done_ (by kernel_rfl) ?_
 have hK0 := blk_below KK0.out hHeld
 have hK1 := blk_below KK1.out hHeld
 have hKB := below_step KB0.out hHeld
 clear KK0 KK1 KB0 hHeld
 have KK0 := Aside0.mk hK0
 have KK1 := Aside0.mk hK1
 have KB0 := Aside0.mk hKB
 clear hK0 hK1 hKB
 go_wp2
 rw [rounds_succ]
 go_wp2
 go_ret
 exact ⟨rfl, KB0.out⟩
theorem meets_calls (x y : Int) (w : World) :
  Calls Tryz.prog 65 #[.agg #[.int .u64 x, .int .u64 0, .int .u64 0, .int .u64 0], .agg #[.int .u64 y, .int .u64 0, .int .u64 0, .int .u64 0]] w fun e w' => e = .returned (.bool (Go.bits .and .u64 x y != 0)) ∧ Below w.heap.size w w' := by
 cases h : (Go.bits .and .u64 x y != 0) with
 | true => exact meets_yes x y w h
 | false => exact meets_no x y w h
end Go.Proofs.YtkeccgkicffieaaGreatDoor.PTopWider
