/- The walk of the statement EditChecks: it answers true. Conditions: numbers of their kind, a row that can be read. -/
import Derived.Test.YtjgahpcmojnfcaaOwnC
namespace Go.Proofs.Ytjgahpcmojnfcaa.PEditSplices
open Go.RowKit Go.Proofs.YtjgahpcmojnfcaaW.PrintWords Go.Proofs.YtjgahpcmojnfcaaW.PrintLast Go.Proofs.YtjgahpcmojnfcaaW.PrintMore
open Go.Proofs.Ytjgahpcmojnfcaa.Plain (chk spl check_f ref_edit_f chk_ok chk_num)
set_option linter.unusedVariables false
set_option linter.unusedSimpArgs false

theorem ref_edit_calls (n a d : Int) (A : Option Addr) (c : Nat) (l : List Int) (w : World) (h : Kd.C (Kd.int .u8) w A l.length l) (hc : l.length ≤ c) (hl : l.length < 4611686018427387904) (h0 : 0 ≤ n) (h1 : n < 4611686018427387904) :
    Calls Try.prog 11 #[.int .i64 n, .agg #[.int .i64 a, .int .i64 d, .slice A l.length c]] w fun e w' => e = .returned (.int .i64 (chk n a d l.length)) ∧ Below w.heap.size w w' :=
  stanzaref19_Edit.calls 1 n a d A c l _ w h hc (ref_edit_f 1 n a d l (Nat.le_refl _) h0 h1 hl)

set_option maxHeartbeats 4000000 in
set_option maxRecDepth 100000 in
theorem checks_calls (n a d : Int) (A : Option Addr) (c : Nat) (l : List Int) (w : World) (_ : (Lit.int .i64 n).wf = true) (h : Kd.C (Kd.int .u8) w A l.length l) (hc : l.length ≤ c) :
    Calls Try.prog 3 #[.int .i64 n, .agg #[.int .i64 a, .int .i64 d, .slice A l.length c]] w fun e w' => e = .returned (.bool true) ∧ Below w.heap.size w w' := by
  by_cases g : n < 0 ∨ 2147483647 < n ∨ 1048576 < (l.length : Int)
  · by_cases g1 : n < 0
    · go_enter Try.func3, Try.ntmps3
      go_wp2_with fail
      refine (awake_calls _).mono ?_
      rintro e w1 ⟨rfl, hb1⟩
      obtain ⟨k0, k1, k2⟩ := box_cells _ _ _ hb1
      go_wp2
      go_ret
      exact ⟨rfl, below_step (below_alloc (Below.refl _ _) _) hb1⟩
    · by_cases g2 : 2147483647 < n
      · go_enter Try.func3, Try.ntmps3
        go_wp2_with fail
        refine (awake_calls _).mono ?_
        rintro e w1 ⟨rfl, hb1⟩
        obtain ⟨k0, k1, k2⟩ := box_cells _ _ _ hb1
        go_wp2
        go_ret
        exact ⟨rfl, below_step (below_alloc (Below.refl _ _) _) hb1⟩
      · have g3 : 1048576 < l.length := by omega
        clear g
        go_enter Try.func3, Try.ntmps3
        go_wp2_with fail
        refine (awake_calls _).mono ?_
        rintro e w1 ⟨rfl, hb1⟩
        obtain ⟨k0, k1, k2⟩ := box_cells _ _ _ hb1
        go_wp2
        go_ret
        exact ⟨rfl, below_step (below_alloc (Below.refl _ _) _) hb1⟩
  · have g1 : ¬ n < 0 := by omega
    have g2 : ¬ 2147483647 < n := by omega
    have g3 : ¬ 1048576 < l.length := by omega
    have hck := chk_num n a d l.length
    clear g
    go_enter Try.func3, Try.ntmps3
    go_wp2_with fail
    refine (awake_calls _).mono ?_
    rintro e w1 ⟨rfl, hb1⟩
    obtain ⟨k0, k1, k2⟩ := box_cells _ _ _ hb1
    go_wp2_with fail
    have HX := Aside0.mk (And.intro k0 (And.intro k1 k2))
    have HB := Aside0.mk (below_step (below_alloc (Below.refl w.heap.size w) _) hb1)
    have HI := Aside0.mk h
    have hC := fun (W : World) (hb : Below w.heap.size w W) => check_calls n a d A c l W (Kd.C_below h hb) hc (by omega) g1 (by omega)
    have hE := fun (W : World) (hb : Below w.heap.size w W) => ref_edit_calls n a d A c l W (Kd.C_below h hb) hc (by omega) g1 (by omega)
    generalize chk n a d l.length = x at hC hE
    have hC := Aside0.mk hC
    have hE := Aside0.mk hE
    clear k0 k1 k2 hb1 h hck
    try go_wp2
    have n0_ := Aside0.mk (below_drew1 HB.out)
    have n1_ := Aside0.mk (cells_on (below_drew1 (Below.refl w1.heap.size w1)) HX.out)
    clear HB HX
    have HB := n0_
    have HX := n1_
    clear n0_ n1_
    refine start_ (n := 8) (S := fun w' => w'.cell? ⟨w.heap.size, 0, none⟩ = some (.int .i64 a) ∧ w'.cell? ⟨w.heap.size, 1, none⟩ = some (.int .i64 d) ∧ w'.cell? ⟨w.heap.size, 2, none⟩ = some (.slice A l.length c)) (ds := []) #[false, false, false, false, false, false, false, false] (by kernel_rfl) rfl rfl HX.out (fun hHeld => ?_)
    clear HX
    generalize w1.drew = w5 at HB hHeld ⊢
    refine pure_ (i := 0) (N := some 19) (v := ?_) (a' := ?_) #[true, false, false, false, false, false, false, false] rfl rfl (by kernel_rfl) (fun _ _ _ h => h) (Or.inl ⟨by rfl, ?_⟩) ?_ ?_
    rotate_left
    · intro w'
      go_simp
      try (with_reducible rfl)
    rotate_left
    · simp only [Act.put, List.setIfInBounds_toArray, List.set_cons_zero, List.set_cons_succ, i64_w, i32_w]
      rfl
    refine pure_ (i := 3) (N := some 22) (v := ?_) (a' := ?_) #[true, false, false, true, false, false, false, false] rfl rfl (by kernel_rfl) (fun _ _ _ h => h) (Or.inl ⟨by rfl, ?_⟩) ?_ ?_
    rotate_left
    · intro w'
      go_simp
      try (with_reducible rfl)
    rotate_left
    · simp only [Act.put, List.setIfInBounds_toArray, List.set_cons_zero, List.set_cons_succ, i64_w, i32_w]
      rfl
    refine take_ (i := 1) (N := some 20) (v := ?_) (a' := ?_) #[true, true, false, true, false, false, false, false] rfl rfl (by kernel_rfl) (fun _ _ _ h => h) (Or.inl ⟨by rfl, ?_⟩) hHeld ?_ ?_
    rotate_left
    · rintro w' ⟨s0, s1, s2⟩
      go_simp
      try (with_reducible rfl)
    rotate_left
    · simp only [Act.put, List.setIfInBounds_toArray, List.set_cons_zero, List.set_cons_succ, i64_w, i32_w]
      rfl
    refine take_ (i := 4) (N := some 23) (v := ?_) (a' := ?_) #[true, true, false, true, true, false, false, false] rfl rfl (by kernel_rfl) (fun _ _ _ h => h) (Or.inl ⟨by rfl, ?_⟩) hHeld ?_ ?_
    rotate_left
    · rintro w' ⟨s0, s1, s2⟩
      go_simp
      try (with_reducible rfl)
    rotate_left
    · simp only [Act.put, List.setIfInBounds_toArray, List.set_cons_zero, List.set_cons_succ, i64_w, i32_w]
      rfl
    refine one_ (i := 2) (N := some 21) #[true, true, true, true, true, false, false, false] rfl rfl (by kernel_rfl) (by decide) (fun K hK => ?_)
    refine goes_ Try.func10 (by kernel_rfl) rfl #[.int .i64 n, .agg #[.int .i64 a, .int .i64 d, .slice A l.length c]] (by rfl) rfl rfl (by (try simp only [List.map_toArray, List.map_cons, List.map_nil]); first | done | rfl) ?_
    with_reducible refine (hC.out _ HB.out).mono ?_
    rintro e w_ ⟨rfl, hb⟩
    refine ⟨_, rfl, ?_⟩
    have n0_ := Aside0.mk (below_step HB.out hb)
    have hS := cells_on hb hHeld
    clear HB hb hHeld
    have HB := n0_
    clear n0_
    refine hK.out _ _ hS (fun hHeld => ?_)
    clear hK K
    refine norm_ (a' := ?_) ?_ ?_
    rotate_left
    · show Act.put _ (some 21) _ = _
      simp only [Act.put, List.setIfInBounds_toArray, List.set_cons_zero, List.set_cons_succ, i64_w, i32_w]
      rfl
    clear hS
    refine one_ (i := 5) (N := some 24) #[true, true, true, true, true, true, false, false] rfl rfl (by kernel_rfl) (by decide) (fun K hK => ?_)
    refine goes_ Try.func11 (by kernel_rfl) rfl #[.int .i64 n, .agg #[.int .i64 a, .int .i64 d, .slice A l.length c]] (by rfl) rfl rfl (by (try simp only [List.map_toArray, List.map_cons, List.map_nil]); first | done | rfl) ?_
    with_reducible refine (hE.out _ HB.out).mono ?_
    rintro e w_ ⟨rfl, hb⟩
    refine ⟨_, rfl, ?_⟩
    have n0_ := Aside0.mk (below_step HB.out hb)
    have hS := cells_on hb hHeld
    clear HB hb hHeld
    have HB := n0_
    clear n0_
    refine hK.out _ _ hS (fun hHeld => ?_)
    clear hK K
    refine norm_ (a' := ?_) ?_ ?_
    rotate_left
    · show Act.put _ (some 24) _ = _
      simp only [Act.put, List.setIfInBounds_toArray, List.set_cons_zero, List.set_cons_succ, i64_w, i32_w]
      rfl
    clear hS
    refine pure_ (i := 6) (N := some 25) (v := ?_) (a' := ?_) #[true, true, true, true, true, true, true, false] rfl rfl (by kernel_rfl) (fun _ _ _ h => h) (Or.inl ⟨by rfl, ?_⟩) ?_ ?_
    rotate_left
    · intro w'
      go_simp
      try (with_reducible rfl)
    rotate_left
    · simp only [Act.put, List.setIfInBounds_toArray, List.set_cons_zero, List.set_cons_succ, i64_w, i32_w]
      rfl
    refine pure_ (i := 7) (N := some 4) (v := ?_) (a' := ?_) #[true, true, true, true, true, true, true, true] rfl rfl (by kernel_rfl) (fun _ _ _ h => h) (Or.inl ⟨by rfl, ?_⟩) ?_ ?_
    rotate_left
    · intro w'
      go_simp
      try (with_reducible rfl)
    rotate_left
    · simp only [Act.put, List.setIfInBounds_toArray, List.set_cons_zero, List.set_cons_succ, i64_w, i32_w]
      rfl
    refine done_ (by kernel_rfl) ?_
    try go_wp2
    go_ret
    exact ⟨by simp, HB.out⟩
end Go.Proofs.Ytjgahpcmojnfcaa.PEditSplices
