/- The walk of the statement ScalCuts: the Go call answers what the Lean function stanzalaw01_ScalCuts.f tells. Conditions: none. -/
import Derived.Test.YtdbcgeebcnlbaaaOwnB
namespace Go.Proofs.Ytdbcgeebcnlbaaa.PScalAll
open Go.RowKit Go.Proofs.YtdbcgeebcnlbaaaW.PrintWords Go.Proofs.YtdbcgeebcnlbaaaW.PrintLast Go.Proofs.YtdbcgeebcnlbaaaW.PrintMore
attribute [local go_sem] max2_int min2_int max_two min_two max_three min_three max_four min_four   -- for this text's walks alone
set_option linter.unusedVariables false
set_option linter.unusedSimpArgs false
attribute [local go_sem high] eqA29

/-! ### stanzalaw01_ScalCuts: function 5 -/
mutual
def stanzalaw01_ScalCuts.j0 : Nat → List Int → List (S29) → Int → Option (Bool)
  | 0, _, _, _ => none
  | k + 1, x0, x5, x7 => if 0 ≤ x7 then (if x7 ≤ (x0.length : Int) then ((scal_All.f k (x0.take (x7 : Int).toNat)).bind fun t147 => ((scal_All.f k (x0.drop (x7 : Int).toNat)).bind fun t151 => (stanzalaw01_ScalCuts.l0 k x5 x7 t147 t151 (t151.length : Int) 0))) else (none)) else (none)
def stanzalaw01_ScalCuts.l0 : Nat → List (S29) → Int → List (S29) → List (S29) → Int → Int → Option (Bool)
  | 0, _, _, _, _, _, _ => none
  | k + 1, x5, x7, x8, x9, x46, x47 => if x47 < x46 then (if 0 ≤ x47 then (if x47 < (x9.length : Int) then (stanzalaw01_ScalCuts.l0 k x5 x7 x8 (x9.set (x47 : Int).toNat (⟨(rd_T29 x9 x47).f0, wrap64 (((rd_T29 x9 x47).f1) + x7), (rd_T29 x9 x47).f2⟩ : S29)) x46 (wrap64 (x47 + 1))) else (none)) else (none)) else (if x8.length + x9.length < 5864062014805 then ((stanzaref01_SameSigns.f k (x8 ++ x9) x5).bind fun t159 => (some t159)) else (none))
end
def stanzalaw01_ScalCuts.f (k : Nat) (l0 : List Int) (a1 : Int) : Option (Bool) := (stanzalaw01_Awake.f k).bind fun t141 => (if t141 = true then (if (l0.length : Int) > 3000 then (some true) else ((scal_All.f k l0).bind fun t142 => (if (IntKind.u64.wrap (wrap64 ((t142.length : Int) + 1))) = 0 then (none) else (if (wrap64 (Int.tmod (IntKind.u64.wrap (a1)) (IntKind.u64.wrap (wrap64 ((t142.length : Int) + 1))))) < (t142.length : Int) then (if 0 ≤ (wrap64 (Int.tmod (IntKind.u64.wrap (a1)) (IntKind.u64.wrap (wrap64 ((t142.length : Int) + 1))))) then (stanzalaw01_ScalCuts.j0 k l0 t142 ((rd_T29 t142 (wrap64 (Int.tmod (IntKind.u64.wrap (a1)) (IntKind.u64.wrap (wrap64 ((t142.length : Int) + 1)))))).f1)) else (none)) else (stanzalaw01_ScalCuts.j0 k l0 t142 (l0.length : Int)))))) else (some false))
theorem stanzalaw01_ScalCuts.mono_l : ∀ k, (∀ y0 y1 y2, LeO (stanzalaw01_ScalCuts.j0 k y0 y1 y2) (stanzalaw01_ScalCuts.j0 (k + 1) y0 y1 y2)) ∧ (∀ y0 y1 y2 y3 y4 y5, LeO (stanzalaw01_ScalCuts.l0 k y0 y1 y2 y3 y4 y5) (stanzalaw01_ScalCuts.l0 (k + 1) y0 y1 y2 y3 y4 y5))
  | 0 => ⟨fun _ _ _ r h => by simp [stanzalaw01_ScalCuts.j0] at h, fun _ _ _ _ _ _ r h => by simp [stanzalaw01_ScalCuts.l0] at h⟩
  | k + 1 => by
    obtain ⟨ih0, ih1⟩ := stanzalaw01_ScalCuts.mono_l k
    refine ⟨?_, ?_⟩
    · intro y0 y1 y2
      unfold stanzalaw01_ScalCuts.j0
      repeat' first
      | (with_reducible exact ih0 _ _ _)
      | (with_reducible exact ih1 _ _ _ _ _ _)
      | (with_reducible exact scal_All.mono _ _)
      | (with_reducible exact stanzalaw01_Awake.mono _)
      | (with_reducible exact stanzaref01_SameSigns.mono _ _ _)
      | (with_reducible exact LeO.refl _)
      | (with_reducible exact LeO.none _)
      | (with_reducible refine LeO.ite ?_ ?_)
      | (with_reducible refine LeO.bind ?_ (fun _ => ?_))
      | exact ih0 _ _ _
      | exact ih1 _ _ _ _ _ _
      | exact scal_All.mono _ _
      | exact stanzalaw01_Awake.mono _
      | exact stanzaref01_SameSigns.mono _ _ _
      | exact LeO.none _
      | refine LeO.ite ?_ ?_
      | refine LeO.bind ?_ (fun _ => ?_)
    · intro y0 y1 y2 y3 y4 y5
      unfold stanzalaw01_ScalCuts.l0
      repeat' first
      | (with_reducible exact ih0 _ _ _)
      | (with_reducible exact ih1 _ _ _ _ _ _)
      | (with_reducible exact scal_All.mono _ _)
      | (with_reducible exact stanzalaw01_Awake.mono _)
      | (with_reducible exact stanzaref01_SameSigns.mono _ _ _)
      | (with_reducible exact LeO.refl _)
      | (with_reducible exact LeO.none _)
      | (with_reducible refine LeO.ite ?_ ?_)
      | (with_reducible refine LeO.bind ?_ (fun _ => ?_))
      | exact ih0 _ _ _
      | exact ih1 _ _ _ _ _ _
      | exact scal_All.mono _ _
      | exact stanzalaw01_Awake.mono _
      | exact stanzaref01_SameSigns.mono _ _ _
      | exact LeO.none _
      | refine LeO.ite ?_ ?_
      | refine LeO.bind ?_ (fun _ => ?_)
theorem stanzalaw01_ScalCuts.mono : ∀ a0 a1 k, LeO (stanzalaw01_ScalCuts.f k a0 a1) (stanzalaw01_ScalCuts.f (k + 1) a0 a1) := by
  intro a0 a1 k
  obtain ⟨ih0, ih1⟩ := stanzalaw01_ScalCuts.mono_l k
  unfold stanzalaw01_ScalCuts.f
  repeat' first
      | (with_reducible exact ih0 _ _ _)
      | (with_reducible exact ih1 _ _ _ _ _ _)
      | (with_reducible exact scal_All.mono _ _)
      | (with_reducible exact stanzalaw01_Awake.mono _)
      | (with_reducible exact stanzaref01_SameSigns.mono _ _ _)
      | (with_reducible exact LeO.refl _)
      | (with_reducible exact LeO.none _)
      | (with_reducible refine LeO.ite ?_ ?_)
      | (with_reducible refine LeO.bind ?_ (fun _ => ?_))
      | exact ih0 _ _ _
      | exact ih1 _ _ _ _ _ _
      | exact scal_All.mono _ _
      | exact stanzalaw01_Awake.mono _
      | exact stanzaref01_SameSigns.mono _ _ _
      | exact LeO.none _
      | refine LeO.ite ?_ ?_
      | refine LeO.bind ?_ (fun _ => ?_)
def stanzalaw01_ScalCuts.T10 : Bool × List (List Nat × List Nat) := (true, [([], []), ([], []), ([0, 1], [0, 1]), ([2], [2]), ([], []), ([], []), ([4, 5], [4, 5]), ([6, 3], [6]), ([3, 7, 0, 1, 2, 3], [3]), ([7, 8, 0, 1, 2, 3, 4, 5, 6, 7, 8], [7])])
def stanzalaw01_ScalCuts.B10 : List Nat := [0, 0, 3, 7, 0, 0, 48, 127, 255, 511]
theorem stanzalaw01_ScalCuts.tab10 : rtab .any (opsOf Try.f5 10) = stanzalaw01_ScalCuts.T10 := by kernel_rfl
theorem stanzalaw01_ScalCuts.bits10 : waitsOk stanzalaw01_ScalCuts.T10.2 stanzalaw01_ScalCuts.B10 = true := by kernel_rfl
set_option maxHeartbeats 8000000 in
set_option maxRecDepth 100000 in
theorem stanzalaw01_ScalCuts.calls (k : Nat) (A0 : Option Addr) (c0 : Nat) (l0 : List Int) (a1 : Int) (r : Bool) (w : World) (hr0 : Kd.C (Kd.int .u8) w A0 l0.length l0) (hc0 : l0.length ≤ c0) (h : stanzalaw01_ScalCuts.f k l0 a1 = some r) :
    Calls Try.prog 5 #[.slice A0 l0.length c0, .int .i64 a1] w fun e w' => e = .returned (.bool r) ∧ Below w.heap.size w w' := by
  have HR0 := Aside0.mk hr0
  have HC0 := Aside0.mk hc0
  clear hr0 hc0
  have HB := Aside0.mk (Below.refl w.heap.size w)
  have H : ((stanzalaw01_Awake.f k).bind fun t141 => (if t141 = true then (if (l0.length : Int) > 3000 then (some true) else ((scal_All.f k l0).bind fun t142 => (if (IntKind.u64.wrap (wrap64 ((t142.length : Int) + 1))) = 0 then (none) else (if (wrap64 (Int.tmod (IntKind.u64.wrap (a1)) (IntKind.u64.wrap (wrap64 ((t142.length : Int) + 1))))) < (t142.length : Int) then (if 0 ≤ (wrap64 (Int.tmod (IntKind.u64.wrap (a1)) (IntKind.u64.wrap (wrap64 ((t142.length : Int) + 1))))) then (stanzalaw01_ScalCuts.j0 k l0 t142 ((rd_T29 t142 (wrap64 (Int.tmod (IntKind.u64.wrap (a1)) (IntKind.u64.wrap (wrap64 ((t142.length : Int) + 1)))))).f1)) else (none)) else (stanzalaw01_ScalCuts.j0 k l0 t142 (l0.length : Int)))))) else (some false))) = some r := h
  clear h
  replace H := Option.bind_eq_some_iff.mp H
  obtain ⟨t141, A30, H⟩ := H
  replace H : (if t141 = true then (if (l0.length : Int) > 3000 then (some true) else ((scal_All.f k l0).bind fun t142 => (if (IntKind.u64.wrap (wrap64 ((t142.length : Int) + 1))) = 0 then (none) else (if (wrap64 (Int.tmod (IntKind.u64.wrap (a1)) (IntKind.u64.wrap (wrap64 ((t142.length : Int) + 1))))) < (t142.length : Int) then (if 0 ≤ (wrap64 (Int.tmod (IntKind.u64.wrap (a1)) (IntKind.u64.wrap (wrap64 ((t142.length : Int) + 1))))) then (stanzalaw01_ScalCuts.j0 k l0 t142 ((rd_T29 t142 (wrap64 (Int.tmod (IntKind.u64.wrap (a1)) (IntKind.u64.wrap (wrap64 ((t142.length : Int) + 1)))))).f1)) else (none)) else (stanzalaw01_ScalCuts.j0 k l0 t142 (l0.length : Int)))))) else (some false)) = some r := H
  have A3 := Aside0.mk A30
  clear A30
  by_cases c4 : t141 = true
  · subst c4
    have H1 : (if (l0.length : Int) > 3000 then (some true) else ((scal_All.f k l0).bind fun t142 => (if (IntKind.u64.wrap (wrap64 ((t142.length : Int) + 1))) = 0 then (none) else (if (wrap64 (Int.tmod (IntKind.u64.wrap (a1)) (IntKind.u64.wrap (wrap64 ((t142.length : Int) + 1))))) < (t142.length : Int) then (if 0 ≤ (wrap64 (Int.tmod (IntKind.u64.wrap (a1)) (IntKind.u64.wrap (wrap64 ((t142.length : Int) + 1))))) then (stanzalaw01_ScalCuts.j0 k l0 t142 ((rd_T29 t142 (wrap64 (Int.tmod (IntKind.u64.wrap (a1)) (IntKind.u64.wrap (wrap64 ((t142.length : Int) + 1)))))).f1)) else (none)) else (stanzalaw01_ScalCuts.j0 k l0 t142 (l0.length : Int)))))) = some r := by rw [if_pos rfl] at H; exact H
    clear H
    have H := H1
    clear H1
    by_cases c5 : (l0.length : Int) > 3000
    · rw [if_pos c5] at H
      have c5b0 : decide (3000 < (l0.length : Int)) = true := decide_eq_true c5
      have c5b1 : decide (3000 < l0.length) = true := decide_eq_true (by omega)
      clear c5
      obtain rfl := Option.some.inj H
      go_enter Try.func5, Try.ntmps5
      go_wp2_with (first | ((with_reducible refine gate_callee (f := 9) rfl ?_); refine goesL_ (some 11) rfl rfl Try.func9 (by kernel_rfl) rfl #[] rfl (by (try simp only [List.map_toArray, List.map_cons, List.map_nil]); first | done | rfl | (simp only [List.length_drop, List.length_take]; rfl)) ?_; (with_reducible refine (stanzalaw01_Awake.calls k  true _ A3.out).mono ?_); rintro e w6 ⟨rfl, hb⟩; refine ⟨_, rfl, ?_⟩; have n0_ := Aside0.mk (below_step (by repeat (first | (with_reducible first | exact HB.out | apply below_alloc | apply pw_below_drewN | apply below_drew1) | exact HB.out)) hb); clear HB; have HB := n0_; clear n0_; (try clear hb); (try clear hb2); (try clear hk); (try clear hi)))
      go_ret
      exact ⟨by first | rfl | (simp [errW_none, errW_some] <;> rfl) | (simp [*, errW_none, errW_some] <;> rfl), by repeat (first | (with_reducible first | exact HB.out | apply below_alloc | apply pw_below_drewN | apply below_drew1) | exact HB.out)⟩
    · rw [if_neg c5] at H
      have c5b0 : decide (3000 < (l0.length : Int)) = false := decide_eq_false c5
      have c5b1 : decide (3000 < l0.length) = false := decide_eq_false (by omega)
      clear c5
      replace H := Option.bind_eq_some_iff.mp H
      obtain ⟨t142, A70, H⟩ := H
      replace H : (if (IntKind.u64.wrap (wrap64 ((t142.length : Int) + 1))) = 0 then (none) else (if (wrap64 (Int.tmod (IntKind.u64.wrap (a1)) (IntKind.u64.wrap (wrap64 ((t142.length : Int) + 1))))) < (t142.length : Int) then (if 0 ≤ (wrap64 (Int.tmod (IntKind.u64.wrap (a1)) (IntKind.u64.wrap (wrap64 ((t142.length : Int) + 1))))) then (stanzalaw01_ScalCuts.j0 k l0 t142 ((rd_T29 t142 (wrap64 (Int.tmod (IntKind.u64.wrap (a1)) (IntKind.u64.wrap (wrap64 ((t142.length : Int) + 1)))))).f1)) else (none)) else (stanzalaw01_ScalCuts.j0 k l0 t142 (l0.length : Int)))) = some r := H
      have A7 := Aside0.mk A70
      clear A70
      by_cases c8 : (IntKind.u64.wrap (wrap64 ((t142.length : Int) + 1))) = 0
      · rw [if_pos c8] at H
        exact absurd H (by simp)
      · rw [if_neg c8] at H
        have c8b0 : ((IntKind.u64.wrap (wrap64 ((t142.length : Int) + 1))) == 0) = false := beq_eq_false_iff_ne.mpr c8
        have c8b1 : ((IntKind.u64.wrap (wrap64 ((t142.length : Int) + 1))) != 0) = true := bne_iff_ne.mpr c8
        have HC9 := Aside0.mk H
        clear H
        go_enter Try.func5, Try.ntmps5
        go_upto_if 31 with (first | ((with_reducible refine gate_callee (f := 9) rfl ?_); refine goesL_ (some 11) rfl rfl Try.func9 (by kernel_rfl) rfl #[] rfl (by (try simp only [List.map_toArray, List.map_cons, List.map_nil]); first | done | rfl | (simp only [List.length_drop, List.length_take]; rfl)) ?_; (with_reducible refine (stanzalaw01_Awake.calls k  true _ A3.out).mono ?_); rintro e w10 ⟨rfl, hb⟩; refine ⟨_, rfl, ?_⟩; have n0_ := Aside0.mk (below_step (by repeat (first | (with_reducible first | exact HB.out | apply below_alloc | apply pw_below_drewN | apply below_drew1) | exact HB.out)) hb); clear HB; have HB := n0_; clear n0_; (try clear hb); (try clear hb2); (try clear hk); (try clear hi)) | ((with_reducible refine gate_callee (f := 11) rfl ?_); refine goesL_ (some 17) rfl rfl Try.func11 (by kernel_rfl) rfl #[.slice A0 l0.length c0] rfl (by (try simp only [List.map_toArray, List.map_cons, List.map_nil]); first | done | rfl | (simp only [List.length_drop, List.length_take]; rfl)) ?_; (with_reducible refine (scal_All.calls k _ _ l0 t142 _ ?side1 ?side2 A7.out).mono ?_); (case side1 => repeat (first | exact (Kd.C_below HR0.out HB.out) | (with_reducible refine Kd.C_alloc ?_ _) | (with_reducible refine Kd.C_drewN ?_ _) | (with_reducible refine Kd.C_drew ?_))); (case side2 => exact HC0.out); rintro e w11 ⟨v143, rfl, ho0, hb⟩; refine ⟨_, rfl, ?_⟩; have n0_ := Aside0.mk (Kd.R_lower ho0 (below_size (by repeat (first | (with_reducible first | exact HB.out | apply below_alloc | apply pw_below_drewN | apply below_drew1) | exact HB.out)))); have n1_ := Aside0.mk (below_step (by repeat (first | (with_reducible first | exact HB.out | apply below_alloc | apply pw_below_drewN | apply below_drew1) | exact HB.out)) hb); clear HB; have HO144 := n0_; have HB := n1_; clear n0_ n1_; (try clear hb); (try clear hb2); (try clear hk); (try clear hi); (try clear ho0); obtain ⟨Ao12, co12, eo12⟩ := Kd.R_slice HO144.out; subst eo12))
        (try simp only [Act.put, List.setIfInBounds_toArray, List.set_cons_zero, List.set_cons_succ])
        go_cut [7] (fun v7 wc => ∃ (kq : Nat) (x7_8 : Int), v7 = .int .i64 x7_8 ∧ Aside0 (stanzalaw01_ScalCuts.j0 kq l0 t142 x7_8 = some r) ∧ Aside0 (kq ≤ k) ∧ Aside0 (Kd.R k29 29 wc w.heap.size (fun _ => True) (.slice Ao12 t142.length co12) t142) ∧ Aside0 (Below w.heap.size w wc))
        case first =>
          have H := HC9.out
          clear HC9
          by_cases c13 : (wrap64 (Int.tmod (IntKind.u64.wrap (a1)) (IntKind.u64.wrap (wrap64 ((t142.length : Int) + 1))))) < (t142.length : Int)
          · rw [if_pos c13] at H
            have c13b0 : decide ((wrap64 (Int.tmod (IntKind.u64.wrap (a1)) (IntKind.u64.wrap (wrap64 ((t142.length : Int) + 1))))) < (t142.length : Int)) = true := decide_eq_true c13
            clear c13
            (first | rw [c13b0] | (simp only [i64_w, i32_w]; rw [c13b0]) | skip)
            obtain ⟨ji14, hji14⟩ : ∃ j_ : Int, (wrap64 (Int.tmod (IntKind.u64.wrap (a1)) (IntKind.u64.wrap (wrap64 ((t142.length : Int) + 1))))) = j_ := ⟨_, rfl⟩
            replace H : (if 0 ≤ (ji14) then (stanzalaw01_ScalCuts.j0 k l0 t142 ((rd_T29 t142 (ji14)).f1)) else (none)) = some r := by first | (rw [hji14] at H; exact H) | (simp only [hji14] at H ⊢; exact H)
            (try rw [hji14] at c13b0)
            have hji14w : (IntKind.i64.wrap (Int.tmod (IntKind.u64.wrap (a1)) (IntKind.u64.wrap (wrap64 ((t142.length : Int) + 1))))) = ji14 := (i64_w _).trans hji14
            by_cases c15 : 0 ≤ (ji14)
            · rw [if_pos c15] at H
              have c15b0 : decide (0 ≤ (ji14)) = true := decide_eq_true c15
              clear c15
              have H' := Aside0.mk H
              clear H
              have p145 : 0 ≤ ((ji14) : Int) := of_decide_eq_true (by first | (with_reducible assumption) | assumption)
              have q145 : (ji14) < (t142.length : Int) := of_decide_eq_true (by first | (with_reducible assumption) | assumption)
              obtain ⟨ad145, e145, hx145_0, hx145_1, hx145_2⟩ := at_T29 (Kd.R_reads' HO144.out).2.2 (ji14) p145 q145
              cases e145
              replace p145 := eq_true p145
              replace q145 := eq_true q145
              go_wp2
              go_meet
              case rel => exact ⟨_, ((rd_T29 t142 (ji14)).f1), (by first | rfl | (simp; done) | (simp only [← hji14] <;> (first | rfl | simp)) | (simp [*]; done)), H', ⟨by first | omega | exact Nat.le_refl _⟩, ⟨by (with_reducible repeat (first | apply Kd.R_alloc | apply Kd.R_drewN | apply Kd.R_drew)); exact HO144.out⟩, ⟨by repeat (first | (with_reducible first | exact HB.out | apply below_alloc | apply pw_below_drewN | apply below_drew1) | exact HB.out)⟩⟩
            · rw [if_neg c15] at H
              exact absurd H (by simp)
          · rw [if_neg c13] at H
            have c13b0 : decide ((wrap64 (Int.tmod (IntKind.u64.wrap (a1)) (IntKind.u64.wrap (wrap64 ((t142.length : Int) + 1))))) < (t142.length : Int)) = false := decide_eq_false c13
            clear c13
            (first | rw [c13b0] | (simp only [i64_w, i32_w]; rw [c13b0]) | skip)
            have H' := Aside0.mk H
            clear H
            go_wp2
            go_meet
            case rel => exact ⟨_, ((l0.length : Int)), (by first | rfl | (simp; done) | (simp [*]; done)), H', ⟨by first | omega | exact Nat.le_refl _⟩, ⟨by (with_reducible repeat (first | apply Kd.R_alloc | apply Kd.R_drewN | apply Kd.R_drew)); exact HO144.out⟩, ⟨by repeat (first | (with_reducible first | exact HB.out | apply below_alloc | apply pw_below_drewN | apply below_drew1) | exact HB.out)⟩⟩
        case rest =>
          clear HC9
          try clear c1
          try clear p1
          try clear q1
          try clear hx1
          try clear p2
          try clear c4
          try clear c5
          try clear c5b0
          try clear c5b1
          try clear p6
          try clear c8
          try clear c8b0
          try clear c8b1
          try clear c9
          try clear c11
          try clear c13
          try clear c13b0
          try clear p14
          try clear q14
          try clear hx14
          try clear c15
          try clear c15b0
          try clear hx145_0
          try clear hx145_1
          try clear hx145_2
          try clear p145
          try clear q145
          obtain ⟨kq, x7_8, rfl, HA, HJ8, HO_5, HB⟩ := hcut
          cases kq with
          | zero => exact absurd HA.out (by simp [stanzalaw01_ScalCuts.j0])
          | succ kj8 =>
            have H := HA.out
            clear HA
            simp only [stanzalaw01_ScalCuts.j0] at H
            by_cases c16 : 0 ≤ x7_8
            · rw [if_pos c16] at H
              have c16b0 := eq_true c16
              have c16b1 : decide (0 ≤ x7_8) = true := decide_eq_true c16
              clear c16
              by_cases c17 : x7_8 ≤ (l0.length : Int)
              · rw [if_pos c17] at H
                have c17b0 := eq_true c17
                have c17b1 : decide (x7_8 ≤ (l0.length : Int)) = true := decide_eq_true c17
                clear c17
                replace H := Option.bind_eq_some_iff.mp H
                obtain ⟨t147, A180, H⟩ := H
                replace H : ((scal_All.f kj8 (l0.drop (x7_8 : Int).toNat)).bind fun t151 => (stanzalaw01_ScalCuts.l0 kj8 t142 x7_8 t147 t151 (t151.length : Int) 0)) = some r := H
                have A18 := Aside0.mk A180
                clear A180
                have c19b0 := eq_true (of_decide_eq_true (by first | (with_reducible assumption) | assumption) : 0 ≤ x7_8)
                have c20b0 := eq_true (of_decide_eq_true (by first | (with_reducible assumption) | assumption) : x7_8 ≤ (l0.length : Int))
                replace H := Option.bind_eq_some_iff.mp H
                obtain ⟨t151, A210, H⟩ := H
                replace H : (stanzalaw01_ScalCuts.l0 kj8 t142 x7_8 t147 t151 (t151.length : Int) 0) = some r := H
                have A21 := Aside0.mk A210
                clear A210
                have H' := Aside0.mk H
                clear H
                try go_wp2
                have n0_ := Aside0.mk (Kd.R_drew HO_5.out)
                have n1_ := Aside0.mk (below_drew1 HB.out)
                clear HO_5
                clear HB
                have HO_5 := n0_
                have HB := n1_
                clear n0_ n1_
                obtain ⟨i023, hi023, _, hsz23, _⟩ := info_parts info5
                obtain ⟨hcut23, hA23, hC23⟩ := print_take_of (P := Try.prog) (Value.int .u8) 0 22 5 .i64 Try.underlying22 hi023 hsz23 A0 c0 l0 x7_8 (of_decide_eq_true (by first | (with_reducible assumption) | assumption)) (of_decide_eq_true (by first | (with_reducible assumption) | assumption)) HC0.out
                have HR146 := Aside0.mk (Kd.C_of_reads (h1 := fun _ => rfl) (hA23 _ (Kd.reads_of_C HR0.out)))
                have HC146 := Aside0.mk hC23
                clear hA23 hC23 hi023 hsz23
                obtain ⟨i024, hi024, _, hsz24, _⟩ := info_parts info5
                obtain ⟨A24, hcut24, hA24, hC24⟩ := print_drop_of (P := Try.prog) (Value.int .u8) 0 22 5 .i64 Try.underlying22 hi024 hsz24 A0 c0 l0 x7_8 (of_decide_eq_true (by first | (with_reducible assumption) | assumption)) (of_decide_eq_true (by first | (with_reducible assumption) | assumption)) HC0.out
                have HR150 := Aside0.mk (Kd.C_of_reads (h1 := fun _ => rfl) (hA24 _ (Kd.reads_of_C HR0.out)))
                have HC150 := Aside0.mk hC24
                clear hA24 hC24 hi024 hsz24
                refine start_ (n := 10) (S := fun w' => True) (ds := []) #[false, false, false, false, false, false, false, false, false, false] (by kernel_rfl) rfl rfl trivial (fun hHeld => ?_); refine with_tabW stanzalaw01_ScalCuts.tab10 stanzalaw01_ScalCuts.bits10 (fun HT_ HW_ => ?_)
                generalize wc.drew = w22 at HO_5 HB HR146 HR150 hHeld ⊢
                refine pure_ (i := 0) (N := some 37) (v := ?_) (a' := ?_) #[true, false, false, false, false, false, false, false, false, false] rfl rfl (any_of HT_.out (by kernel_rfl)) (fun _ _ _ h => h) (Or.inl ⟨by rfl, ?_⟩) ?_ ?_
                rotate_left
                · intro w'
                  go_simp
                  with_reducible rfl
                rotate_left
                · simp only [Act.put, List.setIfInBounds_toArray, List.set_cons_zero, List.set_cons_succ, i64_w, i32_w]
                  rfl
                refine pure_ (i := 1) (N := some 38) (v := ?_) (a' := ?_) #[true, true, false, false, false, false, false, false, false, false] rfl rfl (any_of HT_.out (by kernel_rfl)) (fun _ _ _ h => h) (Or.inl ⟨by rfl, ?_⟩) ?_ ?_
                rotate_left
                · intro w'
                  go_simp
                  with_reducible rfl
                rotate_left
                · simp only [Act.put, List.setIfInBounds_toArray, List.set_cons_zero, List.set_cons_succ, i64_w, i32_w]
                  rfl
                refine pure_ (i := 2) (N := some 39) (v := ?_) (a' := ?_) #[true, true, true, false, false, false, false, false, false, false] rfl rfl (any_of HT_.out (by kernel_rfl)) (fun _ _ _ h => h) (Or.inl ⟨by rfl, ?_⟩) ?_ ?_
                rotate_left
                · intro w'
                  go_simp
                  with_reducible rfl
                rotate_left
                · simp only [Act.put, List.setIfInBounds_toArray, List.set_cons_zero, List.set_cons_succ, i64_w, i32_w]
                  rfl
                refine pure_ (i := 4) (N := some 41) (v := ?_) (a' := ?_) #[true, true, true, false, true, false, false, false, false, false] rfl rfl (any_of HT_.out (by kernel_rfl)) (fun _ _ _ h => h) (Or.inl ⟨by rfl, ?_⟩) ?_ ?_
                rotate_left
                · intro w'
                  go_simp
                  with_reducible rfl
                rotate_left
                · simp only [Act.put, List.setIfInBounds_toArray, List.set_cons_zero, List.set_cons_succ, i64_w, i32_w]
                  rfl
                refine pure_ (i := 5) (N := some 42) (v := ?_) (a' := ?_) #[true, true, true, false, true, true, false, false, false, false] rfl rfl (any_of HT_.out (by kernel_rfl)) (fun _ _ _ h => h) (Or.inl ⟨by rfl, ?_⟩) ?_ ?_
                rotate_left
                · intro w'
                  go_simp
                  with_reducible rfl
                rotate_left
                · simp only [Act.put, List.setIfInBounds_toArray, List.set_cons_zero, List.set_cons_succ, i64_w, i32_w]
                  rfl
                refine pure_ (i := 6) (N := some 43) (v := ?_) (a' := ?_) #[true, true, true, false, true, true, true, false, false, false] rfl rfl (any_of HT_.out (by kernel_rfl)) (fun _ _ _ h => h) (Or.inl ⟨by rfl, ?_⟩) ?_ ?_
                rotate_left
                · intro w'
                  go_simp
                  with_reducible rfl
                rotate_left
                · simp only [Act.put, List.setIfInBounds_toArray, List.set_cons_zero, List.set_cons_succ, i64_w, i32_w]
                  rfl
                refine one_ (i := 3) (N := some 40) #[true, true, true, true, true, true, true, false, false, false] rfl rfl (one_of HT_.out (by kernel_rfl)) (by decide) (fun K hK => ?_)
                refine goes_ Try.func11 (by kernel_rfl) rfl #[.slice A0 (l0.take (x7_8 : Int).toNat).length c0] (by rfl) rfl rfl (by (try simp only [List.map_toArray, List.map_cons, List.map_nil]); first | done | (rw [show (l0.take (x7_8 : Int).toNat).length = x7_8.toNat from (by rw [List.length_take]; have h_ : (x7_8 : Int) ≤ (l0.length : Int) := of_decide_eq_true (by first | (with_reducible assumption) | assumption); omega)] <;> rfl) | rfl | (simp only [List.length_drop, List.length_take]; rfl)) ?_
                with_reducible refine (scal_All.calls kj8 _ _ (l0.take (x7_8 : Int).toNat) t147 _ ?side1 ?side2 A18.out).mono ?_
                (case side1 => repeat (first | exact (Kd.C_below HR146.out HB.out) | (with_reducible refine Kd.C_alloc ?_ _) | (with_reducible refine Kd.C_drewN ?_ _) | (with_reducible refine Kd.C_drew ?_)))
                (case side2 => exact HC146.out)
                rintro e w25 ⟨v148, rfl, ho0, hb⟩
                refine ⟨_, rfl, ?_⟩
                have n0_ := Aside0.mk (Kd.R_elder' (by (with_reducible repeat (first | apply Kd.R_alloc | apply Kd.R_drewN | apply Kd.R_drew)); exact HO_5.out) (Kd.R_base ho0) hb)
                have n1_ := Aside0.mk (Kd.R_lower (Kd.R_new' ho0 (Kd.R_lt (by (with_reducible repeat (first | apply Kd.R_alloc | apply Kd.R_drewN | apply Kd.R_drew)); exact HO_5.out))) (below_size (by repeat (first | (with_reducible first | exact HB.out | apply below_alloc | apply pw_below_drewN | apply below_drew1) | exact HB.out))))
                have n2_ := Aside0.mk (below_step (by repeat (first | (with_reducible first | exact HB.out | apply below_alloc | apply pw_below_drewN | apply below_drew1) | exact HB.out)) hb)
                clear HO_5
                clear HB
                have HO_5 := n0_
                have HO149 := n1_
                have HB := n2_
                clear n0_ n1_ n2_
                (try clear hb)
                (try clear hb2)
                (try clear hk)
                (try clear hi)
                (try clear ho0)
                refine hK.out _ _ trivial (fun hHeld => ?_)
                clear hK K
                refine norm_ (a' := ?_) ?_ ?_
                rotate_left
                · show Act.put _ (some 40) _ = _
                  simp only [Act.put, List.setIfInBounds_toArray, List.set_cons_zero, List.set_cons_succ, i64_w, i32_w]
                  rfl
                refine one_ (i := 7) (N := some 44) #[true, true, true, true, true, true, true, true, false, false] rfl rfl (one_of HT_.out (by kernel_rfl)) (by decide) (fun K hK => ?_)
                refine goes_ Try.func11 (by kernel_rfl) rfl #[.slice A24 (l0.drop (x7_8 : Int).toNat).length (c0 - x7_8.toNat)] (by rfl) rfl rfl (by (try simp only [List.map_toArray, List.map_cons, List.map_nil]); first | done | (rw [show (l0.drop (x7_8 : Int).toNat).length = (l0.length - x7_8.toNat) from List.length_drop] <;> rfl) | rfl | (simp only [List.length_drop, List.length_take]; rfl)) ?_
                with_reducible refine (scal_All.calls kj8 _ _ (l0.drop (x7_8 : Int).toNat) t151 _ ?side1 ?side2 A21.out).mono ?_
                (case side1 => repeat (first | exact (Kd.C_below HR150.out HB.out) | (with_reducible refine Kd.C_alloc ?_ _) | (with_reducible refine Kd.C_drewN ?_ _) | (with_reducible refine Kd.C_drew ?_)))
                (case side2 => exact HC150.out)
                rintro e w26 ⟨v152, rfl, ho0, hb⟩
                refine ⟨_, rfl, ?_⟩
                have n0_ := Aside0.mk (Kd.R_elder' (by (with_reducible repeat (first | apply Kd.R_alloc | apply Kd.R_drewN | apply Kd.R_drew)); exact HO_5.out) (Kd.R_base ho0) hb)
                have n1_ := Aside0.mk (Kd.R_elder' (by (with_reducible repeat (first | apply Kd.R_alloc | apply Kd.R_drewN | apply Kd.R_drew)); exact HO149.out) (Kd.R_base ho0) hb)
                have n2_ := Aside0.mk (Kd.R_lower (Kd.R_new' (Kd.R_new' ho0 (Kd.R_lt (by (with_reducible repeat (first | apply Kd.R_alloc | apply Kd.R_drewN | apply Kd.R_drew)); exact HO_5.out))) (Kd.R_lt (by (with_reducible repeat (first | apply Kd.R_alloc | apply Kd.R_drewN | apply Kd.R_drew)); exact HO149.out))) (below_size (by repeat (first | (with_reducible first | exact HB.out | apply below_alloc | apply pw_below_drewN | apply below_drew1) | exact HB.out))))
                have n3_ := Aside0.mk (below_step (by repeat (first | (with_reducible first | exact HB.out | apply below_alloc | apply pw_below_drewN | apply below_drew1) | exact HB.out)) hb)
                clear HO_5
                clear HO149
                clear HB
                have HO_5 := n0_
                have HO149 := n1_
                have HO153 := n2_
                have HB := n3_
                clear n0_ n1_ n2_ n3_
                (try clear hb)
                (try clear hb2)
                (try clear hk)
                (try clear hi)
                (try clear ho0)
                refine hK.out _ _ trivial (fun hHeld => ?_)
                clear hK K
                refine norm_ (a' := ?_) ?_ ?_
                rotate_left
                · show Act.put _ (some 44) _ = _
                  simp only [Act.put, List.setIfInBounds_toArray, List.set_cons_zero, List.set_cons_succ, i64_w, i32_w]
                  rfl
                refine pure_ (i := 8) (N := some 8) (v := ?_) (a' := ?_) #[true, true, true, true, true, true, true, true, true, false] rfl rfl (any_of HT_.out (by kernel_rfl)) (fun _ _ _ h => h) (Or.inl ⟨by rfl, ?_⟩) ?_ ?_
                rotate_left
                · intro w'
                  go_simp
                  with_reducible rfl
                rotate_left
                · simp only [Act.put, List.setIfInBounds_toArray, List.set_cons_zero, List.set_cons_succ, i64_w, i32_w]
                  rfl
                refine pure_ (i := 9) (N := some 9) (v := ?_) (a' := ?_) #[true, true, true, true, true, true, true, true, true, true] rfl rfl (any_of HT_.out (by kernel_rfl)) (fun _ _ _ h => h) (Or.inl ⟨by rfl, ?_⟩) ?_ ?_
                rotate_left
                · intro w'
                  go_simp
                  with_reducible rfl
                rotate_left
                · simp only [Act.put, List.setIfInBounds_toArray, List.set_cons_zero, List.set_cons_succ, i64_w, i32_w]
                  rfl
                refine done_ (done_of HT_.out (by kernel_rfl)) ?_
                obtain ⟨Ao27, co27, eo27⟩ := Kd.R_slice HO153.out
                subst eo27
                try go_wp2
                go_loopg [47] kj8 (fun kq v47 w' => ∃ (x9_2 : List (S29)) (x47_2 : Int), v47 = .int .i64 x47_2 ∧ Aside0 (stanzalaw01_ScalCuts.l0 kq t142 x7_8 t147 x9_2 (t151.length : Int) x47_2 = some r) ∧ Aside0 (kq ≤ kj8) ∧ Aside0 (Kd.R k29 29 w' w.heap.size (fun k_ => some k_ ≠ (v148 : Value).ownBlock ∧ some k_ ≠ ((.slice Ao27 t151.length co27) : Value).ownBlock) (.slice Ao12 t142.length co12) t142) ∧ Aside0 (Kd.R k29 29 w' w.heap.size (fun k_ => some k_ ≠ ((.slice Ao12 t142.length co12) : Value).ownBlock ∧ some k_ ≠ ((.slice Ao27 t151.length co27) : Value).ownBlock) v148 t147) ∧ Aside0 (Kd.R k29 29 w' w.heap.size (fun k_ => some k_ ≠ ((.slice Ao12 t142.length co12) : Value).ownBlock ∧ some k_ ≠ (v148 : Value).ownBlock) (.slice Ao27 t151.length co27) x9_2) ∧ Aside0 (Below w.heap.size w w'))
                case atStart => exact ⟨(t151), (0), (by first | rfl | (simp; done) | (simp [*]; done)), H', ⟨Nat.le_refl _⟩, ⟨by (with_reducible repeat (first | apply Kd.R_alloc | apply Kd.R_drewN | apply Kd.R_drew)); exact Kd.R_mono HO_5.out (fun _ hk => ⟨hk.1.2, hk.2⟩)⟩, ⟨by (with_reducible repeat (first | apply Kd.R_alloc | apply Kd.R_drewN | apply Kd.R_drew)); exact Kd.R_mono HO149.out (fun _ hk => ⟨hk.1.2, hk.2⟩)⟩, ⟨by (with_reducible repeat (first | apply Kd.R_alloc | apply Kd.R_drewN | apply Kd.R_drew)); exact Kd.R_mono HO153.out (fun _ hk => ⟨hk.1.2, hk.2⟩)⟩, ⟨by repeat (first | (with_reducible first | exact HB.out | apply below_alloc | apply pw_below_drewN | apply below_drew1) | exact HB.out)⟩⟩
                case round =>
                  clear H'
                  try clear c1
                  try clear p1
                  try clear q1
                  try clear hx1
                  try clear c2
                  try clear p2
                  try clear c4
                  try clear c5
                  try clear c5b0
                  try clear c5b1
                  try clear p6
                  try clear c8
                  try clear c8b0
                  try clear c8b1
                  try clear c9
                  try clear c11
                  try clear c13
                  try clear c13b0
                  try clear p14
                  try clear q14
                  try clear hx14
                  try clear c15
                  try clear c15b0
                  try clear c16
                  try clear c16b0
                  try clear c16b1
                  try clear c17
                  try clear c17b0
                  try clear c17b1
                  try clear c19
                  try clear c19b0
                  try clear c20
                  try clear c20b0
                  try clear hx145_0
                  try clear hx145_1
                  try clear hx145_2
                  try clear p1
                  try clear p14
                  try clear p145
                  try clear p2
                  try clear p6
                  try clear q1
                  try clear q14
                  try clear q145
                  obtain ⟨x9_2, x47_2, rfl, HA, HK2, HO_5, HO_8, HO_9, HB⟩ := hrel
                  have hl9_2 := (Kd.R_reads' HO_9.out).1
                  rw [hl9_2] at HO_9
                  (try simp only [hl9_2])
                  (try simp only [hl9_2] at HO_5)
                  (try simp only [hl9_2] at HO_8)
                  cases gk with
                  | zero => exact absurd HA.out (by simp [stanzalaw01_ScalCuts.l0])
                  | succ k2 =>
                    have H := HA.out
                    clear HA
                    simp only [stanzalaw01_ScalCuts.l0] at H
                    by_cases c28 : x47_2 < (t151.length : Int)
                    · rw [if_pos c28] at H
                      have c28b0 : decide (x47_2 < (t151.length : Int)) = true := decide_eq_true c28
                      clear c28
                      by_cases c29 : 0 ≤ x47_2
                      · rw [if_pos c29] at H
                        have c29b0 : decide (0 ≤ x47_2) = true := decide_eq_true c29
                        clear c29
                        by_cases c30 : x47_2 < (x9_2.length : Int)
                        · rw [if_pos c30] at H
                          have c30b0 : decide (x47_2 < (x9_2.length : Int)) = true := decide_eq_true c30
                          clear c30
                          obtain ⟨y155, hy155⟩ : ∃ y_ : List (S29), y_ = (x9_2.set (x47_2 : Int).toNat (⟨(rd_T29 x9_2 x47_2).f0, wrap64 (((rd_T29 x9_2 x47_2).f1) + x7_8), (rd_T29 x9_2 x47_2).f2⟩ : S29)) := ⟨_, rfl⟩
                          replace H : (stanzalaw01_ScalCuts.l0 k2 t142 x7_8 t147 y155 (t151.length : Int) (wrap64 (x47_2 + 1))) = some r := by first | (rw [hy155]; with_reducible exact H) | (have H2_ := (Option.bind_some _ _).symm.trans H; rw [hy155]; with_reducible exact H2_) | (have H2_ := (Option.bind_some _ _).symm.trans H; with_reducible exact H2_) | with_reducible exact H | (rw [hy155]; exact H) | exact H
                          have Ny155 := Aside0.mk hy155
                          clear hy155
                          have H' := Aside0.mk H
                          clear H
                          have p154 : 0 ≤ (x47_2 : Int) := of_decide_eq_true (by first | (with_reducible assumption) | assumption)
                          have q154 : x47_2 < (x9_2.length : Int) := of_decide_eq_true (by first | (with_reducible assumption) | assumption)
                          obtain ⟨ad154, e154, hx154_0, hx154_1, hx154_2⟩ := at_T29 (Kd.R_reads' HO_9.out).2.2 x47_2 p154 q154
                          cases e154
                          replace p154 := eq_true p154
                          replace q154 := eq_true q154
                          have p31 : 0 ≤ (x47_2 : Int) := of_decide_eq_true (by first | (with_reducible assumption) | assumption)
                          have q31 : (x47_2 : Int) < ((x9_2.length : Int) : Int) := of_decide_eq_true (by first | (with_reducible assumption) | assumption)
                          obtain ⟨go31, co31, eo31, gb31, gl31, cl31, HG31⟩ := Kd.R_form HO_9.out (by omega)
                          (first | cases eo31 | (injection eo31 with ea_ en_ ec_; (first | subst ea_ | (injection ea_ with ea_; subst ea_)); subst ec_; clear en_))
                          have GB31 := Aside0.mk gb31
                          have GG31 := Aside0.mk HG31
                          clear gb31 gl31 HG31
                          (first | simp only [add_plain] at hx154_0 | skip)
                          (first | simp only [add_plain] at hx154_1 | skip)
                          (first | simp only [add_plain] at hx154_2 | skip)
                          obtain ⟨ce31, hcl31, hM31, hcc31, hfr31⟩ := Kd.R_elem HO_9.out z29 (x47_2 : Int) p31 q31
                          obtain rfl := k29_openM hM31
                          have hx31_0 : wr.cell? ⟨go31, (x47_2 : Int).toNat * 3, none⟩ = some (.int .i32 ((rd_T29 x9_2 x47_2).f0)) := hcc31 0 _ rfl
                          have hx31_1 : wr.cell? ⟨go31, (x47_2 : Int).toNat * 3 + 1, none⟩ = some (.int .i64 ((rd_T29 x9_2 x47_2).f1)) := hcc31 1 _ rfl
                          have hx31_2 : wr.cell? ⟨go31, (x47_2 : Int).toNat * 3 + 2, none⟩ = some (.int .i64 ((rd_T29 x9_2 x47_2).f2)) := hcc31 2 _ rfl
                          have hf31_0 : wr.frozen? ⟨go31, (x47_2 : Int).toNat * 3, none⟩ = false := hfr31 0
                          have hf31_1 : wr.frozen? ⟨go31, (x47_2 : Int).toNat * 3 + 1, none⟩ = false := hfr31 1
                          have hf31_2 : wr.frozen? ⟨go31, (x47_2 : Int).toNat * 3 + 2, none⟩ = false := hfr31 2
                          clear hcl31 hcc31 hfr31 hM31
                          replace p31 := eq_true p31
                          replace q31 := eq_true q31
                          have HX32 := Aside0.mk (show Kd.R k29 29 wr w.heap.size (fun k_ => some k_ ≠ (.slice Ao12 t142.length co12 : Value).ownBlock ∧ some k_ ≠ (v148 : Value).ownBlock) (.slice (some ⟨go31, 0, none⟩) x9_2.length co27) x9_2 from (by (with_reducible repeat (first | apply Kd.R_alloc | apply Kd.R_drewN | apply Kd.R_drew)); exact HO_9.out))
                          obtain ⟨ce32, hcl32, hM32, hcc32, hfr32⟩ := Kd.R_elem HX32.out z29 (x47_2 : Int) (of_decide_eq_true (by first | (with_reducible assumption) | assumption)) (by have h_ : (x47_2 : Int) < ((x9_2.length : Int) : Int) := of_decide_eq_true (by first | (with_reducible assumption) | assumption); first | exact h_ | (have e_ := (Kd.R_reads' HO_9.out).1; omega) | simpa using h_)
                          obtain rfl := k29_openM hM32
                          have HP32 := Kd.R_seg HX32.out (x47_2 : Int) (of_decide_eq_true (by first | (with_reducible assumption) | assumption)) (by have h_ : (x47_2 : Int) < ((x9_2.length : Int) : Int) := of_decide_eq_true (by first | (with_reducible assumption) | assumption); first | exact h_ | (have e_ := (Kd.R_reads' HO_9.out).1; omega) | simpa using h_) (seg := [.int .i64 (wrap64 (((rd_T29 x9_2 x47_2).f1) + x7_8))]) (j := 1) hcl32 hcc32 (show 2 ≤ 3 from by decide) (x' := (⟨(rd_T29 x9_2 x47_2).f0, wrap64 (((rd_T29 x9_2 x47_2).f1) + x7_8), (rd_T29 x9_2 x47_2).f2⟩ : S29)) (k29_mkM _ _ _ (⟨(rd_T29 x9_2 x47_2).f0, wrap64 (((rd_T29 x9_2 x47_2).f1) + x7_8), (rd_T29 x9_2 x47_2).f2⟩ : S29) ) (fun _ hk => hk)
                          have hx32_1 := hcc32 1 _ rfl
                          (try simp only [show (k29).sz = 3 from rfl, Nat.mul_one, Nat.add_zero] at hx32_1)
                          have hf32_1 := hfr32 1
                          (try simp only [show (k29).sz = 3 from rfl, Nat.mul_one, Nat.add_zero] at hf32_1)
                          clear hcl32 hcc32 hfr32 hM32
                          go_wp2_with (first | ((with_reducible refine gate_store (t := 3) (p := 58) rfl ?_); refine store_event (t := 3) (p := 58) (v := ?vo_w33) (w1 := (wr.setCell ⟨go31, (x47_2 : Int).toNat * 3 + 1, none⟩ (.int .i64 (wrap64 (((rd_T29 x9_2 x47_2).f1) + x7_8))))) ?hg ?ho ?hn ?hr ?_; (case ho => rfl); (case hg => rfl); (case hn => rfl); (case hr => first | (go_simp; done) | (go_simp; rfl)); intro w33 hw; have hg : wr.grownBy w33 (some go31) := (by rw [hw]; exact HP32.2); have hp_ : Kd.R k29 29 w33 w.heap.size (fun k_ => some k_ ≠ (.slice Ao12 t142.length co12 : Value).ownBlock ∧ some k_ ≠ (v148 : Value).ownBlock) (.slice (some ⟨go31, 0, none⟩) x9_2.length co27) y155 := (by rw [hw, Ny155.out]; exact HP32.1); clear HP32; have n0_ := Aside0.mk (Kd.R_after (v := (.slice (some ⟨go31, 0, none⟩) x9_2.length co27)) (v1 := (.slice (some ⟨go31, 0, none⟩) x9_2.length co27)) (ok := (fun k_ => some k_ ≠ (v148 : Value).ownBlock)) (by (with_reducible repeat (first | apply Kd.R_alloc | apply Kd.R_drewN | apply Kd.R_drew)); exact HO_5.out) hg (.inl rfl)); have n1_ := Aside0.mk (Kd.R_after (v := (.slice (some ⟨go31, 0, none⟩) x9_2.length co27)) (v1 := (.slice (some ⟨go31, 0, none⟩) x9_2.length co27)) (ok := (fun k_ => some k_ ≠ (.slice Ao12 t142.length co12 : Value).ownBlock)) (by (with_reducible repeat (first | apply Kd.R_alloc | apply Kd.R_drewN | apply Kd.R_drew)); exact HO_8.out) hg (.inl rfl)); have n2_ := Aside0.mk (hp_); have n3_ := Aside0.mk ((by rw [hw]; exact below_set (HB.out) GB31.out : Below w.heap.size w w33)); clear HO_5; clear HO_8; clear HO_9; clear HB; have HO_5 := n0_; have HO_8 := n1_; have HO_9 := n2_; have HB := n3_; clear n0_ n1_ n2_ n3_; clear hg hw hp_))
                          (try simp only [← hl9_2])
                          go_roundg k2
                          case measure => have := HJ8.out; have := HK2.out; omega
                          case rel => exact ⟨(y155), (wrap64 (x47_2 + 1)), (by first | rfl | (simp; done) | (simp [*]; done)), H', ⟨by have := HJ8.out; have := HK2.out; omega⟩, ⟨by (try simp only [hl9_2]); (with_reducible repeat (first | apply Kd.R_alloc | apply Kd.R_drewN | apply Kd.R_drew)); exact HO_5.out⟩, ⟨by (try simp only [hl9_2]); (with_reducible repeat (first | apply Kd.R_alloc | apply Kd.R_drewN | apply Kd.R_drew)); exact HO_8.out⟩, ⟨by (try simp only [hl9_2]); (with_reducible repeat (first | apply Kd.R_alloc | apply Kd.R_drewN | apply Kd.R_drew)); exact HO_9.out⟩, ⟨by repeat (first | (with_reducible first | exact HB.out | apply below_alloc | apply pw_below_drewN | apply below_drew1) | exact HB.out)⟩⟩
                        · rw [if_neg c30] at H
                          exact absurd H (by simp)
                      · rw [if_neg c29] at H
                        exact absurd H (by simp)
                    · rw [if_neg c28] at H
                      have c28b0 : decide (x47_2 < (t151.length : Int)) = false := decide_eq_false c28
                      have c28b9 : decide (x47_2 < (x9_2.length : Int)) = false := by first | (rw [← hl9_2]; exact c28b0) | (rw [hl9_2]; exact c28b0)
                      clear c28
                      by_cases c34 : t147.length + x9_2.length < 5864062014805
                      · rw [if_pos c34] at H
                        have LMc34 := Aside0.mk c34
                        clear c34
                        obtain ⟨y156, hy156⟩ : ∃ y_ : List (S29), y_ = (t147 ++ x9_2) := ⟨_, rfl⟩
                        replace H : ((stanzaref01_SameSigns.f k2 y156 t142).bind fun t159 => (some t159)) = some r := by first | (rw [hy156]; with_reducible exact H) | (have H2_ := (Option.bind_some _ _).symm.trans H; rw [hy156]; with_reducible exact H2_) | (have H2_ := (Option.bind_some _ _).symm.trans H; with_reducible exact H2_) | with_reducible exact H | (rw [hy156]; exact H) | exact H
                        have Ny156 := Aside0.mk hy156
                        clear hy156
                        replace H := Option.bind_eq_some_iff.mp H
                        obtain ⟨t159, A350, H⟩ := H
                        replace H : (some t159) = some r := H
                        have A35 := Aside0.mk A350
                        clear A350
                        obtain rfl := Option.some.inj H
                        go_wp2_with (first | ((with_reducible refine gate_builtin (b := .append) (xs := #[.tmp 60, .tmp 61]) rfl ?_); at_builtin; refine Kd.R_append_rows k29 (w0 := w) w.heap.size rfl (.tmp 60) (.tmp 61) 25 29 (.agg #[(.int .i32 0), (.int .i64 0), (.int .i64 0)]) 24 rfl Try.underlying25 info29 rfl (by decide) (by omega) v148 t147 x9_2 _ _ _ (fun k_ => some k_ ≠ (.slice Ao12 t142.length co12 : Value).ownBlock ∧ some k_ ≠ (.slice Ao27 x9_2.length co27 : Value).ownBlock) (fun _ => False) rfl rfl ?aO ?aR (fun _ _ h => h) (fun _ h => h.elim) ?aF ?aB ?aS ?aL ?_; (case aR => repeat (first | exact (Kd.R_reads' HO_9.out).2.2 | (with_reducible refine Kd.C_alloc ?_ _) | (with_reducible refine Kd.C_drewN ?_ _) | (with_reducible refine Kd.C_drew ?_))); (case aB => exact (by repeat (first | (with_reducible first | exact HB.out | apply below_alloc | apply pw_below_drewN | apply below_drew1) | exact HB.out))); (case aF => exact (fun k_ hk => ⟨Kd.fresh' (Kd.R_lt (by (with_reducible repeat (first | apply Kd.R_alloc | apply Kd.R_drewN | apply Kd.R_drew)); exact HO_5.out)) k_ hk, Kd.fresh' (Kd.R_lt (by (with_reducible repeat (first | apply Kd.R_alloc | apply Kd.R_drewN | apply Kd.R_drew)); exact HO_9.out)) k_ hk⟩)); (case aO => exact (by (with_reducible repeat (first | apply Kd.R_alloc | apply Kd.R_drewN | apply Kd.R_drew)); exact HO_8.out)); (case aS => exact (below_size (by repeat (first | (with_reducible first | exact HB.out | apply below_alloc | apply pw_below_drewN | apply below_drew1) | exact HB.out)))); (case aL => have := LMc34.out; omega); intro v157 w36 ho hb hg hat; rw [← Ny156.out] at ho; have n0_ := Aside0.mk (Kd.R_after (ok := (fun k_ => some k_ ≠ (.slice Ao27 x9_2.length co27 : Value).ownBlock)) (by (with_reducible repeat (first | apply Kd.R_alloc | apply Kd.R_drewN | apply Kd.R_drew)); exact Kd.R_mono HO_5.out (fun _ hk => ⟨hk.2, hk.1⟩)) hg hat); have n1_ := Aside0.mk (Kd.R_after (ok := (fun k_ => some k_ ≠ (.slice Ao12 t142.length co12 : Value).ownBlock)) (by (with_reducible repeat (first | apply Kd.R_alloc | apply Kd.R_drewN | apply Kd.R_drew)); exact HO_9.out) hg hat); have n2_ := Aside0.mk (hb); have n3_ := Aside0.mk (ho); clear HO_5; clear HO_9; clear HB; clear HO_8; have HO_5 := n0_; have HO_9 := n1_; have HB := n2_; have HO158 := n3_; clear n0_ n1_ n2_ n3_; clear ho hb hg hat; obtain ⟨Ao37, co37, eo37⟩ := Kd.R_slice HO158.out; subst eo37) | ((with_reducible refine gate_callee (f := 10) rfl ?_); refine goesL_ (some 64) rfl rfl Try.func10 (by kernel_rfl) rfl #[.slice Ao37 y156.length co37, .slice Ao12 t142.length co12] rfl (by (try simp only [List.map_toArray, List.map_cons, List.map_nil]); first | done | rfl | (simp only [List.length_drop, List.length_take]; rfl)) ?_; (with_reducible refine (stanzaref01_SameSigns.calls k2 _ _ y156 _ _ t142 t159 _ ?side1 ?side2 ?side3 ?side4 A35.out).mono ?_); (case side1 => repeat (first | exact (Kd.R_reads' HO158.out).2.2 | (with_reducible refine Kd.C_alloc ?_ _) | (with_reducible refine Kd.C_drewN ?_ _) | (with_reducible refine Kd.C_drew ?_))); (case side2 => exact (Kd.R_reads' HO158.out).2.1); (case side3 => repeat (first | exact (Kd.R_reads' HO_5.out).2.2 | (with_reducible refine Kd.C_alloc ?_ _) | (with_reducible refine Kd.C_drewN ?_ _) | (with_reducible refine Kd.C_drew ?_))); (case side4 => exact (Kd.R_reads' HO_5.out).2.1); rintro e w' ⟨rfl, ⟨nd, rfl⟩⟩; refine ⟨_, rfl, ?_⟩))
                        go_ret
                        exact ⟨by first | rfl | (simp [errW_none, errW_some] <;> rfl) | (simp [*, errW_none, errW_some] <;> rfl), by repeat (first | (with_reducible first | exact HB.out | apply below_alloc | apply pw_below_drewN | apply below_drew1) | exact HB.out)⟩
                      · rw [if_neg c34] at H
                        exact absurd H (by simp)
              · rw [if_neg c17] at H
                exact absurd H (by simp)
            · rw [if_neg c16] at H
              exact absurd H (by simp)
  · replace c4 := Bool.eq_false_iff.mpr c4
    subst c4
    have H1 : (some false) = some r := by rw [if_neg (show ¬ (false = true) by decide)] at H; exact H
    clear H
    have H := H1
    clear H1
    obtain rfl := Option.some.inj H
    go_enter Try.func5, Try.ntmps5
    go_wp2_with (first | ((with_reducible refine gate_callee (f := 9) rfl ?_); refine goesL_ (some 11) rfl rfl Try.func9 (by kernel_rfl) rfl #[] rfl (by (try simp only [List.map_toArray, List.map_cons, List.map_nil]); first | done | rfl | (simp only [List.length_drop, List.length_take]; rfl)) ?_; (with_reducible refine (stanzalaw01_Awake.calls k  false _ A3.out).mono ?_); rintro e w38 ⟨rfl, hb⟩; refine ⟨_, rfl, ?_⟩; have n0_ := Aside0.mk (below_step (by repeat (first | (with_reducible first | exact HB.out | apply below_alloc | apply pw_below_drewN | apply below_drew1) | exact HB.out)) hb); clear HB; have HB := n0_; clear n0_; (try clear hb); (try clear hb2); (try clear hk); (try clear hi)))
    go_ret
    exact ⟨by first | rfl | (simp [errW_none, errW_some] <;> rfl) | (simp [*, errW_none, errW_some] <;> rfl), by repeat (first | (with_reducible first | exact HB.out | apply below_alloc | apply pw_below_drewN | apply below_drew1) | exact HB.out)⟩

/-- THE ONE PURE STATEMENT of stanzalaw01_ScalCuts: yours. -/
def stanzalaw01_ScalCuts.Pure : Prop := ∀ (l0 : List Int) (a1 : Int), l0.length ≤ maxLen → l0.length * 1 ≤ 140737488351232 → (∀ x ∈ l0, (Lit.int .u8 x).wf = true) → (Lit.int .i64 a1).wf = true → ∃ k, stanzalaw01_ScalCuts.f k l0 a1 = some true
theorem stanzalaw01_ScalCuts.walk (P : stanzalaw01_ScalCuts.Pure) (a0 : Option Addr) (len0 cap0 : Nat) (z0 : List Int) (a1 : Int) (w : World) (w0 : (a0 = none ∧ len0 = 0 ∧ cap0 = 0 ∧ z0 = []) ∨ ∃ x, a0 = some x ∧ len0 ≤ cap0 ∧ cap0 ≤ maxLen ∧ z0.length = cap0 ∧ (∀ i, i < z0.length → w.cell? (x.add i) = some (.int .u8 (z0.getD i 0))) ∧ ∀ n ∈ z0, (Lit.int .u8 n).wf = true) (y0 : len0 * 1 ≤ 140737488351232) (w1 : (Lit.int .i64 a1).wf = true) :
    Calls Try.prog 5 #[.slice a0 len0 cap0, .int .i64 a1] w fun e w' => e = .returned (.bool true) ∧ Below w.heap.size w w' := by
  obtain ⟨l0, rfl, hr0, hm0, hw0, hc0⟩ := ReadsInt.ofRowC w0
  obtain ⟨k, h⟩ := P l0 a1 hm0 y0 hw0 w1
  refine (stanzalaw01_ScalCuts.calls k _ _ l0 a1 true w (Kd.C_of_reads (d := (0 : Int)) (h1 := fun _ => rfl) hr0) hc0 h).mono ?_
  rintro e w' ⟨rfl, hd⟩
  exact ⟨rfl, hd⟩

end Go.Proofs.Ytdbcgeebcnlbaaa.PScalAll
