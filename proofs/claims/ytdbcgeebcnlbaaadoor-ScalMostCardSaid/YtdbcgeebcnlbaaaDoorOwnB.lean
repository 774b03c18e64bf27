/- The walks of length and Begins: each computes what its Lean function tells. Conditions: none. -/
import Derived.Test.YtdbcgeebcnlbaaaDoorOwnA
namespace Go.Proofs.YtdbcgeebcnlbaaaDoor.PScalMost
open Go.RowKit Go.Proofs.YtdbcgeebcnlbaaaDoorW.PrintWords Go.Proofs.YtdbcgeebcnlbaaaDoorW.PrintLast Go.Proofs.YtdbcgeebcnlbaaaDoorW.PrintMore
attribute [local go_sem] max2_int min2_int max_two min_two max_three min_three max_four min_four   -- for this text's walks alone
set_option linter.unusedVariables false
set_option linter.unusedSimpArgs false
attribute [local go_sem high] eqA27

/-! ### stanzaref01_length: function 14 -/
mutual
def stanzaref01_length.j0 : Nat → Int → Bool → Option (Int)
  | 0, _, _ => none
  | k + 1, x0, x6 => if x6 = true then (some 2) else (if x0 ≥ 224 then (stanzaref01_length.j1 k x0 (decide (x0 ≤ 239))) else (stanzaref01_length.j1 k x0 false))
def stanzaref01_length.j1 : Nat → Int → Bool → Option (Int)
  | 0, _, _ => none
  | k + 1, x0, x13 => if x13 = true then (some 3) else (if x0 ≥ 240 then (if x0 ≤ 244 then (some 4) else (some 0)) else (some 0))
end
def stanzaref01_length.f (k : Nat) (a0 : Int) : Option (Int) := if a0 < 128 then (some 1) else (if a0 ≥ 194 then (stanzaref01_length.j0 k a0 (decide (a0 ≤ 223))) else (stanzaref01_length.j0 k a0 false))
theorem stanzaref01_length.mono_l : ∀ k, (∀ y0 y1, LeO (stanzaref01_length.j0 k y0 y1) (stanzaref01_length.j0 (k + 1) y0 y1)) ∧ (∀ y0 y1, LeO (stanzaref01_length.j1 k y0 y1) (stanzaref01_length.j1 (k + 1) y0 y1))
  | 0 => ⟨fun _ _ r h => by simp [stanzaref01_length.j0] at h, fun _ _ r h => by simp [stanzaref01_length.j1] at h⟩
  | k + 1 => by
    obtain ⟨ih0, ih1⟩ := stanzaref01_length.mono_l k
    refine ⟨?_, ?_⟩
    · intro y0 y1
      unfold stanzaref01_length.j0
      repeat' first
      | (with_reducible exact ih0 _ _)
      | (with_reducible exact ih1 _ _)
      | (with_reducible exact LeO.refl _)
      | (with_reducible exact LeO.none _)
      | (with_reducible refine LeO.ite ?_ ?_)
      | (with_reducible refine LeO.bind ?_ (fun _ => ?_))
      | exact ih0 _ _
      | exact ih1 _ _
      | exact LeO.none _
      | refine LeO.ite ?_ ?_
      | refine LeO.bind ?_ (fun _ => ?_)
    · intro y0 y1
      unfold stanzaref01_length.j1
      repeat' first
      | (with_reducible exact ih0 _ _)
      | (with_reducible exact ih1 _ _)
      | (with_reducible exact LeO.refl _)
      | (with_reducible exact LeO.none _)
      | (with_reducible refine LeO.ite ?_ ?_)
      | (with_reducible refine LeO.bind ?_ (fun _ => ?_))
      | exact ih0 _ _
      | exact ih1 _ _
      | exact LeO.none _
      | refine LeO.ite ?_ ?_
      | refine LeO.bind ?_ (fun _ => ?_)
theorem stanzaref01_length.mono : ∀ a0 k, LeO (stanzaref01_length.f k a0) (stanzaref01_length.f (k + 1) a0) := by
  intro a0 k
  obtain ⟨ih0, ih1⟩ := stanzaref01_length.mono_l k
  unfold stanzaref01_length.f
  repeat' first
      | (with_reducible exact ih0 _ _)
      | (with_reducible exact ih1 _ _)
      | (with_reducible exact LeO.refl _)
      | (with_reducible exact LeO.none _)
      | (with_reducible refine LeO.ite ?_ ?_)
      | (with_reducible refine LeO.bind ?_ (fun _ => ?_))
      | exact ih0 _ _
      | exact ih1 _ _
      | exact LeO.none _
      | refine LeO.ite ?_ ?_
      | refine LeO.bind ?_ (fun _ => ?_)
set_option maxHeartbeats 8000000 in
set_option maxRecDepth 100000 in
theorem stanzaref01_length.calls (k : Nat) (a0 : Int) (r : Int) (w : World) (h : stanzaref01_length.f k a0 = some r) :
    Calls Tryd.prog 14 #[.int .u8 a0] w fun e w' => e = .returned (.int .i64 r) ∧ Drawn0 w w' := by
  have H : (if a0 < 128 then (some 1) else (if a0 ≥ 194 then (stanzaref01_length.j0 k a0 (decide (a0 ≤ 223))) else (stanzaref01_length.j0 k a0 false))) = some r := h
  clear h
  by_cases c2 : a0 < 128
  · rw [if_pos c2] at H
    have c2b0 : decide (a0 < 128) = true := decide_eq_true c2
    clear c2
    obtain rfl := Option.some.inj H
    go_enter Tryd.func14, Tryd.ntmps14
    go_wp2
    go_ret
    exact ⟨by first | rfl | (simp; done) | (simp [*]; done), by repeat (first | exact Drawn0.refl _ | apply Drawn0.step)⟩
  · rw [if_neg c2] at H
    have c2b0 : decide (a0 < 128) = false := decide_eq_false c2
    clear c2
    have HC3 := Aside0.mk H
    clear H
    go_enter Tryd.func14, Tryd.ntmps14
    go_upto_region 3 with (fail)
    go_cut [6] (fun v6 wc => ∃ (kq : Nat) (x6_2 : Bool), v6 = .bool x6_2 ∧ Aside0 (stanzaref01_length.j0 kq a0 x6_2 = some r) ∧ Aside0 (kq ≤ k) ∧ Drawn0 w wc)
    case first =>
      have H := HC3.out
      clear HC3
      by_cases c4 : a0 ≥ 194
      · rw [if_pos c4] at H
        have c4b0 : decide (194 ≤ a0) = true := decide_eq_true c4
        clear c4
        (first | rw [c4b0] | (simp only [i64_w, i32_w]; rw [c4b0]) | skip)
        have H' := Aside0.mk H
        clear H
        go_wp2
        go_meet
        case rel => exact ⟨_, (decide (a0 ≤ 223)), (by first | rfl | (simp; done) | (simp [*]; done)), H', ⟨by first | omega | exact Nat.le_refl _⟩, by repeat (first | exact Drawn0.refl _ | apply Drawn0.step)⟩
      · rw [if_neg c4] at H
        have c4b0 : decide (194 ≤ a0) = false := decide_eq_false c4
        clear c4
        (first | rw [c4b0] | (simp only [i64_w, i32_w]; rw [c4b0]) | skip)
        have H' := Aside0.mk H
        clear H
        go_wp2
        go_meet
        case rel => exact ⟨_, (false), (by first | rfl | (simp; done) | (simp [*]; done)), H', ⟨by first | omega | exact Nat.le_refl _⟩, by repeat (first | exact Drawn0.refl _ | apply Drawn0.step)⟩
    case rest =>
      clear HC3
      try clear c1
      try clear c2
      try clear c2b0
      try clear p2
      try clear c4
      try clear c4b0
      obtain ⟨kq, x6_2, rfl, HA, HJ2, ⟨mc2, rfl⟩⟩ := hcut
      cases kq with
      | zero => exact absurd HA.out (by simp [stanzaref01_length.j0])
      | succ kj2 =>
        have H := HA.out
        clear HA
        simp only [stanzaref01_length.j0] at H
        by_cases c5 : x6_2 = true
        · subst c5
          have H1 : (some 2) = some r := by rw [if_pos rfl] at H; exact H
          clear H
          have H := H1
          clear H1
          obtain rfl := Option.some.inj H
          go_wp2
          go_ret
          exact ⟨by first | rfl | (simp; done) | (simp [*]; done), by repeat (first | exact Drawn0.refl _ | apply Drawn0.step)⟩
        · replace c5 := Bool.eq_false_iff.mpr c5
          subst c5
          have H1 : (if a0 ≥ 224 then (stanzaref01_length.j1 kj2 a0 (decide (a0 ≤ 239))) else (stanzaref01_length.j1 kj2 a0 false)) = some r := by rw [if_neg (show ¬ (false = true) by decide)] at H; exact H
          clear H
          have H := H1
          clear H1
          have HC6 := Aside0.mk H
          clear H
          go_upto_region 5 with (fail)
          go_cut [13] (fun v13 wc => ∃ (kq : Nat) (x13_5 : Bool), v13 = .bool x13_5 ∧ Aside0 (stanzaref01_length.j1 kq a0 x13_5 = some r) ∧ Aside0 (kq ≤ kj2) ∧ Drawn0 w wc)
          case first =>
            have H := HC6.out
            clear HC6
            by_cases c7 : a0 ≥ 224
            · rw [if_pos c7] at H
              have c7b0 : decide (224 ≤ a0) = true := decide_eq_true c7
              clear c7
              (first | rw [c7b0] | (simp only [i64_w, i32_w]; rw [c7b0]) | skip)
              have H' := Aside0.mk H
              clear H
              go_wp2
              go_meet
              case rel => exact ⟨_, (decide (a0 ≤ 239)), (by first | rfl | (simp; done) | (simp [*]; done)), H', ⟨by have := HJ2.out; first | omega | exact Nat.le_refl _⟩, by repeat (first | exact Drawn0.refl _ | apply Drawn0.step)⟩
            · rw [if_neg c7] at H
              have c7b0 : decide (224 ≤ a0) = false := decide_eq_false c7
              clear c7
              (first | rw [c7b0] | (simp only [i64_w, i32_w]; rw [c7b0]) | skip)
              have H' := Aside0.mk H
              clear H
              go_wp2
              go_meet
              case rel => exact ⟨_, (false), (by first | rfl | (simp; done) | (simp [*]; done)), H', ⟨by have := HJ2.out; first | omega | exact Nat.le_refl _⟩, by repeat (first | exact Drawn0.refl _ | apply Drawn0.step)⟩
          case rest =>
            clear HC6
            try clear c1
            try clear c2
            try clear c2b0
            try clear p2
            try clear c4
            try clear c4b0
            try clear c5
            try clear c7
            try clear c7b0
            try clear p2
            obtain ⟨kq, x13_5, rfl, HA, HJ5, ⟨mc5, rfl⟩⟩ := hcut
            cases kq with
            | zero => exact absurd HA.out (by simp [stanzaref01_length.j1])
            | succ kj5 =>
              have H := HA.out
              clear HA
              simp only [stanzaref01_length.j1] at H
              by_cases c8 : x13_5 = true
              · subst c8
                have H1 : (some 3) = some r := by rw [if_pos rfl] at H; exact H
                clear H
                have H := H1
                clear H1
                obtain rfl := Option.some.inj H
                go_wp2
                go_ret
                exact ⟨by first | rfl | (simp; done) | (simp [*]; done), by repeat (first | exact Drawn0.refl _ | apply Drawn0.step)⟩
              · replace c8 := Bool.eq_false_iff.mpr c8
                subst c8
                have H1 : (if a0 ≥ 240 then (if a0 ≤ 244 then (some 4) else (some 0)) else (some 0)) = some r := by rw [if_neg (show ¬ (false = true) by decide)] at H; exact H
                clear H
                have H := H1
                clear H1
                by_cases c9 : a0 ≥ 240
                · rw [if_pos c9] at H
                  have c9b0 : decide (240 ≤ a0) = true := decide_eq_true c9
                  clear c9
                  by_cases c10 : a0 ≤ 244
                  · rw [if_pos c10] at H
                    have c10b0 : decide (a0 ≤ 244) = true := decide_eq_true c10
                    clear c10
                    obtain rfl := Option.some.inj H
                    go_wp2
                    go_ret
                    exact ⟨by first | rfl | (simp; done) | (simp [*]; done), by repeat (first | exact Drawn0.refl _ | apply Drawn0.step)⟩
                  · rw [if_neg c10] at H
                    have c10b0 : decide (a0 ≤ 244) = false := decide_eq_false c10
                    clear c10
                    obtain rfl := Option.some.inj H
                    go_wp2
                    go_ret
                    exact ⟨by first | rfl | (simp; done) | (simp [*]; done), by repeat (first | exact Drawn0.refl _ | apply Drawn0.step)⟩
                · rw [if_neg c9] at H
                  have c9b0 : decide (240 ≤ a0) = false := decide_eq_false c9
                  clear c9
                  obtain rfl := Option.some.inj H
                  go_wp2
                  go_ret
                  exact ⟨by first | rfl | (simp; done) | (simp [*]; done), by repeat (first | exact Drawn0.refl _ | apply Drawn0.step)⟩

/-! ### stanzaref01_Begins: function 10 -/
mutual
def stanzaref01_Begins.j0 : Nat → List Int → Bool → Option (Bool)
  | 0, _, _ => none
  | k + 1, x0, x15 => if x15 = true then (some false) else (stanzaref01_Begins.l0 k x0 1)
def stanzaref01_Begins.l0 : Nat → List Int → Int → Option (Bool)
  | 0, _, _ => none
  | k + 1, x0, x3 => if x3 < (x0.length : Int) then (if 0 ≤ x3 then (if (rd x0 x3) < 128 then (some false) else (if (rd x0 x3) > 191 then (some false) else (stanzaref01_Begins.l0 k x0 (wrap64 (x3 + 1))))) else (none)) else (if (x0.length : Int) = 1 then (some true) else (if 0 < (x0.length : Int) then (if (rd x0 0) = 224 then (if 1 < (x0.length : Int) then (some (decide ((rd x0 1) ≥ 160))) else (none)) else (if (rd x0 0) = 237 then (if 1 < (x0.length : Int) then (some (decide ((rd x0 1) < 160))) else (none)) else (if (rd x0 0) = 240 then (if 1 < (x0.length : Int) then (some (decide ((rd x0 1) ≥ 144))) else (none)) else (if (rd x0 0) = 244 then (if 1 < (x0.length : Int) then (some (decide ((rd x0 1) < 144))) else (none)) else (some true))))) else (none)))
end
def stanzaref01_Begins.f (k : Nat) (l0 : List Int) : Option (Bool) := if (l0.length : Int) = 0 then (stanzaref01_Begins.j0 k l0 true) else (if 0 < (l0.length : Int) then ((stanzaref01_length.f k (rd l0 0)).bind fun t149 => (stanzaref01_Begins.j0 k l0 (decide ((l0.length : Int) > t149)))) else (none))
theorem stanzaref01_Begins.mono_l : ∀ k, (∀ y0 y1, LeO (stanzaref01_Begins.j0 k y0 y1) (stanzaref01_Begins.j0 (k + 1) y0 y1)) ∧ (∀ y0 y1, LeO (stanzaref01_Begins.l0 k y0 y1) (stanzaref01_Begins.l0 (k + 1) y0 y1))
  | 0 => ⟨fun _ _ r h => by simp [stanzaref01_Begins.j0] at h, fun _ _ r h => by simp [stanzaref01_Begins.l0] at h⟩
  | k + 1 => by
    obtain ⟨ih0, ih1⟩ := stanzaref01_Begins.mono_l k
    refine ⟨?_, ?_⟩
    · intro y0 y1
      unfold stanzaref01_Begins.j0
      repeat' first
      | (with_reducible exact ih0 _ _)
      | (with_reducible exact ih1 _ _)
      | (with_reducible exact stanzaref01_length.mono _ _)
      | (with_reducible exact LeO.refl _)
      | (with_reducible exact LeO.none _)
      | (with_reducible refine LeO.ite ?_ ?_)
      | (with_reducible refine LeO.bind ?_ (fun _ => ?_))
      | exact ih0 _ _
      | exact ih1 _ _
      | exact stanzaref01_length.mono _ _
      | exact LeO.none _
      | refine LeO.ite ?_ ?_
      | refine LeO.bind ?_ (fun _ => ?_)
    · intro y0 y1
      unfold stanzaref01_Begins.l0
      repeat' first
      | (with_reducible exact ih0 _ _)
      | (with_reducible exact ih1 _ _)
      | (with_reducible exact stanzaref01_length.mono _ _)
      | (with_reducible exact LeO.refl _)
      | (with_reducible exact LeO.none _)
      | (with_reducible refine LeO.ite ?_ ?_)
      | (with_reducible refine LeO.bind ?_ (fun _ => ?_))
      | exact ih0 _ _
      | exact ih1 _ _
      | exact stanzaref01_length.mono _ _
      | exact LeO.none _
      | refine LeO.ite ?_ ?_
      | refine LeO.bind ?_ (fun _ => ?_)
theorem stanzaref01_Begins.mono : ∀ a0 k, LeO (stanzaref01_Begins.f k a0) (stanzaref01_Begins.f (k + 1) a0) := by
  intro a0 k
  obtain ⟨ih0, ih1⟩ := stanzaref01_Begins.mono_l k
  unfold stanzaref01_Begins.f
  repeat' first
      | (with_reducible exact ih0 _ _)
      | (with_reducible exact ih1 _ _)
      | (with_reducible exact stanzaref01_length.mono _ _)
      | (with_reducible exact LeO.refl _)
      | (with_reducible exact LeO.none _)
      | (with_reducible refine LeO.ite ?_ ?_)
      | (with_reducible refine LeO.bind ?_ (fun _ => ?_))
      | exact ih0 _ _
      | exact ih1 _ _
      | exact stanzaref01_length.mono _ _
      | exact LeO.none _
      | refine LeO.ite ?_ ?_
      | refine LeO.bind ?_ (fun _ => ?_)
set_option maxHeartbeats 8000000 in
set_option maxRecDepth 100000 in
theorem stanzaref01_Begins.calls (k : Nat) (A0 : Option Addr) (c0 : Nat) (l0 : List Int) (r : Bool) (w : World) (hr0 : Kd.C (Kd.int .u8) w A0 l0.length l0) (hc0 : l0.length ≤ c0) (h : stanzaref01_Begins.f k l0 = some r) :
    Calls Tryd.prog 10 #[.slice A0 l0.length c0] w fun e w' => e = .returned (.bool r) ∧ Drawn0 w w' := by
  have HR0 := Aside0.mk hr0
  have HC0 := Aside0.mk hc0
  clear hr0 hc0
  have H : (if (l0.length : Int) = 0 then (stanzaref01_Begins.j0 k l0 true) else (if 0 < (l0.length : Int) then ((stanzaref01_length.f k (rd l0 0)).bind fun t149 => (stanzaref01_Begins.j0 k l0 (decide ((l0.length : Int) > t149)))) else (none))) = some r := h
  clear h
  have HC2 := Aside0.mk H
  clear H
  go_enter Tryd.func10, Tryd.ntmps10
  go_upto_region 1 with (fail)
  go_cut [15] (fun v15 wc => ∃ (kq : Nat) (x15_1 : Bool), v15 = .bool x15_1 ∧ Aside0 (stanzaref01_Begins.j0 kq l0 x15_1 = some r) ∧ Aside0 (kq ≤ k) ∧ Drawn0 w wc)
  case first =>
    have H := HC2.out
    clear HC2
    by_cases c3 : (l0.length : Int) = 0
    · rw [if_pos c3] at H
      have c3b0 : ((l0.length : Int) == 0) = true := beq_iff_eq.mpr c3
      have c3b1 : ((l0.length : Int) != 0) = false := bne_eq_false_iff_eq.mpr c3
      clear c3
      (first | rw [c3b0] | (simp only [i64_w, i32_w]; rw [c3b0]) | skip)
      have H' := Aside0.mk H
      clear H
      go_wp2
      go_meet
      case rel => exact ⟨_, (true), (by first | rfl | (simp; done) | (simp [*]; done)), H', ⟨by first | omega | exact Nat.le_refl _⟩, by repeat (first | exact Drawn0.refl _ | apply Drawn0.step)⟩
    · rw [if_neg c3] at H
      have c3b0 : ((l0.length : Int) == 0) = false := beq_eq_false_iff_ne.mpr c3
      have c3b1 : ((l0.length : Int) != 0) = true := bne_iff_ne.mpr c3
      have c3b2 : ¬ (l0 = []) := fun h_ => c3 (by rw [h_]; rfl)
      (first | rw [c3b0] | (simp only [i64_w, i32_w]; rw [c3b0]) | skip)
      by_cases c4 : 0 < (l0.length : Int)
      · rw [if_pos c4] at H
        have c4b0 : decide (0 < (l0.length : Int)) = true := decide_eq_true c4
        have c4b1 : decide (0 < l0.length) = true := decide_eq_true (by omega)
        clear c4
        replace H := Option.bind_eq_some_iff.mp H
        obtain ⟨t149, A50, H⟩ := H
        replace H : (stanzaref01_Begins.j0 k l0 (decide ((l0.length : Int) > t149))) = some r := H
        have A5 := Aside0.mk A50
        clear A50
        have H' := Aside0.mk H
        clear H
        have p148 : 0 ≤ (0 : Int) := (by omega)
        have q148 : 0 < (l0.length : Int) := of_decide_eq_true (by first | (with_reducible assumption) | assumption)
        obtain ⟨ad148, e148, hx148_0⟩ := Kd.at_int HR0.out 0 p148 q148
        cases e148
        have qi148 : (0 < l0.length) = True := eq_true (by omega)
        (try rw [show ((0 : Int)).toNat = 0 from rfl] at hx148_0)
        (try rw [Addr.add_zero'] at hx148_0)
        replace p148 := eq_true p148
        replace q148 := eq_true q148
        go_wp2_with (first | (go_at_call 14; (with_reducible refine (stanzaref01_length.calls k (rd l0 0) t149 _ A5.out).mono ?_); rintro e w' ⟨rfl, ⟨nd, rfl⟩⟩))
        go_meet
        case rel => exact ⟨_, (decide ((l0.length : Int) > t149)), (by first | rfl | (simp; done) | (simp [*]; done)), H', ⟨by first | omega | exact Nat.le_refl _⟩, by repeat (first | exact Drawn0.refl _ | apply Drawn0.step)⟩
      · rw [if_neg c4] at H
        exact absurd H (by simp)
  case rest =>
    clear HC2
    try clear c1
    try clear p1
    try clear q1
    try clear hx1
    try clear qi1
    try clear p2
    try clear c3
    try clear c3b0
    try clear c3b1
    try clear c3b2
    try clear c4
    try clear c4b0
    try clear c4b1
    try clear hx148_0
    try clear p148
    try clear q148
    obtain ⟨kq, x15_1, rfl, HA, HJ1, ⟨mc1, rfl⟩⟩ := hcut
    cases kq with
    | zero => exact absurd HA.out (by simp [stanzaref01_Begins.j0])
    | succ kj1 =>
      have H := HA.out
      clear HA
      simp only [stanzaref01_Begins.j0] at H
      by_cases c6 : x15_1 = true
      · subst c6
        have H1 : (some false) = some r := by rw [if_pos rfl] at H; exact H
        clear H
        have H := H1
        clear H1
        obtain rfl := Option.some.inj H
        go_wp2
        go_ret
        exact ⟨by first | rfl | (simp; done) | (simp [*]; done), by repeat (first | exact Drawn0.refl _ | apply Drawn0.step)⟩
      · replace c6 := Bool.eq_false_iff.mpr c6
        subst c6
        have H1 : (stanzaref01_Begins.l0 kj1 l0 1) = some r := by rw [if_neg (show ¬ (false = true) by decide)] at H; exact H
        clear H
        have H := H1
        clear H1
        have H' := Aside0.mk H
        clear H
        go_wp2
        go_loopg [3] kj1 (fun kq v3 w' => ∃ (x3_2 : Int), v3 = .int .i64 x3_2 ∧ Aside0 (stanzaref01_Begins.l0 kq l0 x3_2 = some r) ∧ Aside0 (kq ≤ kj1) ∧ Drawn0 w w')
        case atStart => exact ⟨(1), (by first | rfl | (simp; done) | (simp [*]; done)), H', ⟨Nat.le_refl _⟩, by repeat (first | exact Drawn0.refl _ | apply Drawn0.step)⟩
        case round =>
          clear H'
          try clear c1
          try clear p1
          try clear q1
          try clear hx1
          try clear qi1
          try clear p2
          try clear c3
          try clear c3b0
          try clear c3b1
          try clear c3b2
          try clear c4
          try clear c4b0
          try clear c4b1
          try clear c6
          try clear hx148_0
          try clear p1
          try clear p148
          try clear p2
          try clear q1
          try clear q148
          obtain ⟨x3_2, rfl, HA, HK2, ⟨m2, rfl⟩⟩ := hrel
          cases gk with
          | zero => exact absurd HA.out (by simp [stanzaref01_Begins.l0])
          | succ k2 =>
            have H := HA.out
            clear HA
            simp only [stanzaref01_Begins.l0] at H
            by_cases c7 : x3_2 < (l0.length : Int)
            · rw [if_pos c7] at H
              have c7b0 : decide (x3_2 < (l0.length : Int)) = true := decide_eq_true c7
              clear c7
              by_cases c8 : 0 ≤ x3_2
              · rw [if_pos c8] at H
                have c8b0 : decide (0 ≤ x3_2) = true := decide_eq_true c8
                clear c8
                by_cases c9 : (rd l0 x3_2) < 128
                · rw [if_pos c9] at H
                  have c9b0 : decide ((rd l0 x3_2) < 128) = true := decide_eq_true c9
                  clear c9
                  obtain rfl := Option.some.inj H
                  have p150 : 0 ≤ (x3_2 : Int) := of_decide_eq_true (by first | (with_reducible assumption) | assumption)
                  have q150 : x3_2 < (l0.length : Int) := of_decide_eq_true (by first | (with_reducible assumption) | assumption)
                  obtain ⟨ad150, e150, hx150_0⟩ := Kd.at_int HR0.out x3_2 p150 q150
                  cases e150
                  replace p150 := eq_true p150
                  replace q150 := eq_true q150
                  go_wp2
                  go_ret
                  exact ⟨by first | rfl | (simp; done) | (simp [*]; done), by repeat (first | exact Drawn0.refl _ | apply Drawn0.step)⟩
                · rw [if_neg c9] at H
                  have c9b0 : decide ((rd l0 x3_2) < 128) = false := decide_eq_false c9
                  clear c9
                  by_cases c10 : (rd l0 x3_2) > 191
                  · rw [if_pos c10] at H
                    have c10b0 : decide (191 < (rd l0 x3_2)) = true := decide_eq_true c10
                    clear c10
                    obtain rfl := Option.some.inj H
                    have p150 : 0 ≤ (x3_2 : Int) := of_decide_eq_true (by first | (with_reducible assumption) | assumption)
                    have q150 : x3_2 < (l0.length : Int) := of_decide_eq_true (by first | (with_reducible assumption) | assumption)
                    obtain ⟨ad150, e150, hx150_0⟩ := Kd.at_int HR0.out x3_2 p150 q150
                    cases e150
                    replace p150 := eq_true p150
                    replace q150 := eq_true q150
                    have p151 : 0 ≤ (x3_2 : Int) := of_decide_eq_true (by first | (with_reducible assumption) | assumption)
                    have q151 : x3_2 < (l0.length : Int) := of_decide_eq_true (by first | (with_reducible assumption) | assumption)
                    obtain ⟨ad151, e151, hx151_0⟩ := Kd.at_int HR0.out x3_2 p151 q151
                    obtain rfl : ad150 = ad151 := (by injection e151)
                    replace p151 := eq_true p151
                    replace q151 := eq_true q151
                    go_wp2
                    go_ret
                    exact ⟨by first | rfl | (simp; done) | (simp [*]; done), by repeat (first | exact Drawn0.refl _ | apply Drawn0.step)⟩
                  · rw [if_neg c10] at H
                    have c10b0 : decide (191 < (rd l0 x3_2)) = false := decide_eq_false c10
                    clear c10
                    have H' := Aside0.mk H
                    clear H
                    have p150 : 0 ≤ (x3_2 : Int) := of_decide_eq_true (by first | (with_reducible assumption) | assumption)
                    have q150 : x3_2 < (l0.length : Int) := of_decide_eq_true (by first | (with_reducible assumption) | assumption)
                    obtain ⟨ad150, e150, hx150_0⟩ := Kd.at_int HR0.out x3_2 p150 q150
                    cases e150
                    replace p150 := eq_true p150
                    replace q150 := eq_true q150
                    have p151 : 0 ≤ (x3_2 : Int) := of_decide_eq_true (by first | (with_reducible assumption) | assumption)
                    have q151 : x3_2 < (l0.length : Int) := of_decide_eq_true (by first | (with_reducible assumption) | assumption)
                    obtain ⟨ad151, e151, hx151_0⟩ := Kd.at_int HR0.out x3_2 p151 q151
                    obtain rfl : ad150 = ad151 := (by injection e151)
                    replace p151 := eq_true p151
                    replace q151 := eq_true q151
                    go_wp2
                    go_roundg k2
                    case measure => have := HJ1.out; have := HK2.out; omega
                    case rel => exact ⟨(wrap64 (x3_2 + 1)), (by first | rfl | (simp; done) | (simp [*]; done)), H', ⟨by have := HJ1.out; have := HK2.out; omega⟩, by repeat (first | exact Drawn0.refl _ | apply Drawn0.step)⟩
              · rw [if_neg c8] at H
                exact absurd H (by simp)
            · rw [if_neg c7] at H
              have c7b0 : decide (x3_2 < (l0.length : Int)) = false := decide_eq_false c7
              clear c7
              by_cases c11 : (l0.length : Int) = 1
              · rw [if_pos c11] at H
                have c11b0 : ((l0.length : Int) == 1) = true := beq_iff_eq.mpr c11
                have c11b1 : ((l0.length : Int) != 1) = false := bne_eq_false_iff_eq.mpr c11
                clear c11
                obtain rfl := Option.some.inj H
                go_wp2
                go_ret
                exact ⟨by first | rfl | (simp; done) | (simp [*]; done), by repeat (first | exact Drawn0.refl _ | apply Drawn0.step)⟩
              · rw [if_neg c11] at H
                have c11b0 : ((l0.length : Int) == 1) = false := beq_eq_false_iff_ne.mpr c11
                have c11b1 : ((l0.length : Int) != 1) = true := bne_iff_ne.mpr c11
                by_cases c12 : 0 < (l0.length : Int)
                · rw [if_pos c12] at H
                  have c12b0 : decide (0 < (l0.length : Int)) = true := decide_eq_true c12
                  have c12b1 : decide (0 < l0.length) = true := decide_eq_true (by omega)
                  clear c12
                  by_cases c13 : (rd l0 0) = 224
                  · rw [if_pos c13] at H
                    have c13b0 : ((rd l0 0) == 224) = true := beq_iff_eq.mpr c13
                    have c13b1 : ((rd l0 0) != 224) = false := bne_eq_false_iff_eq.mpr c13
                    clear c13
                    by_cases c14 : 1 < (l0.length : Int)
                    · rw [if_pos c14] at H
                      have c14b0 : decide (1 < (l0.length : Int)) = true := decide_eq_true c14
                      have c14b1 : decide (1 < l0.length) = true := decide_eq_true (by omega)
                      clear c14
                      obtain rfl := Option.some.inj H
                      have p152 : 0 ≤ (0 : Int) := (by omega)
                      have q152 : 0 < (l0.length : Int) := of_decide_eq_true (by first | (with_reducible assumption) | assumption)
                      obtain ⟨ad152, e152, hx152_0⟩ := Kd.at_int HR0.out 0 p152 q152
                      cases e152
                      have qi152 : (0 < l0.length) = True := eq_true (by omega)
                      (try rw [show ((0 : Int)).toNat = 0 from rfl] at hx152_0)
                      (try rw [Addr.add_zero'] at hx152_0)
                      replace p152 := eq_true p152
                      replace q152 := eq_true q152
                      have p153 : 0 ≤ (1 : Int) := (by omega)
                      have q153 : 1 < (l0.length : Int) := of_decide_eq_true (by first | (with_reducible assumption) | assumption)
                      obtain ⟨ad153, e153, hx153_0⟩ := Kd.at_int HR0.out 1 p153 q153
                      obtain rfl : ad152 = ad153 := (by injection e153)
                      (try simp only [show (1 : Int).toNat = 1 from rfl, Nat.reduceMul, Nat.reduceEqDiff, Go.Addr.add, ↓reduceIte] at hx153_0)
                      have qi153 : (1 < l0.length) = True := eq_true (by omega)
                      (try rw [show ((1 : Int)).toNat = 1 from rfl] at hx153_0)
                      replace p153 := eq_true p153
                      replace q153 := eq_true q153
                      go_wp2
                      go_ret
                      exact ⟨by first | rfl | (simp; done) | (simp [*]; done), by repeat (first | exact Drawn0.refl _ | apply Drawn0.step)⟩
                    · rw [if_neg c14] at H
                      exact absurd H (by simp)
                  · rw [if_neg c13] at H
                    have c13b0 : ((rd l0 0) == 224) = false := beq_eq_false_iff_ne.mpr c13
                    have c13b1 : ((rd l0 0) != 224) = true := bne_iff_ne.mpr c13
                    by_cases c15 : (rd l0 0) = 237
                    · rw [if_pos c15] at H
                      have c15b0 : ((rd l0 0) == 237) = true := beq_iff_eq.mpr c15
                      have c15b1 : ((rd l0 0) != 237) = false := bne_eq_false_iff_eq.mpr c15
                      clear c15
                      by_cases c16 : 1 < (l0.length : Int)
                      · rw [if_pos c16] at H
                        have c16b0 : decide (1 < (l0.length : Int)) = true := decide_eq_true c16
                        have c16b1 : decide (1 < l0.length) = true := decide_eq_true (by omega)
                        clear c16
                        obtain rfl := Option.some.inj H
                        have p152 : 0 ≤ (0 : Int) := (by omega)
                        have q152 : 0 < (l0.length : Int) := of_decide_eq_true (by first | (with_reducible assumption) | assumption)
                        obtain ⟨ad152, e152, hx152_0⟩ := Kd.at_int HR0.out 0 p152 q152
                        cases e152
                        have qi152 : (0 < l0.length) = True := eq_true (by omega)
                        (try rw [show ((0 : Int)).toNat = 0 from rfl] at hx152_0)
                        (try rw [Addr.add_zero'] at hx152_0)
                        replace p152 := eq_true p152
                        replace q152 := eq_true q152
                        have p154 : 0 ≤ (1 : Int) := (by omega)
                        have q154 : 1 < (l0.length : Int) := of_decide_eq_true (by first | (with_reducible assumption) | assumption)
                        obtain ⟨ad154, e154, hx154_0⟩ := Kd.at_int HR0.out 1 p154 q154
                        obtain rfl : ad152 = ad154 := (by injection e154)
                        (try simp only [show (1 : Int).toNat = 1 from rfl, Nat.reduceMul, Nat.reduceEqDiff, Go.Addr.add, ↓reduceIte] at hx154_0)
                        have qi154 : (1 < l0.length) = True := eq_true (by omega)
                        (try rw [show ((1 : Int)).toNat = 1 from rfl] at hx154_0)
                        replace p154 := eq_true p154
                        replace q154 := eq_true q154
                        go_wp2
                        go_ret
                        exact ⟨by first | rfl | (simp; done) | (simp [*]; done), by repeat (first | exact Drawn0.refl _ | apply Drawn0.step)⟩
                      · rw [if_neg c16] at H
                        exact absurd H (by simp)
                    · rw [if_neg c15] at H
                      have c15b0 : ((rd l0 0) == 237) = false := beq_eq_false_iff_ne.mpr c15
                      have c15b1 : ((rd l0 0) != 237) = true := bne_iff_ne.mpr c15
                      by_cases c17 : (rd l0 0) = 240
                      · rw [if_pos c17] at H
                        have c17b0 : ((rd l0 0) == 240) = true := beq_iff_eq.mpr c17
                        have c17b1 : ((rd l0 0) != 240) = false := bne_eq_false_iff_eq.mpr c17
                        clear c17
                        by_cases c18 : 1 < (l0.length : Int)
                        · rw [if_pos c18] at H
                          have c18b0 : decide (1 < (l0.length : Int)) = true := decide_eq_true c18
                          have c18b1 : decide (1 < l0.length) = true := decide_eq_true (by omega)
                          clear c18
                          obtain rfl := Option.some.inj H
                          have p152 : 0 ≤ (0 : Int) := (by omega)
                          have q152 : 0 < (l0.length : Int) := of_decide_eq_true (by first | (with_reducible assumption) | assumption)
                          obtain ⟨ad152, e152, hx152_0⟩ := Kd.at_int HR0.out 0 p152 q152
                          cases e152
                          have qi152 : (0 < l0.length) = True := eq_true (by omega)
                          (try rw [show ((0 : Int)).toNat = 0 from rfl] at hx152_0)
                          (try rw [Addr.add_zero'] at hx152_0)
                          replace p152 := eq_true p152
                          replace q152 := eq_true q152
                          have p155 : 0 ≤ (1 : Int) := (by omega)
                          have q155 : 1 < (l0.length : Int) := of_decide_eq_true (by first | (with_reducible assumption) | assumption)
                          obtain ⟨ad155, e155, hx155_0⟩ := Kd.at_int HR0.out 1 p155 q155
                          obtain rfl : ad152 = ad155 := (by injection e155)
                          (try simp only [show (1 : Int).toNat = 1 from rfl, Nat.reduceMul, Nat.reduceEqDiff, Go.Addr.add, ↓reduceIte] at hx155_0)
                          have qi155 : (1 < l0.length) = True := eq_true (by omega)
                          (try rw [show ((1 : Int)).toNat = 1 from rfl] at hx155_0)
                          replace p155 := eq_true p155
                          replace q155 := eq_true q155
                          go_wp2
                          go_ret
                          exact ⟨by first | rfl | (simp; done) | (simp [*]; done), by repeat (first | exact Drawn0.refl _ | apply Drawn0.step)⟩
                        · rw [if_neg c18] at H
                          exact absurd H (by simp)
                      · rw [if_neg c17] at H
                        have c17b0 : ((rd l0 0) == 240) = false := beq_eq_false_iff_ne.mpr c17
                        have c17b1 : ((rd l0 0) != 240) = true := bne_iff_ne.mpr c17
                        by_cases c19 : (rd l0 0) = 244
                        · rw [if_pos c19] at H
                          have c19b0 : ((rd l0 0) == 244) = true := beq_iff_eq.mpr c19
                          have c19b1 : ((rd l0 0) != 244) = false := bne_eq_false_iff_eq.mpr c19
                          clear c19
                          by_cases c20 : 1 < (l0.length : Int)
                          · rw [if_pos c20] at H
                            have c20b0 : decide (1 < (l0.length : Int)) = true := decide_eq_true c20
                            have c20b1 : decide (1 < l0.length) = true := decide_eq_true (by omega)
                            clear c20
                            obtain rfl := Option.some.inj H
                            have p152 : 0 ≤ (0 : Int) := (by omega)
                            have q152 : 0 < (l0.length : Int) := of_decide_eq_true (by first | (with_reducible assumption) | assumption)
                            obtain ⟨ad152, e152, hx152_0⟩ := Kd.at_int HR0.out 0 p152 q152
                            cases e152
                            have qi152 : (0 < l0.length) = True := eq_true (by omega)
                            (try rw [show ((0 : Int)).toNat = 0 from rfl] at hx152_0)
                            (try rw [Addr.add_zero'] at hx152_0)
                            replace p152 := eq_true p152
                            replace q152 := eq_true q152
                            have p156 : 0 ≤ (1 : Int) := (by omega)
                            have q156 : 1 < (l0.length : Int) := of_decide_eq_true (by first | (with_reducible assumption) | assumption)
                            obtain ⟨ad156, e156, hx156_0⟩ := Kd.at_int HR0.out 1 p156 q156
                            obtain rfl : ad152 = ad156 := (by injection e156)
                            (try simp only [show (1 : Int).toNat = 1 from rfl, Nat.reduceMul, Nat.reduceEqDiff, Go.Addr.add, ↓reduceIte] at hx156_0)
                            have qi156 : (1 < l0.length) = True := eq_true (by omega)
                            (try rw [show ((1 : Int)).toNat = 1 from rfl] at hx156_0)
                            replace p156 := eq_true p156
                            replace q156 := eq_true q156
                            go_wp2
                            go_ret
                            exact ⟨by first | rfl | (simp; done) | (simp [*]; done), by repeat (first | exact Drawn0.refl _ | apply Drawn0.step)⟩
                          · rw [if_neg c20] at H
                            exact absurd H (by simp)
                        · rw [if_neg c19] at H
                          have c19b0 : ((rd l0 0) == 244) = false := beq_eq_false_iff_ne.mpr c19
                          have c19b1 : ((rd l0 0) != 244) = true := bne_iff_ne.mpr c19
                          obtain rfl := Option.some.inj H
                          have p152 : 0 ≤ (0 : Int) := (by omega)
                          have q152 : 0 < (l0.length : Int) := of_decide_eq_true (by first | (with_reducible assumption) | assumption)
                          obtain ⟨ad152, e152, hx152_0⟩ := Kd.at_int HR0.out 0 p152 q152
                          cases e152
                          have qi152 : (0 < l0.length) = True := eq_true (by omega)
                          (try rw [show ((0 : Int)).toNat = 0 from rfl] at hx152_0)
                          (try rw [Addr.add_zero'] at hx152_0)
                          replace p152 := eq_true p152
                          replace q152 := eq_true q152
                          go_wp2
                          go_ret
                          exact ⟨by first | rfl | (simp; done) | (simp [*]; done), by repeat (first | exact Drawn0.refl _ | apply Drawn0.step)⟩
                · rw [if_neg c12] at H
                  exact absurd H (by simp)

-- NOT PRINTED: function 4 (stanzalaw01_ScalMost)

end Go.Proofs.YtdbcgeebcnlbaaaDoor.PScalMost
