/- The walks of slices.Grow, slices.Concat and slices.Clone at bytes, as the program calls them. Conditions: rows of at most a million bytes. -/
import Derived.Test.YtjgahpcmojnfcaaPEditSplicesx1
import Derived.Lib.AppendZeros
import Derived.Lib.SliceRun
import Derived.LoopN
import Derived.Outline
namespace Go.Proofs.Ytjgahpcmojnfcaa.PEditSplices
open Go.RowKit Go.Proofs.YtjgahpcmojnfcaaW.PrintWords Go.Proofs.YtjgahpcmojnfcaaW.PrintLast Go.Proofs.YtjgahpcmojnfcaaW.PrintMore
set_option linter.unusedVariables false
set_option linter.unusedSimpArgs false

/-- A row's first elements are a row. -/
theorem R_zero {w : World} {base : Nat} {ok : Nat → Prop} {v : Value} {xs : List Int} (h : Kd.R (Kd.int .u8) 5 w base ok v xs) :
    ∃ A c, v = .slice A xs.length c ∧ Kd.R (Kd.int .u8) 5 w base ok (.slice A 0 c) [] := by
  have ho := Kd.own_of_R h
  have h0 := h.1
  rcases ho.2 with ⟨rfl, hn⟩ | ⟨g, cap, cur, rfl, hb, hc, hn, hm, hs, ht⟩
  · exact ⟨none, 0, by rw [hn], Kd.R_nil _ _ _ _ _⟩
  · refine ⟨_, _, rfl, Kd.R_of_own ⟨rfl, .inr ⟨g, cap, cur, rfl, hb, hc, Nat.zero_le _, hm, hs, by simp [encs]⟩⟩ h0⟩

set_option maxHeartbeats 2000000 in
set_option maxRecDepth 100000 in
theorem grow_calls (n : Nat) (hn : n ≤ 10000000) (w : World) :
    Calls Try.prog 18 #[.slice none 0 0, .int .i64 n] w fun e w' => ∃ v, e = .returned v ∧ Kd.R (Kd.int .u8) 5 w' w.heap.size (fun _ => True) v [] ∧ Below w.heap.size w w' := by
  have hneg : ¬ ((n : Int) < 0) := by omega
  by_cases h0 : n = 0
  · subst h0
    go_enter Try.func18, Try.ntmps18
    go_wp2
    go_ret
    exact ⟨_, rfl, Kd.R_nil _ _ _ _ _, Below.refl _ _⟩
  · have hpos : 0 < (n : Int) := by omega
    have hw1 : wrap64 ((0 : Int) - 0) = 0 := by unfold wrap64; omega
    have hw2 : wrap64 ((n : Int) - 0) = (n : Int) := by unfold wrap64; omega
    obtain ⟨v1, w1, hrun, hR, hg, _⟩ := Kd.R_zeros_run (P := Try.prog) (Kd.int .u8) (W := w) w.heap.size 22 3 22 5 (.int .u8 0) 1 Try.underlying22 Try.underlying3 info5 rfl (by decide) (by omega)
      (.slice none 0 0) ([] : List Int) (0 : Int) (ok := fun _ => True) rfl (fun _ _ => trivial) (Kd.R_nil _ _ _ _ _) .i64 (n : Int) (by omega) (by simp; omega) (Nat.le_refl _)
    obtain ⟨A, c, rfl, hR0⟩ := R_zero hR
    have hb : Below w.heap.size w w1 := pw_below_grown (Below.refl _ _) none (Nat.le_refl _) hg (fun k hk => by cases hk)
    have hlen : ([] ++ List.replicate (n : Int).toNat (0 : Int)).length = n := by simp
    rw [hlen] at hrun
    have hc : n ≤ c := by
      have := (Kd.R_reads' hR).2.1
      rwa [hlen] at this
    clear hR hg hlen
    go_enter Try.func18, Try.ntmps18
    go_wp2_with (at_builtin; refine Lib.wpList_append_run _ rfl _ _ _ _ rfl _ _ rfl rfl _ _ hrun ?_)
    all_goals
      go_ret
      exact ⟨_, rfl, hR0, hb⟩

theorem grow_int (m : Int) (h0 : 0 ≤ m) (hm : m ≤ 10000000) (w : World) :
    Calls Try.prog 18 #[.slice none 0 0, .int .i64 m] w fun e w' => ∃ v, e = .returned v ∧ Kd.R (Kd.int .u8) 5 w' w.heap.size (fun _ => True) v [] ∧ Below w.heap.size w w' := by
  obtain ⟨n, rfl⟩ := Int.eq_ofNat_of_zero_le h0
  exact grow_calls n (by omega) w

set_option maxHeartbeats 4000000 in
set_option maxRecDepth 100000 in
theorem concat_calls (b c : Nat) (A1 A2 A3 : Option Addr) (c1 c2 c3 : Nat) (l1 l2 l3 : List Int) (w : World)
    (h1 : Kd.C (Kd.int .u8) w A1 l1.length l1) (h2 : Kd.C (Kd.int .u8) w A2 l2.length l2) (h3 : Kd.C (Kd.int .u8) w A3 l3.length l3)
    (n1 : l1.length ≤ 1000000) (n2 : l2.length ≤ 1000000) (n3 : l3.length ≤ 1000000)
    (k0 : w.cell? ⟨b, 0, none⟩ = some (.slice A1 l1.length c1)) (k1 : w.cell? ⟨b, 1, none⟩ = some (.slice A2 l2.length c2)) (k2 : w.cell? ⟨b, 2, none⟩ = some (.slice A3 l3.length c3)) :
    Calls Try.prog 16 #[.slice (some ⟨b, 0, none⟩) 3 c] w fun e w' => ∃ v, e = .returned v ∧ Kd.R (Kd.int .u8) 5 w' w.heap.size (fun _ => True) v (l1 ++ l2 ++ l3) ∧ Below w.heap.size w w' := by
  have hw1 : wrap64 (0 + (l1.length : Int)) = (l1.length : Int) := by unfold wrap64; omega
  have hw2 : wrap64 ((l1.length : Int) + (l2.length : Int)) = ((l1.length + l2.length : Nat) : Int) := by unfold wrap64; omega
  have hw3 : wrap64 (((l1.length + l2.length : Nat) : Int) + (l3.length : Int)) = ((l1.length + l2.length + l3.length : Nat) : Int) := by unfold wrap64; omega
  go_enter Try.func16, Try.ntmps16
  go_wp2
  refine wp_loop_rounds 4 ?_
  rw [rounds_succ]
  go_wp2
  rw [rounds_succ]
  go_wp2
  rw [rounds_succ]
  go_wp2
  rw [rounds_succ]
  go_wp2_with fail
  refine (grow_int _ (by omega) (by omega) _).mono ?_
  rintro e w1 ⟨v1, rfl, hR1, hb1⟩
  have j0 := pw_cell_below hb1 k0
  go_wp2
  refine wp_loop_rounds 4 ?_
  rw [rounds_succ]
  go_wp2_with (at_builtin; refine Kd.R_append_rows (Kd.int .u8) (w0 := w) w.heap.size rfl (.tmp 31) (.tmp 32) 22 5 (.int .u8 0) 1 rfl Try.underlying22 info5 rfl (by decide) (by omega) v1 [] l1 _ _ _ (fun _ => True) (fun _ => False) rfl rfl hR1 (Kd.C_below h1 hb1) (fun _ _ h => h) (fun _ h => h.elim) (fun _ _ => trivial) hb1 hb1.size ?hl ?_; (case hl => simp only [List.length_append, List.length_nil]; omega); intro v2 w2 hR2 hb2 hg hat; clear hg hat)
  clear j0
  have j1 := pw_cell_below hb2 k1
  rw [rounds_succ]
  go_wp2_with (at_builtin; refine Kd.R_append_rows (Kd.int .u8) (w0 := w) w.heap.size rfl (.tmp 31) (.tmp 32) 22 5 (.int .u8 0) 1 rfl Try.underlying22 info5 rfl (by decide) (by omega) v2 ([] ++ l1) l2 _ _ _ (fun _ => True) (fun _ => False) rfl rfl hR2 (Kd.C_below h2 hb2) (fun _ _ h => h) (fun _ h => h.elim) (fun _ _ => trivial) hb2 hb2.size ?hl ?_; (case hl => simp only [List.length_append, List.length_nil]; omega); intro v3 w3 hR3 hb3 hg hat; clear hg hat)
  clear j1
  have j2 := pw_cell_below hb3 k2
  rw [rounds_succ]
  go_wp2_with (at_builtin; refine Kd.R_append_rows (Kd.int .u8) (w0 := w) w.heap.size rfl (.tmp 31) (.tmp 32) 22 5 (.int .u8 0) 1 rfl Try.underlying22 info5 rfl (by decide) (by omega) v3 ([] ++ l1 ++ l2) l3 _ _ _ (fun _ => True) (fun _ => False) rfl rfl hR3 (Kd.C_below h3 hb3) (fun _ _ h => h) (fun _ h => h.elim) (fun _ _ => trivial) hb3 hb3.size ?hl ?_; (case hl => simp only [List.length_append, List.length_nil]; omega); intro v4 w4 hR4 hb4 hg hat; clear hg hat)
  clear j2
  rw [rounds_succ]
  go_wp2
  go_ret
  exact ⟨_, rfl, hR4, hb4⟩

set_option maxHeartbeats 4000000 in
set_option maxRecDepth 100000 in
theorem clone_calls (A : Option Addr) (c : Nat) (l : List Int) (w : World) (h : Kd.C (Kd.int .u8) w A l.length l) (hn : l.length ≤ 1000000) :
    Calls Try.prog 17 #[.slice A l.length c] w fun e w' => ∃ v, e = .returned v ∧ Kd.R (Kd.int .u8) 5 w' w.heap.size (fun _ => True) v l ∧ Below w.heap.size w w' := by
  have heq := fun W : World => Lib.run_eql_slice_nil (P := Try.prog) W 22 5 A l.length c 0 0 Try.underlying22
  cases A with
  | none =>
    have hl : l = [] := by
      rcases Nat.eq_zero_or_pos l.length with h0 | h0
      · exact List.eq_nil_of_length_eq_zero h0
      · obtain ⟨_, he, _⟩ := h.2.2 h0
        cases he
    subst hl
    simp only [List.length_nil, Option.isNone_none] at heq
    go_enter Try.func17, Try.ntmps17
    go_wp2
    go_ret
    exact ⟨_, rfl, Kd.R_nil _ _ _ _ _, Below.refl _ _⟩
  | some a =>
    go_enter Try.func17, Try.ntmps17
    go_wp2_with (first | ((with_reducible refine gate_dst (N := 5) rfl ?_); refine Kd.R_lit (Kd.int .u8) _ 5 ?hg (N := 5) ?hd (xs := ([] : List Int)) (inner := []) (ok := fun _ => True) (okp := fun _ => True) ?hr ?hp (fun _ hk => hk) trivial (Below.refl _ _) (Nat.le_refl _) (by simp) ?_; (case hd => rfl); (case hg => rfl); (case hr => first | (go_simp; done) | (go_simp; rfl)); (case hp => exact (Reps.none _ _)); intro v1 w1 hR1 hb1 hg_ hnew_; clear hg_ hnew_) | (at_builtin; refine Kd.R_append_rows (Kd.int .u8) (w0 := w) w.heap.size rfl (.tmp 5) (.tmp 6) 22 5 (.int .u8 0) 1 rfl Try.underlying22 info5 rfl (by decide) (by omega) v1 [] l _ _ _ (fun _ => True) (fun _ => False) rfl rfl hR1 (Kd.C_below h hb1) (fun _ _ h => h) (fun _ h => h.elim) (fun _ _ => trivial) hb1 hb1.size ?hl ?_; (case hl => simp only [List.length_nil]; omega); intro v2 w2 hR2 hb2 hg hat; clear hg hat))
    go_ret
    exact ⟨_, rfl, hR2, hb2⟩
end Go.Proofs.Ytjgahpcmojnfcaa.PEditSplices
