/- The walk of the statement EditSplices: it answers true. Conditions: rows that can be read. -/
import Derived.Test.YtjgahpcmojnfcaaOwnChecks
import Derived.Test.YtjgahpcmojnfcaaOwnEnds
import Derived.OwnWalk
import Derived.Outline
namespace Go.Proofs.Ytjgahpcmojnfcaa.PEditSplices
open Go.RowKit Go.Proofs.YtjgahpcmojnfcaaW.PrintWords Go.Proofs.YtjgahpcmojnfcaaW.PrintLast Go.Proofs.YtjgahpcmojnfcaaW.PrintMore
open Go.Proofs.Ytjgahpcmojnfcaa.Plain (chk spl check_f ref_edit_f ref_splice_f chk_ok chk_of chk_num)
set_option linter.unusedVariables false
set_option linter.unusedSimpArgs false

/-- Cut at a place within the capacity. -/
theorem cut_cap {P : Program} (t e : TypeId) {i : TypeInfo} (ht : P.underlying t = some (.slice e)) (hi : P.info? e = some i) (A : Option Addr) (n c : Nat) (j : Int) (m : Nat) (hj : j = m) (hm : m ≤ c) (W : World) :
    (Instr.slice t (.slice A n c) none (some (.int .i64 j)) none).run P W = .ok (.slice A m c) W := by
  have hel : P.elem t = e := by simp [Program.elem, ht]
  have hu : P.underlying t = some (.slice (P.elem t)) := by rw [hel]; exact ht
  have ha : (A.map fun x => x.add 0) = A := by cases A <;> simp [Addr.add]
  subst hj
  rw [run_slice_h W t A n c hu .i64 _ (by omega) (by omega), hel]
  simp [sizeOf, typeInfo, hi, sliced, ha, Result.andThen]
theorem spare_of {w : World} {base : Nat} {v : Value} (b sp : List Int) (hsp : sp.length = 5) (h : Kd.R (Kd.int .u8) 5 w base (fun _ => True) v (b ++ sp)) :
    ∃ B c B2, v = .slice B (b.length + 5) c ∧ b.length + 5 ≤ c ∧ Kd.C (Kd.int .u8) w B b.length b ∧ Kd.C (Kd.int .u8) w B2 sp.length sp ∧
      (∀ W : World, (Instr.slice 22 (.slice B (b.length + 5) c) none (some (.int .i64 b.length)) none).run Try.prog W = .ok (.slice B b.length c) W) ∧
      (∀ W : World, (Instr.slice 22 (.slice B b.length c) none (some (.int .i64 ((b.length : Int) + 5))) none).run Try.prog W = .ok (.slice B (b.length + 5) c) W) ∧
      (∀ W : World, (Instr.slice 22 (.slice B (b.length + 5) c) (some (.int .i64 b.length)) none none).run Try.prog W = .ok (.slice B2 5 (c - b.length)) W) := by
  obtain ⟨B, c, rfl⟩ := Kd.R_slice h
  obtain ⟨_, hc, hC⟩ := Kd.R_reads' h
  obtain ⟨i1, hi1, _, hsz1, _⟩ := info_parts info5
  have hle : (b.length : Int) ≤ ((b ++ sp).length : Nat) := by rw [List.length_append]; omega
  obtain ⟨_, hA1, _⟩ := print_take_of (P := Try.prog) (Value.int .u8) 0 22 5 .i64 Try.underlying22 hi1 hsz1 B c (b ++ sp) b.length (by omega) hle hc
  obtain ⟨B2, hcut2, hA2, _⟩ := print_drop_of (P := Try.prog) (Value.int .u8) 0 22 5 .i64 Try.underlying22 hi1 hsz1 B c (b ++ sp) b.length (by omega) hle hc
  have q1 := hA1 _ (Kd.reads_of_C hC)
  have q2 := hA2 _ (Kd.reads_of_C hC)
  rw [Int.toNat_natCast] at q1 q2 hcut2
  rw [List.take_left] at q1
  rw [List.drop_left] at q2 hcut2
  rw [List.length_append, hsp] at hcut2 hc
  refine ⟨B, c, B2, by rw [List.length_append, hsp], hc, Kd.C_of_reads (h1 := fun _ => rfl) q1, Kd.C_of_reads (h1 := fun _ => rfl) q2, fun W => ?_, fun W => ?_, hcut2⟩
  · exact cut_cap 22 5 Try.underlying22 hi1 B _ c _ _ rfl (by omega) W
  · exact cut_cap 22 5 Try.underlying22 hi1 B _ c _ _ (by omega) hc W

set_option maxHeartbeats 8000000 in
set_option maxRecDepth 100000 in
theorem splices_calls (A : Option Addr) (c : Nat) (b : List Int) (a d : Int) (Ai : Option Addr) (ci : Nat) (l : List Int) (w : World) (hb : Kd.C (Kd.int .u8) w A b.length b) (hcb : b.length ≤ c) (hi : Kd.C (Kd.int .u8) w Ai l.length l) (hci : l.length ≤ ci) :
    Calls Try.prog 4 #[.slice A b.length c, .agg #[.int .i64 a, .int .i64 d, .slice Ai l.length ci]] w fun e w' => e = .returned (.bool true) ∧ Below w.heap.size w w' := by
  by_cases g1 : 6000 < b.length
  · go_enter Try.func4, Try.ntmps4
    go_wp2_with fail
    refine (awake_calls _).mono ?_
    rintro e w1 ⟨rfl, hb1⟩
    obtain ⟨k0, k1, k2⟩ := box_cells _ _ _ hb1
    go_wp2
    go_ret
    exact ⟨rfl, below_step (below_alloc (Below.refl _ _) _) hb1⟩
  by_cases g2 : 6000 < l.length
  · go_enter Try.func4, Try.ntmps4
    go_wp2_with fail
    refine (awake_calls _).mono ?_
    rintro e w1 ⟨rfl, hb1⟩
    obtain ⟨k0, k1, k2⟩ := box_cells _ _ _ hb1
    go_wp2
    go_ret
    exact ⟨rfl, below_step (below_alloc (Below.refl _ _) _) hb1⟩
  have HBb := Aside0.mk hb
  have HI := Aside0.mk hi
  clear hb hi
  have hcap : wrap64 ((b.length : Int) + 40) = ((b.length + 40 : Nat) : Int) := by unfold wrap64; omega
  go_enter Try.func4, Try.ntmps4
  go_wp2_with fail
  refine (awake_calls _).mono ?_
  rintro e w1 ⟨rfl, hb1⟩
  obtain ⟨k0, k1, k2⟩ := box_cells _ _ _ hb1
  obtain ⟨ie, hie, hz0, hz1, hz2⟩ := info_parts info5
  have hB1 := below_step (below_alloc (Below.refl w.heap.size w) _) hb1
  go_wp2_with (first | (at_make; refine wpList_make_own _ rfl _ _ 22 rfl w1.heap.size 5 ie (.int .u8 0) 1 Try.underlying22 hie hz0 hz1 _ _ _ (b.length + 40) rfl rfl (by omega) (by rw [hz2]; omega) (by simp only [maxLen]; omega) (Nat.le_refl _) ?_; intro w2 hown2 hg2; have hR2 := Kd.R_of_own (xs := ([] : List Int)) (ok := fun _ => True) (h1 := fun _ => rfl) (enc := Value.int .u8) hown2 (fun _ _ => trivial); have hb2 := pw_below_grown (Below.refl w1.heap.size w1) none (Nat.le_refl _) hg2 (fun k hk => by cases hk); clear hown2 hg2) | (at_builtin; refine Kd.R_append_rows (Kd.int .u8) (w0 := w1) w1.heap.size rfl (.tmp 24) (.tmp 25) 22 5 (.int .u8 0) 1 rfl Try.underlying22 info5 rfl (by decide) (by omega) _ [] b _ _ _ (fun _ => True) (fun _ => False) rfl rfl hR2 (Kd.C_below HBb.out (below_step hB1 hb2)) (fun _ _ h => h) (fun _ h => h.elim) (fun _ _ => trivial) hb2 hb2.size ?hl ?_; (case hl => simp only [List.length_nil]; omega); intro v3 w3 hR3 hb3 hg3 hat3; clear hg3 hat3) | (at_builtin; refine print_append_str (w0 := w1) w1.heap.size rfl (.tmp 26) (.const (.string ⟨#[115, 112, 97, 114, 101]⟩)) 22 9 5 rfl Try.underlying22 Try.underlying9 info5 _ ([] ++ b) ⟨#[115, 112, 97, 114, 101]⟩ rfl rfl (Kd.own_of_R hR3) hb3 hb3.size ?hl2 ?_; (case hl2 => simp only [List.nil_append]; have : ByteArray.size ⟨#[115, 112, 97, 114, 101]⟩ = 5 := rfl; omega); intro v4 w4 hown4 hb4 hg4; obtain ⟨B, c4, B2, rfl, hc4, hC1, hC2, hcutA, hcutB, hcutC⟩ := spare_of b [115, 112, 97, 114, 101] rfl (Kd.R_of_own (h1 := fun _ => rfl) (enc := Value.int .u8) (ok := fun _ => True) hown4 (fun _ _ => trivial)); clear hown4 hg4 hR3 hb3 hR2 hb2; obtain ⟨m0, m1, m2⟩ := cells_on hb4 ⟨k0, k1, k2⟩; clear k0 k1 k2; have HB4 := Aside0.mk (below_step hB1 hb4); clear hb4; have HC1 := Aside0.mk hC1; have HC2 := Aside0.mk hC2; have HcutB := Aside0.mk hcutB; have HcutC := Aside0.mk hcutC; clear hC1 hC2 hcutB hcutC) | ((with_reducible refine gate_dst (N := 31) rfl ?_); refine Kd.R_lit (Kd.int .u8) _ 5 ?hg (N := 31) ?hd (xs := ([] : List Int)) (inner := []) (ok := fun _ => True) (okp := fun _ => True) ?hr ?hp (fun _ hk => hk) trivial (Below.refl _ _) (Nat.le_refl _) (by simp) ?_; (case hd => rfl); (case hg => rfl); (case hr => first | (go_simp; done) | (go_simp; rfl)); (case hp => exact (Reps.none _ _)); intro v5 w5 hR5 hb5 hg_ hnew_; clear hg_ hnew_; obtain ⟨n0, n1, n2⟩ := cells_on hb5 ⟨m0, m1, m2⟩) | (at_builtin; refine Kd.R_append_rows (Kd.int .u8) (w0 := w4) w4.heap.size rfl (.tmp 31) (.tmp 33) 22 5 (.int .u8 0) 1 rfl Try.underlying22 info5 rfl (by decide) (by omega) v5 [] l _ _ _ (fun _ => True) (fun _ => False) rfl rfl hR5 (Kd.C_below HI.out (below_step HB4.out hb5)) (fun _ _ h => h) (fun _ h => h.elim) (fun _ _ => trivial) hb5 hb5.size ?hl3 ?_; (case hl3 => simp only [List.length_nil]; omega); intro v6 w6 hR6 hb6 hg6 hat6; clear hg6 hat6 hR5 n0 n1 n2 hb5; obtain ⟨D, c6, rfl⟩ := Kd.R_slice hR6; obtain ⟨n0, n1, n2⟩ := cells_on hb6 ⟨m0, m1, m2⟩; clear m0 m1 m2))
  replace hR6 : Kd.R (Kd.int .u8) 5 w6 w4.heap.size (fun _ => True) (.slice D l.length c6) l := hR6
  obtain ⟨_, hcD, hCD⟩ := Kd.R_reads' hR6
  have hb6' := hb6
  have HE := fun (W : World) (h : Below w.heap.size w W) => ref_edit_calls b.length a d Ai ci l W (Kd.C_below HI.out h) hci (by omega) (by omega) (by omega)
  have HB6 := Aside0.mk (below_step HB4.out hb6)
  by_cases hx : chk b.length a d l.length = 0
  · have HE := Aside0.mk HE
    obtain ⟨_, hd0, _, hadb, _, _⟩ := chk_ok hx
    have HF := Aside0.mk (fun (W : World) (h : Below w.heap.size w W) => stanzaref19_Splice.calls (2 * b.length + 11) A c b a d Ai ci l _ W (Kd.C_below HBb.out h) hcb (Kd.C_below HI.out h) hci (ref_splice_f (2 * b.length + 11) b a d l (by omega) (by omega) (by omega) hd0 hadb (by omega)))
    refine (splice_ok B c4 b a d D c6 l w6 (Kd.C_below HC1.out hb6) (by omega) hCD hcD (by omega) (by omega) hx).mono ?_
    rintro e w7 ⟨v7, rfl, hR7, hb7⟩
    obtain ⟨E7, c7, rfl⟩ := Kd.R_slice hR7
    obtain ⟨m0, m1, m2⟩ := cells_on hb7 ⟨n0, n1, n2⟩
    clear n0 n1 n2 hcutA hb1
    have HB7 := Aside0.mk (below_step HB6.out hb7)
    have HD7 := Aside0.mk (Kd.C_below hCD hb7)
    have HC7 := Aside0.mk (Kd.C_below (Kd.C_below HC1.out hb6) hb7)
    have HS7 := Aside0.mk (Kd.C_below (Kd.C_below HC2.out hb6) hb7)
    have HR7 := Aside0.mk hR7
    clear hb6 hb6' hCD hR6 hR7 hb7 HC1 HC2 hB1
    go_wp2_with fail
    refine (HE.out w7 HB7.out).mono ?_
    rw [hx]
    rintro e w8 ⟨rfl, hb8⟩
    obtain ⟨n0, n1, n2⟩ := cells_on hb8 ⟨m0, m1, m2⟩
    clear m0 m1 m2
    have HB8 := Aside0.mk (below_step HB7.out hb8)
    have HR8 := Aside0.mk (Kd.R_below HR7.out hb8)
    have q1 := Kd.C_string (P := Try.prog) (A := B) (c := c4) Try.underlying22 Try.underlying5 Try.underlying9 (Kd.C_below HC7.out hb8)
    have q2 := Kd.C_string (P := Try.prog) (A := A) (c := c) Try.underlying22 Try.underlying5 Try.underlying9 (Kd.C_below HBb.out HB8.out)
    have q3 := Kd.C_string (P := Try.prog) (A := B2) (c := c4 - b.length) Try.underlying22 Try.underlying5 Try.underlying9 (Kd.C_below HS7.out hb8)
    have q4 := Kd.C_string (P := Try.prog) (A := D) (c := c6) Try.underlying22 Try.underlying5 Try.underlying9 (Kd.C_below HD7.out hb8)
    have q5 := Kd.C_string (P := Try.prog) (A := Ai) (c := ci) Try.underlying22 Try.underlying5 Try.underlying9 (Kd.C_below HI.out HB8.out)
    have hsp : strOfNums [115, 112, 97, 114, 101] = ⟨#[115, 112, 97, 114, 101]⟩ := by kernel_rfl
    rw [hsp] at q3
    clear hsp
    have hcutB := HcutB.out
    have hcutC := HcutC.out
    simp only [List.length_cons, List.length_nil, Nat.zero_add, Nat.reduceAdd] at q3
    clear hb8
    go_wp2_with fail
    clear q1 q2 q3 q4 q5 hcutB hcutC
    refine start_ (n := 21) (S := fun w' => Below w8.heap.size w8 w') (ds := []) #[false, false, false, false, false, false, false, false, false, false, false, false, false, false, false, false, false, false, false, false, false] (by kernel_rfl) rfl rfl (below_drew1 (Below.refl w8.heap.size w8)) (fun hHeld => ?_)
    generalize w8.drew = w9 at hHeld ⊢
    refine pure_ (i := 0) (N := some 80) (v := ?_) (a' := ?_) #[true, false, false, false, false, false, false, false, false, false, false, false, false, false, false, false, false, false, false, false, false] rfl rfl (by kernel_rfl) (fun _ _ _ h => h) (Or.inl ⟨by rfl, ?_⟩) ?_ ?_
    rotate_left
    · intro w'
      go_simp
      try (with_reducible rfl)
    rotate_left
    · simp only [Act.put, List.setIfInBounds_toArray, List.set_cons_zero, List.set_cons_succ, i64_w, i32_w]
      rfl
    refine pure_ (i := 1) (N := some 81) (v := ?_) (a' := ?_) #[true, true, false, false, false, false, false, false, false, false, false, false, false, false, false, false, false, false, false, false, false] rfl rfl (by kernel_rfl) (fun _ _ _ h => h) (Or.inl ⟨by rfl, ?_⟩) ?_ ?_
    rotate_left
    · intro w'
      go_simp
      try (with_reducible rfl)
    rotate_left
    · simp only [Act.put, List.setIfInBounds_toArray, List.set_cons_zero, List.set_cons_succ, i64_w, i32_w]
      rfl
    refine pure_ (i := 2) (N := some 82) (v := ?_) (a' := ?_) #[true, true, true, false, false, false, false, false, false, false, false, false, false, false, false, false, false, false, false, false, false] rfl rfl (by kernel_rfl) (fun _ _ _ h => h) (Or.inl ⟨by rfl, ?_⟩) ?_ ?_
    rotate_left
    · intro w'
      go_simp
      try (with_reducible rfl)
    rotate_left
    · simp only [Act.put, List.setIfInBounds_toArray, List.set_cons_zero, List.set_cons_succ, i64_w, i32_w]
      rfl
    refine pure_ (i := 3) (N := some 83) (v := undef) (a' := ?_) #[true, true, true, true, false, false, false, false, false, false, false, false, false, false, false, false, false, false, false, false, false] rfl rfl (by kernel_rfl) (fun _ _ _ h => h) (Or.inr ⟨by rfl, rfl⟩) ?_ ?_
    rotate_left
    · simp only [Act.put, List.setIfInBounds_toArray, List.set_cons_zero, List.set_cons_succ, i64_w, i32_w]
      rfl
    refine pure_ (i := 4) (N := some 84) (v := undef) (a' := ?_) #[true, true, true, true, true, false, false, false, false, false, false, false, false, false, false, false, false, false, false, false, false] rfl rfl (by kernel_rfl) (fun _ _ _ h => h) (Or.inr ⟨by rfl, rfl⟩) ?_ ?_
    rotate_left
    · simp only [Act.put, List.setIfInBounds_toArray, List.set_cons_zero, List.set_cons_succ, i64_w, i32_w]
      rfl
    refine pure_ (i := 5) (N := some 85) (v := undef) (a' := ?_) #[true, true, true, true, true, true, false, false, false, false, false, false, false, false, false, false, false, false, false, false, false] rfl rfl (by kernel_rfl) (fun _ _ _ h => h) (Or.inr ⟨by rfl, rfl⟩) ?_ ?_
    rotate_left
    · simp only [Act.put, List.setIfInBounds_toArray, List.set_cons_zero, List.set_cons_succ, i64_w, i32_w]
      rfl
    refine pure_ (i := 6) (N := some 86) (v := ?_) (a' := ?_) #[true, true, true, true, true, true, true, false, false, false, false, false, false, false, false, false, false, false, false, false, false] rfl rfl (by kernel_rfl) (fun _ _ _ h => h) (Or.inl ⟨by rfl, ?_⟩) ?_ ?_
    rotate_left
    · intro w'
      go_simp
      try (with_reducible rfl)
    rotate_left
    · simp only [Act.put, List.setIfInBounds_toArray, List.set_cons_zero, List.set_cons_succ, i64_w, i32_w]
      rfl
    refine pure_ (i := 7) (N := some 87) (v := ?_) (a' := ?_) #[true, true, true, true, true, true, true, true, false, false, false, false, false, false, false, false, false, false, false, false, false] rfl rfl (by kernel_rfl) (fun _ _ _ h => h) (Or.inl ⟨by rfl, ?_⟩) ?_ ?_
    rotate_left
    · intro w'
      go_simp
      try (with_reducible rfl)
    rotate_left
    · simp only [Act.put, List.setIfInBounds_toArray, List.set_cons_zero, List.set_cons_succ, i64_w, i32_w]
      rfl
    refine pure_ (i := 8) (N := some 88) (v := ?_) (a' := ?_) #[true, true, true, true, true, true, true, true, true, false, false, false, false, false, false, false, false, false, false, false, false] rfl rfl (by kernel_rfl) (fun _ _ _ h => h) (Or.inl ⟨by rfl, ?_⟩) ?_ ?_
    rotate_left
    · intro w'
      go_simp
      try (with_reducible rfl)
    rotate_left
    · simp only [Act.put, List.setIfInBounds_toArray, List.set_cons_zero, List.set_cons_succ, i64_w, i32_w]
      rfl
    refine pure_ (i := 9) (N := some 89) (v := ?_) (a' := ?_) #[true, true, true, true, true, true, true, true, true, true, false, false, false, false, false, false, false, false, false, false, false] rfl rfl (by kernel_rfl) (fun _ _ _ h => h) (Or.inl ⟨by rfl, ?_⟩) ?_ ?_
    rotate_left
    · intro w'
      go_simp
      try (with_reducible rfl)
    rotate_left
    · simp only [Act.put, List.setIfInBounds_toArray, List.set_cons_zero, List.set_cons_succ, i64_w, i32_w]
      rfl
    refine pure_ (i := 10) (N := some 90) (v := ?_) (a' := ?_) #[true, true, true, true, true, true, true, true, true, true, true, false, false, false, false, false, false, false, false, false, false] rfl rfl (by kernel_rfl) (fun _ _ _ h => h) (Or.inl ⟨by rfl, ?_⟩) ?_ ?_
    rotate_left
    · intro w'
      go_simp
      try (with_reducible rfl)
    rotate_left
    · simp only [Act.put, List.setIfInBounds_toArray, List.set_cons_zero, List.set_cons_succ, i64_w, i32_w]
      rfl
    refine pure_ (i := 11) (N := some 91) (v := ?_) (a' := ?_) #[true, true, true, true, true, true, true, true, true, true, true, true, false, false, false, false, false, false, false, false, false] rfl rfl (by kernel_rfl) (fun _ _ _ h => h) (Or.inl ⟨by rfl, ?_⟩) ?_ ?_
    rotate_left
    · intro w'
      go_simp
      try (with_reducible rfl)
    rotate_left
    · simp only [Act.put, List.setIfInBounds_toArray, List.set_cons_zero, List.set_cons_succ, i64_w, i32_w]
      rfl
    refine take_ (i := 12) (N := some 92) (v := ?_) (a' := ?_) #[true, true, true, true, true, true, true, true, true, true, true, true, true, false, false, false, false, false, false, false, false] rfl rfl (by kernel_rfl) (fun _ _ _ h => h) (Or.inl ⟨by rfl, ?_⟩) hHeld ?_ ?_
    rotate_left
    · intro w' s_
      have q6 := own_string (P := Try.prog) Try.underlying22 Try.underlying5 Try.underlying9 (Kd.own_of_R (Kd.R_below HR8.out s_))
      go_simp
      try (with_reducible rfl)
    rotate_left
    · simp only [Act.put, List.setIfInBounds_toArray, List.set_cons_zero, List.set_cons_succ, i64_w, i32_w]
      rfl
    refine pure_ (i := 13) (N := some 93) (v := ?_) (a' := ?_) #[true, true, true, true, true, true, true, true, true, true, true, true, true, true, false, false, false, false, false, false, false] rfl rfl (by kernel_rfl) (fun _ _ _ h => h) (Or.inl ⟨by rfl, ?_⟩) ?_ ?_
    rotate_left
    · intro w'
      go_simp
      try (with_reducible rfl)
    rotate_left
    · simp only [Act.put, List.setIfInBounds_toArray, List.set_cons_zero, List.set_cons_succ, i64_w, i32_w]
      rfl
    refine take_ (i := 14) (N := some 94) (v := ?_) (a' := ?_) #[true, true, true, true, true, true, true, true, true, true, true, true, true, true, true, false, false, false, false, false, false] rfl rfl (by kernel_rfl) (fun _ _ _ h => h) (Or.inl ⟨by rfl, ?_⟩) hHeld ?_ ?_
    rotate_left
    · intro w' s_
      obtain ⟨s0, s1, s2⟩ := cells_on s_ ⟨n0, n1, n2⟩
      go_simp
      try (with_reducible rfl)
    rotate_left
    · simp only [Act.put, List.setIfInBounds_toArray, List.set_cons_zero, List.set_cons_succ, i64_w, i32_w]
      rfl
    refine one_ (i := 15) (N := some 95) #[true, true, true, true, true, true, true, true, true, true, true, true, true, true, true, true, false, false, false, false, false] rfl rfl (by kernel_rfl) (by decide) (fun K hK => ?_)
    refine goes_ Try.func13 (by kernel_rfl) rfl #[.slice A b.length c, .agg #[.int .i64 a, .int .i64 d, .slice Ai l.length ci]] (by rfl) rfl rfl (by (try simp only [List.map_toArray, List.map_cons, List.map_nil]); first | done | rfl) ?_
    with_reducible refine (HF.out w9 (below_step HB8.out hHeld)).mono ?_
    rintro e w_ ⟨v_, rfl, hR_, hb_⟩
    obtain ⟨F, cF, rfl⟩ := Kd.R_slice hR_
    refine ⟨_, rfl, ?_⟩
    refine hK.out _ _ (below_step hHeld hb_) (fun hHeld => ?_)
    clear hK K
    refine norm_ (a' := ?_) ?_ ?_
    rotate_left
    · show Act.put _ (some 95) _ = _
      simp only [Act.put, List.setIfInBounds_toArray, List.set_cons_zero, List.set_cons_succ, i64_w, i32_w]
      rfl
    have q7 := own_string (P := Try.prog) Try.underlying22 Try.underlying5 Try.underlying9 (Kd.own_of_R hR_)
    refine one_ (i := 16) (N := some 96) #[true, true, true, true, true, true, true, true, true, true, true, true, true, true, true, true, true, false, false, false, false] rfl rfl (by kernel_rfl) (by decide) (fun K hK => ?_)
    refine value_ (w1 := w_) (v := .string (strOfNums (spl b a d l))) (by rfl) rfl ?_ ?_
    · go_simp
      try (with_reducible rfl)
    refine hK.out _ _ hHeld (fun hHeld => ?_)
    clear hK K
    refine norm_ (a' := ?_) ?_ ?_
    rotate_left
    · show Act.put _ (some 96) _ = _
      simp only [Act.put, List.setIfInBounds_toArray, List.set_cons_zero, List.set_cons_succ, i64_w, i32_w]
      rfl
    refine pure_ (i := 17) (N := some 97) (v := ?_) (a' := ?_) #[true, true, true, true, true, true, true, true, true, true, true, true, true, true, true, true, true, true, false, false, false] rfl rfl (by kernel_rfl) (fun _ _ _ h => h) (Or.inl ⟨by rfl, ?_⟩) ?_ ?_
    rotate_left
    · intro w'
      go_simp
      try (with_reducible rfl)
    rotate_left
    · simp only [Act.put, List.setIfInBounds_toArray, List.set_cons_zero, List.set_cons_succ, i64_w, i32_w]
      rfl
    refine pure_ (i := 18) (N := some 98) (v := ?_) (a' := ?_) #[true, true, true, true, true, true, true, true, true, true, true, true, true, true, true, true, true, true, true, false, false] rfl rfl (by kernel_rfl) (fun _ _ _ h => h) (Or.inl ⟨by rfl, ?_⟩) ?_ ?_
    rotate_left
    · intro w'
      go_simp
      try (with_reducible rfl)
    rotate_left
    · simp only [Act.put, List.setIfInBounds_toArray, List.set_cons_zero, List.set_cons_succ, i64_w, i32_w]
      rfl
    refine pure_ (i := 19) (N := some 99) (v := ?_) (a' := ?_) #[true, true, true, true, true, true, true, true, true, true, true, true, true, true, true, true, true, true, true, true, false] rfl rfl (by kernel_rfl) (fun _ _ _ h => h) (Or.inl ⟨by rfl, ?_⟩) ?_ ?_
    rotate_left
    · intro w'
      go_simp
      try (with_reducible rfl)
    rotate_left
    · simp only [Act.put, List.setIfInBounds_toArray, List.set_cons_zero, List.set_cons_succ, i64_w, i32_w]
      rfl
    refine pure_ (i := 20) (N := some 4) (v := ?_) (a' := ?_) #[true, true, true, true, true, true, true, true, true, true, true, true, true, true, true, true, true, true, true, true, true] rfl rfl (by kernel_rfl) (fun _ _ _ h => h) (Or.inl ⟨by rfl, ?_⟩) ?_ ?_
    rotate_left
    · intro w'
      go_simp
      try (with_reducible rfl)
    rotate_left
    · simp only [Act.put, List.setIfInBounds_toArray, List.set_cons_zero, List.set_cons_succ, i64_w, i32_w]
      rfl
    refine done_ (by kernel_rfl) ?_
    try go_wp2
    go_ret
    exact ⟨by simp, below_step HB8.out hHeld⟩
  · obtain ⟨x0, hx0⟩ : ∃ x0, chk b.length a d l.length = x0 := ⟨_, rfl⟩
    have HE := Aside0.mk HE
    rw [hx0] at hx
    have hz1 : (x0 == 0) = false := by simpa using hx
    have hz2 : (x0 != 0) = true := by simpa using hx
    refine (splice_bad B c4 b a d D c6 l w6 hCD hcD (by omega) (by omega) x0 hx0 hx).mono ?_
    rintro e w7 ⟨rfl, hb7⟩
    obtain ⟨m0, m1, m2⟩ := cells_on hb7 ⟨n0, n1, n2⟩
    clear n0 n1 n2 hcutA hb1
    have HB7 := Aside0.mk (below_step HB6.out hb7)
    have HD7 := Aside0.mk (Kd.C_below hCD hb7)
    have HC7 := Aside0.mk (Kd.C_below (Kd.C_below HC1.out hb6) hb7)
    have HS7 := Aside0.mk (Kd.C_below (Kd.C_below HC2.out hb6) hb7)
    clear hb6 hb6' hCD hR6 hb7 HC1 HC2 hB1
    go_wp2_with fail
    refine (HE.out w7 HB7.out).mono ?_
    rw [hx0]
    rintro e w8 ⟨rfl, hb8⟩
    obtain ⟨n0, n1, n2⟩ := cells_on hb8 ⟨m0, m1, m2⟩
    clear m0 m1 m2
    have HB8 := Aside0.mk (below_step HB7.out hb8)
    have q1 := Kd.C_string (P := Try.prog) (A := B) (c := c4) Try.underlying22 Try.underlying5 Try.underlying9 (Kd.C_below HC7.out hb8)
    have q2 := Kd.C_string (P := Try.prog) (A := A) (c := c) Try.underlying22 Try.underlying5 Try.underlying9 (Kd.C_below HBb.out HB8.out)
    have q3 := Kd.C_string (P := Try.prog) (A := B2) (c := c4 - b.length) Try.underlying22 Try.underlying5 Try.underlying9 (Kd.C_below HS7.out hb8)
    have q4 := Kd.C_string (P := Try.prog) (A := D) (c := c6) Try.underlying22 Try.underlying5 Try.underlying9 (Kd.C_below HD7.out hb8)
    have q5 := Kd.C_string (P := Try.prog) (A := Ai) (c := ci) Try.underlying22 Try.underlying5 Try.underlying9 (Kd.C_below HI.out HB8.out)
    have hsp : strOfNums [115, 112, 97, 114, 101] = ⟨#[115, 112, 97, 114, 101]⟩ := by kernel_rfl
    rw [hsp] at q3
    clear hsp
    have hcutB := HcutB.out
    have hcutC := HcutC.out
    simp only [List.length_cons, List.length_nil, Nat.zero_add, Nat.reduceAdd] at q3
    clear hb8
    go_wp2_with fail
    clear q1 q2 q3 q4 q5 hcutB hcutC
    refine start_ (n := 21) (S := fun w' => Below w8.heap.size w8 w') (ds := []) #[false, false, false, false, false, false, false, false, false, false, false, false, false, false, false, false, false, false, false, false, false] (by kernel_rfl) rfl rfl (below_drew1 (Below.refl w8.heap.size w8)) (fun hHeld => ?_)
    generalize w8.drew = w9 at hHeld ⊢
    refine pure_ (i := 0) (N := some 80) (v := ?_) (a' := ?_) #[true, false, false, false, false, false, false, false, false, false, false, false, false, false, false, false, false, false, false, false, false] rfl rfl (by kernel_rfl) (fun _ _ _ h => h) (Or.inl ⟨by rfl, ?_⟩) ?_ ?_
    rotate_left
    · intro w'
      go_simp
      try (with_reducible rfl)
    rotate_left
    · simp only [Act.put, List.setIfInBounds_toArray, List.set_cons_zero, List.set_cons_succ, i64_w, i32_w]
      rfl
    refine pure_ (i := 1) (N := some 81) (v := ?_) (a' := ?_) #[true, true, false, false, false, false, false, false, false, false, false, false, false, false, false, false, false, false, false, false, false] rfl rfl (by kernel_rfl) (fun _ _ _ h => h) (Or.inl ⟨by rfl, ?_⟩) ?_ ?_
    rotate_left
    · intro w'
      go_simp
      try (with_reducible rfl)
    rotate_left
    · simp only [Act.put, List.setIfInBounds_toArray, List.set_cons_zero, List.set_cons_succ, i64_w, i32_w]
      rfl
    refine pure_ (i := 2) (N := some 82) (v := ?_) (a' := ?_) #[true, true, true, false, false, false, false, false, false, false, false, false, false, false, false, false, false, false, false, false, false] rfl rfl (by kernel_rfl) (fun _ _ _ h => h) (Or.inl ⟨by rfl, ?_⟩) ?_ ?_
    rotate_left
    · intro w'
      go_simp
      try (with_reducible rfl)
    rotate_left
    · simp only [Act.put, List.setIfInBounds_toArray, List.set_cons_zero, List.set_cons_succ, i64_w, i32_w]
      rfl
    refine pure_ (i := 3) (N := some 83) (v := ?_) (a' := ?_) #[true, true, true, true, false, false, false, false, false, false, false, false, false, false, false, false, false, false, false, false, false] rfl rfl (by kernel_rfl) (fun _ _ _ h => h) (Or.inl ⟨by rfl, ?_⟩) ?_ ?_
    rotate_left
    · intro w'
      go_simp
      try (with_reducible rfl)
    rotate_left
    · simp only [Act.put, List.setIfInBounds_toArray, List.set_cons_zero, List.set_cons_succ, i64_w, i32_w]
      rfl
    refine pure_ (i := 4) (N := some 84) (v := ?_) (a' := ?_) #[true, true, true, true, true, false, false, false, false, false, false, false, false, false, false, false, false, false, false, false, false] rfl rfl (by kernel_rfl) (fun _ _ _ h => h) (Or.inl ⟨by rfl, ?_⟩) ?_ ?_
    rotate_left
    · intro w'
      go_simp
      try (with_reducible rfl)
    rotate_left
    · simp only [Act.put, List.setIfInBounds_toArray, List.set_cons_zero, List.set_cons_succ, i64_w, i32_w]
      rfl
    refine pure_ (i := 5) (N := some 85) (v := ?_) (a' := ?_) #[true, true, true, true, true, true, false, false, false, false, false, false, false, false, false, false, false, false, false, false, false] rfl rfl (by kernel_rfl) (fun _ _ _ h => h) (Or.inl ⟨by rfl, ?_⟩) ?_ ?_
    rotate_left
    · intro w'
      go_simp
      try (with_reducible rfl)
    rotate_left
    · simp only [Act.put, List.setIfInBounds_toArray, List.set_cons_zero, List.set_cons_succ, i64_w, i32_w]
      rfl
    refine pure_ (i := 6) (N := some 86) (v := ?_) (a' := ?_) #[true, true, true, true, true, true, true, false, false, false, false, false, false, false, false, false, false, false, false, false, false] rfl rfl (by kernel_rfl) (fun _ _ _ h => h) (Or.inl ⟨by rfl, ?_⟩) ?_ ?_
    rotate_left
    · intro w'
      go_simp
      try (with_reducible rfl)
    rotate_left
    · simp only [Act.put, List.setIfInBounds_toArray, List.set_cons_zero, List.set_cons_succ, i64_w, i32_w]
      rfl
    refine pure_ (i := 7) (N := some 87) (v := ?_) (a' := ?_) #[true, true, true, true, true, true, true, true, false, false, false, false, false, false, false, false, false, false, false, false, false] rfl rfl (by kernel_rfl) (fun _ _ _ h => h) (Or.inl ⟨by rfl, ?_⟩) ?_ ?_
    rotate_left
    · intro w'
      go_simp
      try (with_reducible rfl)
    rotate_left
    · simp only [Act.put, List.setIfInBounds_toArray, List.set_cons_zero, List.set_cons_succ, i64_w, i32_w]
      rfl
    refine pure_ (i := 8) (N := some 88) (v := undef) (a' := ?_) #[true, true, true, true, true, true, true, true, true, false, false, false, false, false, false, false, false, false, false, false, false] rfl rfl (by kernel_rfl) (fun _ _ _ h => h) (Or.inr ⟨by rfl, rfl⟩) ?_ ?_
    rotate_left
    · simp only [Act.put, List.setIfInBounds_toArray, List.set_cons_zero, List.set_cons_succ, i64_w, i32_w]
      rfl
    refine pure_ (i := 9) (N := some 89) (v := undef) (a' := ?_) #[true, true, true, true, true, true, true, true, true, true, false, false, false, false, false, false, false, false, false, false, false] rfl rfl (by kernel_rfl) (fun _ _ _ h => h) (Or.inr ⟨by rfl, rfl⟩) ?_ ?_
    rotate_left
    · simp only [Act.put, List.setIfInBounds_toArray, List.set_cons_zero, List.set_cons_succ, i64_w, i32_w]
      rfl
    refine pure_ (i := 10) (N := some 90) (v := undef) (a' := ?_) #[true, true, true, true, true, true, true, true, true, true, true, false, false, false, false, false, false, false, false, false, false] rfl rfl (by kernel_rfl) (fun _ _ _ h => h) (Or.inr ⟨by rfl, rfl⟩) ?_ ?_
    rotate_left
    · simp only [Act.put, List.setIfInBounds_toArray, List.set_cons_zero, List.set_cons_succ, i64_w, i32_w]
      rfl
    refine pure_ (i := 11) (N := some 91) (v := undef) (a' := ?_) #[true, true, true, true, true, true, true, true, true, true, true, true, false, false, false, false, false, false, false, false, false] rfl rfl (by kernel_rfl) (fun _ _ _ h => h) (Or.inr ⟨by rfl, rfl⟩) ?_ ?_
    rotate_left
    · simp only [Act.put, List.setIfInBounds_toArray, List.set_cons_zero, List.set_cons_succ, i64_w, i32_w]
      rfl
    refine pure_ (i := 12) (N := some 92) (v := undef) (a' := ?_) #[true, true, true, true, true, true, true, true, true, true, true, true, true, false, false, false, false, false, false, false, false] rfl rfl (by kernel_rfl) (fun _ _ _ h => h) (Or.inr ⟨by rfl, rfl⟩) ?_ ?_
    rotate_left
    · simp only [Act.put, List.setIfInBounds_toArray, List.set_cons_zero, List.set_cons_succ, i64_w, i32_w]
      rfl
    refine pure_ (i := 13) (N := some 93) (v := undef) (a' := ?_) #[true, true, true, true, true, true, true, true, true, true, true, true, true, true, false, false, false, false, false, false, false] rfl rfl (by kernel_rfl) (fun _ _ _ h => h) (Or.inr ⟨by rfl, rfl⟩) ?_ ?_
    rotate_left
    · simp only [Act.put, List.setIfInBounds_toArray, List.set_cons_zero, List.set_cons_succ, i64_w, i32_w]
      rfl
    refine pure_ (i := 14) (N := some 94) (v := undef) (a' := ?_) #[true, true, true, true, true, true, true, true, true, true, true, true, true, true, true, false, false, false, false, false, false] rfl rfl (by kernel_rfl) (fun _ _ _ h => h) (Or.inr ⟨by rfl, rfl⟩) ?_ ?_
    rotate_left
    · simp only [Act.put, List.setIfInBounds_toArray, List.set_cons_zero, List.set_cons_succ, i64_w, i32_w]
      rfl
    refine pure_ (i := 15) (N := some 95) (v := undef) (a' := ?_) #[true, true, true, true, true, true, true, true, true, true, true, true, true, true, true, true, false, false, false, false, false] rfl rfl (by kernel_rfl) (fun _ _ _ h => h) (Or.inr ⟨by rfl, rfl⟩) ?_ ?_
    rotate_left
    · simp only [Act.put, List.setIfInBounds_toArray, List.set_cons_zero, List.set_cons_succ, i64_w, i32_w]
      rfl
    refine pure_ (i := 16) (N := some 96) (v := undef) (a' := ?_) #[true, true, true, true, true, true, true, true, true, true, true, true, true, true, true, true, true, false, false, false, false] rfl rfl (by kernel_rfl) (fun _ _ _ h => h) (Or.inr ⟨by rfl, rfl⟩) ?_ ?_
    rotate_left
    · simp only [Act.put, List.setIfInBounds_toArray, List.set_cons_zero, List.set_cons_succ, i64_w, i32_w]
      rfl
    refine pure_ (i := 17) (N := some 97) (v := undef) (a' := ?_) #[true, true, true, true, true, true, true, true, true, true, true, true, true, true, true, true, true, true, false, false, false] rfl rfl (by kernel_rfl) (fun _ _ _ h => h) (Or.inr ⟨by rfl, rfl⟩) ?_ ?_
    rotate_left
    · simp only [Act.put, List.setIfInBounds_toArray, List.set_cons_zero, List.set_cons_succ, i64_w, i32_w]
      rfl
    refine pure_ (i := 18) (N := some 98) (v := undef) (a' := ?_) #[true, true, true, true, true, true, true, true, true, true, true, true, true, true, true, true, true, true, true, false, false] rfl rfl (by kernel_rfl) (fun _ _ _ h => h) (Or.inr ⟨by rfl, rfl⟩) ?_ ?_
    rotate_left
    · simp only [Act.put, List.setIfInBounds_toArray, List.set_cons_zero, List.set_cons_succ, i64_w, i32_w]
      rfl
    refine pure_ (i := 19) (N := some 99) (v := ?_) (a' := ?_) #[true, true, true, true, true, true, true, true, true, true, true, true, true, true, true, true, true, true, true, true, false] rfl rfl (by kernel_rfl) (fun _ _ _ h => h) (Or.inl ⟨by rfl, ?_⟩) ?_ ?_
    rotate_left
    · intro w'
      go_simp
      try (with_reducible rfl)
    rotate_left
    · simp only [Act.put, List.setIfInBounds_toArray, List.set_cons_zero, List.set_cons_succ, i64_w, i32_w]
      rfl
    refine pure_ (i := 20) (N := some 4) (v := ?_) (a' := ?_) #[true, true, true, true, true, true, true, true, true, true, true, true, true, true, true, true, true, true, true, true, true] rfl rfl (by kernel_rfl) (fun _ _ _ h => h) (Or.inl ⟨by rfl, ?_⟩) ?_ ?_
    rotate_left
    · intro w'
      go_simp
      try (with_reducible rfl)
    rotate_left
    · simp only [Act.put, List.setIfInBounds_toArray, List.set_cons_zero, List.set_cons_succ, i64_w, i32_w]
      rfl
    refine done_ (by kernel_rfl) ?_
    try go_wp2
    go_ret
    exact ⟨by simp, below_step HB8.out hHeld⟩
end Go.Proofs.Ytjgahpcmojnfcaa.PEditSplices
