/- The walk of the statement EditParts: it answers true. Conditions: rows that can be read. -/
import Derived.Test.YtjgahpcmojnfcaaOwnUndoes
namespace Go.Proofs.Ytjgahpcmojnfcaa.PEditSplices
open Go.RowKit Go.Proofs.YtjgahpcmojnfcaaW.PrintWords Go.Proofs.YtjgahpcmojnfcaaW.PrintLast Go.Proofs.YtjgahpcmojnfcaaW.PrintMore
open Go.Proofs.Ytjgahpcmojnfcaa.Plain (chk spl check_f chk_ok chk_of chk_num)
set_option linter.unusedVariables false
set_option linter.unusedSimpArgs false

/-- To take away, and then to put in. -/
theorem spl_parts (b : List Int) (a d : Int) (l : List Int) (h0 : 0 ≤ a) (h1 : 0 ≤ d) (h2 : a + d ≤ b.length) : spl (spl b a d []) a 0 l = spl b a d l := by
  obtain ⟨a, rfl⟩ := Int.eq_ofNat_of_zero_le h0
  obtain ⟨d, rfl⟩ := Int.eq_ofNat_of_zero_le h1
  have ht : (b.take a).length = a := by simp; omega
  have e1 : ((a : Int) + (d : Int)).toNat = a + d := by omega
  unfold spl
  rw [e1, Int.add_zero, Int.toNat_natCast, List.append_nil, List.take_append_of_le_length (by omega), List.take_of_length_le (by omega), List.drop_append_of_le_length (by omega), List.drop_eq_nil_of_le (by omega), List.nil_append]
theorem chk_parts (n a d m k : Int) (h0 : 0 ≤ a) (h1 : 0 ≤ d) (h2 : a + d ≤ n) (hk : k = n - d) : chk k a 0 m = chk n a d m := by
  subst hk
  unfold chk
  rw [if_neg (show ¬ (a < 0 ∨ (0 : Int) < 0 ∨ n - d < a ∨ n - d - a < 0) by omega), if_neg (show ¬ (a < 0 ∨ d < 0 ∨ n < a ∨ n - a < d) by omega)]
  have e : n - d - 0 + m = n - d + m := by omega
  rw [e]

set_option maxHeartbeats 8000000 in
set_option maxRecDepth 100000 in
theorem parts_calls (A : Option Addr) (c : Nat) (b : List Int) (n o : Int) (Ai : Option Addr) (ci : Nat) (l : List Int) (w : World) (hb : Kd.C (Kd.int .u8) w A b.length b) (hcb : b.length ≤ c) (hi : Kd.C (Kd.int .u8) w Ai l.length l) (hci : l.length ≤ ci) :
    Calls Try.prog 6 #[.slice A b.length c, .agg #[.int .i64 n, .int .i64 o, .slice Ai l.length ci]] w fun e w' => e = .returned (.bool true) ∧ Below w.heap.size w w' := by
  by_cases g1 : 4096 < b.length
  · go_enter Try.func6, Try.ntmps6
    go_wp2_with fail
    refine (awake_calls _).mono ?_
    rintro e w1 ⟨rfl, hb1⟩
    go_wp2
    go_ret
    exact ⟨rfl, below_step (below_alloc (Below.refl _ _) _) hb1⟩
  by_cases g2 : 4096 < l.length
  · go_enter Try.func6, Try.ntmps6
    go_wp2_with fail
    refine (awake_calls _).mono ?_
    rintro e w1 ⟨rfl, hb1⟩
    obtain ⟨k0, k1, k2⟩ := box_cells _ _ _ hb1
    go_wp2
    go_ret
    exact ⟨rfl, below_step (below_alloc (Below.refl _ _) _) hb1⟩
  have HBb := Aside0.mk hb
  have HIi := Aside0.mk hi
  clear hb hi
  go_enter Try.func6, Try.ntmps6
  go_wp2_with fail
  refine (awake_calls _).mono ?_
  rintro e w1 ⟨rfl, hb1⟩
  obtain ⟨k0, k1, k2⟩ := box_cells _ _ _ hb1
  have hf := box_frozen _ _ _ hb1
  have HB := Aside0.mk (below_step (below_alloc (Below.refl w.heap.size w) _) hb1)
  have hz : w.heap.size < w1.heap.size := by have := hb1.size; rw [size_succ] at this; omega
  clear hb1
  go_wp2_with fail
  refine (fit_calls A c b n o Ai ci l _ (by omega)).mono ?_
  rintro e w2 ⟨a, d, rfl, ha0, hd0, had, hb2⟩
  obtain ⟨j0, j1, j2⟩ := cells_on hb2 ⟨k0, k1, k2⟩
  have hf2 : ∀ j, w2.frozen? ⟨w.heap.size, j, none⟩ = false := fun j => (hb2.frozen (p := ⟨w.heap.size, j, none⟩) hz).trans (hf j)
  have n0_ := Aside0.mk (below_step HB.out hb2)
  clear HB k0 k1 k2 hf hb2
  have HB := n0_
  clear n0_
  go_wp2_with fail
  have hX := set3 (.int .i64 a) (.int .i64 d) (.slice Ai l.length ci) ⟨j0, j1, j2⟩
  have hB3 := ((HB.out.setCell (p := ⟨w.heap.size, 0, none⟩) (Nat.le_refl _) (.int .i64 a)).setCell (p := ⟨w.heap.size, 1, none⟩) (Nat.le_refl _) (.int .i64 d)).setCell (p := ⟨w.heap.size, 2, none⟩) (Nat.le_refl _) (.slice Ai l.length ci)
  simp only [] at hX
  generalize ((w2.setCell ⟨w.heap.size, 0, none⟩ (.int .i64 a)).setCell ⟨w.heap.size, 1, none⟩ (.int .i64 d)).setCell ⟨w.heap.size, 2, none⟩ (.slice Ai l.length ci) = W3 at hX hB3 ⊢
  clear HB j0 j1 j2 hf2 hz
  have e2 := spl_len b a d [] ha0 hd0 had
  have e3 := spl_parts b a d l ha0 hd0 had
  have hx0 : chk b.length a d ([] : List Int).length = 0 := chk_of ha0 hd0 had (by simp) (by simp; omega)
  have hck := chk_parts b.length a d l.length (spl b a d []).length ha0 hd0 had (by rw [e2]; simp)
  have s0 := fun (W : World) (h : Below w.heap.size w W) => splice_ok A c b a d none 0 [] W (Kd.C_below HBb.out h) hcb (Kd.C_nil _ _) (Nat.le_refl _) (by omega) (by decide) hx0
  simp only [List.length_nil] at e2
  by_cases hx : chk b.length a d l.length = 0
  · have s1 := splice_ok A c b a d Ai ci l W3 (Kd.C_below HBb.out hB3) hcb (Kd.C_below HIi.out hB3) hci (by omega) (by omega) hx
    generalize spl b a d [] = q at s0 e2 e3 hck
    generalize spl b a d l = z at s1 e3
    have s2 := fun (A : Option Addr) (c : Nat) (W : World) (h1 : Kd.C (Kd.int .u8) W A q.length q) (h2 : q.length ≤ c) (h : Below w.heap.size w W) => splice_ok A c q a 0 Ai ci l W h1 h2 (Kd.C_below HIi.out h) hci (by omega) (by omega) (hck.trans hx)
    simp only [e3] at s2
    have S0 := Aside0.mk s0
    have S2 := Aside0.mk s2
    clear s0 s2 e2 e3 hx hck hx0
    refine s1.mono ?_
    clear s1
    rintro e w4 ⟨v1, rfl, hR1, hb4⟩
    obtain ⟨B1, c1, rfl⟩ := Kd.R_slice hR1
    obtain ⟨x0, x1, x2⟩ := cells_on hb4 hX
    have hB4 := below_step hB3 hb4
    go_wp2_with fail
    refine (S0.out _ hB4).mono ?_
    rintro e w5 ⟨v2, rfl, hR2, hb5⟩
    obtain ⟨B2, c2, rfl⟩ := Kd.R_slice hR2
    obtain ⟨y0, y1, y2⟩ := cells_on hb5 ⟨x0, x1, x2⟩
    have hB5 := below_step hB4 hb5
    have R1 := Kd.R_below hR1 hb5
    clear x0 x1 x2 hR1 hb5 hX
    go_wp2_with fail
    refine (S2.out B2 c2 _ (Kd.R_reads' hR2).2.2 (Kd.R_reads' hR2).2.1 hB5).mono ?_
    rintro e w6 ⟨v3, rfl, hR3, hb6⟩
    obtain ⟨B3, c3, rfl⟩ := Kd.R_slice hR3
    have hB6 := below_step hB5 hb6
    have q1 := own_string (P := Try.prog) Try.underlying22 Try.underlying5 Try.underlying9 (Kd.own_of_R (Kd.R_below R1 hb6))
    have q2 := own_string (P := Try.prog) Try.underlying22 Try.underlying5 Try.underlying9 (Kd.own_of_R hR3)
    clear R1 hR2 hR3 hb6 y0 y1 y2
    go_wp2
    go_ret
    exact ⟨rfl, hB6⟩
  · have hx3 : chk b.length a d l.length = 3 := by
      unfold chk at hx ⊢
      rw [if_neg (by omega)] at hx ⊢
      split at hx
      · rename_i h; rw [if_pos h]
      · exact absurd rfl hx
    have s1 := splice_bad A c b a d Ai ci l W3 (Kd.C_below HIi.out hB3) hci (by omega) (by omega) 3 hx3 (by decide)
    clear e3
    generalize spl b a d [] = q at s0 e2 hck
    have s2 := fun (A : Option Addr) (c : Nat) (W : World) (h : Below w.heap.size w W) => splice_bad A c q a 0 Ai ci l W (Kd.C_below HIi.out h) hci (by omega) (by omega) 3 (hck.trans hx3) (by decide)
    have S0 := Aside0.mk s0
    have S2 := Aside0.mk s2
    clear s0 s2 e2 hx hck hx0 hx3
    refine s1.mono ?_
    clear s1
    rintro e w4 ⟨rfl, hb4⟩
    obtain ⟨x0, x1, x2⟩ := cells_on hb4 hX
    have hB4 := below_step hB3 hb4
    go_wp2_with fail
    refine (S0.out _ hB4).mono ?_
    rintro e w5 ⟨v2, rfl, hR2, hb5⟩
    obtain ⟨B2, c2, rfl⟩ := Kd.R_slice hR2
    obtain ⟨y0, y1, y2⟩ := cells_on hb5 ⟨x0, x1, x2⟩
    have hB5 := below_step hB4 hb5
    clear x0 x1 x2 hb5 hX
    go_wp2_with fail
    refine (S2.out B2 c2 _ hB5).mono ?_
    rintro e w6 ⟨rfl, hb6⟩
    have hB6 := below_step hB5 hb6
    have q1 := Kd.C_string (P := Try.prog) (A := none) (c := 0) (w := w6) (xs := []) Try.underlying22 Try.underlying5 Try.underlying9 (Kd.C_nil _ _)
    simp only [List.length_nil] at q1
    clear hR2 hb6 y0 y1 y2
    go_wp2
    go_ret
    exact ⟨rfl, hB6⟩
end Go.Proofs.Ytjgahpcmojnfcaa.PEditSplices
