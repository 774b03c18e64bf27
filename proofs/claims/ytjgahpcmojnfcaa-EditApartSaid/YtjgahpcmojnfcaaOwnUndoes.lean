/- The walk of the statement EditUndoes: it answers true. Conditions: rows that can be read. -/
import Derived.Test.YtjgahpcmojnfcaaOwnC
namespace Go.Proofs.Ytjgahpcmojnfcaa.PEditSplices
open Go.RowKit Go.Proofs.YtjgahpcmojnfcaaW.PrintWords Go.Proofs.YtjgahpcmojnfcaaW.PrintLast Go.Proofs.YtjgahpcmojnfcaaW.PrintMore
open Go.Proofs.Ytjgahpcmojnfcaa.Plain (chk spl check_f chk_ok chk_of chk_num)
set_option linter.unusedVariables false
set_option linter.unusedSimpArgs false

theorem cut_len (b : List Int) (a d : Int) (h0 : 0 ≤ a) (h1 : 0 ≤ d) (h2 : a + d ≤ b.length) : (((b.take (a + d).toNat).drop a.toNat).length : Int) = d := by
  rw [List.length_drop, List.length_take]; omega
theorem spl_len (b : List Int) (a d : Int) (l : List Int) (h0 : 0 ≤ a) (h1 : 0 ≤ d) (h2 : a + d ≤ b.length) : ((spl b a d l).length : Int) = b.length - d + l.length := by
  unfold spl
  rw [List.length_append, List.length_append, List.length_take, List.length_drop]; omega
theorem spl_back (b : List Int) (a d : Int) (l : List Int) (h0 : 0 ≤ a) (h1 : 0 ≤ d) (h2 : a + d ≤ b.length) : spl (spl b a d l) a l.length ((b.take (a + d).toNat).drop a.toNat) = b := by
  obtain ⟨a, rfl⟩ := Int.eq_ofNat_of_zero_le h0
  obtain ⟨d, rfl⟩ := Int.eq_ofNat_of_zero_le h1
  have e1 : ((a : Int) + (d : Int)).toNat = a + d := by omega
  have e2 : ((a : Int) + (l.length : Int)).toNat = a + l.length := by omega
  have ht : (b.take a).length = a := by simp; omega
  unfold spl
  rw [e1, e2, Int.toNat_natCast]
  have f1 : (b.take a ++ l ++ b.drop (a + d)).take a = b.take a := by
    rw [List.append_assoc, List.take_append_of_le_length (by omega), List.take_of_length_le (by omega)]
  have f2 : (b.take a ++ l ++ b.drop (a + d)).drop (a + l.length) = b.drop (a + d) := by
    rw [List.drop_append_of_le_length (by simp; omega), List.drop_eq_nil_of_le (by simp; omega), List.nil_append]
  rw [f1, f2, List.drop_take, Nat.add_sub_cancel_left, List.append_assoc, ← List.drop_drop, List.take_append_drop, List.take_append_drop]
theorem spl_ins (b : List Int) (a d : Int) (l : List Int) (h0 : 0 ≤ a) (h1 : 0 ≤ d) (h2 : a + d ≤ b.length) : ((spl b a d l).take (a + l.length).toNat).drop a.toNat = l := by
  obtain ⟨a, rfl⟩ := Int.eq_ofNat_of_zero_le h0
  obtain ⟨d, rfl⟩ := Int.eq_ofNat_of_zero_le h1
  have e2 : ((a : Int) + (l.length : Int)).toNat = a + l.length := by omega
  have ht : (b.take a).length = a := by simp; omega
  unfold spl
  rw [e2, Int.toNat_natCast, List.take_append_of_le_length (by simp; omega), List.take_of_length_le (by simp; omega), List.drop_append_of_le_length (by omega), List.drop_eq_nil_of_le (by omega), List.nil_append]

theorem set3 {W : World} {g : Nat} {x y z : Value} (x' y' z' : Value) (h : W.cell? ⟨g, 0, none⟩ = some x ∧ W.cell? ⟨g, 1, none⟩ = some y ∧ W.cell? ⟨g, 2, none⟩ = some z) :
    let V := ((W.setCell ⟨g, 0, none⟩ x').setCell ⟨g, 1, none⟩ y').setCell ⟨g, 2, none⟩ z'
    V.cell? ⟨g, 0, none⟩ = some x' ∧ V.cell? ⟨g, 1, none⟩ = some y' ∧ V.cell? ⟨g, 2, none⟩ = some z' := by
  obtain ⟨h0, h1, h2⟩ := h
  have n01 : (⟨g, 0, none⟩ : Addr) ≠ ⟨g, 1, none⟩ := by simp
  have n02 : (⟨g, 0, none⟩ : Addr) ≠ ⟨g, 2, none⟩ := by simp
  have n12 : (⟨g, 1, none⟩ : Addr) ≠ ⟨g, 2, none⟩ := by simp
  refine ⟨?_, ?_, ?_⟩
  · rw [World.cell?_setCell_other _ _ _ _ n02.symm, World.cell?_setCell_other _ _ _ _ n01.symm]
    exact World.cell?_setCell_same _ _ _ h0
  · rw [World.cell?_setCell_other _ _ _ _ n12.symm]
    exact World.cell?_setCell_same _ _ _ ((World.cell?_setCell_other _ _ _ _ n01).trans h1)
  · exact World.cell?_setCell_same _ _ _ ((World.cell?_setCell_other _ _ _ _ n12).trans ((World.cell?_setCell_other _ _ _ _ n02).trans h2))

set_option maxHeartbeats 8000000 in
set_option maxRecDepth 100000 in
theorem undoes_calls (A : Option Addr) (c : Nat) (b : List Int) (n o : Int) (Ai : Option Addr) (ci : Nat) (l : List Int) (w : World) (hb : Kd.C (Kd.int .u8) w A b.length b) (hcb : b.length ≤ c) (hi : Kd.C (Kd.int .u8) w Ai l.length l) (hci : l.length ≤ ci) :
    Calls Try.prog 5 #[.slice A b.length c, .agg #[.int .i64 n, .int .i64 o, .slice Ai l.length ci]] w fun e w' => e = .returned (.bool true) ∧ Below w.heap.size w w' := by
  by_cases g1 : 4096 < b.length
  · go_enter Try.func5, Try.ntmps5
    go_wp2_with fail
    refine (awake_calls _).mono ?_
    rintro e w1 ⟨rfl, hb1⟩
    go_wp2
    go_ret
    exact ⟨rfl, below_step (below_alloc (Below.refl _ _) _) hb1⟩
  by_cases g2 : 4096 < l.length
  · go_enter Try.func5, Try.ntmps5
    go_wp2_with fail
    refine (awake_calls _).mono ?_
    rintro e w1 ⟨rfl, hb1⟩
    obtain ⟨k0, k1, k2⟩ := box_cells _ _ _ hb1
    go_wp2
    go_ret
    exact ⟨rfl, below_step (below_alloc (Below.refl _ _) _) hb1⟩
  have HBb := Aside0.mk hb
  have HIi := Aside0.mk hi
  clear hb hi
  go_enter Try.func5, Try.ntmps5
  go_wp2_with fail
  refine (awake_calls _).mono ?_
  rintro e w1 ⟨rfl, hb1⟩
  obtain ⟨k0, k1, k2⟩ := box_cells _ _ _ hb1
  have hf := box_frozen _ _ _ hb1
  have HB := Aside0.mk (below_step (below_alloc (Below.refl w.heap.size w) _) hb1)
  have hz : w.heap.size < w1.heap.size := by have := hb1.size; rw [size_succ] at this; omega
  clear hb1
  go_wp2_with fail
  refine (fit_calls A c b n o Ai ci l _ (by omega)).mono ?_
  rintro e w2 ⟨a, d, rfl, ha0, hd0, had, hb2⟩
  obtain ⟨j0, j1, j2⟩ := cells_on hb2 ⟨k0, k1, k2⟩
  have hf2 : ∀ j, w2.frozen? ⟨w.heap.size, j, none⟩ = false := fun j => (hb2.frozen (p := ⟨w.heap.size, j, none⟩) hz).trans (hf j)
  have n0_ := Aside0.mk (below_step HB.out hb2)
  clear HB k0 k1 k2 hf hb2
  have HB := n0_
  clear n0_
  go_wp2_with fail
  have hX := set3 (.int .i64 a) (.int .i64 d) (.slice Ai l.length ci) ⟨j0, j1, j2⟩
  have hB3 := ((HB.out.setCell (p := ⟨w.heap.size, 0, none⟩) (Nat.le_refl _) (.int .i64 a)).setCell (p := ⟨w.heap.size, 1, none⟩) (Nat.le_refl _) (.int .i64 d)).setCell (p := ⟨w.heap.size, 2, none⟩) (Nat.le_refl _) (.slice Ai l.length ci)
  simp only [] at hX
  generalize ((w2.setCell ⟨w.heap.size, 0, none⟩ (.int .i64 a)).setCell ⟨w.heap.size, 1, none⟩ (.int .i64 d)).setCell ⟨w.heap.size, 2, none⟩ (.slice Ai l.length ci) = W3 at hX hB3 ⊢
  clear HB j0 j1 j2 hf2 hz
  by_cases hx : chk b.length a d l.length = 0
  · obtain ⟨_, _, _, _, _, hsum⟩ := chk_ok hx
    have e1 := cut_len b a d ha0 hd0 had
    have e2 := spl_len b a d l ha0 hd0 had
    have e3 := spl_back b a d l ha0 hd0 had
    have e4 := spl_ins b a d l ha0 hd0 had
    have s1 := splice_ok A c b a d Ai ci l W3 (Kd.C_below HBb.out hB3) hcb (Kd.C_below HIi.out hB3) hci (by omega) (by omega) hx
    have u1 := fun (W : World) (h : Below w.heap.size w W) => undo_ok A c b a d Ai ci l W (Kd.C_below HBb.out h) hcb (Kd.C_below HIi.out h) hci (by omega) (by omega) hx
    generalize spl b a d l = q at s1 e2 e3 e4
    generalize (b.take (a + d).toNat).drop a.toNat = m at u1 e1 e3
    have hx2 : chk q.length a l.length m.length = 0 := chk_of ha0 (by omega) (by omega) (by omega) (by omega)
    have s2 := fun (A : Option Addr) (c : Nat) (Ai : Option Addr) (ci : Nat) (W : World) (h1 : Kd.C (Kd.int .u8) W A q.length q) (h2 : q.length ≤ c) (h3 : Kd.C (Kd.int .u8) W Ai m.length m) (h4 : m.length ≤ ci) => splice_ok A c q a l.length Ai ci m W h1 h2 h3 h4 (by omega) (by omega) hx2
    have u2 := fun (A : Option Addr) (c : Nat) (Ai : Option Addr) (ci : Nat) (W : World) (h1 : Kd.C (Kd.int .u8) W A q.length q) (h2 : q.length ≤ c) (h3 : Kd.C (Kd.int .u8) W Ai m.length m) (h4 : m.length ≤ ci) => undo_ok A c q a l.length Ai ci m W h1 h2 h3 h4 (by omega) (by omega) hx2
    simp only [e3] at s2
    simp only [e4, e1] at u2
    have U1 := Aside0.mk u1
    have S2 := Aside0.mk s2
    have U2 := Aside0.mk u2
    clear u1 s2 u2 e1 e2 e3 e4 hx hx2 hsum
    refine s1.mono ?_
    clear s1
    rintro e w4 ⟨v1, rfl, hR1, hb4⟩
    obtain ⟨B1, c1, rfl⟩ := Kd.R_slice hR1
    have hX := cells_on hb4 hX
    have hB4 := below_step hB3 hb4
    go_wp2_with fail
    refine (U1.out _ hB4).mono ?_
    rintro e w5 ⟨v2, rfl, hR2, hb5⟩
    obtain ⟨B2, c2, rfl⟩ := Kd.R_slice hR2
    go_wp2_with fail
    have R1 := Kd.R_alloc (Kd.R_below hR1 hb5) (.cells #[.int .i64 a, .int .i64 l.length, .slice B2 m.length c2] 24)
    have R2 := Kd.R_alloc hR2 (.cells #[.int .i64 a, .int .i64 l.length, .slice B2 m.length c2] 24)
    refine (S2.out B1 c1 B2 c2 _ (Kd.R_reads' R1).2.2 (Kd.R_reads' R1).2.1 (Kd.R_reads' R2).2.2 (Kd.R_reads' R2).2.1).mono ?_
    rintro e w7 ⟨v3, rfl, hR3, hb7⟩
    obtain ⟨B3, c3, rfl⟩ := Kd.R_slice hR3
    obtain ⟨y0, y1, y2⟩ := box_cells _ _ _ hb7
    have R1' := Kd.R_below R1 hb7
    have R2' := Kd.R_below R2 hb7
    have hX := cells_on (below_step (below_alloc hb5 _) hb7) hX
    have hB7 := below_step (below_alloc (below_step hB4 hb5) _) hb7
    clear hR1 hR2 R1 R2 hb5 hb7
    go_wp2_with fail
    refine (U2.out B1 c1 B2 c2 _ (Kd.R_reads' R1').2.2 (Kd.R_reads' R1').2.1 (Kd.R_reads' R2').2.2 (Kd.R_reads' R2').2.1).mono ?_
    rintro e w8 ⟨v4, rfl, hR4, hb8⟩
    obtain ⟨B4, c4, rfl⟩ := Kd.R_slice hR4
    obtain ⟨x0, x1, x2⟩ := cells_on hb8 hX
    have R3' := Kd.R_below hR3 hb8
    have hB8 := below_step hB7 hb8
    have q1 := fun O : Obj => own_string (P := Try.prog) Try.underlying22 Try.underlying5 Try.underlying9 (Kd.own_of_R (Kd.R_alloc R3' O))
    have q2 := fun O : Obj => own_string (P := Try.prog) Try.underlying22 Try.underlying5 Try.underlying9 (Kd.own_of_R (Kd.R_alloc hR4 O))
    have q3 := fun O : Obj => Kd.C_string (P := Try.prog) (A := A) (c := c) Try.underlying22 Try.underlying5 Try.underlying9 (Kd.C_below HBb.out (below_alloc hB8 O))
    have q4 := fun O : Obj => Kd.C_string (P := Try.prog) (A := Ai) (c := ci) Try.underlying22 Try.underlying5 Try.underlying9 (Kd.C_below HIi.out (below_alloc hB8 O))
    have p0 := fun O : Obj => pw_cell_below (below_alloc (Below.refl w8.heap.size w8) O) x0
    have p1 := fun O : Obj => pw_cell_below (below_alloc (Below.refl w8.heap.size w8) O) x1
    have p2 := fun O : Obj => pw_cell_below (below_alloc (Below.refl w8.heap.size w8) O) x2
    clear hX R1' R2' hR3 R3' hR4 y0 y1 y2 hb8
    go_wp2
    go_ret
    exact ⟨rfl, below_alloc hB8 _⟩
  · have hx3 : chk b.length a d l.length = 3 := by
      unfold chk at hx ⊢
      rw [if_neg (by omega)] at hx ⊢
      split at hx
      · rename_i h; rw [if_pos h]
      · exact absurd rfl hx
    refine (splice_bad A c b a d Ai ci l W3 (Kd.C_below HIi.out hB3) hci (by omega) (by omega) 3 hx3 (by decide)).mono ?_
    rintro e w4 ⟨rfl, hb4⟩
    have hX := cells_on hb4 hX
    have hB4 := below_step hB3 hb4
    go_wp2_with fail
    refine (undo_bad A c b a d Ai ci l w4 (Kd.C_below HIi.out hB4) hci (by omega) (by omega) 3 hx3 (by decide)).mono ?_
    rintro e w5 ⟨rfl, hb5⟩
    have hB5 := below_step hB4 hb5
    go_wp2
    go_ret
    exact ⟨rfl, below_alloc hB5 _⟩
end Go.Proofs.Ytjgahpcmojnfcaa.PEditSplices
