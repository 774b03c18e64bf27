/- The walk of the statement EditApart: it answers true. Conditions: rows that can be read. -/
import Derived.Test.YtjgahpcmojnfcaaOwnUndoes
import Derived.Outline
namespace Go.Proofs.Ytjgahpcmojnfcaa.PEditSplices
open Go.RowKit Go.Proofs.YtjgahpcmojnfcaaW.PrintWords Go.Proofs.YtjgahpcmojnfcaaW.PrintLast Go.Proofs.YtjgahpcmojnfcaaW.PrintMore
open Go.Proofs.Ytjgahpcmojnfcaa.Plain (chk spl check_f chk_ok chk_of chk_num)
set_option linter.unusedVariables false
set_option linter.unusedSimpArgs false

/-- Two changes that don't touch, in either order. -/
theorem spl_apart (b : List Int) (a d e f : Int) (l m : List Int) (h0 : 0 ≤ a) (h1 : 0 ≤ d) (h2 : a + d ≤ e) (h3 : 0 ≤ f) (h4 : e + f ≤ b.length) :
    spl (spl b e f m) a d l = spl (spl b a d l) (e + ((l.length : Int) - d)) f m := by
  obtain ⟨a, rfl⟩ := Int.eq_ofNat_of_zero_le h0
  obtain ⟨d, rfl⟩ := Int.eq_ofNat_of_zero_le h1
  obtain ⟨e, rfl⟩ := Int.eq_ofNat_of_zero_le (show 0 ≤ e by omega)
  obtain ⟨f, rfl⟩ := Int.eq_ofNat_of_zero_le h3
  have x1 : ((e : Int) + (f : Int)).toNat = e + f := by omega
  have x2 : ((a : Int) + (d : Int)).toNat = a + d := by omega
  have x3 : ((e : Int) + ((l.length : Int) - (d : Int))).toNat = a + l.length + (e - (a + d)) := by omega
  have x4 : ((e : Int) + ((l.length : Int) - (d : Int)) + (f : Int)).toNat = a + l.length + (e - (a + d) + f) := by omega
  unfold spl
  rw [x1, x2, x3, x4]
  simp only [Int.toNat_natCast]
  have ta : (b.take a).length = a := by simp; omega
  have te : (b.take e).length = e := by simp; omega
  have y1 : (b.take e ++ m ++ b.drop (e + f)).take a = b.take a := by
    rw [List.append_assoc, List.take_append_of_le_length (by omega), List.take_take, Nat.min_eq_left (by omega)]
  have y2 : (b.take e ++ m ++ b.drop (e + f)).drop (a + d) = (b.take e).drop (a + d) ++ m ++ b.drop (e + f) := by
    rw [List.append_assoc, List.drop_append_of_le_length (by omega), List.append_assoc]
  have tal : (b.take a ++ l).length = a + l.length := by rw [List.length_append, ta]
  have y3 : (b.take a ++ l ++ b.drop (a + d)).take (a + l.length + (e - (a + d))) = b.take a ++ l ++ (b.drop (a + d)).take (e - (a + d)) := by
    rw [List.take_append, tal, List.take_of_length_le (by omega), Nat.add_sub_cancel_left]
  have y4 : (b.take a ++ l ++ b.drop (a + d)).drop (a + l.length + (e - (a + d) + f)) = b.drop (e + f) := by
    rw [List.drop_append, tal, List.drop_eq_nil_of_le (by omega), List.nil_append, Nat.add_sub_cancel_left, List.drop_drop]
    congr 1
    omega
  rw [y1, y2, y3, y4, List.drop_take]
  simp only [List.append_assoc]

def Boxes (w W : World) (g h : Nat) (x0 x1 x2 y0 y1 y2 : Value) : Prop :=
  (W.cell? ⟨g, 0, none⟩ = some x0 ∧ W.cell? ⟨g, 1, none⟩ = some x1 ∧ W.cell? ⟨g, 2, none⟩ = some x2) ∧
  (W.cell? ⟨h, 0, none⟩ = some y0 ∧ W.cell? ⟨h, 1, none⟩ = some y1 ∧ W.cell? ⟨h, 2, none⟩ = some y2) ∧
  (∀ j, W.frozen? ⟨g, j, none⟩ = false) ∧ (∀ j, W.frozen? ⟨h, j, none⟩ = false) ∧ Below w.heap.size w W ∧ g < W.heap.size ∧ h < W.heap.size
theorem Boxes.on {w W V : World} {g h : Nat} {x0 x1 x2 y0 y1 y2 : Value} (H : Boxes w W g h x0 x1 x2 y0 y1 y2) (hb : Below W.heap.size W V) : Boxes w V g h x0 x1 x2 y0 y1 y2 :=
  ⟨cells_on hb H.1, cells_on hb H.2.1, fun j => (hb.frozen (p := ⟨g, j, none⟩) H.2.2.2.2.2.1).trans (H.2.2.1 j), fun j => (hb.frozen (p := ⟨h, j, none⟩) H.2.2.2.2.2.2).trans (H.2.2.2.1 j),
    below_step H.2.2.2.2.1 hb, Nat.lt_of_lt_of_le H.2.2.2.2.2.1 hb.size, Nat.lt_of_lt_of_le H.2.2.2.2.2.2 hb.size⟩
theorem frozen_set {W : World} {p a : Addr} {v : Value} : (W.setCell p v).frozen? a = W.frozen? a := by simp [go_sem]
theorem far3 {W : World} {g h : Nat} (hne : h ≠ g) (x y z : Value) (j : Nat) : (((W.setCell ⟨g, 0, none⟩ x).setCell ⟨g, 1, none⟩ y).setCell ⟨g, 2, none⟩ z).cell? ⟨h, j, none⟩ = W.cell? ⟨h, j, none⟩ := by
  rw [cell_far (p := ⟨g, 2, none⟩) (a := ⟨h, j, none⟩) hne, cell_far (p := ⟨g, 1, none⟩) (a := ⟨h, j, none⟩) hne, cell_far (p := ⟨g, 0, none⟩) (a := ⟨h, j, none⟩) hne]
theorem Boxes.fst {w W : World} {g h : Nat} {x0 x1 x2 y0 y1 y2 : Value} (H : Boxes w W g h x0 x1 x2 y0 y1 y2) (hne : h ≠ g) (hg : w.heap.size ≤ g) (u0 u1 u2 : Value) :
    Boxes w (((W.setCell ⟨g, 0, none⟩ u0).setCell ⟨g, 1, none⟩ u1).setCell ⟨g, 2, none⟩ u2) g h u0 u1 u2 y0 y1 y2 :=
  ⟨set3 u0 u1 u2 H.1, ⟨(far3 hne u0 u1 u2 0).trans H.2.1.1, (far3 hne u0 u1 u2 1).trans H.2.1.2.1, (far3 hne u0 u1 u2 2).trans H.2.1.2.2⟩,
    fun j => by rw [frozen_set, frozen_set, frozen_set]; exact H.2.2.1 j, fun j => by rw [frozen_set, frozen_set, frozen_set]; exact H.2.2.2.1 j,
    ((H.2.2.2.2.1.setCell (p := ⟨g, 0, none⟩) hg u0).setCell (p := ⟨g, 1, none⟩) hg u1).setCell (p := ⟨g, 2, none⟩) hg u2, by simpa [World.setCell] using H.2.2.2.2.2.1, by simpa [World.setCell] using H.2.2.2.2.2.2⟩
theorem Boxes.swap {w W : World} {g h : Nat} {x0 x1 x2 y0 y1 y2 : Value} (H : Boxes w W g h x0 x1 x2 y0 y1 y2) : Boxes w W h g y0 y1 y2 x0 x1 x2 :=
  ⟨H.2.1, H.1, H.2.2.2.1, H.2.2.1, H.2.2.2.2.1, H.2.2.2.2.2.2, H.2.2.2.2.2.1⟩
theorem boxes_new {w W : World} (x0 x1 x2 y0 y1 y2 : Value) (h : Below ((w.alloc (.cells #[x0, x1, x2] 24)).alloc (.cells #[y0, y1, y2] 24)).heap.size ((w.alloc (.cells #[x0, x1, x2] 24)).alloc (.cells #[y0, y1, y2] 24)) W) :
    Boxes w W w.heap.size (w.heap.size + 1) x0 x1 x2 y0 y1 y2 := by
  obtain ⟨h1, h2, h3, h4⟩ := two_boxes _ _ _ _ _ _ h
  refine ⟨h1, h2, fun j => ?_, h3, below_step (below_alloc (below_alloc (Below.refl _ _) _) _) h, by omega, h4⟩
  have e1 := h.frozen (p := ⟨w.heap.size, j, none⟩) (by simp; omega)
  have e2 := (below_alloc (Below.refl (w.alloc (.cells #[x0, x1, x2] 24)).heap.size (w.alloc (.cells #[x0, x1, x2] 24))) (.cells #[y0, y1, y2] 24)).frozen (p := ⟨w.heap.size, j, none⟩) (by simp)
  rw [e1, e2, World.frozen?_alloc_mark]
  simp

set_option maxHeartbeats 16000000 in
set_option maxRecDepth 100000 in
theorem apart_calls (A : Option Addr) (c : Nat) (b : List Int) (x xd : Int) (Ax : Option Addr) (cx : Nat) (l : List Int) (y yd : Int) (Ay : Option Addr) (cy : Nat) (m : List Int) (w : World) (hb : Kd.C (Kd.int .u8) w A b.length b) (hcb : b.length ≤ c)
    (hl : Kd.C (Kd.int .u8) w Ax l.length l) (hcl : l.length ≤ cx) (hm : Kd.C (Kd.int .u8) w Ay m.length m) (hcm : m.length ≤ cy) :
    Calls Try.prog 7 #[.slice A b.length c, .agg #[.int .i64 x, .int .i64 xd, .slice Ax l.length cx], .agg #[.int .i64 y, .int .i64 yd, .slice Ay m.length cy]] w fun e w' => e = .returned (.bool true) ∧ Below w.heap.size w w' := by
  by_cases g1 : 1000 < b.length
  · go_enter Try.func7, Try.ntmps7
    go_wp2_with fail
    refine (awake_calls _).mono ?_
    rintro e w1 ⟨rfl, hb1⟩
    obtain ⟨⟨k0, k1, k2⟩, ⟨j0, j1, j2⟩, _, _, hB, _, _⟩ := boxes_new _ _ _ _ _ _ hb1
    clear hb1
    go_wp2
    go_ret
    exact ⟨rfl, hB⟩
  by_cases g2 : 1000 < l.length
  · go_enter Try.func7, Try.ntmps7
    go_wp2_with fail
    refine (awake_calls _).mono ?_
    rintro e w1 ⟨rfl, hb1⟩
    obtain ⟨⟨k0, k1, k2⟩, ⟨j0, j1, j2⟩, _, _, hB, _, _⟩ := boxes_new _ _ _ _ _ _ hb1
    clear hb1
    go_wp2
    go_ret
    exact ⟨rfl, hB⟩
  by_cases g3 : 1000 < m.length
  · go_enter Try.func7, Try.ntmps7
    go_wp2_with fail
    refine (awake_calls _).mono ?_
    rintro e w1 ⟨rfl, hb1⟩
    obtain ⟨⟨k0, k1, k2⟩, ⟨j0, j1, j2⟩, _, _, hB, _, _⟩ := boxes_new _ _ _ _ _ _ hb1
    clear hb1
    go_wp2
    go_ret
    exact ⟨rfl, hB⟩
  have HBb := Aside0.mk hb
  have HL := Aside0.mk hl
  have HM := Aside0.mk hm
  clear hb hl hm
  go_enter Try.func7, Try.ntmps7
  go_wp2_with fail
  refine (awake_calls _).mono ?_
  rintro e w1 ⟨rfl, hb1⟩
  have HX := Aside0.mk (boxes_new _ _ _ _ _ _ hb1)
  clear hb1
  obtain ⟨⟨k0, k1, k2⟩, ⟨j0, j1, j2⟩, _⟩ := HX.out
  go_wp2_with fail
  have HX2 := Aside0.mk (HX.out.on (below_drew1 (Below.refl w1.heap.size w1)))
  clear HX k0 k1 k2 j0 j1 j2
  refine start_ (n := 8) (S := fun w' => w'.cell? ⟨w.heap.size, 0, none⟩ = some (.int .i64 x) ∧ w'.cell? ⟨w.heap.size, 1, none⟩ = some (.int .i64 xd) ∧ w'.cell? ⟨w.heap.size, 2, none⟩ = some (.slice Ax l.length cx) ∧ w'.cell? ⟨w.heap.size + 1, 0, none⟩ = some (.int .i64 y) ∧ w'.cell? ⟨w.heap.size + 1, 1, none⟩ = some (.int .i64 yd) ∧ w'.cell? ⟨w.heap.size + 1, 2, none⟩ = some (.slice Ay m.length cy)) (ds := [6, 7]) #[false, false, false, false, false, false, false, false] (by kernel_rfl) rfl rfl ⟨HX2.out.1.1, HX2.out.1.2.1, HX2.out.1.2.2, HX2.out.2.1.1, HX2.out.2.1.2.1, HX2.out.2.1.2.2⟩ (fun hHeld => ?_)
  generalize w1.drew = w5 at HX2 hHeld ⊢
  refine pure_ (i := 0) (N := some 31) (v := ?_) (a' := ?_) #[true, false, false, false, false, false, false, false] rfl rfl (by kernel_rfl) (fun _ _ _ h => h) (Or.inl ⟨by rfl, ?_⟩) ?_ ?_
  rotate_left
  · intro w'
    go_simp
    try (with_reducible rfl)
  rotate_left
  · simp only [Act.put, List.setIfInBounds_toArray, List.set_cons_zero, List.set_cons_succ, i64_w, i32_w]
    rfl
  refine pure_ (i := 3) (N := some 34) (v := ?_) (a' := ?_) #[true, false, false, true, false, false, false, false] rfl rfl (by kernel_rfl) (fun _ _ _ h => h) (Or.inl ⟨by rfl, ?_⟩) ?_ ?_
  rotate_left
  · intro w'
    go_simp
    try (with_reducible rfl)
  rotate_left
  · simp only [Act.put, List.setIfInBounds_toArray, List.set_cons_zero, List.set_cons_succ, i64_w, i32_w]
    rfl
  refine take_ (i := 1) (N := some 32) (v := ?_) (a' := ?_) #[true, true, false, true, false, false, false, false] rfl rfl (by kernel_rfl) (fun _ _ _ h => h) (Or.inl ⟨by rfl, ?_⟩) hHeld ?_ ?_
  rotate_left
  · rintro w' ⟨s0, s1, s2, s3, s4, s5⟩
    go_simp
    try (with_reducible rfl)
  rotate_left
  · simp only [Act.put, List.setIfInBounds_toArray, List.set_cons_zero, List.set_cons_succ, i64_w, i32_w]
    rfl
  refine take_ (i := 4) (N := some 35) (v := ?_) (a' := ?_) #[true, true, false, true, true, false, false, false] rfl rfl (by kernel_rfl) (fun _ _ _ h => h) (Or.inl ⟨by rfl, ?_⟩) hHeld ?_ ?_
  rotate_left
  · rintro w' ⟨s0, s1, s2, s3, s4, s5⟩
    go_simp
    try (with_reducible rfl)
  rotate_left
  · simp only [Act.put, List.setIfInBounds_toArray, List.set_cons_zero, List.set_cons_succ, i64_w, i32_w]
    rfl
  refine one_ (i := 2) (N := some 33) #[true, true, true, true, true, false, false, false] rfl rfl (by kernel_rfl) (by decide) (fun K hK => ?_)
  refine goes_ Try.func14 (by kernel_rfl) rfl #[.slice A b.length c, .agg #[.int .i64 x, .int .i64 xd, .slice Ax l.length cx]] (by rfl) rfl rfl (by (try simp only [List.map_toArray, List.map_cons, List.map_nil]); first | done | rfl) ?_
  with_reducible refine (fit_calls A c b x xd Ax cx l _ (by omega)).mono ?_
  rintro e w_ ⟨a, d, rfl, ha0, hd0, had, hb⟩
  refine ⟨_, rfl, ?_⟩
  have HX3 := Aside0.mk (HX2.out.on hb)
  clear HX2 hb hHeld
  refine hK.out _ _ ⟨HX3.out.1.1, HX3.out.1.2.1, HX3.out.1.2.2, HX3.out.2.1.1, HX3.out.2.1.2.1, HX3.out.2.1.2.2⟩ (fun hHeld => ?_)
  clear hK K
  refine norm_ (a' := ?_) ?_ ?_
  rotate_left
  · show Act.put _ (some 33) _ = _
    simp only [Act.put, List.setIfInBounds_toArray, List.set_cons_zero, List.set_cons_succ, i64_w, i32_w]
    rfl
  refine one_ (i := 5) (N := some 36) #[true, true, true, true, true, true, false, false] rfl rfl (by kernel_rfl) (by decide) (fun K hK => ?_)
  refine goes_ Try.func14 (by kernel_rfl) rfl #[.slice A b.length c, .agg #[.int .i64 y, .int .i64 yd, .slice Ay m.length cy]] (by rfl) rfl rfl (by (try simp only [List.map_toArray, List.map_cons, List.map_nil]); first | done | rfl) ?_
  with_reducible refine (fit_calls A c b y yd Ay cy m _ (by omega)).mono ?_
  rintro e w_ ⟨e, f, rfl, he0, hf0, hef, hb⟩
  refine ⟨_, rfl, ?_⟩
  have HX4 := Aside0.mk (HX3.out.on hb)
  clear HX3 hb hHeld
  refine hK.out _ _ ⟨HX4.out.1.1, HX4.out.1.2.1, HX4.out.1.2.2, HX4.out.2.1.1, HX4.out.2.1.2.1, HX4.out.2.1.2.2⟩ (fun hHeld => ?_)
  clear hK K
  refine norm_ (a' := ?_) ?_ ?_
  rotate_left
  · show Act.put _ (some 36) _ = _
    simp only [Act.put, List.setIfInBounds_toArray, List.set_cons_zero, List.set_cons_succ, i64_w, i32_w]
    rfl
  generalize w_ = w7 at HX4 hHeld ⊢
  clear hHeld
  refine last_ (i := 6) (N := none) #[true, true, true, true, true, true, true, false] rfl rfl (by kernel_rfl) (by decide) (fun K hK => ?_)
  obtain ⟨⟨k0, k1, k2⟩, ⟨j0, j1, j2⟩, fg, fh, _⟩ := HX4.out
  refine skip_ (w1 := ?_) (by rfl) rfl ?_ ?_
  rotate_left
  · go_simp
    try rfl
  refine hK.out _ _ ?_
  clear hK K k0 k1 k2 j0 j1 j2 fg fh
  have HX5 := Aside0.mk (HX4.out.fst (by omega) (Nat.le_refl _) (.int .i64 a) (.int .i64 d) (.slice Ax l.length cx))
  clear HX4
  have HX4 := HX5
  clear HX5
  generalize ((w7.setCell ⟨w.heap.size, 0, none⟩ (.int .i64 a)).setCell ⟨w.heap.size, 1, none⟩ (.int .i64 d)).setCell ⟨w.heap.size, 2, none⟩ (.slice Ax l.length cx) = w8 at HX4 ⊢
  refine last_ (i := 7) (N := none) #[true, true, true, true, true, true, true, true] rfl rfl (by kernel_rfl) (by decide) (fun K hK => ?_)
  obtain ⟨⟨k0, k1, k2⟩, ⟨j0, j1, j2⟩, fg, fh, _⟩ := HX4.out
  refine skip_ (w1 := ?_) (by rfl) rfl ?_ ?_
  rotate_left
  · go_simp
    try rfl
  refine hK.out _ _ ?_
  clear hK K k0 k1 k2 j0 j1 j2 fg fh
  have HX5 := Aside0.mk (HX4.out.swap.fst (by omega) (by omega) (.int .i64 e) (.int .i64 f) (.slice Ay m.length cy)).swap
  clear HX4
  have HX4 := HX5
  clear HX5
  generalize ((w8.setCell ⟨w.heap.size + 1, 0, none⟩ (.int .i64 e)).setCell ⟨w.heap.size + 1, 1, none⟩ (.int .i64 f)).setCell ⟨w.heap.size + 1, 2, none⟩ (.slice Ay m.length cy) = w9 at HX4 ⊢
  refine done_ (by kernel_rfl) ?_
  obtain ⟨⟨k0, k1, k2⟩, ⟨j0, j1, j2⟩, fg, fh, hB9, _, _⟩ := HX4.out
  by_cases hs : e < a
  · by_cases ht : a < e + f
    · have hsum : wrap64 (e + f) = e + f := by unfold wrap64; omega
      go_wp2
      go_ret
      exact ⟨rfl, (((((hB9.setCell (by simp) _).setCell (by simp) _).setCell (by simp) _).setCell (by simp) _).setCell (by simp) _).setCell (by simp) _⟩
    · have hsum : wrap64 (e + f) = e + f := by unfold wrap64; omega
      have hne : (e == a) = false := by simp; omega
      go_wp2_with fail
      have HX5 := Aside0.mk ((HX4.out.fst (by omega) (Nat.le_refl _) (.int .i64 e) (.int .i64 f) (.slice Ay m.length cy)).swap.fst (by omega) (by omega) (.int .i64 a) (.int .i64 d) (.slice Ax l.length cx)).swap
      generalize (((((w9.setCell ⟨w.heap.size, 0, none⟩ (.int .i64 e)).setCell ⟨w.heap.size, 1, none⟩ (.int .i64 f)).setCell ⟨w.heap.size, 2, none⟩ (.slice Ay m.length cy)).setCell ⟨w.heap.size + 1, 0, none⟩ (.int .i64 a)).setCell ⟨w.heap.size + 1, 1, none⟩ (.int .i64 d)).setCell ⟨w.heap.size + 1, 2, none⟩ (.slice Ax l.length cx) = w10 at HX5 ⊢
      clear HX4 k0 k1 k2 j0 j1 j2 fg fh hB9
      have HX4 := HX5
      clear HX5 hne hsum
      have e1 := spl_len b a d l (by omega) (by omega) (by omega)
      have e2 := spl_len b e f m (by omega) (by omega) (by omega)
      have e3 := spl_apart b e f a d m l (by omega) (by omega) (by omega) (by omega) (by omega)
      have hx1 : chk b.length a d l.length = 0 := chk_of (by omega) (by omega) (by omega) (by omega) (by omega)
      have hx3 : chk b.length e f m.length = 0 := chk_of (by omega) (by omega) (by omega) (by omega) (by omega)
      have hw1 : wrap64 ((m.length : Int) - f) = (m.length : Int) - f := by unfold wrap64; omega
      have hw2 : wrap64 (a + ((m.length : Int) - f)) = a + ((m.length : Int) - f) := by unfold wrap64; omega
      have hz0 : 0 ≤ a + ((m.length : Int) - f) := by omega
      have hz1 : a + ((m.length : Int) - f) + d ≤ (b.length : Int) - f + m.length := by omega
      generalize hz : a + ((m.length : Int) - f) = z at e3 hw2 hz0 hz1
      have s1 := fun (V : World) (h : Below w.heap.size w V) => splice_ok A c b a d Ax cx l V (Kd.C_below HBb.out h) hcb (Kd.C_below HL.out h) (by assumption) (by omega) (by omega) hx1
      have s3 := fun (V : World) (h : Below w.heap.size w V) => splice_ok A c b e f Ay cy m V (Kd.C_below HBb.out h) hcb (Kd.C_below HM.out h) (by assumption) (by omega) (by omega) hx3
      generalize spl b a d l = q1 at s1 e1 e3
      generalize spl b e f m = p1 at s3 e2 e3
      have hx2 : chk q1.length e f m.length = 0 := chk_of (by omega) (by omega) (by omega) (by omega) (by omega)
      have hx4 : chk p1.length z d l.length = 0 := chk_of (by omega) (by omega) (by omega) (by omega) (by omega)
      have s2 := fun (A : Option Addr) (c : Nat) (V : World) (h1 : Kd.C (Kd.int .u8) V A q1.length q1) (h2 : q1.length ≤ c) (h : Below w.heap.size w V) => splice_ok A c q1 e f Ay cy m V h1 h2 (Kd.C_below HM.out h) (by assumption) (by omega) (by omega) hx2
      have s4 := fun (A : Option Addr) (c : Nat) (V : World) (h1 : Kd.C (Kd.int .u8) V A p1.length p1) (h2 : p1.length ≤ c) (h : Below w.heap.size w V) => splice_ok A c p1 z d Ax cx l V h1 h2 (Kd.C_below HL.out h) (by assumption) (by omega) (by omega) hx4
      simp only [← e3] at s4
      generalize spl q1 e f m = q2 at s2 s4
      have S1 := Aside0.mk s1
      have S2 := Aside0.mk s2
      have S3 := Aside0.mk s3
      have S4 := Aside0.mk s4
      clear s1 s2 s3 s4 e1 e2 e3 hx1 hx2 hx3 hx4 hz0 hz1
      refine (S1.out _ HX4.out.2.2.2.2.1).mono ?_
      rintro e_ w11 ⟨v1, rfl, hR1, hb11⟩
      obtain ⟨B1, c1, rfl⟩ := Kd.R_slice hR1
      have HX5 := Aside0.mk (HX4.out.on hb11)
      clear HX4 hb11
      obtain ⟨⟨k0, k1, k2⟩, ⟨j0, j1, j2⟩, _⟩ := HX5.out
      go_wp2_with fail
      refine (S2.out B1 c1 _ (Kd.R_reads' hR1).2.2 (Kd.R_reads' hR1).2.1 HX5.out.2.2.2.2.1).mono ?_
      rintro e_ w12 ⟨v2, rfl, hR2, hb12⟩
      obtain ⟨B2, c2, rfl⟩ := Kd.R_slice hR2
      have HX6 := Aside0.mk (HX5.out.on hb12)
      clear HX5 hb12 hR1 k0 k1 k2 j0 j1 j2
      obtain ⟨⟨k0, k1, k2⟩, ⟨j0, j1, j2⟩, _⟩ := HX6.out
      have K0 := fun O : Obj => pw_cell_below (below_alloc (Below.refl w12.heap.size w12) O) k0
      have K1 := fun O : Obj => pw_cell_below (below_alloc (Below.refl w12.heap.size w12) O) k1
      have K2 := fun O : Obj => pw_cell_below (below_alloc (Below.refl w12.heap.size w12) O) k2
      go_wp2_with fail
      refine (S3.out _ (below_alloc HX6.out.2.2.2.2.1 _)).mono ?_
      rintro e_ w13 ⟨v3, rfl, hR3, hb13⟩
      obtain ⟨B3, c3, rfl⟩ := Kd.R_slice hR3
      obtain ⟨y0, y1, y2⟩ := box_cells _ _ _ hb13
      have hB13 := below_step (below_alloc HX6.out.2.2.2.2.1 _) hb13
      have R2 := Kd.R_below (Kd.R_alloc hR2 _) hb13
      clear K0 K1 K2 k0 k1 k2 j0 j1 j2 hb13 HX6 hR2
      go_wp2_with fail
      subst hz
      refine (S4.out B3 c3 _ (Kd.R_reads' hR3).2.2 (Kd.R_reads' hR3).2.1 hB13).mono ?_
      rintro e_ w14 ⟨v4, rfl, hR4, hb14⟩
      obtain ⟨B4, c4, rfl⟩ := Kd.R_slice hR4
      have hB14 := below_step hB13 hb14
      have q1 := own_string (P := Try.prog) Try.underlying22 Try.underlying5 Try.underlying9 (Kd.own_of_R (Kd.R_below R2 hb14))
      have q2 := own_string (P := Try.prog) Try.underlying22 Try.underlying5 Try.underlying9 (Kd.own_of_R hR4)
      clear y0 y1 y2 R2 hR3 hR4 hb14
      go_wp2
      go_ret
      exact ⟨rfl, hB14⟩
  · by_cases ht : e < a + d ∨ a = e
    · have hsum : wrap64 (a + d) = a + d := by unfold wrap64; omega
      by_cases hu : e < a + d
      · go_wp2
        go_ret
        exact ⟨rfl, hB9⟩
      · have hae : (a == e) = true := by simp; omega
        go_wp2
        go_ret
        exact ⟨rfl, hB9⟩
    · have hsum : wrap64 (a + d) = a + d := by unfold wrap64; omega
      have hu : ¬ e < a + d := by omega
      have hne : (a == e) = false := by simp; omega
      go_wp2_with fail
      clear k0 k1 k2 j0 j1 j2 fg fh hB9 hne hsum
      have e1 := spl_len b e f m (by omega) (by omega) (by omega)
      have e2 := spl_len b a d l (by omega) (by omega) (by omega)
      have e3 := spl_apart b a d e f l m (by omega) (by omega) (by omega) (by omega) (by omega)
      have hx1 : chk b.length e f m.length = 0 := chk_of (by omega) (by omega) (by omega) (by omega) (by omega)
      have hx3 : chk b.length a d l.length = 0 := chk_of (by omega) (by omega) (by omega) (by omega) (by omega)
      have hw1 : wrap64 ((l.length : Int) - d) = (l.length : Int) - d := by unfold wrap64; omega
      have hw2 : wrap64 (e + ((l.length : Int) - d)) = e + ((l.length : Int) - d) := by unfold wrap64; omega
      have hz0 : 0 ≤ e + ((l.length : Int) - d) := by omega
      have hz1 : e + ((l.length : Int) - d) + f ≤ (b.length : Int) - d + l.length := by omega
      generalize hz : e + ((l.length : Int) - d) = z at e3 hw2 hz0 hz1
      have s1 := fun (V : World) (h : Below w.heap.size w V) => splice_ok A c b e f Ay cy m V (Kd.C_below HBb.out h) hcb (Kd.C_below HM.out h) (by assumption) (by omega) (by omega) hx1
      have s3 := fun (V : World) (h : Below w.heap.size w V) => splice_ok A c b a d Ax cx l V (Kd.C_below HBb.out h) hcb (Kd.C_below HL.out h) (by assumption) (by omega) (by omega) hx3
      generalize spl b e f m = q1 at s1 e1 e3
      generalize spl b a d l = p1 at s3 e2 e3
      have hx2 : chk q1.length a d l.length = 0 := chk_of (by omega) (by omega) (by omega) (by omega) (by omega)
      have hx4 : chk p1.length z f m.length = 0 := chk_of (by omega) (by omega) (by omega) (by omega) (by omega)
      have s2 := fun (A : Option Addr) (c : Nat) (V : World) (h1 : Kd.C (Kd.int .u8) V A q1.length q1) (h2 : q1.length ≤ c) (h : Below w.heap.size w V) => splice_ok A c q1 a d Ax cx l V h1 h2 (Kd.C_below HL.out h) (by assumption) (by omega) (by omega) hx2
      have s4 := fun (A : Option Addr) (c : Nat) (V : World) (h1 : Kd.C (Kd.int .u8) V A p1.length p1) (h2 : p1.length ≤ c) (h : Below w.heap.size w V) => splice_ok A c p1 z f Ay cy m V h1 h2 (Kd.C_below HM.out h) (by assumption) (by omega) (by omega) hx4
      simp only [← e3] at s4
      generalize spl q1 a d l = q2 at s2 s4
      have S1 := Aside0.mk s1
      have S2 := Aside0.mk s2
      have S3 := Aside0.mk s3
      have S4 := Aside0.mk s4
      clear s1 s2 s3 s4 e1 e2 e3 hx1 hx2 hx3 hx4 hz0 hz1
      refine (S1.out _ HX4.out.2.2.2.2.1).mono ?_
      rintro e_ w11 ⟨v1, rfl, hR1, hb11⟩
      obtain ⟨B1, c1, rfl⟩ := Kd.R_slice hR1
      have HX5 := Aside0.mk (HX4.out.on hb11)
      clear HX4 hb11
      obtain ⟨⟨k0, k1, k2⟩, ⟨j0, j1, j2⟩, _⟩ := HX5.out
      go_wp2_with fail
      refine (S2.out B1 c1 _ (Kd.R_reads' hR1).2.2 (Kd.R_reads' hR1).2.1 HX5.out.2.2.2.2.1).mono ?_
      rintro e_ w12 ⟨v2, rfl, hR2, hb12⟩
      obtain ⟨B2, c2, rfl⟩ := Kd.R_slice hR2
      have HX6 := Aside0.mk (HX5.out.on hb12)
      clear HX5 hb12 hR1 k0 k1 k2 j0 j1 j2
      obtain ⟨⟨k0, k1, k2⟩, ⟨j0, j1, j2⟩, _⟩ := HX6.out
      have K0 := fun O : Obj => pw_cell_below (below_alloc (Below.refl w12.heap.size w12) O) k0
      have K1 := fun O : Obj => pw_cell_below (below_alloc (Below.refl w12.heap.size w12) O) k1
      have K2 := fun O : Obj => pw_cell_below (below_alloc (Below.refl w12.heap.size w12) O) k2
      go_wp2_with fail
      refine (S3.out _ (below_alloc HX6.out.2.2.2.2.1 _)).mono ?_
      rintro e_ w13 ⟨v3, rfl, hR3, hb13⟩
      obtain ⟨B3, c3, rfl⟩ := Kd.R_slice hR3
      obtain ⟨y0, y1, y2⟩ := box_cells _ _ _ hb13
      have hB13 := below_step (below_alloc HX6.out.2.2.2.2.1 _) hb13
      have R2 := Kd.R_below (Kd.R_alloc hR2 _) hb13
      clear K0 K1 K2 k0 k1 k2 j0 j1 j2 hb13 HX6 hR2
      go_wp2_with fail
      subst hz
      refine (S4.out B3 c3 _ (Kd.R_reads' hR3).2.2 (Kd.R_reads' hR3).2.1 hB13).mono ?_
      rintro e_ w14 ⟨v4, rfl, hR4, hb14⟩
      obtain ⟨B4, c4, rfl⟩ := Kd.R_slice hR4
      have hB14 := below_step hB13 hb14
      have q1 := own_string (P := Try.prog) Try.underlying22 Try.underlying5 Try.underlying9 (Kd.own_of_R (Kd.R_below R2 hb14))
      have q2 := own_string (P := Try.prog) Try.underlying22 Try.underlying5 Try.underlying9 (Kd.own_of_R hR4)
      clear y0 y1 y2 R2 hR3 hR4 hb14
      go_wp2
      go_ret
      exact ⟨rfl, hB14⟩
end Go.Proofs.Ytjgahpcmojnfcaa.PEditSplices
