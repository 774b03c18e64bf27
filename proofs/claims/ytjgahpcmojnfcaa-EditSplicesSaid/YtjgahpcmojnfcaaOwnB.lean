/- The walks of Splice and Undo: what they answer where the change may be, and where it may not. Conditions: rows of at most a million bytes. -/
import Derived.Test.YtjgahpcmojnfcaaOwnA
import Derived.Test.YtjgahpcmojnfcaaPlainEdit
import Derived.Laws.IdiomStrings
namespace Go.Proofs.Ytjgahpcmojnfcaa.PEditSplices
open Go.RowKit Go.Proofs.YtjgahpcmojnfcaaW.PrintWords Go.Proofs.YtjgahpcmojnfcaaW.PrintLast Go.Proofs.YtjgahpcmojnfcaaW.PrintMore
open Go.Proofs.Ytjgahpcmojnfcaa.Plain (chk spl check_f chk_ok chk_num)
set_option linter.unusedVariables false
set_option linter.unusedSimpArgs false

theorem check_calls (n a d : Int) (A : Option Addr) (c : Nat) (l : List Int) (w : World) (h : Kd.C (Kd.int .u8) w A l.length l) (hc : l.length ≤ c) (hl : l.length < 4611686018427387904) (h0 : 0 ≤ n) (h1 : n < 4611686018427387904) :
    Calls Try.prog 10 #[.int .i64 n, .agg #[.int .i64 a, .int .i64 d, .slice A l.length c]] w fun e w' => e = .returned (.int .i64 (chk n a d l.length)) ∧ Below w.heap.size w w' :=
  edit_Check.calls 1 n a d A c l _ w h hc (check_f 1 n a d l (Nat.le_refl _) h0 h1 hl)

/-- A box's cells, behind what leaves it alone. -/
theorem box_cells {w w1 : World} (x y z : Value) (h : Below (w.alloc (.cells #[x, y, z] 24)).heap.size (w.alloc (.cells #[x, y, z] 24)) w1) :
    w1.cell? ⟨w.heap.size, 0, none⟩ = some x ∧ w1.cell? ⟨w.heap.size, 1, none⟩ = some y ∧ w1.cell? ⟨w.heap.size, 2, none⟩ = some z :=
  ⟨pw_cell_below h (World.cell?_alloc_mark w #[x, y, z] 24 (0, 0) 0), pw_cell_below h (World.cell?_alloc_mark w #[x, y, z] 24 (0, 0) 1), pw_cell_below h (World.cell?_alloc_mark w #[x, y, z] 24 (0, 0) 2)⟩
theorem box_frozen {w w1 : World} (x y z : Value) (h : Below (w.alloc (.cells #[x, y, z] 24)).heap.size (w.alloc (.cells #[x, y, z] 24)) w1) (j : Nat) : w1.frozen? ⟨w.heap.size, j, none⟩ = false :=
  (h.frozen (p := ⟨w.heap.size, j, none⟩) (by simp)).trans (by rw [World.frozen?_alloc_mark]; simp)
theorem size_succ (w : World) (o : Obj) : (w.alloc o).heap.size = w.heap.size + 1 := by simp
/-- Two boxes, the elder one and the younger one, behind what leaves them alone. -/
theorem two_boxes {w w1 : World} (x y z x' y' z' : Value) (h : Below ((w.alloc (.cells #[x, y, z] 24)).alloc (.cells #[x', y', z'] 24)).heap.size ((w.alloc (.cells #[x, y, z] 24)).alloc (.cells #[x', y', z'] 24)) w1) :
    (w1.cell? ⟨w.heap.size, 0, none⟩ = some x ∧ w1.cell? ⟨w.heap.size, 1, none⟩ = some y ∧ w1.cell? ⟨w.heap.size, 2, none⟩ = some z) ∧
    (w1.cell? ⟨w.heap.size + 1, 0, none⟩ = some x' ∧ w1.cell? ⟨w.heap.size + 1, 1, none⟩ = some y' ∧ w1.cell? ⟨w.heap.size + 1, 2, none⟩ = some z') ∧ (∀ j, w1.frozen? ⟨w.heap.size + 1, j, none⟩ = false) ∧ w.heap.size + 1 < w1.heap.size := by
  have h1 := box_cells x' y' z' h
  have h2 := box_frozen x' y' z' h
  rw [size_succ] at h1 h2
  refine ⟨?_, h1, h2, ?_⟩
  · have h3 := World.cell?_alloc_mark w #[x, y, z] 24 (0, 0)
    exact ⟨pw_cell_below h (pw_cell_below (below_alloc (Below.refl _ _) _) (h3 0)), pw_cell_below h (pw_cell_below (below_alloc (Below.refl _ _) _) (h3 1)), pw_cell_below h (pw_cell_below (below_alloc (Below.refl _ _) _) (h3 2))⟩
  · have := h.size
    rw [size_succ, size_succ] at this
    omega
/-- A store ahead of a row's block leaves the row. -/
theorem R_set {w : World} {base : Nat} {ok : Nat → Prop} {v : Value} {xs : List Int} (h : Kd.R (Kd.int .u8) 5 w base ok v xs) (p : Addr) (hp : p.block < base) (u : Value) : Kd.R (Kd.int .u8) 5 (w.setCell p u) base ok v xs :=
  Kd.R_mono (Kd.R_move (Kd.R_bound h) (fun k hk => Below.heap_setCell _ _ _ _ (by have := hk.2.1; omega))) (fun k hk => hk.1)
theorem cells_on {w w1 : World} {g : Nat} {x y z : Value} (hb : Below w.heap.size w w1) (h : w.cell? ⟨g, 0, none⟩ = some x ∧ w.cell? ⟨g, 1, none⟩ = some y ∧ w.cell? ⟨g, 2, none⟩ = some z) :
    w1.cell? ⟨g, 0, none⟩ = some x ∧ w1.cell? ⟨g, 1, none⟩ = some y ∧ w1.cell? ⟨g, 2, none⟩ = some z := ⟨pw_cell_below hb h.1, pw_cell_below hb h.2.1, pw_cell_below hb h.2.2⟩

set_option maxHeartbeats 4000000 in
set_option maxRecDepth 100000 in
theorem splice_bad (A : Option Addr) (c : Nat) (b : List Int) (a d : Int) (Ai : Option Addr) (ci : Nat) (l : List Int) (w : World) (hi : Kd.C (Kd.int .u8) w Ai l.length l) (hci : l.length ≤ ci)
    (nb : b.length ≤ 1000000) (nl : l.length ≤ 1000000) (x : Int) (hx : chk b.length a d l.length = x) (hne : x ≠ 0) :
    Calls Try.prog 12 #[.slice A b.length c, .agg #[.int .i64 a, .int .i64 d, .slice Ai l.length ci]] w fun e w' => e = .returned (.tuple #[.slice none 0 0, .int .i64 x]) ∧ Below w.heap.size w w' := by
  have q1 : (x == 0) = false := by simpa using hne
  have q2 : (x != 0) = true := by simpa using hne
  clear hne
  go_enter Try.func12, Try.ntmps12
  go_wp2_with fail
  refine (check_calls b.length a d Ai ci l _ (Kd.C_alloc hi _) hci (by omega) (by omega) (by omega)).mono ?_
  rw [hx]
  clear hx
  rintro e w1 ⟨rfl, hb1⟩
  go_wp2
  go_ret2
  exact ⟨rfl, below_step (below_alloc (Below.refl _ _) _) hb1⟩

set_option maxHeartbeats 8000000 in
set_option maxRecDepth 100000 in
theorem splice_ok (A : Option Addr) (c : Nat) (b : List Int) (a d : Int) (Ai : Option Addr) (ci : Nat) (l : List Int) (w : World) (hb : Kd.C (Kd.int .u8) w A b.length b) (hcb : b.length ≤ c) (hi : Kd.C (Kd.int .u8) w Ai l.length l) (hci : l.length ≤ ci)
    (nb : b.length ≤ 1000000) (nl : l.length ≤ 1000000) (hx : chk b.length a d l.length = 0) :
    Calls Try.prog 12 #[.slice A b.length c, .agg #[.int .i64 a, .int .i64 d, .slice Ai l.length ci]] w fun e w' => ∃ v, e = .returned (.tuple #[v, .int .i64 0]) ∧ Kd.R (Kd.int .u8) 5 w' w.heap.size (fun _ => True) v (spl b a d l) ∧ Below w.heap.size w w' := by
  obtain ⟨ha0, hd0, hab, hadb, _, _⟩ := chk_ok hx
  obtain ⟨i1, hi1, _, hsz1, _⟩ := info_parts info5
  obtain ⟨hcut1, hA1, hC1⟩ := print_take_of (P := Try.prog) (Value.int .u8) 0 22 5 .i64 Try.underlying22 hi1 hsz1 A c b a ha0 hab hcb
  have HR1 : Kd.C (Kd.int .u8) w A (b.take a.toNat).length (b.take a.toNat) := Kd.C_of_reads (h1 := fun _ => rfl) (hA1 _ (Kd.reads_of_C hb))
  obtain ⟨A2, hcut2, hA2, hC2⟩ := print_drop_of (P := Try.prog) (Value.int .u8) 0 22 5 .i64 Try.underlying22 hi1 hsz1 A c b (a + d) (by omega) hadb hcb
  have HR2 : Kd.C (Kd.int .u8) w A2 (b.drop (a + d).toNat).length (b.drop (a + d).toNat) := Kd.C_of_reads (h1 := fun _ => rfl) (hA2 _ (Kd.reads_of_C hb))
  have hlt : (b.take a.toNat).length ≤ 1000000 := by simp; omega
  have hld : (b.drop (a + d).toNat).length ≤ 1000000 := by simp; omega
  clear hA1 hA2 hi1 hsz1 hC1 hC2
  have hsum : wrap64 (a + d) = a + d := by unfold wrap64; omega
  go_enter Try.func12, Try.ntmps12
  go_wp2_with fail
  refine (check_calls b.length a d Ai ci l _ (Kd.C_alloc hi _) hci (by omega) (by omega) (by omega)).mono ?_
  rw [hx]
  clear hx
  rintro e w1 ⟨rfl, hb1⟩
  have HX := Aside0.mk (box_cells _ _ _ hb1)
  have HB := Aside0.mk (below_step (below_alloc (Below.refl w.heap.size w) _) hb1)
  have HR1 := Aside0.mk HR1
  have HR2 := Aside0.mk HR2
  have HI := Aside0.mk hi
  clear hb1 hb hi
  try go_wp2
  have n0_ := Aside0.mk (below_drew1 HB.out)
  have n1_ := Aside0.mk (cells_on (below_drew1 (Below.refl w1.heap.size w1)) HX.out)
  clear HB HX
  have HB := n0_
  have HX := n1_
  clear n0_ n1_
  refine start_ (n := 17) (S := fun w' => w'.cell? ⟨w.heap.size, 0, none⟩ = some (.int .i64 a) ∧ w'.cell? ⟨w.heap.size, 1, none⟩ = some (.int .i64 d) ∧ w'.cell? ⟨w.heap.size, 2, none⟩ = some (.slice Ai l.length ci)) (ds := []) #[false, false, false, false, false, false, false, false, false, false, false, false, false, false, false, false, false] (by kernel_rfl) rfl rfl HX.out (fun hHeld => ?_)
  clear HX
  generalize w1.drew = w5 at HB hHeld ⊢
  refine pure_ (i := 0) (N := some 14) (v := ?_) (a' := ?_) #[true, false, false, false, false, false, false, false, false, false, false, false, false, false, false, false, false] rfl rfl (by kernel_rfl) (fun _ _ _ h => h) (Or.inl ⟨by rfl, ?_⟩) ?_ ?_
  rotate_left
  · intro w'
    go_simp
    try (with_reducible rfl)
  rotate_left
  · simp only [Act.put, List.setIfInBounds_toArray, List.set_cons_zero, List.set_cons_succ, i64_w, i32_w]
    rfl
  refine pure_ (i := 1) (N := some 15) (v := ?_) (a' := ?_) #[true, true, false, false, false, false, false, false, false, false, false, false, false, false, false, false, false] rfl rfl (by kernel_rfl) (fun _ _ _ h => h) (Or.inl ⟨by rfl, ?_⟩) ?_ ?_
  rotate_left
  · intro w'
    go_simp
    try (with_reducible rfl)
  rotate_left
  · simp only [Act.put, List.setIfInBounds_toArray, List.set_cons_zero, List.set_cons_succ, i64_w, i32_w]
    rfl
  refine pure_ (i := 4) (N := some 18) (v := ?_) (a' := ?_) #[true, true, false, false, true, false, false, false, false, false, false, false, false, false, false, false, false] rfl rfl (by kernel_rfl) (fun _ _ _ h => h) (Or.inl ⟨by rfl, ?_⟩) ?_ ?_
  rotate_left
  · intro w'
    go_simp
    try (with_reducible rfl)
  rotate_left
  · simp only [Act.put, List.setIfInBounds_toArray, List.set_cons_zero, List.set_cons_succ, i64_w, i32_w]
    rfl
  refine pure_ (i := 6) (N := some 20) (v := ?_) (a' := ?_) #[true, true, false, false, true, false, true, false, false, false, false, false, false, false, false, false, false] rfl rfl (by kernel_rfl) (fun _ _ _ h => h) (Or.inl ⟨by rfl, ?_⟩) ?_ ?_
  rotate_left
  · intro w'
    go_simp
    try (with_reducible rfl)
  rotate_left
  · simp only [Act.put, List.setIfInBounds_toArray, List.set_cons_zero, List.set_cons_succ, i64_w, i32_w]
    rfl
  refine pure_ (i := 7) (N := some 21) (v := ?_) (a' := ?_) #[true, true, false, false, true, false, true, true, false, false, false, false, false, false, false, false, false] rfl rfl (by kernel_rfl) (fun _ _ _ h => h) (Or.inl ⟨by rfl, ?_⟩) ?_ ?_
  rotate_left
  · intro w'
    go_simp
    try (with_reducible rfl)
  rotate_left
  · simp only [Act.put, List.setIfInBounds_toArray, List.set_cons_zero, List.set_cons_succ, i64_w, i32_w]
    rfl
  refine pure_ (i := 9) (N := some 23) (v := ?_) (a' := ?_) #[true, true, false, false, true, false, true, true, false, true, false, false, false, false, false, false, false] rfl rfl (by kernel_rfl) (fun _ _ _ h => h) (Or.inl ⟨by rfl, ?_⟩) ?_ ?_
  rotate_left
  · intro w'
    go_simp
    try (with_reducible rfl)
  rotate_left
  · simp only [Act.put, List.setIfInBounds_toArray, List.set_cons_zero, List.set_cons_succ, i64_w, i32_w]
    rfl
  refine take_ (i := 2) (N := some 16) (v := ?_) (a' := ?_) #[true, true, true, false, true, false, true, true, false, true, false, false, false, false, false, false, false] rfl rfl (by kernel_rfl) (fun _ _ _ h => h) (Or.inl ⟨by rfl, ?_⟩) hHeld ?_ ?_
  rotate_left
  · rintro w' ⟨s0, s1, s2⟩
    go_simp
    try (with_reducible rfl)
  rotate_left
  · simp only [Act.put, List.setIfInBounds_toArray, List.set_cons_zero, List.set_cons_succ, i64_w, i32_w]
    rfl
  refine pure_ (i := 3) (N := some 17) (v := ?_) (a' := ?_) #[true, true, true, true, true, false, true, true, false, true, false, false, false, false, false, false, false] rfl rfl (by kernel_rfl) (fun _ _ _ h => h) (Or.inl ⟨by rfl, ?_⟩) ?_ ?_
  rotate_left
  · intro w'
    go_simp
    try (with_reducible rfl)
  rotate_left
  · simp only [Act.put, List.setIfInBounds_toArray, List.set_cons_zero, List.set_cons_succ, i64_w, i32_w]
    rfl
  refine take_ (i := 5) (N := some 19) (v := ?_) (a' := ?_) #[true, true, true, true, true, true, true, true, false, true, false, false, false, false, false, false, false] rfl rfl (by kernel_rfl) (fun _ _ _ h => h) (Or.inl ⟨by rfl, ?_⟩) hHeld ?_ ?_
  rotate_left
  · rintro w' ⟨s0, s1, s2⟩
    go_simp
    try (with_reducible rfl)
  rotate_left
  · simp only [Act.put, List.setIfInBounds_toArray, List.set_cons_zero, List.set_cons_succ, i64_w, i32_w]
    rfl
  refine take_ (i := 8) (N := some 22) (v := ?_) (a' := ?_) #[true, true, true, true, true, true, true, true, true, true, false, false, false, false, false, false, false] rfl rfl (by kernel_rfl) (fun _ _ _ h => h) (Or.inl ⟨by rfl, ?_⟩) hHeld ?_ ?_
  rotate_left
  · rintro w' ⟨s0, s1, s2⟩
    go_simp
    try (with_reducible rfl)
  rotate_left
  · simp only [Act.put, List.setIfInBounds_toArray, List.set_cons_zero, List.set_cons_succ, i64_w, i32_w]
    rfl
  refine take_ (i := 10) (N := some 24) (v := ?_) (a' := ?_) #[true, true, true, true, true, true, true, true, true, true, true, false, false, false, false, false, false] rfl rfl (by kernel_rfl) (fun _ _ _ h => h) (Or.inl ⟨by rfl, ?_⟩) hHeld ?_ ?_
  rotate_left
  · rintro w' ⟨s0, s1, s2⟩
    go_simp
    try (with_reducible rfl)
  rotate_left
  · simp only [Act.put, List.setIfInBounds_toArray, List.set_cons_zero, List.set_cons_succ, i64_w, i32_w]
    rfl
  refine pure_ (i := 11) (N := some 25) (v := ?_) (a' := ?_) #[true, true, true, true, true, true, true, true, true, true, true, true, false, false, false, false, false] rfl rfl (by kernel_rfl) (fun _ _ _ h => h) (Or.inl ⟨by rfl, ?_⟩) ?_ ?_
  rotate_left
  · intro w'
    go_simp
    try (with_reducible rfl)
  rotate_left
  · simp only [Act.put, List.setIfInBounds_toArray, List.set_cons_zero, List.set_cons_succ, i64_w, i32_w]
    rfl
  refine pure_ (i := 12) (N := some 26) (v := ?_) (a' := ?_) #[true, true, true, true, true, true, true, true, true, true, true, true, true, false, false, false, false] rfl rfl (by kernel_rfl) (fun _ _ _ h => h) (Or.inl ⟨by rfl, ?_⟩) ?_ ?_
  rotate_left
  · intro w'
    go_simp
    try (with_reducible rfl)
  rotate_left
  · simp only [Act.put, List.setIfInBounds_toArray, List.set_cons_zero, List.set_cons_succ, i64_w, i32_w]
    rfl
  refine one_ (i := 13) (N := some 27) #[true, true, true, true, true, true, true, true, true, true, true, true, true, true, false, false, false] rfl rfl (by kernel_rfl) (by decide) (fun K hK => ?_)
  refine value_ (w1 := w5.alloc (.cells #[.slice A (b.take a.toNat).length c, .slice Ai l.length ci, .slice A2 (b.drop (a + d).toNat).length (c - (a + d).toNat)] 22)) (v := .slice (some ⟨w5.heap.size, 0, none⟩) 3 3) (by rfl) rfl ?_ ?_
  · go_simp
    try rfl
  refine hK.out _ _ (cells_on (below_alloc (Below.refl w5.heap.size w5) _) hHeld) (fun hHeld => ?_)
  clear hK K
  refine norm_ (a' := ?_) ?_ ?_
  rotate_left
  · show Act.put _ (some 27) _ = _
    simp only [Act.put, List.setIfInBounds_toArray, List.set_cons_zero, List.set_cons_succ, i64_w, i32_w]
    rfl
  refine one_ (i := 14) (N := some 28) #[true, true, true, true, true, true, true, true, true, true, true, true, true, true, true, false, false] rfl rfl (by kernel_rfl) (by decide) (fun K hK => ?_)
  refine goes_ Try.func16 (by kernel_rfl) rfl #[.slice (some ⟨w5.heap.size, 0, none⟩) 3 3] (by rfl) rfl rfl (by (try simp only [List.map_toArray, List.map_cons, List.map_nil]); first | done | rfl) ?_
  with_reducible refine (concat_calls w5.heap.size 3 A Ai A2 c ci (c - (a + d).toNat) (b.take a.toNat) l (b.drop (a + d).toNat) _ (Kd.C_alloc (Kd.C_below HR1.out HB.out) _) (Kd.C_alloc (Kd.C_below HI.out HB.out) _) (Kd.C_alloc (Kd.C_below HR2.out HB.out) _) hlt nl hld (World.cell?_alloc_mark w5 _ 22 (0, 0) 0) (World.cell?_alloc_mark w5 _ 22 (0, 0) 1) (World.cell?_alloc_mark w5 _ 22 (0, 0) 2)).mono ?_
  rintro e w_ ⟨v, rfl, hR, hb⟩
  refine ⟨_, rfl, ?_⟩
  have HB2 := Aside0.mk (below_step (below_alloc HB.out _) hb)
  have HR := Aside0.mk (Kd.R_lower hR (below_size (below_alloc HB.out _)))
  have hS := cells_on hb hHeld
  clear HB hR hb hHeld
  refine hK.out _ _ hS (fun hHeld => ?_)
  clear hK K
  refine norm_ (a' := ?_) ?_ ?_
  rotate_left
  · show Act.put _ (some 28) _ = _
    simp only [Act.put, List.setIfInBounds_toArray, List.set_cons_zero, List.set_cons_succ, i64_w, i32_w]
    rfl
  clear hS
  refine pure_ (i := 15) (N := some 4) (v := ?_) (a' := ?_) #[true, true, true, true, true, true, true, true, true, true, true, true, true, true, true, true, false] rfl rfl (by kernel_rfl) (fun _ _ _ h => h) (Or.inl ⟨by rfl, ?_⟩) ?_ ?_
  rotate_left
  · intro w'
    go_simp
    try (with_reducible rfl)
  rotate_left
  · simp only [Act.put, List.setIfInBounds_toArray, List.set_cons_zero, List.set_cons_succ, i64_w, i32_w]
    rfl
  refine pure_ (i := 16) (N := some 5) (v := ?_) (a' := ?_) #[true, true, true, true, true, true, true, true, true, true, true, true, true, true, true, true, true] rfl rfl (by kernel_rfl) (fun _ _ _ h => h) (Or.inl ⟨by rfl, ?_⟩) ?_ ?_
  rotate_left
  · intro w'
    go_simp
    try (with_reducible rfl)
  rotate_left
  · simp only [Act.put, List.setIfInBounds_toArray, List.set_cons_zero, List.set_cons_succ, i64_w, i32_w]
    rfl
  refine done_ (by kernel_rfl) ?_
  try go_wp2
  go_ret2
  exact ⟨_, rfl, HR.out, HB2.out⟩
  
set_option maxHeartbeats 4000000 in
set_option maxRecDepth 100000 in
theorem undo_bad (A : Option Addr) (c : Nat) (b : List Int) (a d : Int) (Ai : Option Addr) (ci : Nat) (l : List Int) (w : World) (hi : Kd.C (Kd.int .u8) w Ai l.length l) (hci : l.length ≤ ci)
    (nb : b.length ≤ 1000000) (nl : l.length ≤ 1000000) (x : Int) (hx : chk b.length a d l.length = x) (hne : x ≠ 0) :
    Calls Try.prog 15 #[.slice A b.length c, .agg #[.int .i64 a, .int .i64 d, .slice Ai l.length ci]] w fun e w' => e = .returned (.tuple #[.agg #[.int .i64 0, .int .i64 0, .slice none 0 0], .int .i64 x]) ∧ Below w.heap.size w w' := by
  have q1 : (x == 0) = false := by simpa using hne
  have q2 : (x != 0) = true := by simpa using hne
  clear hne
  go_enter Try.func15, Try.ntmps15
  go_wp2_with fail
  refine (check_calls b.length a d Ai ci l _ (Kd.C_alloc (Kd.C_alloc hi _) _) hci (by omega) (by omega) (by omega)).mono ?_
  rw [hx]
  clear hx
  rintro e w1 ⟨rfl, hb1⟩
  obtain ⟨_, ⟨k0, k1, k2⟩, hf, hz⟩ := two_boxes _ _ _ _ _ _ hb1
  go_wp2
  exact bodyPost_ret (v := .tuple #[.agg #[.int .i64 0, .int .i64 0, .slice none 0 0], .int .i64 x]) (by simp [results, Try.results15, go_sem, k0, k1, k2]) rfl
    ⟨rfl, (((below_step (below_alloc (below_alloc (Below.refl w.heap.size w) _) _) hb1).setCell (by simp) _).setCell (by simp) _).setCell (by simp) _⟩

set_option maxHeartbeats 8000000 in
set_option maxRecDepth 100000 in
theorem undo_ok (A : Option Addr) (c : Nat) (b : List Int) (a d : Int) (Ai : Option Addr) (ci : Nat) (l : List Int) (w : World) (hb : Kd.C (Kd.int .u8) w A b.length b) (hcb : b.length ≤ c) (hi : Kd.C (Kd.int .u8) w Ai l.length l) (hci : l.length ≤ ci)
    (nb : b.length ≤ 1000000) (nl : l.length ≤ 1000000) (hx : chk b.length a d l.length = 0) :
    Calls Try.prog 15 #[.slice A b.length c, .agg #[.int .i64 a, .int .i64 d, .slice Ai l.length ci]] w fun e w' => ∃ v, e = .returned (.tuple #[.agg #[.int .i64 a, .int .i64 l.length, v], .int .i64 0]) ∧ Kd.R (Kd.int .u8) 5 w' w.heap.size (fun _ => True) v ((b.take (a + d).toNat).drop a.toNat) ∧ Below w.heap.size w w' := by
  obtain ⟨ha0, hd0, hab, hadb, _, _⟩ := chk_ok hx
  obtain ⟨i1, hi1, _, hsz1, _⟩ := info_parts info5
  obtain ⟨A2, hcut2, hA2, hC2⟩ := print_mid_of (P := Try.prog) (Value.int .u8) 0 22 5 .i64 .i64 Try.underlying22 hi1 hsz1 A c b a (a + d) ha0 (by omega) hadb hcb
  have HR2 : Kd.C (Kd.int .u8) w A2 ((b.take (a + d).toNat).drop a.toNat).length ((b.take (a + d).toNat).drop a.toNat) := Kd.C_of_reads (h1 := fun _ => rfl) (hA2 _ (Kd.reads_of_C hb))
  have hld : ((b.take (a + d).toNat).drop a.toNat).length ≤ 1000000 := by simp; omega
  clear hA2 hi1 hsz1 hC2
  generalize (b.take (a + d).toNat).drop a.toNat = m at hcut2 HR2 hld ⊢
  have hsum : wrap64 (a + d) = a + d := by unfold wrap64; omega
  go_enter Try.func15, Try.ntmps15
  go_wp2_with fail
  refine (check_calls b.length a d Ai ci l _ (Kd.C_alloc (Kd.C_alloc hi _) _) hci (by omega) (by omega) (by omega)).mono ?_
  rw [hx]
  clear hx
  rintro e w1 ⟨rfl, hb1⟩
  obtain ⟨hX, hY, hf, hz⟩ := two_boxes _ _ _ _ _ _ hb1
  have HX := Aside0.mk hX
  have HY := Aside0.mk hY
  have HF := Aside0.mk hf
  have HB := Aside0.mk (below_step (below_alloc (below_alloc (Below.refl w.heap.size w) _) _) hb1)
  have HR2 := Aside0.mk HR2
  clear hb1 hb hi hX hY hf
  try go_wp2
  have n0_ := Aside0.mk (below_drew1 HB.out)
  have n1_ := Aside0.mk (cells_on (below_drew1 (Below.refl w1.heap.size w1)) HX.out)
  have n2_ := Aside0.mk (cells_on (below_drew1 (Below.refl w1.heap.size w1)) HY.out)
  have n3_ : Aside0 (∀ j, w1.drew.frozen? ⟨w.heap.size + 1, j, none⟩ = false) := ⟨HF.out⟩
  have n4_ : w.heap.size + 1 < w1.drew.heap.size := hz
  clear HB HX HY HF hz
  have HB := n0_
  have HX := n1_
  have HY := n2_
  have HF := n3_
  have hz := n4_
  clear n0_ n1_ n2_ n3_ n4_
  refine start_ (n := 18) (S := fun w' => w'.cell? ⟨w.heap.size, 0, none⟩ = some (.int .i64 a) ∧ w'.cell? ⟨w.heap.size, 1, none⟩ = some (.int .i64 d) ∧ w'.cell? ⟨w.heap.size, 2, none⟩ = some (.slice Ai l.length ci)) (ds := []) #[false, false, false, false, false, false, false, false, false, false, false, false, false, false, false, false, false, false] (by kernel_rfl) rfl rfl HX.out (fun hHeld => ?_)
  clear HX
  generalize w1.drew = w5 at HB HY HF hz hHeld ⊢
  refine pure_ (i := 0) (N := some 15) (v := ?_) (a' := ?_) #[true, false, false, false, false, false, false, false, false, false, false, false, false, false, false, false, false, false] rfl rfl (by kernel_rfl) (fun _ _ _ h => h) (Or.inl ⟨by rfl, ?_⟩) ?_ ?_
  rotate_left
  · intro w'
    go_simp
    try (with_reducible rfl)
  rotate_left
  · simp only [Act.put, List.setIfInBounds_toArray, List.set_cons_zero, List.set_cons_succ, i64_w, i32_w]
    rfl
  refine pure_ (i := 2) (N := some 17) (v := ?_) (a' := ?_) #[true, false, true, false, false, false, false, false, false, false, false, false, false, false, false, false, false, false] rfl rfl (by kernel_rfl) (fun _ _ _ h => h) (Or.inl ⟨by rfl, ?_⟩) ?_ ?_
  rotate_left
  · intro w'
    go_simp
    try (with_reducible rfl)
  rotate_left
  · simp only [Act.put, List.setIfInBounds_toArray, List.set_cons_zero, List.set_cons_succ, i64_w, i32_w]
    rfl
  refine pure_ (i := 5) (N := some 20) (v := ?_) (a' := ?_) #[true, false, true, false, false, true, false, false, false, false, false, false, false, false, false, false, false, false] rfl rfl (by kernel_rfl) (fun _ _ _ h => h) (Or.inl ⟨by rfl, ?_⟩) ?_ ?_
  rotate_left
  · intro w'
    go_simp
    try (with_reducible rfl)
  rotate_left
  · simp only [Act.put, List.setIfInBounds_toArray, List.set_cons_zero, List.set_cons_succ, i64_w, i32_w]
    rfl
  refine pure_ (i := 6) (N := some 21) (v := ?_) (a' := ?_) #[true, false, true, false, false, true, true, false, false, false, false, false, false, false, false, false, false, false] rfl rfl (by kernel_rfl) (fun _ _ _ h => h) (Or.inl ⟨by rfl, ?_⟩) ?_ ?_
  rotate_left
  · intro w'
    go_simp
    try (with_reducible rfl)
  rotate_left
  · simp only [Act.put, List.setIfInBounds_toArray, List.set_cons_zero, List.set_cons_succ, i64_w, i32_w]
    rfl
  refine pure_ (i := 8) (N := some 23) (v := ?_) (a' := ?_) #[true, false, true, false, false, true, true, false, true, false, false, false, false, false, false, false, false, false] rfl rfl (by kernel_rfl) (fun _ _ _ h => h) (Or.inl ⟨by rfl, ?_⟩) ?_ ?_
  rotate_left
  · intro w'
    go_simp
    try (with_reducible rfl)
  rotate_left
  · simp only [Act.put, List.setIfInBounds_toArray, List.set_cons_zero, List.set_cons_succ, i64_w, i32_w]
    rfl
  refine pure_ (i := 10) (N := some 25) (v := ?_) (a' := ?_) #[true, false, true, false, false, true, true, false, true, false, true, false, false, false, false, false, false, false] rfl rfl (by kernel_rfl) (fun _ _ _ h => h) (Or.inl ⟨by rfl, ?_⟩) ?_ ?_
  rotate_left
  · intro w'
    go_simp
    try (with_reducible rfl)
  rotate_left
  · simp only [Act.put, List.setIfInBounds_toArray, List.set_cons_zero, List.set_cons_succ, i64_w, i32_w]
    rfl
  refine take_ (i := 1) (N := some 16) (v := ?_) (a' := ?_) #[true, true, true, false, false, true, true, false, true, false, true, false, false, false, false, false, false, false] rfl rfl (by kernel_rfl) (fun _ _ _ h => h) (Or.inl ⟨by rfl, ?_⟩) hHeld ?_ ?_
  rotate_left
  · rintro w' ⟨s0, s1, s2⟩
    go_simp
    try (with_reducible rfl)
  rotate_left
  · simp only [Act.put, List.setIfInBounds_toArray, List.set_cons_zero, List.set_cons_succ, i64_w, i32_w]
    rfl
  refine take_ (i := 3) (N := some 18) (v := ?_) (a' := ?_) #[true, true, true, true, false, true, true, false, true, false, true, false, false, false, false, false, false, false] rfl rfl (by kernel_rfl) (fun _ _ _ h => h) (Or.inl ⟨by rfl, ?_⟩) hHeld ?_ ?_
  rotate_left
  · rintro w' ⟨s0, s1, s2⟩
    go_simp
    try (with_reducible rfl)
  rotate_left
  · simp only [Act.put, List.setIfInBounds_toArray, List.set_cons_zero, List.set_cons_succ, i64_w, i32_w]
    rfl
  refine pure_ (i := 4) (N := some 19) (v := ?_) (a' := ?_) #[true, true, true, true, true, true, true, false, true, false, true, false, false, false, false, false, false, false] rfl rfl (by kernel_rfl) (fun _ _ _ h => h) (Or.inl ⟨by rfl, ?_⟩) ?_ ?_
  rotate_left
  · intro w'
    go_simp
    try (with_reducible rfl)
  rotate_left
  · simp only [Act.put, List.setIfInBounds_toArray, List.set_cons_zero, List.set_cons_succ, i64_w, i32_w]
    rfl
  refine take_ (i := 7) (N := some 22) (v := ?_) (a' := ?_) #[true, true, true, true, true, true, true, true, true, false, true, false, false, false, false, false, false, false] rfl rfl (by kernel_rfl) (fun _ _ _ h => h) (Or.inl ⟨by rfl, ?_⟩) hHeld ?_ ?_
  rotate_left
  · rintro w' ⟨s0, s1, s2⟩
    go_simp
    try (with_reducible rfl)
  rotate_left
  · simp only [Act.put, List.setIfInBounds_toArray, List.set_cons_zero, List.set_cons_succ, i64_w, i32_w]
    rfl
  refine take_ (i := 9) (N := some 24) (v := ?_) (a' := ?_) #[true, true, true, true, true, true, true, true, true, true, true, false, false, false, false, false, false, false] rfl rfl (by kernel_rfl) (fun _ _ _ h => h) (Or.inl ⟨by rfl, ?_⟩) hHeld ?_ ?_
  rotate_left
  · rintro w' ⟨s0, s1, s2⟩
    go_simp
    try (with_reducible rfl)
  rotate_left
  · simp only [Act.put, List.setIfInBounds_toArray, List.set_cons_zero, List.set_cons_succ, i64_w, i32_w]
    rfl
  refine take_ (i := 11) (N := some 26) (v := ?_) (a' := ?_) #[true, true, true, true, true, true, true, true, true, true, true, true, false, false, false, false, false, false] rfl rfl (by kernel_rfl) (fun _ _ _ h => h) (Or.inl ⟨by rfl, ?_⟩) hHeld ?_ ?_
  rotate_left
  · rintro w' ⟨s0, s1, s2⟩
    go_simp
    try (with_reducible rfl)
  rotate_left
  · simp only [Act.put, List.setIfInBounds_toArray, List.set_cons_zero, List.set_cons_succ, i64_w, i32_w]
    rfl
  refine pure_ (i := 12) (N := some 27) (v := ?_) (a' := ?_) #[true, true, true, true, true, true, true, true, true, true, true, true, true, false, false, false, false, false] rfl rfl (by kernel_rfl) (fun _ _ _ h => h) (Or.inl ⟨by rfl, ?_⟩) ?_ ?_
  rotate_left
  · intro w'
    go_simp
    try (with_reducible rfl)
  rotate_left
  · simp only [Act.put, List.setIfInBounds_toArray, List.set_cons_zero, List.set_cons_succ, i64_w, i32_w]
    rfl
  refine pure_ (i := 13) (N := some 28) (v := ?_) (a' := ?_) #[true, true, true, true, true, true, true, true, true, true, true, true, true, true, false, false, false, false] rfl rfl (by kernel_rfl) (fun _ _ _ h => h) (Or.inl ⟨by rfl, ?_⟩) ?_ ?_
  rotate_left
  · intro w'
    go_simp
    try (with_reducible rfl)
  rotate_left
  · simp only [Act.put, List.setIfInBounds_toArray, List.set_cons_zero, List.set_cons_succ, i64_w, i32_w]
    rfl
  refine one_ (i := 14) (N := some 29) #[true, true, true, true, true, true, true, true, true, true, true, true, true, true, true, false, false, false] rfl rfl (by kernel_rfl) (by decide) (fun K hK => ?_)
  refine goes_ Try.func17 (by kernel_rfl) rfl #[.slice A2 m.length (c - a.toNat)] (by rfl) rfl rfl (by (try simp only [List.map_toArray, List.map_cons, List.map_nil]); first | done | rfl) ?_
  with_reducible refine (clone_calls A2 (c - a.toNat) _ _ (Kd.C_below HR2.out HB.out) hld).mono ?_
  rintro e w_ ⟨v, rfl, hR, hb⟩
  obtain ⟨Av, cv, rfl⟩ := Kd.R_slice hR
  refine ⟨_, rfl, ?_⟩
  have HB2 := Aside0.mk (below_step HB.out hb)
  have HR := Aside0.mk hR
  have hS := cells_on hb hHeld
  obtain ⟨y0, y1, y2⟩ := cells_on hb HY.out
  have yf : ∀ j, w_.frozen? ⟨w.heap.size + 1, j, none⟩ = false := fun j => (hb.frozen (p := ⟨w.heap.size + 1, j, none⟩) hz).trans (HF.out j)
  have HY := Aside0.mk (And.intro y0 (And.intro y1 y2))
  have HF := Aside0.mk yf
  clear HB hR hb hHeld y0 y1 y2 yf
  refine hK.out _ _ hS (fun hHeld => ?_)
  clear hK K
  refine norm_ (a' := ?_) ?_ ?_
  rotate_left
  · show Act.put _ (some 29) _ = _
    simp only [Act.put, List.setIfInBounds_toArray, List.set_cons_zero, List.set_cons_succ, i64_w, i32_w]
    rfl
  clear hS
  refine pure_ (i := 15) (N := some 30) (v := ?_) (a' := ?_) #[true, true, true, true, true, true, true, true, true, true, true, true, true, true, true, true, false, false] rfl rfl (by kernel_rfl) (fun _ _ _ h => h) (Or.inl ⟨by rfl, ?_⟩) ?_ ?_
  rotate_left
  · intro w'
    go_simp
    try (with_reducible rfl)
  rotate_left
  · simp only [Act.put, List.setIfInBounds_toArray, List.set_cons_zero, List.set_cons_succ, i64_w, i32_w]
    rfl
  refine one_ (i := 16) (N := none) #[true, true, true, true, true, true, true, true, true, true, true, true, true, true, true, true, true, false] rfl rfl (by kernel_rfl) (by decide) (fun K hK => ?_)
  obtain ⟨y0, y1, y2⟩ := HY.out
  have yf := HF.out
  refine skip_ (w1 := ?_) (by rfl) rfl ?_ ?_
  rotate_left
  · go_simp
    try rfl
  have far : ∀ (W : World) (j : Nat) (u : Value), (W.cell? ⟨w.heap.size, 0, none⟩ = some (.int .i64 a) ∧ W.cell? ⟨w.heap.size, 1, none⟩ = some (.int .i64 d) ∧ W.cell? ⟨w.heap.size, 2, none⟩ = some (.slice Ai l.length ci)) → ((W.setCell ⟨w.heap.size + 1, j, none⟩ u).cell? ⟨w.heap.size, 0, none⟩ = some (.int .i64 a) ∧ (W.setCell ⟨w.heap.size + 1, j, none⟩ u).cell? ⟨w.heap.size, 1, none⟩ = some (.int .i64 d) ∧ (W.setCell ⟨w.heap.size + 1, j, none⟩ u).cell? ⟨w.heap.size, 2, none⟩ = some (.slice Ai l.length ci)) := fun W j u h =>
    ⟨(cell_far (p := ⟨w.heap.size + 1, j, none⟩) (show w.heap.size ≠ w.heap.size + 1 by omega) u).trans h.1, (cell_far (p := ⟨w.heap.size + 1, j, none⟩) (show w.heap.size ≠ w.heap.size + 1 by omega) u).trans h.2.1, (cell_far (p := ⟨w.heap.size + 1, j, none⟩) (show w.heap.size ≠ w.heap.size + 1 by omega) u).trans h.2.2⟩
  refine hK.out _ _ (far _ _ _ (far _ _ _ (far _ _ _ hHeld))) (fun hHeld => ?_)
  clear hK K far
  refine pure_ (i := 17) (N := some 5) (v := ?_) (a' := ?_) #[true, true, true, true, true, true, true, true, true, true, true, true, true, true, true, true, true, true] rfl rfl (by kernel_rfl) (fun _ _ _ h => h) (Or.inl ⟨by rfl, ?_⟩) ?_ ?_
  rotate_left
  · intro w'
    go_simp
    try (with_reducible rfl)
  rotate_left
  · simp only [Act.put, List.setIfInBounds_toArray, List.set_cons_zero, List.set_cons_succ, i64_w, i32_w]
    rfl
  refine done_ (by kernel_rfl) ?_
  try go_wp2
  exact bodyPost_ret (v := .tuple #[.agg #[.int .i64 a, .int .i64 l.length, .slice Av m.length cv], .int .i64 0]) (by simp [results, Try.results15, go_sem, y0, y1, y2]) rfl
    ⟨_, rfl, Kd.R_lower (R_set (R_set (R_set HR.out _ hz _) _ hz _) _ hz _) (by omega), ((HB2.out.setCell (by simp) _).setCell (by simp) _).setCell (by simp) _⟩
  

end Go.Proofs.Ytjgahpcmojnfcaa.PEditSplices
