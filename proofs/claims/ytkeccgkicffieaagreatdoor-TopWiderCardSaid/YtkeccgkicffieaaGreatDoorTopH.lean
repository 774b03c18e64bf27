/- The walks of hyph's words without patterns: trie.Values, Word, Letter, Points. Conditions: the hyphens lie in memory as IsHyph tells: no pattern, no word, one range of letters at most. -/
import Derived.Test.YtkeccgkicffieaaGreatDoorTopT
import Derived.LoopN
import Derived.Outline
namespace Go.Proofs.YtkeccgkicffieaaGreatDoor.PTopWider
open Go.RowKit Go.Proofs.YtkeccgkicffieaaGreatDoorW.PrintWords Go.Proofs.YtkeccgkicffieaaGreatDoorW.PrintLast Go.Proofs.YtkeccgkicffieaaGreatDoorW.PrintMore
set_option linter.unusedVariables false
set_option linter.unusedSimpArgs false
theorem info21 : (Tryz.prog.info? 21).map (fun i => (i.zero, i.size, i.bytes)) = some (some (.int .i32 0), 1, 4) := by kernel_rfl
theorem info4 : (Tryz.prog.info? 4).map (fun i => (i.zero, i.size, i.bytes)) = some (some (.bool false), 1, 1) := by kernel_rfl
/-- A trie of no pattern: one node, without anything. -/
def IsTrie (w : World) (g : Nat) : Prop :=
 ∃ b n c, w.cell? ⟨g, 0, none⟩ = some (.slice (some ⟨b, 0, none⟩) n c) ∧ 0 < n ∧ w.cell? ⟨b, 0, none⟩ = some (.map none) ∧ w.cell? ⟨b, 1, none⟩ = some (.slice none 0 0)
theorem IsTrie.on {w w1 : World} {g : Nat} (h : IsTrie w g) (hb : Below w.heap.size w w1) : IsTrie w1 g := by
 obtain ⟨b, n, c, h1, h2, h3, h4⟩ := h
 exact ⟨b, n, c, pw_cell_below hb h1, h2, pw_cell_below hb h3, pw_cell_below hb h4⟩
theorem look_nil (y : Int) (W : World) : (Instr.lookup 162 (.map none) (.int .i32 y) true).run Tryz.prog W = .ok (.tuple #[.int .i64 0, .bool false]) W := by kernel_rfl
set_option maxHeartbeats 4000000 in
set_option maxRecDepth 100000 in
theorem values_calls (g : Nat) (A : Option Addr) (c : Nat) (l : List Int) (w : World) (hC : Kd.C (Kd.int .i32) w A l.length l) (hl : l.length ≤ 1000000) (hT : IsTrie w g) :
  Calls Tryz.prog 80 #[.pointer (some ⟨g, 0, none⟩), .slice A l.length c] w fun e w' => ∃ v, e = .returned v ∧ Kd.R (Kd.int .u8) 5 w' w.heap.size (fun _ => True) v (List.replicate (l.length + 1) 0) ∧ Below w.heap.size w w' := by
 have HC := Aside0.mk hC
 have HT := Aside0.mk hT
 clear hC hT
 have hn : wrap64 ((l.length : Int) + 1) = (l.length : Int) + 1 := by unfold wrap64; omega
 go_enter Tryz.func80, Tryz.ntmps80
 go_wp2_with (first | (at_make; refine Kd.R_make (Kd.int .u8) (w0 := w) w.heap.size 5 rfl (N := 18) rfl 22 (.tmp 17) (.tmp 17) rfl ((l.length : Int) + 1) rfl rfl Tryz.underlying22 (.int .u8 0) 1 info5 rfl (by decide) (by decide) 0 (ok := fun _ => True) (okp := fun _ => True) ?hz (fun _ _ => trivial) trivial (by omega) (by omega) (Below.refl _ _) (Nat.le_refl _) ?_; (case hz => rfl); intro v1 w1 hR1 hb1 hg1 hat1; clear hg1 hat1) | ((with_reducible refine gate_dst (N := 22) rfl ?_); refine Kd.R_lit (Kd.int .i32) w1.heap.size 21 ?hg (N := 22) ?hd (xs := [46]) (inner := [.int .i32 46]) (ok := fun _ => True) (okp := fun _ => True) ?hr ?hp (fun _ hk => hk) trivial (Below.refl _ _) (Nat.le_refl _) (by simp) ?_; (case hd => rfl); (case hg => rfl); (case hr => first | (go_simp; done) | (go_simp; rfl)); (case hp => exact (Reps.one (show Kd.M (Kd.int .i32) _ _ _ 46 [.int .i32 46] from rfl) (Reps.none _ _))); intro v2 w2 hR2 hb2 hg2 hat2; clear hg2 hat2) | (at_builtin; refine Kd.R_append_rows (Kd.int .i32) (w0 := w1) w1.heap.size rfl (.tmp 22) (.tmp 23) 150 21 (.int .i32 0) 4 rfl Tryz.underlying150 info21 rfl (by decide) (by omega) v2 [46] l _ _ _ (fun _ => True) (fun _ => False) rfl rfl hR2 (Kd.C_below HC.out (below_step hb1 hb2)) (fun _ _ h => h) (fun _ h => h.elim) (fun _ _ => trivial) hb2 hb2.size ?hl ?_; (case hl => simp only [List.length_cons, List.length_nil]; omega); intro v3 w3 hR3 hb3 hg3 hat3; clear hg3 hat3) | (at_builtin; refine Kd.R_append (Kd.int .i32) (w0 := w1) w1.heap.size rfl (.tmp 24) (.tmp 25) 150 21 (.int .i32 0) 4 rfl Tryz.underlying150 info21 rfl (by decide) (by omega) v3 ([46] ++ l) 46 [.int .i32 46] (fun _ => True) (fun _ => False) rfl rfl rfl (fun _ hk => hk.elim) (fun _ _ => trivial) hR3 hb3 hb3.size ?hl2 ?_; (case hl2 => simp only [List.length_append, List.length_cons, List.length_nil]; omega); intro v4 w4 hR4 hb4 hg4 hat4; clear hg4 hat4; obtain ⟨A4, c4, rfl⟩ := Kd.R_slice hR4))
 have hlw : ([46] ++ l ++ [46]).length = l.length + 2 := by simp
 have hm : ((l.length : Int) + 1).toNat = l.length + 1 := by omega
 rw [hm] at hR1
 obtain ⟨_, _, hC4⟩ := Kd.R_reads' hR4
 have HW := Aside0.mk hC4
 have hb4' := below_step hb1 hb4
 have HO := Aside0.mk (Kd.R_below hR1 hb4)
 have HT4 := Aside0.mk (HT.out.on hb4')
 generalize [46] ++ l ++ [46] = whole at hlw HW ⊢
 clear hR1 hb1 hR2 hb2 hR3 hb3 hR4 hb4 hC4 HT HC hm
 go_loopg [29] (l.length + 2) (fun kq v29 w' => ∃ x : Int, v29 = .int .i64 x ∧ Aside0 (0 ≤ x ∧ x + kq = l.length + 2) ∧ Aside0 (Below w4.heap.size w4 w'))
 case atStart => exact ⟨0, rfl, ⟨by omega⟩, ⟨Below.refl _ _⟩⟩
 case round =>
  obtain ⟨x, rfl, HK, HB⟩ := hrel
  have hk := HK.out
  cases gk with
  | zero =>
   go_wp2
   go_ret
   exact ⟨_, rfl, Kd.R_below HO.out HB.out, below_step hb4' HB.out⟩
  | succ k1 =>
   have hx : x < whole.length := by omega
   have hil : wrap64 (x + 1) = x + 1 := by unfold wrap64; omega
   have hne : (x == (whole.length : Int)) = false := by simp; omega
   obtain ⟨b, n, cc, h1, h2, h3, h4⟩ := HT4.out.on HB.out
   have hn0 : (0 : Int) < (n : Int) := by omega
   obtain ⟨ad, ea, z0⟩ := Kd.at_int (Kd.C_below HW.out HB.out) x hk.1 (by omega)
   subst ea
   have hlk := look_nil (rd whole x)
   go_wp2
   refine wp_loop_rounds 3 ?_
   rw [rounds_succ]
   go_wp2
   refine wp_loop_rounds 3 ?_
   rw [rounds_succ]
   go_wp2
   go_region
   go_wp2
   go_roundg k1
   case measure => omega
   case rel => exact ⟨x + 1, by first | rfl | (rw [hil]), ⟨by omega⟩, ⟨below_drew1 HB.out⟩⟩
set_option maxHeartbeats 4000000 in
set_option maxRecDepth 100000 in
theorem index_none (F : Value) (w : World) : Calls Tryz.prog 75 #[.slice none 0 0, F] w fun e w' => e = .returned (.int .i64 (-1)) ∧ Below w.heap.size w w' := by
 go_enter Tryz.func75, Tryz.ntmps75
 go_wp2
 refine wp_loop_rounds 2 ?_
 rw [rounds_succ]
 go_wp2
 go_ret
 exact ⟨rfl, Below.refl _ _⟩
/-- Hyphens in memory: no pattern, no word, one range of letters at most. -/
def IsHyph (w : World) (g : Nat) : Prop :=
 ∃ (A : Option Addr) (c : Nat) (l : List S69) (gt : Nat) (left right : Int), w.cell? ⟨g, 0, none⟩ = some (.slice A l.length c) ∧ l.length ≤ 1 ∧ l.length ≤ c ∧ Kd.C k69 w A l.length l ∧
  w.cell? ⟨g, 1, none⟩ = some (.pointer (some ⟨gt, 0, none⟩)) ∧ IsTrie w gt ∧ w.cell? ⟨g, 2, none⟩ = some (.slice none 0 0) ∧
  w.cell? ⟨g, 3, none⟩ = some (.int .i64 left) ∧ w.cell? ⟨g, 4, none⟩ = some (.int .i64 right) ∧ 1 ≤ left ∧ left ≤ 24 ∧ 1 ≤ right ∧ right ≤ 24
theorem IsHyph.on {w w1 : World} {g : Nat} (h : IsHyph w g) (hb : Below w.heap.size w w1) : IsHyph w1 g := by
 obtain ⟨A, c, l, gt, left, right, h1, h2, h3, h4, h5, h6, h7, h8, h9, h10⟩ := h
 exact ⟨A, c, l, gt, left, right, pw_cell_below hb h1, h2, h3, Kd.C_below h4 hb, pw_cell_below hb h5, h6.on hb, pw_cell_below hb h7, pw_cell_below hb h8, pw_cell_below hb h9, h10⟩
theorem rep_get {α : Type} (n : Nat) (a d : α) (x : Int) (h : 0 ≤ x) (h1 : x < n) : rdOf d (List.replicate n a) x = a := by
 unfold rdOf
 have : x.toNat < n := by omega
 simp [List.getD_eq_getElem?_getD, this]
theorem rep_set {α : Type} (n : Nat) (a : α) (k : Nat) : (List.replicate n a).set k a = List.replicate n a := by
 apply List.ext_getElem?
 intro i
 rw [List.getElem?_set]
 by_cases h : k = i
 ·subst h
  by_cases h2 : k < n
  ·simp [h2]
  ·simp [h2]
 ·simp [h]
/-- A store ahead of a row's block leaves the row. -/
theorem R_ahead {α : Type} {d : Kd α} {e : Nat} {w : World} {base : Nat} {ok : Nat → Prop} {v : Value} {xs : List α} (h : d.R e w base ok v xs) (p : Addr) (hp : p.block < base) (u : Value) : d.R e (w.setCell p u) base ok v xs :=
 Kd.R_mono (Kd.R_move (Kd.R_bound h) (fun k hk => Below.heap_setCell _ _ _ _ (by have := hk.2.1; omega))) (fun k hk => hk.1)
set_option maxHeartbeats 4000000 in
set_option maxRecDepth 100000 in
theorem word_calls (g : Nat) (A : Option Addr) (c : Nat) (l : List Int) (w : World) (hC : Kd.C (Kd.int .i32) w A l.length l) (hl : l.length ≤ 1000000) (hH : IsHyph w g) :
  Calls Tryz.prog 52 #[.pointer (some ⟨g, 0, none⟩), .slice A l.length c] w fun e w' => ∃ v, e = .returned v ∧ Kd.R Kd.bool 4 w' w.heap.size (fun _ => True) v (List.replicate (l.length + 1) false) ∧ Below w.heap.size w w' := by
 have HC := Aside0.mk hC
 have hn : wrap64 ((l.length : Int) + 1) = (l.length : Int) + 1 := by unfold wrap64; omega
 have HH := Aside0.mk hH
 obtain ⟨Al, cl, ll, gt, left, right, _, _, _, _, k1, kt, k2, k3, k4, hl0, hl1, hr0, hr1⟩ := hH
 have KT := Aside0.mk kt
 have KK := Aside0.mk (And.intro k1 (And.intro k2 (And.intro k3 k4)))
 clear hC k1 k2 k3 k4 kt
 go_enter Tryz.func52, Tryz.ntmps52
 go_wp2_with (at_make; refine Kd.R_make Kd.bool (w0 := w) w.heap.size 4 rfl (N := 12) rfl 123 (.tmp 11) (.tmp 11) rfl ((l.length : Int) + 1) rfl rfl Tryz.underlying123 (.bool false) 1 info4 rfl (by decide) (by decide) false (ok := fun _ => True) (okp := fun _ => True) ?hz (fun _ _ => trivial) trivial (by omega) (by omega) (below_alloc (Below.refl _ _) _) (by simp) ?_; (case hz => rfl); intro v1 w1 hR1 hb1 hg1 hat1)
 have hm : ((l.length : Int) + 1).toNat = l.length + 1 := by omega
 rw [hm] at hR1
 have KB := Aside0.mk (cell_grown hg1 (World.cell?_alloc_mark w #[.slice A l.length c] 150 (0, 0) 0) (by simp))
 have K1 := Aside0.mk (⟨pw_cell_below hb1 KK.out.1, pw_cell_below hb1 KK.out.2.1, pw_cell_below hb1 KK.out.2.2.1, pw_cell_below hb1 KK.out.2.2.2⟩ : _ ∧ _ ∧ _ ∧ _)
 obtain ⟨go, co, rfl, go0, go1, _⟩ := Kd.R_form hR1 (by rw [List.length_replicate]; omega)
 have hgb : w.heap.size < go := by
  obtain ⟨b, e, hb⟩ := hat1
  simp [Value.ownBlock] at e
  subst e
  have : w.heap.size + 1 ≤ go := by simpa using hb
  omega
 have hlo : (List.replicate (l.length + 1) false).length = l.length + 1 := List.length_replicate
 rw [hlo] at hR1 ⊢
 clear hg1 hm hat1
 refine st 7 w1 [] fun hHeld => ?_
 generalize w1.drew = w2 at hHeld ⊢
 have hsz_ : w1.heap.size ≤ w2.heap.size := hHeld.size
 refine pu 0 (some 16) ?_
 refine pu 1 (some 17) ?_
 refine pu 2 (some 18) ?_
 refine take_ (i := 3) (N := some 19) (v := ?_) (a' := ?_) #[true, true, true, true, false, false, false] rfl rfl (by kernel_rfl) (fun _ _ _ h => h) (Or.inl ⟨by rfl, ?_⟩) hHeld ?_ ?_
 rotate_left
 ·intro w' s_
  have k1 := pw_cell_below s_ K1.out.1
  go_simp
  try (with_reducible rfl)
 rotate_left
 ·simp only [Act.put, List.setIfInBounds_toArray, List.set_cons_zero, List.set_cons_succ, i64_w, i32_w]
  rfl
 refine take_ (i := 4) (N := some 20) (v := ?_) (a' := ?_) #[true, true, true, true, true, false, false] rfl rfl (by kernel_rfl) (fun _ _ _ h => h) (Or.inl ⟨by rfl, ?_⟩) hHeld ?_ ?_
 rotate_left
 ·intro w' s_
  have k1 := pw_cell_below s_ KB.out
  go_simp
  try (with_reducible rfl)
 rotate_left
 ·simp only [Act.put, List.setIfInBounds_toArray, List.set_cons_zero, List.set_cons_succ, i64_w, i32_w]
  rfl
 refine on 5 (some 21) fun K hK => ?_
 refine gs Tryz.func80 #[.pointer (some ⟨gt, 0, none⟩), .slice A l.length c] ?_
 with_reducible refine (values_calls gt A c l _ (Kd.C_below HC.out (below_step hb1 hHeld)) hl (KT.out.on (below_step hb1 hHeld))).mono ?_
 rintro e w_ ⟨v2, rfl, hR2, hb_⟩
 refine ⟨_, rfl, ?_⟩
 refine hK.out _ _ (below_step hHeld hb_) (fun hHeld => ?_)
 clear hK K
 refine nrm 21 ?_
 refine pu 6 (some 6) ?_
 refine done_ (by kernel_rfl) ?_
 obtain ⟨A2, c2, rfl⟩ := Kd.R_slice hR2
 have hlz : (List.replicate (l.length + 1) (0 : Int)).length = l.length + 1 := List.length_replicate
 rw [hlz] at hR2 ⊢
 have HBw := Aside0.mk (below_step hb1 hHeld)
 have HO := Aside0.mk (Kd.R_below hR1 hHeld)
 have K2 := Aside0.mk (⟨pw_cell_below hHeld K1.out.1, pw_cell_below hHeld K1.out.2.1, pw_cell_below hHeld K1.out.2.2.1, pw_cell_below hHeld K1.out.2.2.2⟩ : _ ∧ _ ∧ _ ∧ _)
 have KB2 := Aside0.mk (pw_cell_below hHeld KB.out)
 have hsz := hsz_
 clear hR1 hb1 K1 KB hHeld hb_
 obtain ⟨k1, k2, k3, k4⟩ := K2.out
 go_wp2_with fail
 refine (index_none _ _).mono ?_
 rintro e w3 ⟨rfl, hb3⟩
 have K3 := Aside0.mk (⟨pw_cell_below hb3 k1, pw_cell_below hb3 k2, pw_cell_below hb3 k3, pw_cell_below hb3 k4⟩ : _ ∧ _ ∧ _ ∧ _)
 have KB3 := Aside0.mk (pw_cell_below hb3 KB2.out)
 have HB3 := Aside0.mk (below_step HBw.out hb3)
 have HO3 := Aside0.mk (Kd.R_below HO.out hb3)
 have HZ3 := Aside0.mk (Kd.R_below hR2 hb3)
 clear k1 k2 k3 k4 K2 KB2 HBw HO hR2 hb3
 obtain ⟨k1, k2, k3, k4⟩ := K3.out
 have hgw : go < w2.heap.size := by omega
 have hgg : g < w.heap.size := block_lt_of_cell KK.out.1
 have hgne : g ≠ go := by omega
 go_wp2
 clear k1 k2 k3 k4
 go_loopg [8] (l.length + 1) (fun kq v8 w' => ∃ x : Int, v8 = .int .i64 x ∧ Aside0 (1 ≤ x ∧ (l.length : Int) + 1 ≤ x + kq ∧ x ≤ 4000000) ∧ Aside0 (w'.cell? ⟨g, 4, none⟩ = some (.int .i64 right) ∧ w'.cell? ⟨w.heap.size, 0, none⟩ = some (.slice A l.length c)) ∧ Aside0 (Kd.R Kd.bool 4 w' w.heap.size (fun _ => True) (.slice (some ⟨go, 0, none⟩) (l.length + 1) co) (List.replicate (l.length + 1) false)) ∧ Aside0 (Kd.R (Kd.int .u8) 5 w' w2.heap.size (fun _ => True) (.slice A2 (l.length + 1) c2) (List.replicate (l.length + 1) 0)) ∧ Aside0 (Below w.heap.size w w'))
 case atStart => exact ⟨left, rfl, ⟨by omega⟩, ⟨K3.out.2.2.2, KB3.out⟩, HO3, HZ3, HB3⟩
 case round =>
  obtain ⟨x, rfl, HK, HQ, HO, HZ, HB⟩ := hrel
  have hk := HK.out
  have hil : wrap64 (x + 1) = x + 1 := by unfold wrap64; omega
  have hrr : wrap64 ((l.length : Int) - right) = (l.length : Int) - right := by unfold wrap64; omega
  obtain ⟨q1, q2⟩ := HQ.out
  by_cases hx : x ≤ (l.length : Int) - right
  ·cases gk with
   | zero => omega
   | succ k1 =>
    obtain ⟨y0, y1⟩ := Kd.R_celln false HO.out x (by omega) (by omega)
    obtain ⟨az, ez, z0⟩ := Kd.at_int (Kd.R_reads' HZ.out).2.2 x (by omega) (by omega)
    subst ez
    rw [show rd (List.replicate (l.length + 1) (0 : Int)) x = 0 from rep_get _ _ _ x (by omega) (by omega)] at z0
    have HP := Aside0.mk (Kd.R_putn (Kd.R_drew HO.out) x false)
    rw [rep_set] at HP
    have HZ2 := Aside0.mk (R_ahead (Kd.R_drew HZ.out) ⟨go, x.toNat, none⟩ hgw (.bool false))
    go_wp2
    go_region
    go_wp2
    go_roundg k1
    case measure => omega
    case rel => exact ⟨x + 1, by first | rfl | (rw [hil]), ⟨by omega⟩, ⟨(cell_far (p := ⟨go, x.toNat, none⟩) (a := ⟨g, 4, none⟩) hgne _).trans q1, (cell_far (p := ⟨go, x.toNat, none⟩) (a := ⟨w.heap.size, 0, none⟩) (by simp; omega) _).trans q2⟩, HP, HZ2, ⟨(below_drew1 HB.out).setCell go0 _⟩⟩
  ·have hx2 : ¬ x ≤ (l.length : Int) - right := hx
   go_wp2
   go_region
   go_wp2
   go_ret
   exact ⟨_, rfl, Kd.R_drew HO.out, below_drew1 HB.out⟩
/-- A number and a truth value came back. -/
def RetLB (w : World) (e : Ending) (w1 : World) : Prop := ∃ (q : Int) (b : Bool), e = .returned (.tuple #[.int .i32 q, .bool b]) ∧ Below w.heap.size w w1
theorem RetLB.mk {w w1 : World} (q : Int) (b : Bool) (h : Below w.heap.size w w1) : RetLB w (.returned (.tuple #[.int .i32 q, .bool b])) w1 := ⟨q, b, rfl, h⟩
set_option maxHeartbeats 4000000 in
set_option maxRecDepth 100000 in
theorem search_none (F : Value) (w : World) : Calls Tryz.prog 78 #[.int .i64 0, F] w fun e w' => e = .returned (.int .i64 0) ∧ Below w.heap.size w w' := by
 go_enter Tryz.func78, Tryz.ntmps78
 go_wp2
 refine wp_loop_rounds 2 ?_
 rw [rounds_succ]
 go_wp2
 go_ret
 exact ⟨rfl, Below.refl _ _⟩
set_option maxHeartbeats 4000000 in
set_option maxRecDepth 100000 in
theorem letter1_calls (hb rb g : Nat) (ad : Addr) (c : Nat) (r hi : Int) (w : World) (h1 : w.cell? ⟨hb, 0, none⟩ = some (.pointer (some ⟨g, 0, none⟩))) (h2 : w.cell? ⟨rb, 0, none⟩ = some (.int .i32 r))
  (h3 : w.cell? ⟨g, 0, none⟩ = some (.slice (some ad) 1 c)) (h4 : w.cell? ⟨ad.block, ad.off + 1, none⟩ = some (.int .i32 hi)) :
  Calls Tryz.prog 79 #[.int .i64 0, .pointer (some ⟨hb, 0, none⟩), .pointer (some ⟨rb, 0, none⟩)] w fun e w' => e = .returned (.bool (decide (r ≤ hi))) ∧ Below w.heap.size w w' := by
 go_enter Tryz.func79, Tryz.ntmps79
 go_wp2
 go_region
 go_wp2
 go_ret
 exact ⟨rfl, below_drew1 (Below.refl _ _)⟩
set_option maxHeartbeats 4000000 in
set_option maxRecDepth 100000 in
theorem search_one (hb rb g : Nat) (ad : Addr) (c : Nat) (r hi : Int) (w : World) (h1 : w.cell? ⟨hb, 0, none⟩ = some (.pointer (some ⟨g, 0, none⟩))) (h2 : w.cell? ⟨rb, 0, none⟩ = some (.int .i32 r))
  (h3 : w.cell? ⟨g, 0, none⟩ = some (.slice (some ad) 1 c)) (h4 : w.cell? ⟨ad.block, ad.off + 1, none⟩ = some (.int .i32 hi)) :
  Calls Tryz.prog 78 #[.int .i64 1, .func (.func 79) #[] #[.pointer (some ⟨hb, 0, none⟩), .pointer (some ⟨rb, 0, none⟩)]] w fun e w' => e = .returned (.int .i64 (if r ≤ hi then 0 else 1)) ∧ Below w.heap.size w w' := by
 by_cases hr : r ≤ hi
 ·rw [if_pos hr]
  have hd : decide (r ≤ hi) = true := decide_eq_true hr
  go_enter Tryz.func78, Tryz.ntmps78
  go_wp2
  refine wp_loop_rounds 3 ?_
  rw [rounds_succ]
  go_wp2_with fail
  refine (letter1_calls hb rb g ad c r hi w h1 h2 h3 h4).mono ?_
  rintro e w1 ⟨rfl, hb1⟩
  rw [hd]
  go_wp2
  rw [rounds_succ]
  go_wp2
  go_ret
  exact ⟨rfl, hb1⟩
 ·rw [if_neg hr]
  have hd : decide (r ≤ hi) = false := decide_eq_false hr
  go_enter Tryz.func78, Tryz.ntmps78
  go_wp2
  refine wp_loop_rounds 3 ?_
  rw [rounds_succ]
  go_wp2_with fail
  refine (letter1_calls hb rb g ad c r hi w h1 h2 h3 h4).mono ?_
  rintro e w1 ⟨rfl, hb1⟩
  rw [hd]
  go_wp2
  rw [rounds_succ]
  go_wp2
  go_ret
  exact ⟨rfl, hb1⟩
theorem two_boxes (w : World) (v1 v2 : Value) (t1 t2 : TypeId) :
  ((w.alloc (.cells #[v1] t1)).alloc (.cells #[v2] t2)).cell? ⟨w.heap.size, 0, none⟩ = some v1 ∧ ((w.alloc (.cells #[v1] t1)).alloc (.cells #[v2] t2)).cell? ⟨w.heap.size + 1, 0, none⟩ = some v2 := by
 have a1 := World.cell?_alloc_mark w #[v1] t1 (0, 0) 0
 have a2 := World.cell?_alloc_mark (w.alloc (.cells #[v1] t1)) #[v2] t2 (0, 0) 0
 have s1 : (w.alloc (.cells #[v1] t1)).heap.size = w.heap.size + 1 := by simp
 rw [s1] at a2
 exact ⟨pw_cell_below (below_alloc (Below.refl _ _) _) a1, a2⟩
set_option maxHeartbeats 4000000 in
set_option maxRecDepth 100000 in
theorem letter_calls (g : Nat) (r : Int) (w : World) (hH : IsHyph w g) :
  Calls Tryz.prog 51 #[.pointer (some ⟨g, 0, none⟩), .int .i32 r] w fun e w' => RetLB w e w' := by
 obtain ⟨Al, cl, ll, gt, left, right, k0, hl, hlc, hC, _⟩ := hH
 have hgg : g < w.heap.size := block_lt_of_cell k0
 obtain ⟨bx1, bx2⟩ := two_boxes w (.pointer (some ⟨g, 0, none⟩)) (.int .i32 r) 55 21
 have hbx := below_alloc (below_alloc (Below.refl w.heap.size w) (.cells #[.pointer (some ⟨g, 0, none⟩)] 55)) (.cells #[.int .i32 r] 21)
 rcases Nat.eq_zero_or_pos ll.length with h0 | h0
 ·rw [h0] at k0
  have BX := Aside0.mk (And.intro bx1 (And.intro bx2 hbx))
  clear hC bx1 bx2 hbx
  go_enter Tryz.func51, Tryz.ntmps51
  go_wp2_with fail
  refine (search_none _ _).mono ?_
  rintro e w1 ⟨rfl, hb1⟩
  obtain ⟨bx1, bx2, hbx⟩ := BX.out
  have hb2 := below_step hbx hb1
  have k1 : w1.cell? ⟨g, 0, none⟩ = _ := pw_cell_below hb2 k0
  have k2 := pw_cell_below hb1 bx1
  have k3 := pw_cell_below hb1 bx2
  have HB2 := Aside0.mk hb2
  clear hbx bx1 bx2 hb1 hb2 BX
  have gd : decide ((0 : Int) = 0) = true := by decide
  go_wp2
  go_quiet (fail)
  go_wp2
  go_ret2
  exact RetLB.mk 0 false (pw_below_drewN HB2.out _)
 ·have h1 : ll.length = 1 := by omega
  rw [h1] at k0
  obtain ⟨ad, ea, z0, z1, z2⟩ := at_T69 hC 0 (by omega) (by omega)
  subst ea
  generalize (rd_T69 ll 0).f0 = lo at z0
  generalize (rd_T69 ll 0).f1 = hi at z1
  generalize (rd_T69 ll 0).f2 = tt at z2
  have ez : ad.add ((0 : Int).toNat * 3) = ad := by obtain ⟨b, o, p⟩ := ad; rfl
  rw [ez] at z0 z1 z2
  have BX := Aside0.mk (And.intro bx1 (And.intro bx2 hbx))
  have ZZ := Aside0.mk (And.intro k0 (And.intro z0 (And.intro z1 z2)))
  clear hC bx1 bx2 hbx z0 z1 z2 k0
  go_enter Tryz.func51, Tryz.ntmps51
  obtain ⟨k0, z0, z1, z2⟩ := ZZ.out
  go_wp2_with fail
  obtain ⟨bx1, bx2, hbx⟩ := BX.out
  refine (search_one _ _ g ad cl r hi _ bx1 bx2 (pw_cell_below hbx k0) (pw_cell_below hbx z1)).mono ?_
  rintro e w1 ⟨rfl, hb1⟩
  have hb2 := below_step hbx hb1
  have k1 : w1.cell? ⟨g, 0, none⟩ = _ := pw_cell_below hb2 k0
  have k2 := pw_cell_below hb1 bx1
  have k3 := pw_cell_below hb1 bx2
  have y0 := pw_cell_below hb2 z0
  have y1 := pw_cell_below hb2 z1
  have y2 := pw_cell_below hb2 z2
  have HB2 := Aside0.mk hb2
  clear hbx bx1 bx2 hb1 hb2 BX ZZ k0 z0 z1 z2
  by_cases hr : r ≤ hi
  ·rw [if_pos hr]
   have gd : decide ((0 : Int) = 1) = false := by decide
   by_cases hq : lo ≤ r
   ·have gq : decide (r < lo) = false := decide_eq_false (by omega)
    go_wp2
    go_quiet (fail)
    go_wp2
    go_quiet (fail)
    go_wp2
    go_ret2
    exact RetLB.mk _ true (pw_below_drewN (pw_below_drewN HB2.out _) _)
   ·have gq : decide (r < lo) = true := decide_eq_true (by omega)
    go_wp2
    go_quiet (fail)
    go_wp2
    go_ret2
    exact RetLB.mk 0 false (pw_below_drewN HB2.out _)
  ·rw [if_neg hr]
   have gd : decide ((1 : Int) = 1) = true := by decide
   go_wp2
   go_quiet (fail)
   go_wp2
   go_ret2
   exact RetLB.mk 0 false (pw_below_drewN HB2.out _)
/-- The run of a copy, as an operation. -/
theorem run_copy_op {P : Program} {o : Oper} {a : Act} {w w1 : World} {sv xv v : Value} (s x : Operand) (t t' : TypeId) (ho : o.op = .call { callee := .builtin .copy, args := #[s, x], argTypes := #[t, t'] }) (hs : a.eval s = sv) (hx : a.eval x = xv)
  (hr : (Builtin.copy_ #[t, t'] o.type #[sv, xv]).run P w = .ok v w1) : (execOp a.eval o).run P w = .ok (.value v) w1 := by
 unfold execOp
 simp only [ho, resolve, invoke, builtin, Sem.run_bind, Sem.run_pure, Result.andThen_ok, List.map_toArray, List.map_cons, List.map_nil, hs, hx, hr]
theorem R_setCells {go N co base : Nat} {ok : Nat → Prop} (m : Nat) : ∀ (o : Nat) (w : World), o + m ≤ N → Kd.R Kd.bool 4 w base ok (.slice (some ⟨go, 0, none⟩) N co) (List.replicate N false) →
  Kd.R Kd.bool 4 (w.setCells go o (List.replicate m (.bool false))) base ok (.slice (some ⟨go, 0, none⟩) N co) (List.replicate N false) := by
 induction m with
 | zero => intro o w _ h; exact h
 | succ m ih =>
  intro o w ho h
  rw [List.replicate_succ, World.setCells]
  refine ih (o + 1) _ (by omega) ?_
  have := Kd.R_putn h (o : Int) false
  rw [rep_set] at this
  exact this
theorem below_setCells {go base : Nat} {w0 : World} (hg : base ≤ go) (vs : List Value) : ∀ (o : Nat) (w : World), Below base w0 w → Below base w0 (w.setCells go o vs) := by
 induction vs with
 | nil => intro o w h; exact h
 | cons v r ih => intro o w h; exact ih (o + 1) _ (Below.setCell h hg _)
set_option maxRecDepth 100000 in
/-- copy of what is not set onto what is not set: nothing turns. -/
theorem copy_false (w w0 : World) (go N co base : Nat) (ok : Nat → Prop) (o m c' c3 : Nat) (A3 : Option Addr) (ty : TypeId) (hR : Kd.R Kd.bool 4 w base ok (.slice (some ⟨go, 0, none⟩) N co) (List.replicate N false)) (hC : Kd.C Kd.bool w A3 m (List.replicate m false)) (hN : o + m ≤ N) (hg : base ≤ go) (hB : Below base w0 w) :
  ∃ w1, (Builtin.copy_ #[123, 123] ty #[.slice (some ⟨go, o, none⟩) (N - o) c', .slice A3 m c3]).run Tryz.prog w = .ok (goInt (m : Int)) w1 ∧ Kd.R Kd.bool 4 w1 base ok (.slice (some ⟨go, 0, none⟩) N co) (List.replicate N false) ∧ Below base w0 w1 := by
 have hi : (Tryz.prog.info? 4).map (·.size) = some 1 := by kernel_rfl
 rcases Nat.eq_zero_or_pos m with rfl | hm
 ·exact ⟨w, run_copy_none w 123 123 ty 4 _ A3 _ c' 0 c3 Tryz.underlying123 hi (by simp), hR, hB⟩
 ·have h1 := Kd.reads_of_C (enc := Value.bool) (d := false) (h1 := fun _ => rfl) hC
  obtain ⟨ad, hA, hc⟩ := h1.2.2 hm
  subst hA
  clear hC h1
  have hcs : ∀ j v, (List.replicate m (Value.bool false))[j]? = some v → w.cell? (ad.add j) = some v := by
   intro j v hj
   have hjm : j < m := by
    rcases Nat.lt_or_ge j m with h | h
    ·exact h
    ·rw [List.getElem?_eq_none (by simpa using h)] at hj; cases hj
   rw [List.getElem?_replicate, if_pos hjm] at hj
   injection hj with hj
   subst hj
   rw [hc j hjm, List.getD_eq_getElem?_getD, List.getElem?_replicate, if_pos hjm]
   rfl
  have hcell : ∀ j, j < m → w.cell? ⟨go, o + j, none⟩ = some (.bool false) ∧ w.frozen? ⟨go, o + j, none⟩ = false := by
   intro j hj
   have := Kd.R_celln false hR ((o + j : Nat) : Int) (by omega) (by omega)
   rw [rep_get N false false _ (by omega) (by omega)] at this
   rw [Int.toNat_natCast] at this
   exact this
  have hr := run_copy_cells (P := Tryz.prog) w 123 123 ty 4 go o (N - o) c' ad m c3 (List.replicate m (.bool false)) Tryz.underlying123 hi (by rw [List.length_replicate]; exact (Nat.min_eq_left (by omega)).symm) hcs
   (fun j hj => by rw [List.length_replicate] at hj; rw [(hcell j hj).1]; rfl) (fun j hj => by rw [List.length_replicate] at hj; exact (hcell j hj).2) (by intro v hv; rw [List.eq_of_mem_replicate hv]; rfl)
  rw [List.length_replicate] at hr
  exact ⟨_, hr, R_setCells m o w hN hR, below_setCells hg _ o w hB⟩
set_option maxHeartbeats 4000000 in
set_option maxRecDepth 100000 in
theorem points_calls (g : Nat) (A : Option Addr) (c : Nat) (l : List S149) (w : World) (hC : Kd.C k149 w A l.length l) (hc : l.length ≤ c) (hl : l.length ≤ 1000000) (hH : IsHyph w g) :
  Calls Tryz.prog 30 #[.pointer (some ⟨g, 0, none⟩), .slice A l.length c] w fun e w' => ∃ v, e = .returned v ∧ Kd.R Kd.bool 4 w' w.heap.size (fun _ => True) v (List.replicate (l.length + 1) false) ∧ Below w.heap.size w w' := by
 have HC := Aside0.mk hC
 have HH := Aside0.mk hH
 clear hC hH
 have hn : wrap64 ((l.length : Int) + 1) = (l.length : Int) + 1 := by unfold wrap64; omega
 go_enter Tryz.func30, Tryz.ntmps30
 go_wp2_with (at_make; refine Kd.R_make Kd.bool (w0 := w) w.heap.size 4 rfl (N := 15) rfl 123 (.tmp 14) (.tmp 14) rfl ((l.length : Int) + 1) rfl rfl Tryz.underlying123 (.bool false) 1 info4 rfl (by decide) (by decide) false (ok := fun _ => True) (okp := fun _ => True) ?hz (fun _ _ => trivial) trivial (by omega) (by omega) (Below.refl _ _) (by simp) ?_; (case hz => rfl); intro v1 w1 hR1 hb1 hg1 hat1; clear hg1 hat1)
 have hm : ((l.length : Int) + 1).toNat = l.length + 1 := by omega
 rw [hm] at hR1
 obtain ⟨go, co, rfl, go0, go1, _⟩ := Kd.R_form hR1 (by rw [List.length_replicate]; omega)
 have hlo : (List.replicate (l.length + 1) false).length = l.length + 1 := List.length_replicate
 rw [hlo] at hR1 ⊢
 clear hm
 go_loopg [7] l.length (fun kq v7 w' => ∃ x : Int, v7 = .int .i64 x ∧ Aside0 (0 ≤ x ∧ (l.length : Int) ≤ x + kq ∧ x ≤ (l.length : Int) + 1) ∧ Aside0 (Kd.R Kd.bool 4 w' w.heap.size (fun _ => True) (.slice (some ⟨go, 0, none⟩) (l.length + 1) co) (List.replicate (l.length + 1) false)) ∧ Aside0 (Below w.heap.size w w'))
 case atStart => exact ⟨0, rfl, ⟨by omega⟩, ⟨hR1⟩, ⟨hb1⟩⟩
 case round =>
  obtain ⟨x, rfl, HK, HR, HB⟩ := hrel
  have hk := HK.out
  clear hR1 hb1
  by_cases hx : x < l.length
  ·cases gk with
   | zero => omega
   | succ k1 =>
    go_upto_block 2 with (fail)
    rename World => wo
    go_cut [7, 8] (fun v7 v8 wc => ∃ (y : Int) (ws : List Int) (A2 : Option Addr) (c2 : Nat), v7 = .int .i64 y ∧ v8 = .slice A2 ws.length c2 ∧ Aside0 (x ≤ y ∧ y ≤ l.length ∧ ws.length + x = y) ∧ Aside0 (Kd.C (Kd.int .i32) wc A2 ws.length ws) ∧ Aside0 (ws.length ≤ c2) ∧ Aside0 (Kd.R Kd.bool 4 wc w.heap.size (fun _ => True) (.slice (some ⟨go, 0, none⟩) (l.length + 1) co) (List.replicate (l.length + 1) false)) ∧ Aside0 (Below w.heap.size w wc))
    case first =>
     go_wp2
     go_loopg [7, 8] (l.length - x.toNat) (fun kq v7 v8 w' => ∃ (y : Int) (ws : List Int), v7 = .int .i64 y ∧ Aside0 (x ≤ y ∧ y + kq = l.length ∧ ws.length + x = y) ∧ Aside0 (Kd.R (Kd.int .i32) 21 w' wo.heap.size (fun _ => True) v8 ws) ∧ Aside0 (Below wo.heap.size wo w'))
     case atStart => exact ⟨x, [], rfl, ⟨by simp; omega⟩, ⟨Kd.R_nil _ _ _ _ _⟩, ⟨Below.refl _ _⟩⟩
     case round =>
      obtain ⟨y, ws, rfl, HK2, HR2, HB2⟩ := hrel
      have hk2 := HK2.out
      obtain ⟨A2, c2, e8⟩ := Kd.R_slice HR2.out
      subst e8
      cases gk with
      | zero =>
       go_wp2
       go_meet
       case rel => exact ⟨y, ws, A2, c2, rfl, rfl, ⟨by omega⟩, ⟨(Kd.R_reads' HR2.out).2.2⟩, ⟨(Kd.R_reads' HR2.out).2.1⟩, ⟨Kd.R_below HR.out HB2.out⟩, ⟨below_step HB.out HB2.out⟩⟩
      | succ k2 =>
       have hy : y < l.length := by omega
       obtain ⟨ad, ea, z0, z1, z2⟩ := at_T149 (Kd.C_below HC.out (below_step HB.out HB2.out)) y (by omega) hy
       subst ea
       have hil : wrap64 (y + 1) = y + 1 := by unfold wrap64; omega
       go_wp2_with fail
       refine (letter_calls g _ _ (HH.out.on (below_step HB.out HB2.out))).mono ?_
       rintro e w5 ⟨q, b, rfl, hb5⟩
       have HB5 := Aside0.mk (below_step HB2.out hb5)
       have HR5 := Kd.R_below HR2.out hb5
       cases b with
       | false =>
        go_wp2
        go_meet
        case rel => exact ⟨y, ws, A2, c2, rfl, rfl, ⟨by omega⟩, ⟨(Kd.R_reads' HR5).2.2⟩, ⟨(Kd.R_reads' HR5).2.1⟩, ⟨Kd.R_below HR.out HB5.out⟩, ⟨below_step HB.out HB5.out⟩⟩
       | true =>
        go_wp2_with (at_builtin; refine Kd.R_append (Kd.int .i32) (w0 := wo) wo.heap.size rfl (.tmp 43) (.tmp 45) 150 21 (.int .i32 0) 4 rfl Tryz.underlying150 info21 rfl (by decide) (by omega) _ ws q [.int .i32 q] (fun _ => True) (fun _ => False) rfl rfl rfl (fun _ hk => hk.elim) (fun _ _ => trivial) HR5 HB5.out HB5.out.size ?hl2 ?_; (case hl2 => omega); intro v6 w6 hR6 hb6 hg6 hat6)
        clear hg6 hat6
        have HR6 := Aside0.mk hR6
        have HB6 := Aside0.mk hb6
        clear hR6 hb6 HR5 HB5 hb5
        go_wp2
        go_roundg k2
        case measure => omega
        case rel => exact ⟨y + 1, ws ++ [q], by first | rfl | (rw [hil]), ⟨by simp only [List.length_append, List.length_cons, List.length_nil]; omega⟩, HR6, HB6⟩
    case rest =>
     obtain ⟨y, ws, A2, c2, rfl, rfl, HK2, HW, HWc, HO, HBc⟩ := hcut
     have hk2 := HK2.out
     have hwc := HWc.out
     clear HR HB
     have hcx : ¬ (co = x.toNat) := by have := (Kd.R_reads' HO.out).2.1; omega
     go_wp2
     refine st 10 wc [9] fun hHeld => ?_
     generalize wc.drew = w2 at hHeld ⊢
     refine pu 0 (some 47) ?_
     refine pu 1 (some 48) ?_
     refine pu 2 (some 49) ?_
     refine pu 3 (some 50) ?_
     refine pu 4 (some 51) ?_
     refine pu 6 (some 53) ?_
     refine pu 7 (some 54) ?_
     refine on 5 (some 52) fun K hK => ?_
     refine gs Tryz.func52 #[.pointer (some ⟨g, 0, none⟩), .slice A2 ws.length c2] ?_
     with_reducible refine (word_calls g A2 c2 ws _ (Kd.C_below HW.out hHeld) (by omega) (HH.out.on (below_step HBc.out hHeld))).mono ?_
     rintro e w_ ⟨v2, rfl, hR2, hb_⟩
     refine ⟨_, rfl, ?_⟩
     obtain ⟨A3, c3, e3⟩ := Kd.R_slice hR2
     subst e3
     rw [List.length_replicate] at hR2 ⊢
     have h3 : ws.length ≤ c3 := by have := (Kd.R_reads' hR2).2.1; omega
     refine hK.out _ _ (below_step hHeld hb_) (fun hHeld => ?_)
     clear hK K
     refine nrm 52 ?_
     refine pu 8 (some 55) ?_
     refine la 9 (some 56) fun K hK => ?_
     have hC3 : Kd.C Kd.bool w_ A3 ws.length (List.replicate ws.length false) := by
      have h5 := Kd.reads_of_C (enc := Value.bool) (d := false) (h1 := fun _ => rfl) (Kd.R_reads' hR2).2.2
      rw [List.length_replicate] at h5
      refine Kd.C_of_reads (d := false) ⟨List.length_replicate, by omega, fun _ => ?_⟩
      obtain ⟨ad3, e3, hc3⟩ := h5.2.2 (by omega)
      refine ⟨ad3, e3, fun j hj => ?_⟩
      rw [hc3 j (by omega), List.getD_eq_getElem?_getD, List.getElem?_replicate, if_pos (by omega), List.getD_eq_getElem?_getD, List.getElem?_replicate, if_pos hj]
     obtain ⟨w3, hr3, hR3, hB3⟩ := copy_false w_ w go (l.length + 1) co w.heap.size (fun _ => True) x.toNat ws.length (co - x.toNat) c3 A3 3 (Kd.R_below HO.out hHeld) hC3 (by omega) go0 (below_step HBc.out hHeld)
     refine value_ (v := .int .i64 (ws.length : Int)) (w1 := w3) (by rfl) rfl ?_ ?_
     ·exact run_copy_op (.tmp 49) (.tmp 55) 123 123 rfl rfl rfl hr3
     refine hK.out _ _ ?_
     refine nrm 56 ?_
     refine done_ (by kernel_rfl) ?_
     have HO3 := Aside0.mk hR3
     have HB3 := Aside0.mk hB3
     clear hR3 hB3 hr3 HO HBc hHeld hb_ hR2 hC3
     have hil : wrap64 (y + 1) = y + 1 := by unfold wrap64; omega
     go_wp2
     go_roundg k1
     case measure => omega
     case rel => exact ⟨y + 1, by first | rfl | (rw [hil]), ⟨by omega⟩, HO3, HB3⟩
  ·go_wp2
   go_ret
   exact ⟨_, rfl, HR.out, HB.out⟩
end Go.Proofs.YtkeccgkicffieaaGreatDoor.PTopWider
