/- The walk of cells.Make where every mark says that a cluster begins. Conditions: the table lies in memory as IsTab tells, no mark within is Keep. -/
import Derived.Test.YtkeccgkicffieaaGreatDoorTopT
import Derived.Test.YtkeccgkicffieaaGreatDoorTopM
import Derived.Test.YtkeccgkicffieaaGreatDoorTopS
namespace Go.Proofs.YtkeccgkicffieaaGreatDoor.PTopWider
open Go.RowKit Go.Proofs.YtkeccgkicffieaaGreatDoorW.PrintWords Go.Proofs.YtkeccgkicffieaaGreatDoorW.PrintLast Go.Proofs.YtkeccgkicffieaaGreatDoorW.PrintMore
theorem max2_o (k k' : IntKind) (x y : Int) : Builtin.max2 (.int k x) (.int k' y) = pure (.int k (mx x y)) := by rw [max2_int]; rfl
theorem min2_o (k k' : IntKind) (x y : Int) : Builtin.min2 (.int k x) (.int k' y) = pure (.int k (mn x y)) := by rw [min2_int]; rfl
attribute [local go_sem] max2_o min2_o max_two min_two
set_option linter.unusedVariables false
set_option linter.unusedSimpArgs false
/-- Whose inner rows are none. -/
def Flat {α : Type} (d : Kd α) : Prop := ∀ W base ok ok' x cs, d.M W base ok x cs → d.M W base ok' x cs
theorem Own1.flat {α : Type} {d : Kd α} (hd : Flat d) {e base : Nat} {W : World} {v : Value} {xs : List α} {ok : Nat → Prop} (h : d.R e W base ok v xs) : Own1 d e base W v xs := by
 obtain ⟨_, inner, hown, hr⟩ := h
 exact ⟨fun _ hk => hk, inner, hown, hr.imp_ (fun _ _ hp => hd _ _ _ _ _ _ hp)⟩
theorem Own1.loose {α : Type} {d : Kd α} {e base : Nat} {W : World} {v : Value} {xs : List α} (h : Own1 d e base W v xs) : d.R e W base (fun _ => True) v xs := h.mono (fun _ _ => trivial)
theorem Own1.base_le {α : Type} {d : Kd α} {e base : Nat} {W : World} {v : Value} {xs : List α} (h : Own1 d e base W v xs) : ∀ b, v.ownBlock = some b → base ≤ b := fun b hb => by
 obtain ⟨inner, ho⟩ := Kd.R_own h
 exact own_base ho b hb
theorem flat130 : Flat k130 := fun W base ok ok' x cs h => by
 obtain rfl := k130_openM h
 exact k130_mkM _ _ _ _
theorem flatInt (k : IntKind) : Flat (Kd.int k) := fun W base ok ok' x cs h => h
theorem info130 : (Tryz.prog.info? 130).map (fun i => (i.zero, i.size, i.bytes)) = some (some (.agg #[(.int .i64 0), (.int .i64 0), (.int .i64 0), (.int .u8 0)]), 4, 32) := by kernel_rfl
theorem take_next {α : Type} (l : List α) (x : Int) (z : α) (h0 : 0 ≤ x) (h1 : x < l.length) : l.take (x + 1).toNat = l.take x.toNat ++ [l.getD x.toNat z] := by
 obtain ⟨i, rfl⟩ := Int.eq_ofNat_of_zero_le h0
 have hi : i < l.length := by omega
 rw [show ((i : Int) + 1).toNat = i + 1 by omega, Int.toNat_natCast, List.take_succ_eq_append_getElem hi]
 simp [List.getD_eq_getElem?_getD, List.getElem?_eq_getElem hi]
/-- 0, 1, 2 .. -/
def cnt (n : Nat) : List Int := (List.range n).map (fun (i : Nat) => (i : Int))
theorem cnt_next (x : Int) (h0 : 0 ≤ x) : cnt (x + 1).toNat = cnt x.toNat ++ [x] := by
 obtain ⟨i, rfl⟩ := Int.eq_ofNat_of_zero_le h0
 rw [show ((i : Int) + 1).toNat = i + 1 by omega, Int.toNat_natCast]
 simp [cnt, List.range_succ]
theorem cnt_length (n : Nat) : (cnt n).length = n := by simp [cnt]
theorem cnt_get (n : Nat) (x : Int) (h0 : 0 ≤ x) (h1 : x < n) : rd (cnt n) x = x := by
 obtain ⟨i, rfl⟩ := Int.eq_ofNat_of_zero_le h0
 have hi : i < n := by omega
 simp [rd, cnt, List.getD_eq_getElem?_getD, hi]
def kindOf (r : Int) : Int := if r = 32 then 1 else if r = 9 then 2 else 0
theorem kind_calls (r : Int) (w : World) : Calls Tryz.prog 77 #[.int .i32 r] w fun e w' => e = .returned (.int .u8 (kindOf r)) ∧ Below w.heap.size w w' :=
 (cells_kind.calls r (kindOf r) w (by unfold cells_kind.f kindOf; split <;> (try split) <;> rfl)).mono (fun e w' h => ⟨h.1, h.2.below⟩)
/-- How wide a sign is. -/
def widOf (f : Int → Int) (r : Int) : Int := if tabOf f r < 2 then tabOf f r else 2
theorem wid_eq (f : Int → Int) (r : Int) (h : 0 ≤ tabOf f r) : mx 0 (mn (tabOf f r) 2) = widOf f r := by
 unfold mx mn widOf
 split <;> split <;> omega
/-- A cluster of one sign. -/
def clus (f : Int → Int) (s : S149) : S130 := ⟨s.f1, s.f2, widOf f s.f0, kindOf s.f0⟩
theorem gcell {W w1 : World} {row : Option Nat} {p : Addr} {v : Value} (hg : W.grownBy w1 row) (hc : W.cell? p = some v) (hn : row ≠ some p.block) : w1.cell? p = some v := by
 have hlt := World.block_lt_of_cell? W p hc
 rw [World.cell?_of_block (w := W) (hg.block p.block hlt (fun he => hn he.symm))]
 exact hc
theorem clus_cells {base g n cap : Nat} {W : World} {xs : List S130} (h : Own1 k130 130 base W (.slice (some ⟨g, 0, none⟩) n cap) xs) (x : Int) (h0 : 0 ≤ x) (h1 : x < n) (y : S130) (hy : xs.getD x.toNat z130 = y) :
  W.cell? ⟨g, x.toNat * 4, none⟩ = some (.int .i64 y.f0) ∧ W.cell? ⟨g, x.toNat * 4 + 1, none⟩ = some (.int .i64 y.f1) ∧ W.cell? ⟨g, x.toNat * 4 + 2, none⟩ = some (.int .i64 y.f2) ∧ W.cell? ⟨g, x.toNat * 4 + 3, none⟩ = some (.int .u8 y.f3) ∧ ∀ j, W.frozen? ⟨g, x.toNat * 4 + j, none⟩ = false := by
 obtain ⟨c, hcl, hM, hcc, hfr⟩ := Kd.R_elem h z130 x h0 h1
 rw [hy] at hM
 obtain rfl := k130_openM hM
 exact ⟨hcc 0 _ rfl, hcc 1 _ rfl, hcc 2 _ rfl, hcc 3 _ rfl, hfr⟩
theorem clus_store1 {base g n cap : Nat} {W : World} {xs : List S130} (h : Own1 k130 130 base W (.slice (some ⟨g, 0, none⟩) n cap) xs) (x : Int) (h0 : 0 ≤ x) (h1 : x < n) (y : S130) (hy : xs.getD x.toNat z130 = y) (v : Int) :
  Own1 k130 130 base (W.setCell ⟨g, x.toNat * 4 + 1, none⟩ (.int .i64 v)) (.slice (some ⟨g, 0, none⟩) n cap) (xs.set x.toNat ⟨y.f0, v, y.f2, y.f3⟩) ∧ W.grownBy (W.setCell ⟨g, x.toNat * 4 + 1, none⟩ (.int .i64 v)) (some g) := by
 obtain ⟨c, hcl, hM, hcc, hfr⟩ := Kd.R_elem h z130 x h0 h1
 rw [hy] at hM
 obtain rfl := k130_openM hM
 exact Kd.R_seg (seg := [.int .i64 v]) (j := 1) (okp := fun _ => False) h x h0 h1 hcl hcc (by show _ + 1 ≤ 4; omega) (k130_mkM _ _ _ ⟨y.f0, v, y.f2, y.f3⟩) (fun _ hk => hk.elim)
theorem clus_store2 {base g n cap : Nat} {W : World} {xs : List S130} (h : Own1 k130 130 base W (.slice (some ⟨g, 0, none⟩) n cap) xs) (x : Int) (h0 : 0 ≤ x) (h1 : x < n) (y : S130) (hy : xs.getD x.toNat z130 = y) (v : Int) :
  Own1 k130 130 base (W.setCell ⟨g, x.toNat * 4 + 2, none⟩ (.int .i64 v)) (.slice (some ⟨g, 0, none⟩) n cap) (xs.set x.toNat ⟨y.f0, y.f1, v, y.f3⟩) ∧ W.grownBy (W.setCell ⟨g, x.toNat * 4 + 2, none⟩ (.int .i64 v)) (some g) := by
 obtain ⟨c, hcl, hM, hcc, hfr⟩ := Kd.R_elem h z130 x h0 h1
 rw [hy] at hM
 obtain rfl := k130_openM hM
 exact Kd.R_seg (seg := [.int .i64 v]) (j := 2) (okp := fun _ => False) h x h0 h1 hcl hcc (by show _ + 1 ≤ 4; omega) (k130_mkM _ _ _ ⟨y.f0, y.f1, v, y.f3⟩) (fun _ hk => hk.elim)
theorem last_getD {α : Type} (l : List α) (y z : α) (n : Nat) (h : l.length = n) : (l ++ [y]).getD n z = y := by subst h; simp
theorem last_set {α : Type} (l : List α) (y z : α) (n : Nat) (h : l.length = n) : (l ++ [y]).set n z = l ++ [z] := by subst h; simp
set_option maxHeartbeats 40000000 in
set_option maxRecDepth 100000 in
theorem cellsMake_calls (g : Nat) (f : Int → Int) (A : Option Addr) (c : Nat) (l : List S149) (Am : Option Addr) (cm : Nat) (marks : List Int) (w : World) (hC : Kd.C k149 w A l.length l) (hc : l.length ≤ c) (hl : l.length ≤ 1000000)
  (hCm : Kd.C (Kd.int .u8) w Am marks.length marks) (hcm : marks.length ≤ cm) (hml : marks.length = l.length + 1) (hne : ∀ i : Int, 1 ≤ i → i < l.length → rd marks i ≠ 0) (hT : IsTab w g f) (hlen : ∀ s ∈ l, 0 ≤ s.f2 ∧ s.f2 ≤ 4) (hf : ∀ r, 0 ≤ tabOf f r ∧ tabOf f r < 256) :
  Calls Tryz.prog 46 #[.slice A l.length c, .slice Am marks.length cm, .pointer (some ⟨g, 0, none⟩)] w fun e w' => ∃ v6 v7, e = .returned (.tuple #[v6, v7]) ∧ Own1 k130 130 w.heap.size w' v6 (l.map (clus f)) ∧ Own1 (Kd.int .i64) 3 w.heap.size w' v7 (cnt (l.length + 1)) ∧ Below w.heap.size w w' := by
 have HC := Aside0.mk hC
 have HCm := Aside0.mk hCm
 have HT := Aside0.mk hT
 have HL := Aside0.mk (And.intro hne (And.intro hlen hf))
 have HML := Aside0.mk hml
 clear hC hCm hT hne hlen hf hml
 go_enter Tryz.func46, Tryz.ntmps46
 go_wp2
 go_loopg [8, 9, 15] l.length (fun kq v8 v9 v15 w' => ∃ (x : Int), v15 = .int .i64 x ∧ Aside0 (0 ≤ x ∧ x + kq = l.length) ∧
  Aside0 (Own1 k130 130 w.heap.size w' v8 ((l.take x.toNat).map (clus f))) ∧ Aside0 (Own1 (Kd.int .i64) 3 w.heap.size w' v9 (cnt x.toNat)) ∧
  Aside0 (Ne2 v8 v9) ∧ Aside0 (Below w.heap.size w w'))
 case atStart => exact ⟨0, rfl, ⟨by omega⟩, ⟨Own1.nil _ _ _ _⟩, ⟨Own1.nil _ _ _ _⟩, ⟨Ne2.nil _⟩, ⟨Below.refl _ _⟩⟩
 case round =>
  obtain ⟨x, rfl, HK, H8, H9, HN, HB⟩ := hrel
  have hk := HK.out
  obtain ⟨A8, c8, e8⟩ := Kd.R_slice H8.out
  obtain ⟨A9, c9, e9⟩ := Kd.R_slice H9.out
  subst e8 e9
  cases gk with
  | zero =>
   have hx : x.toNat = l.length := by omega
   rw [hx] at H8 H9 HN ⊢
   rw [List.take_of_length_le (Nat.le_refl _)] at H8
   have h8l : (l.map (clus f)).length = l.length := by simp
   have h9l : (cnt l.length).length = l.length := cnt_length _
   rw [List.take_of_length_le (Nat.le_refl _)] at HN ⊢
   rw [h8l] at H8 HN ⊢
   rw [h9l] at H9 HN ⊢
   go_wp2_with (at_builtin; refine Kd.R_append (Kd.int .i64) (w0 := w) w.heap.size rfl (.tmp 88) (.tmp 91) 83 3 (.int .i64 0) 8 rfl Tryz.underlying83 info3 rfl (by decide) (by omega) _ _ (l.length : Int) [.int .i64 (l.length : Int)] (fun _ => True) (fun _ => False) rfl rfl rfl (fun _ hk => hk.elim) (fun _ _ => trivial) H9.out.loose HB.out HB.out.size ?hl2 ?_; (case hl2 => rw [h9l]; omega); intro v3 w4 hR9 hb4 hg4 hat4)
   go_ret2
   exact ⟨_, _, rfl, H8.out.keep hg4 HN.out, by rw [show cnt (l.length + 1) = cnt l.length ++ [(l.length : Int)] by simp [cnt, List.range_succ]]; exact Own1.flat (flatInt .i64) hR9, hb4⟩
  | succ k1 =>
   have hx : x < l.length := by omega
   obtain ⟨ad, ea, z0, z1, z2⟩ := at_T149 (Kd.C_below HC.out HB.out) x hk.1 hx
   subst ea
   have hs := HL.out.2.1 (rd_T149 l x) (getD_mem _ _ _ (by omega))
   have htk := take_next l x z149 hk.1 hx
   generalize hS : rd_T149 l x = s at z0 z1 z2 hs
   have h8l : ((l.take x.toNat).map (clus f)).length = x.toNat := by simp; omega
   have h9l : (cnt x.toNat).length = x.toNat := cnt_length _
   rw [h8l] at H8 HN ⊢
   rw [h9l] at H9 HN ⊢
   by_cases h0 : x = 0
   ·have hb0 : (x == 0) = true := by simpa using h0
    clear h0
    go_upto_region 7 with fail
    have q0 : (wr.alloc (.cells #[.int .i32 s.f0, .int .i64 s.f1, .int .i64 s.f2] 149)).cell? ⟨wr.heap.size, 0, none⟩ = some (.int .i32 s.f0) := World.cell?_alloc_mark wr _ 149 (0, 0) 0
    have q1 : (wr.alloc (.cells #[.int .i32 s.f0, .int .i64 s.f1, .int .i64 s.f2] 149)).cell? ⟨wr.heap.size, 1, none⟩ = some (.int .i64 s.f1) := World.cell?_alloc_mark wr _ 149 (0, 0) 1
    have q2 : (wr.alloc (.cells #[.int .i32 s.f0, .int .i64 s.f1, .int .i64 s.f2] 149)).cell? ⟨wr.heap.size, 2, none⟩ = some (.int .i64 s.f2) := World.cell?_alloc_mark wr _ 149 (0, 0) 2
    have hbl := below_alloc (Below.refl wr.heap.size wr) (.cells #[.int .i32 s.f0, .int .i64 s.f1, .int .i64 s.f2] 149)
    have B2 := Aside0.mk (below_step HB.out hbl)
    have H82 := Aside0.mk (H8.out.below hbl)
    have H92 := Aside0.mk (H9.out.below hbl)
    have L8 := Aside0.mk (Kd.R_lt H8.out)
    have L9 := Aside0.mk (Kd.R_lt H9.out)
    generalize wr.alloc (.cells #[.int .i32 s.f0, .int .i64 s.f1, .int .i64 s.f2] 149) = w2 at q0 q1 q2 B2 H82 H92 ⊢
    generalize wr.heap.size = bx at q0 q1 q2 L8 L9 ⊢
    have Q0 := Aside0.mk (And.intro q0 (And.intro q1 q2))
    clear q0 q1 q2 hbl H8 H9 HB
    refine st 10 w2 [8] fun hHeld => ?_
    generalize w2.drew = w3 at hHeld ⊢
    refine pu 0 (some 35) ?_
    refine pu 1 (some 36) ?_
    refine pu 3 (some 38) ?_
    refine ta 2 (some 37) (fun _ s => pw_cell_below s Q0.out.2.1) hHeld ?_
    refine ta 4 (some 39) (fun _ s => pw_cell_below s Q0.out.1) hHeld ?_
    refine on 5 (some 40) fun K hK => ?_
    refine gs Tryz.func77 #[.int .i32 s.f0] ?_
    with_reducible refine (kind_calls s.f0 _).mono ?_
    rintro e w_ ⟨rfl, hb_⟩
    refine ⟨_, rfl, ?_⟩
    refine hK.out _ _ (below_step hHeld hb_) (fun hHeld => ?_)
    clear hK K
    refine nrm 40 ?_
    refine pu 6 (some 41) ?_
    refine on 7 (some 42) fun K hK => ?_
    refine Kd.R_lit_step k130 (w0 := w2) w2.heap.size 130 (by rfl) (N := 42) rfl (xs := [⟨s.f1, 0, 0, kindOf s.f0⟩]) (inner := [.int .i64 s.f1, .int .i64 0, .int .i64 0, .int .u8 (kindOf s.f0)]) (ok := fun _ => True) (okp := fun _ => True) ?hrun ?hrep (fun _ hk => hk) trivial hHeld hHeld.size (by simp) ?_
    case hrun => first | (go_simp; done) | (go_simp; rfl)
    case hrep => exact (Reps.c4 (k130_mkM _ _ _ ⟨s.f1, 0, 0, kindOf s.f0⟩) (Reps.none _ _))
    intro v1 x1 hr_ hb_ hg_ hat_
    refine hK.out _ _ hb_ (fun hHeld => ?_)
    clear hK K
    refine nrm 42 ?_
    refine la 8 (some 43) fun K hK => ?_
    obtain ⟨A_, c_, e_⟩ := Kd.R_slice hr_
    have hc_ := hr_
    rw [e_] at hc_
    refine Kd.R_append_rows_step k130 (w0 := w) w.heap.size (by rfl) (.tmp 35) (.tmp 42) 71 130 (.agg #[(.int .i64 0), (.int .i64 0), (.int .i64 0), (.int .u8 0)]) 32 rfl Tryz.underlying71 info130 rfl (by decide) (by decide) _ _ _ A_ 1 c_ (fun _ => True) (fun _ => False) rfl (by first | exact e_ | rfl) (H82.out.below hHeld).loose (Kd.R_reads' hc_).2.2 (fun p cs hk => by obtain rfl := k130_open hk; exact k130_mkM _ _ _ _) (fun _ hk => hk.elim) (fun _ _ => trivial) (below_step B2.out hHeld) (below_step B2.out hHeld).size ?hl ?_
    case hl => simp; omega
    intro v2 x2 hr2 hb2 hg2 hat2
    refine hK.out _ _ ?_
    clear hK K
    refine nrm 43 ?_
    refine pu 9 (some 8) ?_
    refine done_ (by kernel_rfl) ?_
    have N8 := HN.out.grew (H92.out.below hHeld) hat2
    have H93 := Aside0.mk ((H92.out.below hHeld).keep hg2 HN.out.symm)
    have H83 := Own1.flat flat130 hr2
    have Q3 : Aside0 (x2.cell? ⟨bx, 0, none⟩ = some (.int .i32 s.f0) ∧ x2.cell? ⟨bx, 1, none⟩ = some (.int .i64 s.f1) ∧ x2.cell? ⟨bx, 2, none⟩ = some (.int .i64 s.f2)) := by
     have hn : (Value.slice A8 x.toNat c8).ownBlock ≠ some bx := fun he => by have := L8.out bx he; omega
     exact ⟨gcell hg2 (pw_cell_below hHeld Q0.out.1) hn, gcell hg2 (pw_cell_below hHeld Q0.out.2.1) hn, gcell hg2 (pw_cell_below hHeld Q0.out.2.2) hn⟩
    have L8n : Aside0 (v2.ownBlock ≠ some bx) := ⟨fun he => by
     rcases hat2 with h | ⟨b, h, h2⟩
     ·have e2 := h.symm.trans he
      have := L8.out bx e2; omega
     ·have e2 := Option.some.inj (h.symm.trans he)
      have h3 : bx < x1.heap.size := block_lt_of_cell (pw_cell_below hHeld Q0.out.1)
      omega⟩
    have B3 := Aside0.mk hb2
    clear hr2 hb2 hg2 hat2 hr_ hb_ hg_ hat_ e_ hc_ hHeld Q0 B2 H82 H92 HN
    obtain ⟨g8, c8n, e8, g80, g81, _⟩ := Kd.R_form H83 (by simp)
    have hl8 : ((l.take x.toNat).map (clus f) ++ [(⟨s.f1, 0, 0, kindOf s.f0⟩ : S130)]).length = x.toNat + 1 := by rw [List.length_append, h8l]; rfl
    rw [hl8] at e8
    subst e8
    have H83 := Aside0.mk H83
    go_wp2_with (at_builtin; refine Kd.R_append (Kd.int .i64) (w0 := w) w.heap.size rfl (.tmp 44) (.tmp 46) 83 3 (.int .i64 0) 8 rfl Tryz.underlying83 info3 rfl (by decide) (by omega) _ _ x [.int .i64 x] (fun _ => True) (fun _ => False) rfl rfl rfl (fun _ hk => hk.elim) (fun _ _ => trivial) H93.out.loose B3.out B3.out.size ?hl2 ?_; (case hl2 => rw [h9l]; omega); intro v3 w4 hR9 hb4 hg4 hat4)
    have N9 := (Ne2.grew N8.symm H83.out hat4).symm
    have H94 := Own1.flat (flatInt .i64) hR9
    have H84 := H83.out.keep hg4 N8
    have Q4 : Aside0 (w4.cell? ⟨bx, 0, none⟩ = some (.int .i32 s.f0) ∧ w4.cell? ⟨bx, 1, none⟩ = some (.int .i64 s.f1) ∧ w4.cell? ⟨bx, 2, none⟩ = some (.int .i64 s.f2)) := by
     have hn : (Value.slice A9 x.toNat c9).ownBlock ≠ some bx := fun he => by have := L9.out bx he; omega
     exact ⟨gcell hg4 Q3.out.1 hn, gcell hg4 Q3.out.2.1 hn, gcell hg4 Q3.out.2.2 hn⟩
    have B4 := Aside0.mk hb4
    clear hR9 hb4 hg4 hat4 B3 H93 H83 Q3 N8
    obtain ⟨g9, c9n, e9, g90, g91, _⟩ := Kd.R_form H94 (by simp)
    have hl9 : (cnt x.toNat ++ [x]).length = x.toNat + 1 := by rw [List.length_append, h9l]; rfl
    rw [hl9] at e9
    subst e9
    have g98 : g8 ≠ bx := fun he => L8n.out (by rw [he]; simp [Value.ownBlock])
    obtain ⟨n1, hn1⟩ : ∃ n1, n1 = x.toNat + 1 := ⟨_, rfl⟩
    have hxn : x < (n1 : Int) := by omega
    have hw1 : wrap64 ((n1 : Int) - 1) = x := by unfold wrap64; omega
    have hw2 : IntKind.i64.wrap ((n1 : Int) - 1) = x := (IntWalk.i64_in _ (by omega)).trans (by omega)
    rw [← hn1] at H84 H94 N9 ⊢
    clear hn1
    have hmax : max x 0 = x := by omega
    have hw3 : wrap64 s.f2 = s.f2 := by unfold wrap64; omega
    have hw4 : IntKind.i64.wrap s.f2 = s.f2 := IntWalk.i64_in _ (by omega)
    have hx0 := hk.1
    have hgd : ((l.take x.toNat).map (clus f) ++ [(⟨s.f1, 0, 0, kindOf s.f0⟩ : S130)]).getD x.toNat z130 = ⟨s.f1, 0, 0, kindOf s.f0⟩ := last_getD _ _ _ _ h8l
    have y9 := (Kd.R_celln 0 H94 x hx0 hxn).1
    have e9 : rdOf 0 (cnt x.toNat ++ [x]) x = x := last_getD _ _ _ _ h9l
    rw [e9] at y9
    clear e9
    have H85 := Aside0.mk H84
    have H95 := Aside0.mk H94
    have E1 := Aside0.mk (clus_cells H84 x hx0 hxn _ hgd)
    clear H84 H94
    go_wp2
    refine st 10 w4 [9] fun hHeld => ?_
    generalize w4.drew = w5 at hHeld ⊢
    refine pu 0 (some 64) ?_
    refine pu 1 (some 65) ?_
    refine pu 2 (some 66) ?_
    refine pu 4 (some 68) ?_
    refine ta 3 (some 67) (fun _ s => pw_cell_below s E1.out.2.1) hHeld ?_
    refine ta 5 (some 69) (fun _ s => pw_cell_below s Q4.out.2.2) hHeld ?_
    refine pu 6 (some 70) ?_
    refine pu 7 (some 71) ?_
    refine pu 8 (some 72) ?_
    refine la 9 none fun K hK => ?_
    have H8w := H85.out.below hHeld
    obtain ⟨y0, y1, y2, y3, y4⟩ := clus_cells H8w x hk.1 hxn _ hgd
    have y5 := y4 1
    refine skip_ (w1 := ?_) (by rfl) rfl ?_ ?_
    rotate_left
    ·go_simp
     rfl
    refine hK.out _ _ ?_
    clear hK K
    refine done_ (by kernel_rfl) ?_
    have HS := clus_store1 (H85.out.below hHeld) x hx0 hxn _ hgd s.f2
    rw [last_set _ _ _ _ h8l] at HS
    obtain ⟨HS1, hgs⟩ := HS
    have Q5 : Aside0 ((w5.setCell ⟨g8, x.toNat * 4 + 1, none⟩ (.int .i64 s.f2)).cell? ⟨bx, 0, none⟩ = some (.int .i32 s.f0)) := ⟨gcell hgs (pw_cell_below hHeld Q4.out.1) (fun he => g98 (Option.some.inj he))⟩
    have H96 := (H95.out.below hHeld).grown hgs (fun k hk he => N9 k (by rw [← he]; simp [Value.ownBlock]) hk)
    have B5 := Aside0.mk (Below.setCell (below_step B4.out hHeld) g80 (.int .i64 s.f2) (p := ⟨g8, x.toNat * 4 + 1, none⟩))
    clear hHeld y0 y1 y2 y3 y4 y5 H8w H85 H95 B4 Q4 E1 hgd y9
    generalize w5.setCell ⟨g8, x.toNat * 4 + 1, none⟩ (.int .i64 s.f2) = w6 at HS1 hgs Q5 H96 B5 ⊢
    have hgd2 : ((l.take x.toNat).map (clus f) ++ [(⟨s.f1, s.f2, 0, kindOf s.f0⟩ : S130)]).getD x.toNat z130 = ⟨s.f1, s.f2, 0, kindOf s.f0⟩ := last_getD _ _ _ _ h8l
    have E2 := Aside0.mk (clus_cells HS1 x hx0 hxn _ hgd2)
    have H86 := Aside0.mk HS1
    have H96 := Aside0.mk H96
    clear HS1 hgs
    go_wp2
    refine st 14 w6 [13] fun hHeld => ?_
    generalize w6.drew = w7 at hHeld ⊢
    refine pu 0 (some 73) ?_
    refine pu 1 (some 74) ?_
    refine pu 2 (some 75) ?_
    refine pu 3 (some 76) ?_
    refine pu 5 (some 78) ?_
    refine pu 6 (some 79) ?_
    refine ta 4 (some 77) (fun _ s => pw_cell_below s E2.out.2.2.1) hHeld ?_
    refine ta 7 (some 80) (fun _ s => pw_cell_below s Q5.out) hHeld ?_
    refine on 8 (some 81) fun K hK => ?_
    refine gs Tryz.func50 #[.pointer (some ⟨g, 0, none⟩), .int .i32 s.f0] ?_
    with_reducible refine (of_calls g f s.f0 _ (HT.out.on (below_step B5.out hHeld))).mono ?_
    rintro e w_ ⟨rfl, hb_⟩
    refine ⟨_, rfl, ?_⟩
    refine hK.out _ _ (below_step hHeld hb_) (fun hHeld => ?_)
    clear hK K
    refine nrm 81 ?_
    refine pu 9 (some 82) ?_
    refine pu 10 (some 83) ?_
    refine pu 11 (some 84) ?_
    refine pu 12 (some 85) ?_
    refine la 13 none fun K hK => ?_
    have H8w := H86.out.below hHeld
    obtain ⟨y0, y1, y2, y3, y4⟩ := clus_cells H8w x hk.1 hxn _ hgd2
    have y5 := y4 2
    have hwd : mx 0 (mn (tabOf f s.f0) 2) = widOf f s.f0 := wid_eq f s.f0 (HL.out.2.2 s.f0).1
    refine skip_ (w1 := ?_) (by rfl) rfl ?_ ?_
    rotate_left
    ·go_simp
     rfl
    refine hK.out _ _ ?_
    clear hK K
    refine done_ (by kernel_rfl) ?_
    try rw [hwd]
    have HS := clus_store2 (H86.out.below hHeld) x hx0 hxn _ hgd2 (widOf f s.f0)
    rw [last_set _ _ _ _ h8l] at HS
    obtain ⟨HS1, hgs⟩ := HS
    have H97 := Aside0.mk ((H96.out.below hHeld).grown hgs (fun k hk he => N9 k (by rw [← he]; simp [Value.ownBlock]) hk))
    have B7 := Aside0.mk (Below.setCell (below_step B5.out hHeld) g80 (.int .i64 (widOf f s.f0)) (p := ⟨g8, x.toNat * 4 + 2, none⟩))
    have H87 := Aside0.mk HS1
    have N9 := Aside0.mk N9
    have hil : wrap64 (x + 1) = x + 1 := by unfold wrap64; omega
    have htk2 : (l.take (x + 1).toNat).map (clus f) = (l.take x.toNat).map (clus f) ++ [(⟨s.f1, s.f2, widOf f s.f0, kindOf s.f0⟩ : S130)] := by
     rw [htk, List.map_append, show l.getD x.toNat z149 = s from hS]; rfl
    have HTK := Aside0.mk htk2
    clear hHeld y0 y1 y2 y3 y4 y5 H8w H86 H96 B5 Q5 E2 hgd2 HS1 hgs htk2 htk
    go_wp2
    go_roundg k1
    case measure => omega
    case rel => exact ⟨x + 1, by first | rfl | (rw [hil]), ⟨by omega⟩, ⟨by rw [HTK.out]; exact H87.out⟩, ⟨by rw [cnt_next x hx0]; exact H97.out⟩, N9, B7⟩
   ·have hx1 : 1 ≤ x := by omega
    have hb0 : (x == 0) = false := by simpa using h0
    have hmx : x < (marks.length : Int) := by have := HML.out; omega
    obtain ⟨am, em, zm⟩ := Kd.at_int (Kd.C_below HCm.out HB.out) x hk.1 hmx
    subst em
    have hnx := HL.out.1 x hx1 hx
    have hnb : (rd marks x != 0) = true := by simpa using hnx
    have zm2 := pw_cell_below (below_alloc (Below.refl _ _) (.cells #[.int .i32 s.f0, .int .i64 s.f1, .int .i64 s.f2] 149)) zm
    go_upto_region 7 with fail
    have q0 : (wr.alloc (.cells #[.int .i32 s.f0, .int .i64 s.f1, .int .i64 s.f2] 149)).cell? ⟨wr.heap.size, 0, none⟩ = some (.int .i32 s.f0) := World.cell?_alloc_mark wr _ 149 (0, 0) 0
    have q1 : (wr.alloc (.cells #[.int .i32 s.f0, .int .i64 s.f1, .int .i64 s.f2] 149)).cell? ⟨wr.heap.size, 1, none⟩ = some (.int .i64 s.f1) := World.cell?_alloc_mark wr _ 149 (0, 0) 1
    have q2 : (wr.alloc (.cells #[.int .i32 s.f0, .int .i64 s.f1, .int .i64 s.f2] 149)).cell? ⟨wr.heap.size, 2, none⟩ = some (.int .i64 s.f2) := World.cell?_alloc_mark wr _ 149 (0, 0) 2
    have hbl := below_alloc (Below.refl wr.heap.size wr) (.cells #[.int .i32 s.f0, .int .i64 s.f1, .int .i64 s.f2] 149)
    have B2 := Aside0.mk (below_step HB.out hbl)
    have H82 := Aside0.mk (H8.out.below hbl)
    have H92 := Aside0.mk (H9.out.below hbl)
    have L8 := Aside0.mk (Kd.R_lt H8.out)
    have L9 := Aside0.mk (Kd.R_lt H9.out)
    generalize wr.alloc (.cells #[.int .i32 s.f0, .int .i64 s.f1, .int .i64 s.f2] 149) = w2 at q0 q1 q2 B2 H82 H92 ⊢
    generalize wr.heap.size = bx at q0 q1 q2 L8 L9 ⊢
    have Q0 := Aside0.mk (And.intro q0 (And.intro q1 q2))
    clear q0 q1 q2 hbl H8 H9 HB
    refine st 10 w2 [8] fun hHeld => ?_
    generalize w2.drew = w3 at hHeld ⊢
    refine pu 0 (some 35) ?_
    refine pu 1 (some 36) ?_
    refine pu 3 (some 38) ?_
    refine ta 2 (some 37) (fun _ s => pw_cell_below s Q0.out.2.1) hHeld ?_
    refine ta 4 (some 39) (fun _ s => pw_cell_below s Q0.out.1) hHeld ?_
    refine on 5 (some 40) fun K hK => ?_
    refine gs Tryz.func77 #[.int .i32 s.f0] ?_
    with_reducible refine (kind_calls s.f0 _).mono ?_
    rintro e w_ ⟨rfl, hb_⟩
    refine ⟨_, rfl, ?_⟩
    refine hK.out _ _ (below_step hHeld hb_) (fun hHeld => ?_)
    clear hK K
    refine nrm 40 ?_
    refine pu 6 (some 41) ?_
    refine on 7 (some 42) fun K hK => ?_
    refine Kd.R_lit_step k130 (w0 := w2) w2.heap.size 130 (by rfl) (N := 42) rfl (xs := [⟨s.f1, 0, 0, kindOf s.f0⟩]) (inner := [.int .i64 s.f1, .int .i64 0, .int .i64 0, .int .u8 (kindOf s.f0)]) (ok := fun _ => True) (okp := fun _ => True) ?hrun ?hrep (fun _ hk => hk) trivial hHeld hHeld.size (by simp) ?_
    case hrun => first | (go_simp; done) | (go_simp; rfl)
    case hrep => exact (Reps.c4 (k130_mkM _ _ _ ⟨s.f1, 0, 0, kindOf s.f0⟩) (Reps.none _ _))
    intro v1 x1 hr_ hb_ hg_ hat_
    refine hK.out _ _ hb_ (fun hHeld => ?_)
    clear hK K
    refine nrm 42 ?_
    refine la 8 (some 43) fun K hK => ?_
    obtain ⟨A_, c_, e_⟩ := Kd.R_slice hr_
    have hc_ := hr_
    rw [e_] at hc_
    refine Kd.R_append_rows_step k130 (w0 := w) w.heap.size (by rfl) (.tmp 35) (.tmp 42) 71 130 (.agg #[(.int .i64 0), (.int .i64 0), (.int .i64 0), (.int .u8 0)]) 32 rfl Tryz.underlying71 info130 rfl (by decide) (by decide) _ _ _ A_ 1 c_ (fun _ => True) (fun _ => False) rfl (by first | exact e_ | rfl) (H82.out.below hHeld).loose (Kd.R_reads' hc_).2.2 (fun p cs hk => by obtain rfl := k130_open hk; exact k130_mkM _ _ _ _) (fun _ hk => hk.elim) (fun _ _ => trivial) (below_step B2.out hHeld) (below_step B2.out hHeld).size ?hl ?_
    case hl => simp; omega
    intro v2 x2 hr2 hb2 hg2 hat2
    refine hK.out _ _ ?_
    clear hK K
    refine nrm 43 ?_
    refine pu 9 (some 8) ?_
    refine done_ (by kernel_rfl) ?_
    have N8 := HN.out.grew (H92.out.below hHeld) hat2
    have H93 := Aside0.mk ((H92.out.below hHeld).keep hg2 HN.out.symm)
    have H83 := Own1.flat flat130 hr2
    have Q3 : Aside0 (x2.cell? ⟨bx, 0, none⟩ = some (.int .i32 s.f0) ∧ x2.cell? ⟨bx, 1, none⟩ = some (.int .i64 s.f1) ∧ x2.cell? ⟨bx, 2, none⟩ = some (.int .i64 s.f2)) := by
     have hn : (Value.slice A8 x.toNat c8).ownBlock ≠ some bx := fun he => by have := L8.out bx he; omega
     exact ⟨gcell hg2 (pw_cell_below hHeld Q0.out.1) hn, gcell hg2 (pw_cell_below hHeld Q0.out.2.1) hn, gcell hg2 (pw_cell_below hHeld Q0.out.2.2) hn⟩
    have L8n : Aside0 (v2.ownBlock ≠ some bx) := ⟨fun he => by
     rcases hat2 with h | ⟨b, h, h2⟩
     ·have e2 := h.symm.trans he
      have := L8.out bx e2; omega
     ·have e2 := Option.some.inj (h.symm.trans he)
      have h3 : bx < x1.heap.size := block_lt_of_cell (pw_cell_below hHeld Q0.out.1)
      omega⟩
    have B3 := Aside0.mk hb2
    clear hr2 hb2 hg2 hat2 hr_ hb_ hg_ hat_ e_ hc_ hHeld Q0 B2 H82 H92 HN
    obtain ⟨g8, c8n, e8, g80, g81, _⟩ := Kd.R_form H83 (by simp)
    have hl8 : ((l.take x.toNat).map (clus f) ++ [(⟨s.f1, 0, 0, kindOf s.f0⟩ : S130)]).length = x.toNat + 1 := by rw [List.length_append, h8l]; rfl
    rw [hl8] at e8
    subst e8
    have H83 := Aside0.mk H83
    go_wp2_with (at_builtin; refine Kd.R_append (Kd.int .i64) (w0 := w) w.heap.size rfl (.tmp 44) (.tmp 46) 83 3 (.int .i64 0) 8 rfl Tryz.underlying83 info3 rfl (by decide) (by omega) _ _ x [.int .i64 x] (fun _ => True) (fun _ => False) rfl rfl rfl (fun _ hk => hk.elim) (fun _ _ => trivial) H93.out.loose B3.out B3.out.size ?hl2 ?_; (case hl2 => rw [h9l]; omega); intro v3 w4 hR9 hb4 hg4 hat4)
    have N9 := (Ne2.grew N8.symm H83.out hat4).symm
    have H94 := Own1.flat (flatInt .i64) hR9
    have H84 := H83.out.keep hg4 N8
    have Q4 : Aside0 (w4.cell? ⟨bx, 0, none⟩ = some (.int .i32 s.f0) ∧ w4.cell? ⟨bx, 1, none⟩ = some (.int .i64 s.f1) ∧ w4.cell? ⟨bx, 2, none⟩ = some (.int .i64 s.f2)) := by
     have hn : (Value.slice A9 x.toNat c9).ownBlock ≠ some bx := fun he => by have := L9.out bx he; omega
     exact ⟨gcell hg4 Q3.out.1 hn, gcell hg4 Q3.out.2.1 hn, gcell hg4 Q3.out.2.2 hn⟩
    have B4 := Aside0.mk hb4
    clear hR9 hb4 hg4 hat4 B3 H93 H83 Q3 N8
    obtain ⟨g9, c9n, e9, g90, g91, _⟩ := Kd.R_form H94 (by simp)
    have hl9 : (cnt x.toNat ++ [x]).length = x.toNat + 1 := by rw [List.length_append, h9l]; rfl
    rw [hl9] at e9
    subst e9
    have g98 : g8 ≠ bx := fun he => L8n.out (by rw [he]; simp [Value.ownBlock])
    obtain ⟨n1, hn1⟩ : ∃ n1, n1 = x.toNat + 1 := ⟨_, rfl⟩
    have hxn : x < (n1 : Int) := by omega
    have hw1 : wrap64 ((n1 : Int) - 1) = x := by unfold wrap64; omega
    have hw2 : IntKind.i64.wrap ((n1 : Int) - 1) = x := (IntWalk.i64_in _ (by omega)).trans (by omega)
    rw [← hn1] at H84 H94 N9 ⊢
    clear hn1
    have hmax : max x 0 = x := by omega
    have hw3 : wrap64 s.f2 = s.f2 := by unfold wrap64; omega
    have hw4 : IntKind.i64.wrap s.f2 = s.f2 := IntWalk.i64_in _ (by omega)
    have hx0 := hk.1
    have hgd : ((l.take x.toNat).map (clus f) ++ [(⟨s.f1, 0, 0, kindOf s.f0⟩ : S130)]).getD x.toNat z130 = ⟨s.f1, 0, 0, kindOf s.f0⟩ := last_getD _ _ _ _ h8l
    have y9 := (Kd.R_celln 0 H94 x hx0 hxn).1
    have e9 : rdOf 0 (cnt x.toNat ++ [x]) x = x := last_getD _ _ _ _ h9l
    rw [e9] at y9
    clear e9
    have H85 := Aside0.mk H84
    have H95 := Aside0.mk H94
    have E1 := Aside0.mk (clus_cells H84 x hx0 hxn _ hgd)
    clear H84 H94
    go_wp2
    refine st 10 w4 [9] fun hHeld => ?_
    generalize w4.drew = w5 at hHeld ⊢
    refine pu 0 (some 64) ?_
    refine pu 1 (some 65) ?_
    refine pu 2 (some 66) ?_
    refine pu 4 (some 68) ?_
    refine ta 3 (some 67) (fun _ s => pw_cell_below s E1.out.2.1) hHeld ?_
    refine ta 5 (some 69) (fun _ s => pw_cell_below s Q4.out.2.2) hHeld ?_
    refine pu 6 (some 70) ?_
    refine pu 7 (some 71) ?_
    refine pu 8 (some 72) ?_
    refine la 9 none fun K hK => ?_
    have H8w := H85.out.below hHeld
    obtain ⟨y0, y1, y2, y3, y4⟩ := clus_cells H8w x hk.1 hxn _ hgd
    have y5 := y4 1
    refine skip_ (w1 := ?_) (by rfl) rfl ?_ ?_
    rotate_left
    ·go_simp
     rfl
    refine hK.out _ _ ?_
    clear hK K
    refine done_ (by kernel_rfl) ?_
    have HS := clus_store1 (H85.out.below hHeld) x hx0 hxn _ hgd s.f2
    rw [last_set _ _ _ _ h8l] at HS
    obtain ⟨HS1, hgs⟩ := HS
    have Q5 : Aside0 ((w5.setCell ⟨g8, x.toNat * 4 + 1, none⟩ (.int .i64 s.f2)).cell? ⟨bx, 0, none⟩ = some (.int .i32 s.f0)) := ⟨gcell hgs (pw_cell_below hHeld Q4.out.1) (fun he => g98 (Option.some.inj he))⟩
    have H96 := (H95.out.below hHeld).grown hgs (fun k hk he => N9 k (by rw [← he]; simp [Value.ownBlock]) hk)
    have B5 := Aside0.mk (Below.setCell (below_step B4.out hHeld) g80 (.int .i64 s.f2) (p := ⟨g8, x.toNat * 4 + 1, none⟩))
    clear hHeld y0 y1 y2 y3 y4 y5 H8w H85 H95 B4 Q4 E1 hgd y9
    generalize w5.setCell ⟨g8, x.toNat * 4 + 1, none⟩ (.int .i64 s.f2) = w6 at HS1 hgs Q5 H96 B5 ⊢
    have hgd2 : ((l.take x.toNat).map (clus f) ++ [(⟨s.f1, s.f2, 0, kindOf s.f0⟩ : S130)]).getD x.toNat z130 = ⟨s.f1, s.f2, 0, kindOf s.f0⟩ := last_getD _ _ _ _ h8l
    have E2 := Aside0.mk (clus_cells HS1 x hx0 hxn _ hgd2)
    have H86 := Aside0.mk HS1
    have H96 := Aside0.mk H96
    clear HS1 hgs
    go_wp2
    refine st 14 w6 [13] fun hHeld => ?_
    generalize w6.drew = w7 at hHeld ⊢
    refine pu 0 (some 73) ?_
    refine pu 1 (some 74) ?_
    refine pu 2 (some 75) ?_
    refine pu 3 (some 76) ?_
    refine pu 5 (some 78) ?_
    refine pu 6 (some 79) ?_
    refine ta 4 (some 77) (fun _ s => pw_cell_below s E2.out.2.2.1) hHeld ?_
    refine ta 7 (some 80) (fun _ s => pw_cell_below s Q5.out) hHeld ?_
    refine on 8 (some 81) fun K hK => ?_
    refine gs Tryz.func50 #[.pointer (some ⟨g, 0, none⟩), .int .i32 s.f0] ?_
    with_reducible refine (of_calls g f s.f0 _ (HT.out.on (below_step B5.out hHeld))).mono ?_
    rintro e w_ ⟨rfl, hb_⟩
    refine ⟨_, rfl, ?_⟩
    refine hK.out _ _ (below_step hHeld hb_) (fun hHeld => ?_)
    clear hK K
    refine nrm 81 ?_
    refine pu 9 (some 82) ?_
    refine pu 10 (some 83) ?_
    refine pu 11 (some 84) ?_
    refine pu 12 (some 85) ?_
    refine la 13 none fun K hK => ?_
    have H8w := H86.out.below hHeld
    obtain ⟨y0, y1, y2, y3, y4⟩ := clus_cells H8w x hk.1 hxn _ hgd2
    have y5 := y4 2
    have hwd : mx 0 (mn (tabOf f s.f0) 2) = widOf f s.f0 := wid_eq f s.f0 (HL.out.2.2 s.f0).1
    refine skip_ (w1 := ?_) (by rfl) rfl ?_ ?_
    rotate_left
    ·go_simp
     rfl
    refine hK.out _ _ ?_
    clear hK K
    refine done_ (by kernel_rfl) ?_
    try rw [hwd]
    have HS := clus_store2 (H86.out.below hHeld) x hx0 hxn _ hgd2 (widOf f s.f0)
    rw [last_set _ _ _ _ h8l] at HS
    obtain ⟨HS1, hgs⟩ := HS
    have H97 := Aside0.mk ((H96.out.below hHeld).grown hgs (fun k hk he => N9 k (by rw [← he]; simp [Value.ownBlock]) hk))
    have B7 := Aside0.mk (Below.setCell (below_step B5.out hHeld) g80 (.int .i64 (widOf f s.f0)) (p := ⟨g8, x.toNat * 4 + 2, none⟩))
    have H87 := Aside0.mk HS1
    have N9 := Aside0.mk N9
    have hil : wrap64 (x + 1) = x + 1 := by unfold wrap64; omega
    have htk2 : (l.take (x + 1).toNat).map (clus f) = (l.take x.toNat).map (clus f) ++ [(⟨s.f1, s.f2, widOf f s.f0, kindOf s.f0⟩ : S130)] := by
     rw [htk, List.map_append, show l.getD x.toNat z149 = s from hS]; rfl
    have HTK := Aside0.mk htk2
    clear hHeld y0 y1 y2 y3 y4 y5 H8w H86 H96 B5 Q5 E2 hgd2 HS1 hgs htk2 htk
    go_wp2
    go_roundg k1
    case measure => omega
    case rel => exact ⟨x + 1, by first | rfl | (rw [hil]), ⟨by omega⟩, ⟨by rw [HTK.out]; exact H87.out⟩, ⟨by rw [cnt_next x hx0]; exact H97.out⟩, N9, B7⟩
end Go.Proofs.YtkeccgkicffieaaGreatDoor.PTopWider
