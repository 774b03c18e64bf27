/- The walks of scal.need, One, All and cells.kind: each computes what its Lean function tells. Conditions: none. -/
import Derived.Test.YtkeccgkicffieaaGreatDoorTopT
namespace Go.Proofs.YtkeccgkicffieaaGreatDoor.PTopWider
open Go.RowKit Go.Proofs.YtkeccgkicffieaaGreatDoorW.PrintWords Go.Proofs.YtkeccgkicffieaaGreatDoorW.PrintLast Go.Proofs.YtkeccgkicffieaaGreatDoorW.PrintMore
attribute [local go_sem] max2_int min2_int max_two min_two max_three min_three max_four min_four
set_option linter.unusedVariables false
set_option linter.unusedSimpArgs false
def scal_need.j0 : Nat → Int → Bool → Option (Int × Int × Int)
 | 0, _, _ => none
 | k + 1, x0, x8 => if x8 = true then (some (0, 0, 0)) else (if x0 < 224 then (some (2, 128, 191)) else (if x0 = 224 then (some (3, 160, 191)) else (if x0 = 237 then (some (3, 128, 159)) else (if x0 < 240 then (some (3, 128, 191)) else (if x0 = 240 then (some (4, 144, 191)) else (if x0 = 244 then (some (4, 128, 143)) else (some (4, 128, 191))))))))
def scal_need.f (k : Nat) (a0 : Int) : Option (Int × Int × Int) := if a0 < 128 then (some (1, 0, 0)) else (if a0 < 194 then (scal_need.j0 k a0 true) else (scal_need.j0 k a0 (decide (a0 > 244))))
set_option maxHeartbeats 8000000 in
set_option maxRecDepth 100000 in
theorem scal_need.calls (x : Int) (w : World) (h : x < 128) : Calls Tryz.prog 76 #[.int .u8 x] w fun e w' => e = .returned (.tuple #[.int .i64 1, .int .u8 0, .int .u8 0]) ∧ Below w.heap.size w w' := by
 have d : decide (x < 128) = true := decide_eq_true h
 go_enter Tryz.func76, Tryz.ntmps76
 go_wp2_with fail
 exact bodyPost_ret (v := .tuple #[.int .i64 1, .int .u8 0, .int .u8 0]) (by simp [results, Tryz.results76, go_sem]) rfl ⟨rfl, Below.refl _ _⟩
mutual
def scal_One.j0 : Nat → List Int → Int → Bool → Option (Int × Int × Int)
 | 0, _, _, _ => none
 | k + 1, x0, x1, x18 => if x18 = true then (some (0, 0, 0)) else (if 0 ≤ x1 then (if x1 < (x0.length : Int) then ((scal_need.f k (rd x0 x1)).bind fun bt196 => (if bt196.1 < 2 then (if bt196.1 = 1 then (some (wrap32 (rd x0 x1), x1, 1)) else (some (65533, x1, 1))) else (if 0 ≤ bt196.1 then (scal_One.l0 k x0 x1 bt196.1 bt196.2.1 bt196.2.2 (Go.bits .and .i32 (wrap32 (rd x0 x1)) (shr .i32 127 bt196.1)) 1 65533 x1 1) else (none)))) else (none)) else (none))
def scal_One.l0 : Nat → List Int → Int → Int → Int → Int → Int → Int → Int → Int → Int → Option (Int × Int × Int)
 | 0, _, _, _, _, _, _, _, _, _, _ => none
 | k + 1, x0, x1, x5, x6, x7, x9, x10, x200000, x200001, x200002 => if x10 < x5 then (if (wrap64 (x1 + x10)) ≥ (x0.length : Int) then (some (x200000, x200001, x200002)) else (if 0 ≤ (wrap64 (x1 + x10)) then (if (wrap64 (x1 + x10)) < (x0.length : Int) then (if (rd x0 (wrap64 (x1 + x10))) < x6 then (some (x200000, x200001, x200002)) else (if (rd x0 (wrap64 (x1 + x10))) > x7 then (some (x200000, x200001, x200002)) else (scal_One.l0 k x0 x1 x5 128 191 (Go.bits .or .i32 (wrap32 (x9 * 64)) (wrap32 (Go.bits .and .u8 (rd x0 (wrap64 (x1 + x10))) 63))) (wrap64 (x10 + 1)) x200000 x200001 (wrap64 (x10 + 1))))) else (none)) else (none))) else (some (x9, x200001, x200002))
end
def scal_One.f (k : Nat) (l0 : List Int) (a1 : Int) : Option (Int × Int × Int) := if a1 < 0 then (scal_One.j0 k l0 a1 true) else (scal_One.j0 k l0 a1 (decide (a1 ≥ (l0.length : Int))))
set_option maxHeartbeats 8000000 in
set_option maxRecDepth 100000 in
theorem scal_One.calls (k : Nat) (A0 : Option Addr) (c0 : Nat) (l0 : List Int) (a1 : Int) (r1 : Int) (r2 : Int) (r3 : Int) (w : World) (hr0 : Kd.C (Kd.int .u8) w A0 l0.length l0) (hc0 : l0.length ≤ c0) (h : scal_One.f k l0 a1 = some (r1, r2, r3)) (ha : ∀ x ∈ l0, 0 ≤ x ∧ x < 128) :
  Calls Tryz.prog 45 #[.slice A0 l0.length c0, .int .i64 a1] w fun e w' => e = .returned (.agg #[.int .i32 r1, .int .i64 r2, .int .i64 r3]) ∧ Below w.heap.size w w' := by
 have hu149 := Tryz.underlying149
 unfold scal_One.f at h
 have kb := blk_new w (.cells #[.int .i32 0, .int .i64 0, .int .i64 0] 149)
 have z0 := blk_cell kb 0
 have z1 := blk_cell kb 1
 have z2 := blk_cell kb 2
 have f0 := blk_frozen kb 0
 have f1 := blk_frozen kb 1
 have f2 := blk_frozen kb 2
 have bb := below_alloc (Below.refl w.heap.size w) (.cells #[.int .i32 0, .int .i64 0, .int .i64 0] 149)
 cases k with
 | zero => exact absurd h (by simp [scal_One.j0])
 | succ k =>
  by_cases c1 : a1 < 0
  ·have d1 : decide (a1 < 0) = true := decide_eq_true c1
   rw [if_pos c1, scal_One.j0, if_pos rfl] at h
   obtain ⟨rfl, rfl, rfl⟩ : 0 = r1 ∧ 0 = r2 ∧ 0 = r3 := by simpa using h
   go_enter Tryz.func45, Tryz.ntmps45
   go_wp2_with fail
   try go_quiet (fail)
   try go_wp2_with fail
   exact bodyPost_ret (v := .agg #[.int .i32 0, .int .i64 0, .int .i64 0]) (by simp [results, Tryz.results45, go_sem, z0, z1, z2, hu149]) rfl ⟨rfl, bb⟩
  ·have d1 : decide (a1 < 0) = false := decide_eq_false c1
   by_cases c2 : a1 ≥ (l0.length : Int)
   ·have d2 : decide (a1 ≥ (l0.length : Int)) = true := decide_eq_true c2
    have d3 : decide ((l0.length : Int) ≤ a1) = true := decide_eq_true c2
    rw [if_neg c1, d2, scal_One.j0, if_pos rfl] at h
    obtain ⟨rfl, rfl, rfl⟩ : 0 = r1 ∧ 0 = r2 ∧ 0 = r3 := by simpa using h
    go_enter Tryz.func45, Tryz.ntmps45
    go_wp2_with fail
    try go_quiet (fail)
    try go_wp2_with fail
    exact bodyPost_ret (v := .agg #[.int .i32 0, .int .i64 0, .int .i64 0]) (by simp [results, Tryz.results45, go_sem, z0, z1, z2, hu149]) rfl ⟨rfl, bb⟩
   ·have d2 : decide (a1 ≥ (l0.length : Int)) = false := decide_eq_false c2
    have d3 : decide ((l0.length : Int) ≤ a1) = false := decide_eq_false c2
    have hx : 0 ≤ rd l0 a1 ∧ rd l0 a1 < 128 := by
     unfold rd
     rw [List.getD_eq_getElem?_getD, List.getElem?_eq_getElem (by omega)]
     exact ha _ (List.getElem_mem _)
    have hn : scal_need.f k (rd l0 a1) = some (1, 0, 0) := by
     unfold scal_need.f
     rw [if_pos hx.2]
    have hw : wrap32 (rd l0 a1) = rd l0 a1 := by
     generalize rd l0 a1 = x at hx
     unfold wrap32
     omega
    rw [if_neg c1, d2, scal_One.j0, if_neg (by decide), if_pos (by omega), if_pos (by omega), hn] at h
    obtain ⟨rfl, rfl, rfl⟩ : rd l0 a1 = r1 ∧ a1 = r2 ∧ 1 = r3 := by
     have h : some (wrap32 (rd l0 a1), a1, (1 : Int)) = some (r1, r2, r3) := h
     simpa [hw] using h
    obtain ⟨ad, ea, y0⟩ := Kd.at_int (Kd.C_below hr0 bb) a1 (by omega) (by omega)
    subst ea
    go_enter Tryz.func45, Tryz.ntmps45
    go_wp2_with fail
    try go_quiet (fail)
    try go_wp2_with fail
    refine (scal_need.calls (rd l0 a1) _ hx.2).mono ?_
    rintro e w1 ⟨rfl, hb1⟩
    clear z0 z1 z2 f0 f1 f2
    have kb1 := blk_below kb hb1
    have y0 := pw_cell_below (below_step hb1 (below_alloc (Below.refl w1.heap.size w1) (.cells #[.int .i32 65533, .int .i64 a1, .int .i64 1] 149))) y0
    have kc := blk_new w1 (.cells #[.int .i32 65533, .int .i64 a1, .int .i64 1] 149)
    have z0 := blk_cell kc 0
    have f0 := blk_frozen kc 0
    go_upto_region 8 with fail
    clear z0 f0 kc y0
    have kb2 := blk_alloc kb1 (.cells #[.int .i32 (rd l0 a1), .int .i64 a1, .int .i64 1] 149)
    have b2 := below_step (below_step bb hb1) (below_alloc (Below.refl w1.heap.size w1) (.cells #[.int .i32 (rd l0 a1), .int .i64 a1, .int .i64 1] 149))
    have z0 := blk_cell kb2 0
    have z1 := blk_cell kb2 1
    have z2 := blk_cell kb2 2
    have f0 := blk_frozen kb2 0
    have f1 := blk_frozen kb2 1
    have f2 := blk_frozen kb2 2
    have k3 := blk_set (blk_set (blk_set kb2 0 (.int .i32 (rd l0 a1))) 1 (.int .i64 a1)) 2 (.int .i64 1)
    go_wp2_with fail
    have e0 := blk_cell k3 0
    have e1 := blk_cell k3 1
    have e2 := blk_cell k3 2
    exact bodyPost_ret (v := .agg #[.int .i32 (rd l0 a1), .int .i64 a1, .int .i64 1]) (by simp [results, Tryz.results45, go_sem, e0, e1, e2, hu149]) rfl ⟨rfl, ((b2.setCell (p := ⟨w.heap.size, 0, none⟩) (Nat.le_refl _) _).setCell (p := ⟨w.heap.size, 1, none⟩) (Nat.le_refl _) _).setCell (p := ⟨w.heap.size, 2, none⟩) (Nat.le_refl _) _⟩
def scal_All.l0 : Nat → List Int → List (S149) → Int → Option ((List (S149)))
 | 0, _, _, _ => none
 | k + 1, x0, x3, x4 => if x4 < (x0.length : Int) then ((scal_One.f k x0 x4).bind fun bt205 => (if x3.length < 5864062014805 then (scal_All.l0 k x0 (x3 ++ [(⟨bt205.1, bt205.2.1, bt205.2.2⟩ : S149)]) (wrap64 (x4 + bt205.2.2))) else (none))) else (some x3)
def scal_All.f (k : Nat) (l0 : List Int) : Option ((List (S149))) := scal_All.l0 k l0 ([] : List (S149)) 0
set_option maxHeartbeats 8000000 in
set_option maxRecDepth 100000 in
theorem scal_All.calls (k : Nat) (A0 : Option Addr) (c0 : Nat) (l0 : List Int) (r : List (S149)) (w : World) (hr0 : Kd.C (Kd.int .u8) w A0 l0.length l0) (hc0 : l0.length ≤ c0) (h : scal_All.f k l0 = some r) (ha : ∀ x ∈ l0, 0 ≤ x ∧ x < 128) :
  Calls Tryz.prog 26 #[.slice A0 l0.length c0] w fun e w' => ∃ v0_ : Value, e = .returned (v0_) ∧ Kd.R k149 149 w' w.heap.size (fun _ => True) v0_ r ∧ Below w.heap.size w w' := by
 have HA8 := Aside0.mk ha
 clear ha
 have hu149 := Tryz.underlying149
 have HR0 := Aside0.mk hr0
 have HC0 := Aside0.mk hc0
 clear hr0 hc0
 have HB := Aside0.mk (Below.refl w.heap.size w)
 have H : (scal_All.l0 k l0 ([] : List (S149)) 0) = some r := h
 clear h
 have H' := Aside0.mk H
 clear H
 go_enter Tryz.func26, Tryz.ntmps26
 go_wp2
 go_loopg [3, 4] k (fun kq v3 v4 w' => ∃ (x3_1 : List (S149)) (x4_1 : Int), v4 = .int .i64 x4_1 ∧ Aside0 (scal_All.l0 kq l0 x3_1 x4_1 = some r) ∧ Aside0 (kq ≤ k) ∧ Aside0 (Kd.R k149 149 w' w.heap.size (fun _ => True) v3 x3_1) ∧ Aside0 (Below w.heap.size w w'))
 case atStart => exact ⟨(([] : List (S149))), (0), eqs, H', ⟨Nat.le_refl _⟩, ⟨by first | exact Kd.R_nil _ _ _ _ _ | exact Kd.N_nil _ _ _ _ _ | exact Kd.V_nil _ _ _ _ _ | exact Kd.Q_nil _ _ _ _ _ | exact Kd.S_nil _ _ _ _ _⟩, ⟨bel⟩⟩
 case round =>
  clear H'
  obtain ⟨x3_1, x4_1, rfl, HA, HK1, HO_3, HB⟩ := hrel
  cases gk with
  | zero => exact absurd HA.out (by simp [scal_All.l0])
  | succ k1 =>
   have H := HA.out
   clear HA
   simp only [scal_All.l0] at H
   by_cases c2 : x4_1 < (l0.length : Int)
   ·rw [if_pos c2] at H
    have c2b0 := decide_eq_true c2
    clear c2
    replace H := Option.bind_eq_some_iff.mp H
    obtain ⟨⟨t205, t206, t207⟩, A30, H⟩ := H
    replace H : (if x3_1.length < 5864062014805 then (scal_All.l0 k1 l0 (x3_1 ++ [(⟨t205, t206, t207⟩ : S149)]) (wrap64 (x4_1 + t207))) else (none)) = some r := H
    have A3 := Aside0.mk A30
    clear A30
    by_cases c4 : x3_1.length < 5864062014805
    ·rw [if_pos c4] at H
     have LMc4 := Aside0.mk c4
     clear c4
     obtain ⟨y209, hy209⟩ : ∃ y_ : List (S149), y_ = (x3_1 ++ [(⟨t205, t206, t207⟩ : S149)]) := ⟨_, rfl⟩
     replace H : (scal_All.l0 k1 l0 y209 (wrap64 (x4_1 + t207))) = some r := by first | (rw [hy209]; with_reducible exact H) | (have H2_ := (Option.bind_some _ _).symm.trans H; rw [hy209]; with_reducible exact H2_) | (have H2_ := (Option.bind_some _ _).symm.trans H; with_reducible exact H2_) | with_reducible exact H | (rw [hy209]; exact H) | exact H
     have Ny209 := Aside0.mk hy209
     clear hy209
     have H' := Aside0.mk H
     clear H
     go_wp2_with (first | ((with_reducible refine gate_callee (f := 45) rfl ?_); refine goesL_ (some 12) rfl rfl Tryz.func45 (by kernel_rfl) rfl #[.slice A0 l0.length c0, .int .i64 x4_1] rfl (by (try simp only [List.map_toArray, List.map_cons, List.map_nil]); first | done | rfl | (simp only [List.length_drop, List.length_take]; rfl)) ?_; (with_reducible refine (scal_One.calls k1 _ _ l0 x4_1 t205 t206 t207 _ (cup HR0) HC0.out A3.out HA8.out).mono ?_); rintro e w5 ⟨rfl, hb⟩; refine ⟨_, rfl, ?_⟩; have n0_ := Aside0.mk (Kd.R_below (rua HO_3) hb); have n1_ := Aside0.mk (below_step bel hb); clear HO_3 HB; revert n0_ n1_; intro HO_3 HB; (try clear hb); (try clear hb2); (try clear hk); (try clear hi)) | ((with_reducible refine gate_dst (N := 5) rfl ?_); refine box_ev (N := 5) (cs := #[.int .i32 0, .int .i64 0, .int .i64 0]) (t := 149) ?_; intro gb208 hg w6 hbox hb; have n0_ := Aside0.mk (Kd.R_below (Kd.R_elderB (rua HO_3) gb208 (Nat.le_of_eq hg.symm)) hb); have n1_ := Aside0.mk (below_step bel hb); have n2_ := Aside0.mk (hbox); have n3_ := Aside0.mk (szb hg); have n4_ := Aside0.mk (szb hg); clear HO_3 HB; revert n0_ n1_ n2_ n3_ n4_; intro HO_3 HB BK208 GW208 GE208; clear hb hbox hg; obtain ⟨hcz7_0, hcz7_1, hcz7_2, hfz7_0, hfz7_1, hfz7_2⟩ := cs3 BK208) | ((with_reducible refine gate_builtin (b := .append) (xs := #[.tmp 13, .tmp 15]) rfl ?_); at_builtin; refine Kd.R_append k149 (w0 := w) w.heap.size rfl (.tmp 13) (.tmp 15) 118 149 (.agg #[(.int .i32 0), (.int .i64 0), (.int .i64 0)]) 24 rfl Tryz.underlying118 info149 rfl (by decide) (by omega) u3 x3_1 (⟨t205, t206, t207⟩ : S149) [.int .i32 t205, .int .i64 t206, .int .i64 t207] (fun k_ => k_ ≠ gb208) (fun _ => False) rfl (by first | (go_simp; done) | (go_simp; rfl)) ?aP (fun _ hk => hk.elim) ?aF ?aO ?aB ?aS ?aL ?_; (case aP => exact k149_mkM _ _ _ (⟨t205, t206, t207⟩ : S149)); (case aB => exact bel); (case aF => exact (fun k_ hk => Kd.freshB (g := gb208) (o := .cells #[.int .i32 t205, .int .i64 t206, .int .i64 t207] 149 (0, 0)) (by (with_reducible repeat (first | refine blk_drewN ?_ _ | refine blk_drew ?_ | refine blk_alloc ?_ _)); refine blk_put (cs := #[.int .i32 t205, .int .i64 t206, .int .i64 0]) ?_ 2 _ rfl; (with_reducible repeat (first | refine blk_drewN ?_ _ | refine blk_drew ?_ | refine blk_alloc ?_ _)); refine blk_put (cs := #[.int .i32 t205, .int .i64 0, .int .i64 0]) ?_ 1 _ rfl; (with_reducible repeat (first | refine blk_drewN ?_ _ | refine blk_drew ?_ | refine blk_alloc ?_ _)); refine blk_put (cs := #[.int .i32 0, .int .i64 0, .int .i64 0]) ?_ 0 _ rfl; (with_reducible repeat (first | refine blk_drewN ?_ _ | refine blk_drew ?_ | refine blk_alloc ?_ _)); exact BK208.out) k_ hk)); (case aO => exact (by (with_reducible repeat (first | apply Kd.R_alloc | apply Kd.R_drewN | apply Kd.R_drew)); exact Kd.R_mono (Kd.R_far (p := ⟨gb208, 2, none⟩) (Kd.R_far (p := ⟨gb208, 1, none⟩) (Kd.R_far (p := ⟨gb208, 0, none⟩) (Kd.R_mono HO_3.out (fun k_ hk => (⟨hk, hk.2⟩ : _ ∧ k_ ≠ gb208))) (fun _ hk => hk.2) (.int .i32 t205)) (fun _ hk => hk.2) (.int .i64 t206)) (fun _ hk => hk.2) (.int .i64 t207)) (fun _ hk => hk.1.2))); (case aS => exact (below_size bel)); (case aL => have := LMc4.out; omega); intro v210 w8 ho hb hg hat; rw [← Ny209.out] at ho; have n0_ := Aside0.mk (blk_grown (g := gb208) (o := .cells #[.int .i32 t205, .int .i64 t206, .int .i64 t207] 149 (0, 0)) (by (with_reducible repeat (first | refine blk_drewN ?_ _ | refine blk_drew ?_ | refine blk_alloc ?_ _)); refine blk_put (cs := #[.int .i32 t205, .int .i64 t206, .int .i64 0]) ?_ 2 _ rfl; (with_reducible repeat (first | refine blk_drewN ?_ _ | refine blk_drew ?_ | refine blk_alloc ?_ _)); refine blk_put (cs := #[.int .i32 t205, .int .i64 0, .int .i64 0]) ?_ 1 _ rfl; (with_reducible repeat (first | refine blk_drewN ?_ _ | refine blk_drew ?_ | refine blk_alloc ?_ _)); refine blk_put (cs := #[.int .i32 0, .int .i64 0, .int .i64 0]) ?_ 0 _ rfl; (with_reducible repeat (first | refine blk_drewN ?_ _ | refine blk_drew ?_ | refine blk_alloc ?_ _)); exact BK208.out) hg (Kd.R_away HO_3.out (fun _ hk => hk.2))); have n1_ := Aside0.mk (hb); have n2_ := Aside0.mk (ho); clear BK208 HB HO_3; revert n0_ n1_ n2_; intro BK208 HB HO211; clear ho hb hg hat; obtain ⟨hcz9_0, hcz9_1, hcz9_2, hfz9_0, hfz9_1, hfz9_2⟩ := cs3 BK208))
     go_roundg k1
     case measure => have := HK1.out; omega
     case rel => exact ⟨(y209), (wrap64 (x4_1 + t207)), eqs, H', ⟨by have := HK1.out; omega⟩, ⟨by (with_reducible repeat (first | apply Kd.R_alloc | apply Kd.R_drewN | apply Kd.R_drew)); exact Kd.R_mono HO211.out (fun _ hk => trivial)⟩, ⟨bel⟩⟩
    ·rw [if_neg c4] at H
     exact absurd H (by simp)
   ·rw [if_neg c2] at H
    have c2b0 := decide_eq_false c2
    clear c2
    obtain rfl := Option.some.inj H
    go_wp2
    go_ret
    exact ⟨_, eqv, by (with_reducible repeat (first | apply Kd.R_alloc | apply Kd.R_drewN | apply Kd.R_drew)); exact HO_3.out, bel⟩
def cells_kind.f (a0 : Int) : Option (Int) := if a0 = 32 then (some 1) else (if a0 = 9 then (some 2) else (some 0))
set_option maxHeartbeats 8000000 in
set_option maxRecDepth 100000 in
theorem cells_kind.calls (a0 : Int) (r : Int) (w : World) (h : cells_kind.f a0 = some r) :
  Calls Tryz.prog 77 #[.int .i32 a0] w fun e w' => e = .returned (.int .u8 r) ∧ Drawn0 w w' := by
 have H : (if a0 = 32 then (some 1) else (if a0 = 9 then (some 2) else (some 0))) = some r := h
 clear h
 by_cases c2 : a0 = 32
 ·rw [if_pos c2] at H
  have c2b0 : (a0 == 32) = true := beq_iff_eq.mpr c2
  have c2b1 : (a0 != 32) = false := bne_eq_false_iff_eq.mpr c2
  clear c2
  obtain rfl := Option.some.inj H
  go_enter Tryz.func77, Tryz.ntmps77
  go_wp2
  go_ret
  exact ⟨by first | rfl | (simp; done) | (simp [*]; done), by repeat (first | exact Drawn0.refl _ | apply Drawn0.step)⟩
 ·rw [if_neg c2] at H
  have c2b0 : (a0 == 32) = false := beq_eq_false_iff_ne.mpr c2
  have c2b1 : (a0 != 32) = true := bne_iff_ne.mpr c2
  by_cases c3 : a0 = 9
  ·rw [if_pos c3] at H
   have c3b0 : (a0 == 9) = true := beq_iff_eq.mpr c3
   have c3b1 : (a0 != 9) = false := bne_eq_false_iff_eq.mpr c3
   clear c3
   obtain rfl := Option.some.inj H
   go_enter Tryz.func77, Tryz.ntmps77
   go_wp2
   go_ret
   exact ⟨by first | rfl | (simp; done) | (simp [*]; done), by repeat (first | exact Drawn0.refl _ | apply Drawn0.step)⟩
  ·rw [if_neg c3] at H
   have c3b0 : (a0 == 9) = false := beq_eq_false_iff_ne.mpr c3
   have c3b1 : (a0 != 9) = true := bne_iff_ne.mpr c3
   obtain rfl := Option.some.inj H
   go_enter Tryz.func77, Tryz.ntmps77
   go_wp2
   go_ret
   exact ⟨by first | rfl | (simp; done) | (simp [*]; done), by repeat (first | exact Drawn0.refl _ | apply Drawn0.step)⟩
end Go.Proofs.YtkeccgkicffieaaGreatDoor.PTopWider
