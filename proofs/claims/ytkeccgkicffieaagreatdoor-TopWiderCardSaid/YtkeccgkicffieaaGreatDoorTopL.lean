/- The walks of span and items.Parts: each computes what its Lean function tells. Conditions: none. -/
import Derived.Test.YtkeccgkicffieaaGreatDoorTopT
namespace Go.Proofs.YtkeccgkicffieaaGreatDoor.PTopWider
open Go.RowKit Go.Proofs.YtkeccgkicffieaaGreatDoorW.PrintWords Go.Proofs.YtkeccgkicffieaaGreatDoorW.PrintLast Go.Proofs.YtkeccgkicffieaaGreatDoorW.PrintMore
attribute [local go_sem] max2_int min2_int max_two min_two max_three min_three max_four min_four
set_option linter.unusedVariables false
set_option linter.unusedSimpArgs false
def items_Parts.l0 : Nat → List Int → List Int → Int → Int → Option (List Int)
 | 0, _, _, _, _ => none
 | k + 1, x3, x7, x8, x9 => if x9 < x8 then (if 0 ≤ x9 then (if x9 < (x7.length : Int) then (if (rd x7 x9) = 2 then (if x3.length < 17592186044416 then (items_Parts.l0 k (x3 ++ [x9]) x7 x8 (wrap64 (x9 + 1))) else (none)) else (items_Parts.l0 k x3 x7 x8 (wrap64 (x9 + 1)))) else (none)) else (none)) else (some x3)
def items_Parts.f (k : Nat) (l0_0 : List (S130)) (l0_1 : List Int) : Option (List Int) := items_Parts.l0 k ([] : List Int) l0_1 (l0_1.length : Int) 0
set_option maxHeartbeats 8000000 in
set_option maxRecDepth 100000 in
theorem items_Parts.calls (k : Nat) (A0_0 : Option Addr) (c0_0 : Nat) (l0_0 : List (S130)) (A0_1 : Option Addr) (c0_1 : Nat) (l0_1 : List Int) (r : List Int) (w : World) (hr0_0 : Kd.C k130 w A0_0 l0_0.length l0_0) (hc0_0 : l0_0.length ≤ c0_0) (hr0_1 : Kd.C (Kd.int .u8) w A0_1 l0_1.length l0_1) (hc0_1 : l0_1.length ≤ c0_1) (h : items_Parts.f k l0_0 l0_1 = some r) :
  Calls Tryz.prog 31 #[.agg #[.slice A0_0 l0_0.length c0_0, .slice A0_1 l0_1.length c0_1]] w fun e w' => ∃ v0_ : Value, e = .returned (v0_) ∧ Kd.R (Kd.int .i64) 3 w' w.heap.size (fun _ => True) v0_ r ∧ Below w.heap.size w w' := by
 have hu74 := Tryz.underlying74
 have HR0_0 := Aside0.mk hr0_0
 have HC0_0 := Aside0.mk hc0_0
 clear hr0_0 hc0_0
 have HR0_1 := Aside0.mk hr0_1
 have HC0_1 := Aside0.mk hc0_1
 clear hr0_1 hc0_1
 have HB := Aside0.mk (Below.refl w.heap.size w)
 have H : (items_Parts.l0 k ([] : List Int) l0_1 (l0_1.length : Int) 0) = some r := h
 clear h
 have H' := Aside0.mk H
 clear H
 go_enter Tryz.func31, Tryz.ntmps31
 go_wp2_with (first | ((with_reducible refine gate_dst (N := 1) rfl ?_); refine box_ev (N := 1) (cs := #[.slice A0_0 l0_0.length c0_0, .slice A0_1 l0_1.length c0_1]) (t := 74) ?_; intro gb236 hg w2 hbox hb; have n0_ := Aside0.mk (below_step bel hb); have n1_ := Aside0.mk (hbox); have n2_ := Aside0.mk (szb hg); have n3_ := Aside0.mk (szb hg); clear HB; revert n0_ n1_ n2_ n3_; intro HB BK236 GW236 GE236; clear hb hbox hg; obtain ⟨hcz3_0, hcz3_1, hfz3_0, hfz3_1⟩ := cs2 BK236))
 go_loopg [3, 9] k (fun kq v3 v9 w' => ∃ (x3_1 : List Int) (x9_1 : Int), v9 = .int .i64 x9_1 ∧ Aside0 (items_Parts.l0 kq x3_1 l0_1 (l0_1.length : Int) x9_1 = some r) ∧ Aside0 (kq ≤ k) ∧ Aside0 (Kd.R (Kd.int .i64) 3 w' w.heap.size (fun _ => True) v3 x3_1) ∧ Aside0 (w'.heap[gb236]? = some (.cells #[(.slice A0_0 l0_0.length c0_0), (.slice A0_1 l0_1.length c0_1)] 74 (0, 0))) ∧ Aside0 (Below w.heap.size w w'))
 case atStart => exact ⟨(([] : List Int)), (0), eqs, H', ⟨Nat.le_refl _⟩, ⟨by first | exact Kd.R_nil _ _ _ _ _ | exact Kd.N_nil _ _ _ _ _ | exact Kd.V_nil _ _ _ _ _ | exact Kd.Q_nil _ _ _ _ _ | exact Kd.S_nil _ _ _ _ _⟩, ⟨blk⟩, ⟨bel⟩⟩
 case round =>
  clear H'
  try clear p2
  try clear c3
  try clear hcz3_0 hcz3_1 hfz3_0 hfz3_1
  obtain ⟨x3_1, x9_1, rfl, HA, HK1, HO_3, BK236, HB⟩ := hrel
  cases gk with
  | zero => exact absurd HA.out (by simp [items_Parts.l0])
  | succ k1 =>
   have H := HA.out
   clear HA
   simp only [items_Parts.l0] at H
   by_cases c4 : x9_1 < (l0_1.length : Int)
   ·rw [if_pos c4] at H
    have c4b0 := decide_eq_true c4
    clear c4
    by_cases c5 : 0 ≤ x9_1
    ·rw [if_pos c5] at H
     have c5b0 := decide_eq_true c5
     clear c5
     by_cases c6 : x9_1 < (l0_1.length : Int)
     ·rw [if_pos c6] at H
      have c6b0 := decide_eq_true c6
      clear c6
      by_cases c7 : (rd l0_1 x9_1) = 2
      ·rw [if_pos c7] at H
       have c7b0 : ((rd l0_1 x9_1) == 2) = true := beq_iff_eq.mpr c7
       have c7b1 : ((rd l0_1 x9_1) != 2) = false := bne_eq_false_iff_eq.mpr c7
       clear c7
       by_cases c8 : x3_1.length < 17592186044416
       ·rw [if_pos c8] at H
        have LMc8 := Aside0.mk c8
        clear c8
        obtain ⟨y238, hy238⟩ : ∃ y_ : List Int, y_ = (x3_1 ++ [x9_1]) := ⟨_, rfl⟩
        replace H : (items_Parts.l0 k1 y238 l0_1 (l0_1.length : Int) (wrap64 (x9_1 + 1))) = some r := by first | (rw [hy238]; with_reducible exact H) | (have H2_ := (Option.bind_some _ _).symm.trans H; rw [hy238]; with_reducible exact H2_) | (have H2_ := (Option.bind_some _ _).symm.trans H; with_reducible exact H2_) | with_reducible exact H | (rw [hy238]; exact H) | exact H
        have Ny238 := Aside0.mk hy238
        clear hy238
        have H' := Aside0.mk H
        clear H
        have p237 : 0 ≤ (x9_1 : Int) := oda
        have q237 : x9_1 < (l0_1.length : Int) := oda
        obtain ⟨ad237, e237, hx237_0⟩ := Kd.at_int HR0_1.out x9_1 p237 q237
        cases e237
        replace hx237_0 := bc HB hx237_0
        replace p237 := eq_true p237
        replace q237 := eq_true q237
        go_wp2_with (first | ((with_reducible refine gate_builtin (b := .append) (xs := #[.tmp 16, .tmp 18]) rfl ?_); at_builtin; refine Kd.R_append (Kd.int .i64) (w0 := w) w.heap.size rfl (.tmp 16) (.tmp 18) 83 3 (.int .i64 0) 8 rfl Tryz.underlying83 info3 rfl (by decide) (by omega) u3 x3_1 x9_1 [.int .i64 x9_1] (fun _ => True) (fun _ => False) rfl rfl ?aP (fun _ hk => hk.elim) ?aF ?aO ?aB ?aS ?aL ?_; (case aP => exact rfl); (case aB => exact bel); (case aF => exact (fun _ _ => trivial)); (case aO => exact (rua HO_3)); (case aS => exact (below_size bel)); (case aL => have := LMc8.out; omega); intro v239 w9 ho hb hg hat; rw [← Ny238.out] at ho; have n0_ := Aside0.mk (blk_grown (g := gb236) (o := .cells #[.slice A0_0 l0_0.length c0_0, .slice (some ad237) l0_1.length c0_1] 74 (0, 0)) blk hg (Kd.R_ne HO_3.out BK236.out (by decide))); have n1_ := Aside0.mk (hb); have n2_ := Aside0.mk (ho); clear BK236 HB HO_3; revert n0_ n1_ n2_; intro BK236 HB HO240; clear ho hb hg hat))
        go_roundg k1
        case measure => have := HK1.out; omega
        case rel => exact ⟨(y238), (wrap64 (x9_1 + 1)), eqs, H', ⟨by have := HK1.out; omega⟩, ⟨by (with_reducible repeat (first | apply Kd.R_alloc | apply Kd.R_drewN | apply Kd.R_drew)); exact HO240.out⟩, ⟨blk⟩, ⟨bel⟩⟩
       ·rw [if_neg c8] at H
        exact absurd H (by simp)
      ·rw [if_neg c7] at H
       have c7b0 : ((rd l0_1 x9_1) == 2) = false := beq_eq_false_iff_ne.mpr c7
       have c7b1 : ((rd l0_1 x9_1) != 2) = true := bne_iff_ne.mpr c7
       have H' := Aside0.mk H
       clear H
       have p237 : 0 ≤ (x9_1 : Int) := oda
       have q237 : x9_1 < (l0_1.length : Int) := oda
       obtain ⟨ad237, e237, hx237_0⟩ := Kd.at_int HR0_1.out x9_1 p237 q237
       cases e237
       replace hx237_0 := bc HB hx237_0
       replace p237 := eq_true p237
       replace q237 := eq_true q237
       go_wp2
       go_roundg k1
       case measure => have := HK1.out; omega
       case rel => exact ⟨(x3_1), (wrap64 (x9_1 + 1)), eqs, H', ⟨by have := HK1.out; omega⟩, ⟨by (with_reducible repeat (first | apply Kd.R_alloc | apply Kd.R_drewN | apply Kd.R_drew)); exact HO_3.out⟩, ⟨blk⟩, ⟨bel⟩⟩
     ·rw [if_neg c6] at H
      exact absurd H (by simp)
    ·rw [if_neg c5] at H
     exact absurd H (by simp)
   ·rw [if_neg c4] at H
    have c4b0 := decide_eq_false c4
    clear c4
    obtain rfl := Option.some.inj H
    go_wp2
    go_ret
    exact ⟨_, eqv, by (with_reducible repeat (first | apply Kd.R_alloc | apply Kd.R_drewN | apply Kd.R_drew)); exact HO_3.out, bel⟩
def span_Next.f (a0_0 : Int) (a0_1 : Int) (a0_2 : Int) (a0_3 : Int) (a1 : Int) (a2 : Int) : Option (Int) := if a0_3 = 2 then (if a2 = 0 then (none) else (some (wrap64 ((wrap64 (a1 + a2)) - (Int.tmod a1 a2))))) else (some (wrap64 (a1 + a0_2)))
set_option maxHeartbeats 8000000 in
set_option maxRecDepth 100000 in
theorem span_Next.calls (a0_0 : Int) (a0_1 : Int) (a0_2 : Int) (a0_3 : Int) (a1 : Int) (a2 : Int) (r : Int) (w : World) (h : span_Next.f a0_0 a0_1 a0_2 a0_3 a1 a2 = some r) :
  Calls Tryz.prog 96 #[.agg #[.int .i64 a0_0, .int .i64 a0_1, .int .i64 a0_2, .int .u8 a0_3], .int .i64 a1, .int .i64 a2] w fun e w' => e = .returned (.int .i64 r) ∧ Below w.heap.size w w' := by
 have hu130 := Tryz.underlying130
 have HB := Aside0.mk (Below.refl w.heap.size w)
 have H : (if a0_3 = 2 then (if a2 = 0 then (none) else (some (wrap64 ((wrap64 (a1 + a2)) - (Int.tmod a1 a2))))) else (some (wrap64 (a1 + a0_2)))) = some r := h
 clear h
 by_cases c4 : a0_3 = 2
 ·rw [if_pos c4] at H
  have c4b0 : (a0_3 == 2) = true := beq_iff_eq.mpr c4
  have c4b1 : (a0_3 != 2) = false := bne_eq_false_iff_eq.mpr c4
  clear c4
  by_cases c5 : a2 = 0
  ·rw [if_pos c5] at H
   exact absurd H (by simp)
  ·rw [if_neg c5] at H
   have c5b0 : (a2 == 0) = false := beq_eq_false_iff_ne.mpr c5
   have c5b1 : (a2 != 0) = true := bne_iff_ne.mpr c5
   obtain rfl := Option.some.inj H
   go_enter Tryz.func96, Tryz.ntmps96
   go_wp2_with (first | ((with_reducible refine gate_dst (N := 3) rfl ?_); refine box_ev (N := 3) (cs := #[.int .i64 a0_0, .int .i64 a0_1, .int .i64 a0_2, .int .u8 a0_3]) (t := 130) ?_; intro gb241 hg w6 hbox hb; have n0_ := Aside0.mk (below_step bel hb); have n1_ := Aside0.mk (hbox); have n2_ := Aside0.mk (szb hg); have n3_ := Aside0.mk (szb hg); clear HB; revert n0_ n1_ n2_ n3_; intro HB BK241 GW241 GE241; clear hb hbox hg; obtain ⟨hcz7_0, hcz7_1, hcz7_2, hcz7_3, hfz7_0, hfz7_1, hfz7_2, hfz7_3⟩ := cs4 BK241))
   go_ret
   exact ⟨eqv, bel⟩
 ·rw [if_neg c4] at H
  have c4b0 : (a0_3 == 2) = false := beq_eq_false_iff_ne.mpr c4
  have c4b1 : (a0_3 != 2) = true := bne_iff_ne.mpr c4
  obtain rfl := Option.some.inj H
  go_enter Tryz.func96, Tryz.ntmps96
  go_wp2_with (first | ((with_reducible refine gate_dst (N := 3) rfl ?_); refine box_ev (N := 3) (cs := #[.int .i64 a0_0, .int .i64 a0_1, .int .i64 a0_2, .int .u8 a0_3]) (t := 130) ?_; intro gb241 hg w8 hbox hb; have n0_ := Aside0.mk (below_step bel hb); have n1_ := Aside0.mk (hbox); have n2_ := Aside0.mk (szb hg); have n3_ := Aside0.mk (szb hg); clear HB; revert n0_ n1_ n2_ n3_; intro HB BK241 GW241 GE241; clear hb hbox hg; obtain ⟨hcz9_0, hcz9_1, hcz9_2, hcz9_3, hfz9_0, hfz9_1, hfz9_2, hfz9_3⟩ := cs4 BK241))
  go_ret
  exact ⟨eqv, bel⟩
def span_empty.f (a0_0 : Int) (a0_1 : Int) (a0_2 : Int) (a0_3 : Int) : Option (Bool) := if a0_3 = 1 then (some true) else (if a0_3 = 0 then (some (a0_2 == 0)) else (some false))
set_option maxHeartbeats 8000000 in
set_option maxRecDepth 100000 in
theorem span_empty.calls (a0_0 : Int) (a0_1 : Int) (a0_2 : Int) (a0_3 : Int) (r : Bool) (w : World) (h : span_empty.f a0_0 a0_1 a0_2 a0_3 = some r) :
  Calls Tryz.prog 105 #[.agg #[.int .i64 a0_0, .int .i64 a0_1, .int .i64 a0_2, .int .u8 a0_3]] w fun e w' => e = .returned (.bool r) ∧ Below w.heap.size w w' := by
 have hu130 := Tryz.underlying130
 have HB := Aside0.mk (Below.refl w.heap.size w)
 have H : (if a0_3 = 1 then (some true) else (if a0_3 = 0 then (some (a0_2 == 0)) else (some false))) = some r := h
 clear h
 by_cases c2 : a0_3 = 1
 ·rw [if_pos c2] at H
  have c2b0 : (a0_3 == 1) = true := beq_iff_eq.mpr c2
  have c2b1 : (a0_3 != 1) = false := bne_eq_false_iff_eq.mpr c2
  clear c2
  obtain rfl := Option.some.inj H
  go_enter Tryz.func105, Tryz.ntmps105
  go_wp2_with (first | ((with_reducible refine gate_dst (N := 1) rfl ?_); refine box_ev (N := 1) (cs := #[.int .i64 a0_0, .int .i64 a0_1, .int .i64 a0_2, .int .u8 a0_3]) (t := 130) ?_; intro gb242 hg w3 hbox hb; have n0_ := Aside0.mk (below_step bel hb); have n1_ := Aside0.mk (hbox); have n2_ := Aside0.mk (szb hg); have n3_ := Aside0.mk (szb hg); clear HB; revert n0_ n1_ n2_ n3_; intro HB BK242 GW242 GE242; clear hb hbox hg; obtain ⟨hcz4_0, hcz4_1, hcz4_2, hcz4_3, hfz4_0, hfz4_1, hfz4_2, hfz4_3⟩ := cs4 BK242))
  go_ret
  exact ⟨eqv, bel⟩
 ·rw [if_neg c2] at H
  have c2b0 : (a0_3 == 1) = false := beq_eq_false_iff_ne.mpr c2
  have c2b1 : (a0_3 != 1) = true := bne_iff_ne.mpr c2
  by_cases c5 : a0_3 = 0
  ·rw [if_pos c5] at H
   have c5b0 : (a0_3 == 0) = true := beq_iff_eq.mpr c5
   have c5b1 : (a0_3 != 0) = false := bne_eq_false_iff_eq.mpr c5
   clear c5
   obtain rfl := Option.some.inj H
   go_enter Tryz.func105, Tryz.ntmps105
   go_wp2_with (first | ((with_reducible refine gate_dst (N := 1) rfl ?_); refine box_ev (N := 1) (cs := #[.int .i64 a0_0, .int .i64 a0_1, .int .i64 a0_2, .int .u8 a0_3]) (t := 130) ?_; intro gb242 hg w6 hbox hb; have n0_ := Aside0.mk (below_step bel hb); have n1_ := Aside0.mk (hbox); have n2_ := Aside0.mk (szb hg); have n3_ := Aside0.mk (szb hg); clear HB; revert n0_ n1_ n2_ n3_; intro HB BK242 GW242 GE242; clear hb hbox hg; obtain ⟨hcz7_0, hcz7_1, hcz7_2, hcz7_3, hfz7_0, hfz7_1, hfz7_2, hfz7_3⟩ := cs4 BK242))
   go_ret
   exact ⟨eqv, bel⟩
  ·rw [if_neg c5] at H
   have c5b0 : (a0_3 == 0) = false := beq_eq_false_iff_ne.mpr c5
   have c5b1 : (a0_3 != 0) = true := bne_iff_ne.mpr c5
   obtain rfl := Option.some.inj H
   go_enter Tryz.func105, Tryz.ntmps105
   go_wp2_with (first | ((with_reducible refine gate_dst (N := 1) rfl ?_); refine box_ev (N := 1) (cs := #[.int .i64 a0_0, .int .i64 a0_1, .int .i64 a0_2, .int .u8 a0_3]) (t := 130) ?_; intro gb242 hg w8 hbox hb; have n0_ := Aside0.mk (below_step bel hb); have n1_ := Aside0.mk (hbox); have n2_ := Aside0.mk (szb hg); have n3_ := Aside0.mk (szb hg); clear HB; revert n0_ n1_ n2_ n3_; intro HB BK242 GW242 GE242; clear hb hbox hg; obtain ⟨hcz9_0, hcz9_1, hcz9_2, hcz9_3, hfz9_0, hfz9_1, hfz9_2, hfz9_3⟩ := cs4 BK242))
   go_ret
   exact ⟨eqv, bel⟩
def span_Trim.l0 : Nat → Int → Int → List (S130) → List Int → Option (Int)
 | 0, _, _, _, _ => none
 | k + 1, x1, x2, x244000, x244001 => if x2 > x1 then (if 0 ≤ (wrap64 (x2 - 1)) then (if (wrap64 (x2 - 1)) < (x244000.length : Int) then ((span_empty.f ((rd_T130 x244000 (wrap64 (x2 - 1))).f0) ((rd_T130 x244000 (wrap64 (x2 - 1))).f1) ((rd_T130 x244000 (wrap64 (x2 - 1))).f2) ((rd_T130 x244000 (wrap64 (x2 - 1))).f3)).bind fun t245 => (if t245 = true then (span_Trim.l0 k x1 (wrap64 (x2 - 1)) x244000 x244001) else (some x2))) else (none)) else (none)) else (some x2)
def span_Trim.f (k : Nat) (l0_0 : List (S130)) (l0_1 : List Int) (a1 : Int) (a2 : Int) : Option (Int) := span_Trim.l0 k a1 a2 l0_0 l0_1
set_option maxHeartbeats 8000000 in
set_option maxRecDepth 100000 in
theorem span_Trim.calls (k : Nat) (A0_0 : Option Addr) (c0_0 : Nat) (l0_0 : List (S130)) (A0_1 : Option Addr) (c0_1 : Nat) (l0_1 : List Int) (a1 : Int) (a2 : Int) (r : Int) (w : World) (hr0_0 : Kd.C k130 w A0_0 l0_0.length l0_0) (hc0_0 : l0_0.length ≤ c0_0) (hr0_1 : Kd.C (Kd.int .u8) w A0_1 l0_1.length l0_1) (hc0_1 : l0_1.length ≤ c0_1) (h : span_Trim.f k l0_0 l0_1 a1 a2 = some r) :
  Calls Tryz.prog 97 #[.agg #[.slice A0_0 l0_0.length c0_0, .slice A0_1 l0_1.length c0_1], .int .i64 a1, .int .i64 a2] w fun e w' => e = .returned (.int .i64 r) ∧ Below w.heap.size w w' := by
 have hu74 := Tryz.underlying74
 have hu130 := Tryz.underlying130
 have HR0_0 := Aside0.mk hr0_0
 have HC0_0 := Aside0.mk hc0_0
 clear hr0_0 hc0_0
 have HR0_1 := Aside0.mk hr0_1
 have HC0_1 := Aside0.mk hc0_1
 clear hr0_1 hc0_1
 have HB := Aside0.mk (Below.refl w.heap.size w)
 have H : (span_Trim.l0 k a1 a2 l0_0 l0_1) = some r := h
 clear h
 have H' := Aside0.mk H
 clear H
 go_enter Tryz.func97, Tryz.ntmps97
 go_wp2_with (first | ((with_reducible refine gate_dst (N := 3) rfl ?_); refine box_ev (N := 3) (cs := #[.slice A0_0 l0_0.length c0_0, .slice A0_1 l0_1.length c0_1]) (t := 74) ?_; intro gb243 hg w4 hbox hb; have n0_ := Aside0.mk (below_step bel hb); have n1_ := Aside0.mk (hbox); have n2_ := Aside0.mk (szb hg); have n3_ := Aside0.mk (szb hg); clear HB; revert n0_ n1_ n2_ n3_; intro HB BK243 GW243 GE243; clear hb hbox hg))
 go_loopg [2] k (fun kq v2 w' => ∃ (x2_1 : Int), v2 = .int .i64 x2_1 ∧ Aside0 (span_Trim.l0 kq a1 x2_1 l0_0 l0_1 = some r) ∧ Aside0 (kq ≤ k) ∧ Aside0 (w'.heap[gb243]? = some (.cells #[(.slice A0_0 l0_0.length c0_0), (.slice A0_1 l0_1.length c0_1)] 74 (0, 0))) ∧ Aside0 (Below w.heap.size w w'))
 case atStart => exact ⟨(a2), eqs, H', ⟨Nat.le_refl _⟩, ⟨blk⟩, ⟨bel⟩⟩
 case round =>
  clear H'
  try clear p2
  obtain ⟨x2_1, rfl, HA, HK1, BK243, HB⟩ := hrel
  cases gk with
  | zero => exact absurd HA.out (by simp [span_Trim.l0])
  | succ k1 =>
   have H := HA.out
   clear HA
   simp only [span_Trim.l0] at H
   by_cases c5 : x2_1 > a1
   ·rw [if_pos c5] at H
    have c5b0 := decide_eq_true c5
    clear c5
    obtain ⟨ji6, hji6⟩ : ∃ j_ : Int, (wrap64 (x2_1 - 1)) = j_ := ⟨_, rfl⟩
    replace H : (if 0 ≤ (ji6) then (if (ji6) < (l0_0.length : Int) then ((span_empty.f ((rd_T130 l0_0 (ji6)).f0) ((rd_T130 l0_0 (ji6)).f1) ((rd_T130 l0_0 (ji6)).f2) ((rd_T130 l0_0 (ji6)).f3)).bind fun t245 => (if t245 = true then (span_Trim.l0 k1 a1 ji6 l0_0 l0_1) else (some x2_1))) else (none)) else (none)) = some r := by first | (rw [hji6] at H; exact H) | (simp only [hji6] at H ⊢; exact H)
    have hji6w : (IntKind.i64.wrap (x2_1 - 1)) = ji6 := (i64_w _).trans hji6
    by_cases c7 : 0 ≤ (ji6)
    ·rw [if_pos c7] at H
     have c7b0 := decide_eq_true c7
     clear c7
     by_cases c8 : (ji6) < (l0_0.length : Int)
     ·rw [if_pos c8] at H
      have c8b0 := decide_eq_true c8
      clear c8
      replace H := Option.bind_eq_some_iff.mp H
      obtain ⟨t245, A90, H⟩ := H
      replace H : (if t245 = true then (span_Trim.l0 k1 a1 ji6 l0_0 l0_1) else (some x2_1)) = some r := H
      have A9 := Aside0.mk A90
      clear A90
      by_cases c10 : t245 = true
      ·subst c10
       have H1 : (span_Trim.l0 k1 a1 ji6 l0_0 l0_1) = some r := by rw [if_pos rfl] at H; exact H
       clear H
       have H := H1
       clear H1
       have H' := Aside0.mk H
       clear H
       obtain ⟨hcz11_0, hcz11_1, hfz11_0, hfz11_1⟩ := cs2 BK243
       have p244 : 0 ≤ ((ji6) : Int) := oda
       have q244 : (ji6) < (l0_0.length : Int) := oda
       obtain ⟨ad244, e244, hx244_0, hx244_1, hx244_2, hx244_3⟩ := at_T130 HR0_0.out (ji6) p244 q244
       cases e244
       replace hx244_0 := bc HB hx244_0
       replace hx244_1 := bc HB hx244_1
       replace hx244_2 := bc HB hx244_2
       replace hx244_3 := bc HB hx244_3
       replace p244 := eq_true p244
       replace q244 := eq_true q244
       go_wp2_with (first | (go_at_call 105; (with_reducible refine (span_empty.calls ((rd_T130 l0_0 (ji6)).f0) ((rd_T130 l0_0 (ji6)).f1) ((rd_T130 l0_0 (ji6)).f2) ((rd_T130 l0_0 (ji6)).f3) true _ A9.out).mono ?_); rintro e w12 ⟨rfl, hb⟩; have n0_ := Aside0.mk (bbw BK243 hb); have n1_ := Aside0.mk (below_step bel hb); clear BK243 HB; revert n0_ n1_; intro BK243 HB; (try clear hb); (try clear hb2); (try clear hk); (try clear hi)))
       go_roundg k1
       case measure => have := HK1.out; omega
       case rel => exact ⟨(ji6), (by first | rfl | (simp; done) | (simp only [← hji6] <;> (first | rfl | simp)) | (simp [*]; done)), H', ⟨by have := HK1.out; omega⟩, ⟨blk⟩, ⟨bel⟩⟩
      ·replace c10 := Bool.eq_false_iff.mpr c10
       subst c10
       have H1 : (some x2_1) = some r := by rw [if_neg (show ¬ (false = true) by decide)] at H; exact H
       clear H
       have H := H1
       clear H1
       obtain rfl := Option.some.inj H
       obtain ⟨hcz13_0, hcz13_1, hfz13_0, hfz13_1⟩ := cs2 BK243
       have p244 : 0 ≤ ((ji6) : Int) := oda
       have q244 : (ji6) < (l0_0.length : Int) := oda
       obtain ⟨ad244, e244, hx244_0, hx244_1, hx244_2, hx244_3⟩ := at_T130 HR0_0.out (ji6) p244 q244
       cases e244
       replace hx244_0 := bc HB hx244_0
       replace hx244_1 := bc HB hx244_1
       replace hx244_2 := bc HB hx244_2
       replace hx244_3 := bc HB hx244_3
       replace p244 := eq_true p244
       replace q244 := eq_true q244
       go_wp2_with (first | (go_at_call 105; (with_reducible refine (span_empty.calls ((rd_T130 l0_0 (ji6)).f0) ((rd_T130 l0_0 (ji6)).f1) ((rd_T130 l0_0 (ji6)).f2) ((rd_T130 l0_0 (ji6)).f3) false _ A9.out).mono ?_); rintro e w14 ⟨rfl, hb⟩; have n0_ := Aside0.mk (bbw BK243 hb); have n1_ := Aside0.mk (below_step bel hb); clear BK243 HB; revert n0_ n1_; intro BK243 HB; (try clear hb); (try clear hb2); (try clear hk); (try clear hi)))
       go_ret
       exact ⟨by first | rfl | (simp [errW_none, errW_some] <;> rfl) | (simp only [← hji6]; first | rfl | (simp [errW_none, errW_some] <;> rfl)) | (simp [*, errW_none, errW_some] <;> rfl), bel⟩
     ·rw [if_neg c8] at H
      exact absurd H (by simp)
    ·rw [if_neg c7] at H
     exact absurd H (by simp)
   ·rw [if_neg c5] at H
    have c5b0 := decide_eq_false c5
    clear c5
    obtain rfl := Option.some.inj H
    go_wp2
    go_ret
    exact ⟨eqv, bel⟩
def span_Ends.f (l0_0 : List (S130)) (l0_1 : List Int) (a1 : Int) : Option (Int × Bool) := if 0 ≤ a1 then (if a1 < (l0_1.length : Int) then (some (rd l0_1 a1, ((rd l0_1 a1) != 0))) else (none)) else (none)
set_option maxHeartbeats 8000000 in
set_option maxRecDepth 100000 in
theorem span_Ends.calls (A0_0 : Option Addr) (c0_0 : Nat) (l0_0 : List (S130)) (A0_1 : Option Addr) (c0_1 : Nat) (l0_1 : List Int) (a1 : Int) (r1 : Int) (r2 : Bool) (w : World) (hr0_0 : Kd.C k130 w A0_0 l0_0.length l0_0) (hc0_0 : l0_0.length ≤ c0_0) (hr0_1 : Kd.C (Kd.int .u8) w A0_1 l0_1.length l0_1) (hc0_1 : l0_1.length ≤ c0_1) (h : span_Ends.f l0_0 l0_1 a1 = some (r1, r2)) :
  Calls Tryz.prog 98 #[.agg #[.slice A0_0 l0_0.length c0_0, .slice A0_1 l0_1.length c0_1], .int .i64 a1] w fun e w' => e = .returned (.tuple #[.int .u8 r1, .bool r2]) ∧ Below w.heap.size w w' := by
 have hu74 := Tryz.underlying74
 have HR0_0 := Aside0.mk hr0_0
 have HC0_0 := Aside0.mk hc0_0
 clear hr0_0 hc0_0
 have HR0_1 := Aside0.mk hr0_1
 have HC0_1 := Aside0.mk hc0_1
 clear hr0_1 hc0_1
 have HB := Aside0.mk (Below.refl w.heap.size w)
 have H : (if 0 ≤ a1 then (if a1 < (l0_1.length : Int) then (some (rd l0_1 a1, ((rd l0_1 a1) != 0))) else (none)) else (none)) = some (r1, r2) := h
 clear h
 by_cases c3 : 0 ≤ a1
 ·rw [if_pos c3] at H
  have c3b0 := decide_eq_true c3
  clear c3
  by_cases c4 : a1 < (l0_1.length : Int)
  ·rw [if_pos c4] at H
   have c4b0 := decide_eq_true c4
   clear c4
   simp only [Option.some.injEq, Prod.mk.injEq] at H
   obtain ⟨rfl, rfl⟩ := H
   go_enter Tryz.func98, Tryz.ntmps98
   go_wp2_with (first | ((with_reducible refine gate_dst (N := 2) rfl ?_); refine box_ev (N := 2) (cs := #[.slice A0_0 l0_0.length c0_0, .slice A0_1 l0_1.length c0_1]) (t := 74) ?_; intro gb246 hg w5 hbox hb; have n0_ := Aside0.mk (below_step bel hb); have n1_ := Aside0.mk (hbox); have n2_ := Aside0.mk (szb hg); have n3_ := Aside0.mk (szb hg); clear HB; revert n0_ n1_ n2_ n3_; intro HB BK246 GW246 GE246; clear hb hbox hg; obtain ⟨hcz6_0, hcz6_1, hfz6_0, hfz6_1⟩ := cs2 BK246; have p247 : 0 ≤ (a1 : Int) := oda; have q247 : a1 < (l0_1.length : Int) := oda; obtain ⟨ad247, e247, hx247_0⟩ := Kd.at_int HR0_1.out a1 p247 q247; cases e247; replace hx247_0 := bc HB hx247_0; replace p247 := eq_true p247; replace q247 := eq_true q247; have p248 : 0 ≤ (a1 : Int) := oda; have q248 : a1 < (l0_1.length : Int) := oda; obtain ⟨ad248, e248, hx248_0⟩ := Kd.at_int HR0_1.out a1 p248 q248; obtain rfl : ad247 = ad248 := (by injection e248); replace hx248_0 := bc HB hx248_0; replace p248 := eq_true p248; replace q248 := eq_true q248))
   repeat (go_quiet (first | ((with_reducible refine gate_dst (N := 2) rfl ?_); refine box_ev (N := 2) (cs := #[.slice A0_0 l0_0.length c0_0, .slice A0_1 l0_1.length c0_1]) (t := 74) ?_; intro gb246 hg w5 hbox hb; have n0_ := Aside0.mk (below_step bel hb); have n1_ := Aside0.mk (hbox); have n2_ := Aside0.mk (szb hg); have n3_ := Aside0.mk (szb hg); clear HB; revert n0_ n1_ n2_ n3_; intro HB BK246 GW246 GE246; clear hb hbox hg; obtain ⟨hcz6_0, hcz6_1, hfz6_0, hfz6_1⟩ := cs2 BK246; have p247 : 0 ≤ (a1 : Int) := oda; have q247 : a1 < (l0_1.length : Int) := oda; obtain ⟨ad247, e247, hx247_0⟩ := Kd.at_int HR0_1.out a1 p247 q247; cases e247; replace hx247_0 := bc HB hx247_0; replace p247 := eq_true p247; replace q247 := eq_true q247; have p248 : 0 ≤ (a1 : Int) := oda; have q248 : a1 < (l0_1.length : Int) := oda; obtain ⟨ad248, e248, hx248_0⟩ := Kd.at_int HR0_1.out a1 p248 q248; obtain rfl : ad247 = ad248 := (by injection e248); replace hx248_0 := bc HB hx248_0; replace p248 := eq_true p248; replace q248 := eq_true q248)); try go_wp2_with (first | ((with_reducible refine gate_dst (N := 2) rfl ?_); refine box_ev (N := 2) (cs := #[.slice A0_0 l0_0.length c0_0, .slice A0_1 l0_1.length c0_1]) (t := 74) ?_; intro gb246 hg w5 hbox hb; have n0_ := Aside0.mk (below_step bel hb); have n1_ := Aside0.mk (hbox); have n2_ := Aside0.mk (szb hg); have n3_ := Aside0.mk (szb hg); clear HB; revert n0_ n1_ n2_ n3_; intro HB BK246 GW246 GE246; clear hb hbox hg; obtain ⟨hcz6_0, hcz6_1, hfz6_0, hfz6_1⟩ := cs2 BK246; have p247 : 0 ≤ (a1 : Int) := oda; have q247 : a1 < (l0_1.length : Int) := oda; obtain ⟨ad247, e247, hx247_0⟩ := Kd.at_int HR0_1.out a1 p247 q247; cases e247; replace hx247_0 := bc HB hx247_0; replace p247 := eq_true p247; replace q247 := eq_true q247; have p248 : 0 ≤ (a1 : Int) := oda; have q248 : a1 < (l0_1.length : Int) := oda; obtain ⟨ad248, e248, hx248_0⟩ := Kd.at_int HR0_1.out a1 p248 q248; obtain rfl : ad247 = ad248 := (by injection e248); replace hx248_0 := bc HB hx248_0; replace p248 := eq_true p248; replace q248 := eq_true q248)))
   go_ret2
   exact ⟨eqv, bel⟩
  ·rw [if_neg c4] at H
   exact absurd H (by simp)
 ·rw [if_neg c3] at H
  exact absurd H (by simp)
def span_Columns.l0 : Nat → Int → Int → List Int → Int → List (S130) → List Int → Option (List Int)
 | 0, _, _, _, _, _, _ => none
 | k + 1, x2, x3, x9, x10, x264000, x264001 => if x10 < x2 then (if 0 ≤ x10 then (if x10 < (x264000.length : Int) then (if 0 ≤ (wrap64 ((x9.length : Int) - 1)) then (if (wrap64 ((x9.length : Int) - 1)) < (x9.length : Int) then ((span_Next.f ((rd_T130 x264000 x10).f0) ((rd_T130 x264000 x10).f1) ((rd_T130 x264000 x10).f2) ((rd_T130 x264000 x10).f3) (rd x9 (wrap64 ((x9.length : Int) - 1))) x3).bind fun t269 => (if x9.length < 17592186044416 then (span_Columns.l0 k x2 x3 (x9 ++ [t269]) (wrap64 (x10 + 1)) x264000 x264001) else (none))) else (none)) else (none)) else (none)) else (none)) else (some x9)
def span_Columns.f (k : Nat) (l0_0 : List (S130)) (l0_1 : List Int) (a1 : Int) (a2 : Int) (a3 : Int) : Option (List Int) := span_Columns.l0 k a2 a3 (([0] : List Int)) a1 l0_0 l0_1
def span_Columns.T5 : Bool × List (List Nat × List Nat) := (true, [([], []), ([], []), ([1], [1]), ([], []), ([2, 3], [2, 3]), ([4], [4]), ([], []), ([], []), ([7], [7]), ([8], [8]), ([6, 9], [6, 9]), ([10], [10]), ([], []), ([5, 11, 12], [5, 11, 12]), ([13], [13]), ([0, 14, 13], [0, 14]), ([15, 15, 0, 1, 2, 3, 4, 5, 6, 7, 8, 9, 10, 11, 12, 13, 14, 15], [0, 6, 7, 15])])
def span_Columns.B5 : List Nat := [0, 0, 2, 0, 14, 30, 0, 0, 128, 384, 960, 1984, 0, 8190, 16382, 32767, 65535]
theorem span_Columns.tab5 : rtab .any (opsOf Tryz.f109 5) = span_Columns.T5 := by kernel_rfl
theorem span_Columns.bits5 : waitsOk span_Columns.T5.2 span_Columns.B5 = true := by kernel_rfl
set_option maxHeartbeats 8000000 in
set_option maxRecDepth 100000 in
theorem span_Columns.calls (k : Nat) (A0_0 : Option Addr) (c0_0 : Nat) (l0_0 : List (S130)) (A0_1 : Option Addr) (c0_1 : Nat) (l0_1 : List Int) (a1 : Int) (a2 : Int) (a3 : Int) (r : List Int) (w : World) (hr0_0 : Kd.C k130 w A0_0 l0_0.length l0_0) (hc0_0 : l0_0.length ≤ c0_0) (hr0_1 : Kd.C (Kd.int .u8) w A0_1 l0_1.length l0_1) (hc0_1 : l0_1.length ≤ c0_1) (h : span_Columns.f k l0_0 l0_1 a1 a2 a3 = some r) :
  Calls Tryz.prog 109 #[.agg #[.slice A0_0 l0_0.length c0_0, .slice A0_1 l0_1.length c0_1], .int .i64 a1, .int .i64 a2, .int .i64 a3] w fun e w' => ∃ v0_ : Value, e = .returned (v0_) ∧ Kd.R (Kd.int .i64) 3 w' w.heap.size (fun _ => True) v0_ r ∧ Below w.heap.size w w' := by
 have hu74 := Tryz.underlying74
 have hu130 := Tryz.underlying130
 have HR0_0 := Aside0.mk hr0_0
 have HC0_0 := Aside0.mk hc0_0
 clear hr0_0 hc0_0
 have HR0_1 := Aside0.mk hr0_1
 have HC0_1 := Aside0.mk hc0_1
 clear hr0_1 hc0_1
 have HB := Aside0.mk (Below.refl w.heap.size w)
 have H : (span_Columns.l0 k a2 a3 (([0] : List Int)) a1 l0_0 l0_1) = some r := h
 clear h
 obtain ⟨y264, hy264⟩ : ∃ y_ : List Int, y_ = (([0] : List Int)) := ⟨_, rfl⟩
 replace H : (span_Columns.l0 k a2 a3 y264 a1 l0_0 l0_1) = some r := by first | (rw [hy264]; with_reducible exact H) | (have H2_ := (Option.bind_some _ _).symm.trans H; rw [hy264]; with_reducible exact H2_) | (have H2_ := (Option.bind_some _ _).symm.trans H; with_reducible exact H2_) | with_reducible exact H | (rw [hy264]; exact H) | exact H
 have Ny264 := Aside0.mk hy264
 clear hy264
 have H' := Aside0.mk H
 clear H
 go_enter Tryz.func109, Tryz.ntmps109
 go_wp2_with (first | ((with_reducible refine gate_dst (N := 4) rfl ?_); refine box_ev (N := 4) (cs := #[.slice A0_0 l0_0.length c0_0, .slice A0_1 l0_1.length c0_1]) (t := 74) ?_; intro gb263 hg w5 hbox hb; have n0_ := Aside0.mk (below_step bel hb); have n1_ := Aside0.mk (hbox); have n2_ := Aside0.mk (szb hg); have n3_ := Aside0.mk (szb hg); clear HB; revert n0_ n1_ n2_ n3_; intro HB BK263 GW263 GE263; clear hb hbox hg) | ((with_reducible refine gate_dst (N := 11) rfl ?_); refine Kd.R_lit (Kd.int .i64) _ 3 ?hg (N := 11) ?hd (xs := ([0] : List Int)) (inner := [.int .i64 0]) (ok := fun _ => True) (okp := fun _ => True) ?hr ?hp (fun _ hk => hk) trivial (Below.refl _ _) (Nat.le_refl _) (by simp) ?_; (case hd => rfl); (case hg => rfl); (case hr => first | (go_simp; done) | (go_simp; rfl)); (case hp => exact (Reps.one (show Kd.M (Kd.int .i64) _ _ _ 0 [.int .i64 0] from rfl) (Reps.none _ _))); intro v265 w6 ho7 hb hg_ hnew_; clear hg_ hnew_; (first | rw [← Ny264.out] at ho7 | (simp only [Int.reduceToNat] at ho7; rw [← Ny264.out] at ho7)); have n0_ := Aside0.mk (Kd.R_lower ho7 (below_size bel)); have n1_ := Aside0.mk (bbw BK263 hb); have n2_ := Aside0.mk (below_step bel hb); clear BK263 HB; revert n0_ n1_ n2_; intro HO266 BK263 HB; clear hb ho7))
 go_loopg [9, 10] k (fun kq v9 v10 w' => ∃ (x9_1 : List Int) (x10_1 : Int), v10 = .int .i64 x10_1 ∧ Aside0 (span_Columns.l0 kq a2 a3 x9_1 x10_1 l0_0 l0_1 = some r) ∧ Aside0 (kq ≤ k) ∧ Aside0 (Kd.R (Kd.int .i64) 3 w' w.heap.size (fun _ => True) v9 x9_1) ∧ Aside0 (w'.heap[gb263]? = some (.cells #[(.slice A0_0 l0_0.length c0_0), (.slice A0_1 l0_1.length c0_1)] 74 (0, 0))) ∧ Aside0 (Below w.heap.size w w'))
 case atStart => exact ⟨(y264), (a1), eqs, H', ⟨Nat.le_refl _⟩, ⟨by (with_reducible repeat (first | apply Kd.R_alloc | apply Kd.R_drewN | apply Kd.R_drew)); exact HO266.out⟩, ⟨blk⟩, ⟨bel⟩⟩
 case round =>
  clear H'
  try clear c1
  try clear p2
  obtain ⟨x9_1, x10_1, rfl, HA, HK1, HO_9, BK263, HB⟩ := hrel
  cases gk with
  | zero => exact absurd HA.out (by simp [span_Columns.l0])
  | succ k1 =>
   have H := HA.out
   clear HA
   simp only [span_Columns.l0] at H
   by_cases c8 : x10_1 < a2
   ·rw [if_pos c8] at H
    have c8b0 := decide_eq_true c8
    clear c8
    by_cases c9 : 0 ≤ x10_1
    ·rw [if_pos c9] at H
     have c9b0 := decide_eq_true c9
     clear c9
     by_cases c10 : x10_1 < (l0_0.length : Int)
     ·rw [if_pos c10] at H
      have c10b0 := decide_eq_true c10
      clear c10
      obtain ⟨ji11, hji11⟩ : ∃ j_ : Int, (wrap64 ((x9_1.length : Int) - 1)) = j_ := ⟨_, rfl⟩
      replace H : (if 0 ≤ (ji11) then (if (ji11) < (x9_1.length : Int) then ((span_Next.f ((rd_T130 l0_0 x10_1).f0) ((rd_T130 l0_0 x10_1).f1) ((rd_T130 l0_0 x10_1).f2) ((rd_T130 l0_0 x10_1).f3) (rd x9_1 (ji11)) a3).bind fun t269 => (if x9_1.length < 17592186044416 then (span_Columns.l0 k1 a2 a3 (x9_1 ++ [t269]) (wrap64 (x10_1 + 1)) l0_0 l0_1) else (none))) else (none)) else (none)) = some r := by first | (rw [hji11] at H; exact H) | (simp only [hji11] at H ⊢; exact H)
      have hji11w : (IntKind.i64.wrap ((x9_1.length : Int) - 1)) = ji11 := (i64_w _).trans hji11
      by_cases c12 : 0 ≤ (ji11)
      ·rw [if_pos c12] at H
       have c12b0 := decide_eq_true c12
       clear c12
       by_cases c13 : (ji11) < (x9_1.length : Int)
       ·rw [if_pos c13] at H
        have c13b0 := decide_eq_true c13
        clear c13
        replace H := Option.bind_eq_some_iff.mp H
        obtain ⟨t269, A140, H⟩ := H
        replace H : (if x9_1.length < 17592186044416 then (span_Columns.l0 k1 a2 a3 (x9_1 ++ [t269]) (wrap64 (x10_1 + 1)) l0_0 l0_1) else (none)) = some r := H
        have A14 := Aside0.mk A140
        clear A140
        by_cases c15 : x9_1.length < 17592186044416
        ·rw [if_pos c15] at H
         have LMc15 := Aside0.mk c15
         clear c15
         obtain ⟨y270, hy270⟩ : ∃ y_ : List Int, y_ = (x9_1 ++ [t269]) := ⟨_, rfl⟩
         replace H : (span_Columns.l0 k1 a2 a3 y270 (wrap64 (x10_1 + 1)) l0_0 l0_1) = some r := by first | (rw [hy270]; with_reducible exact H) | (have H2_ := (Option.bind_some _ _).symm.trans H; rw [hy270]; with_reducible exact H2_) | (have H2_ := (Option.bind_some _ _).symm.trans H; with_reducible exact H2_) | with_reducible exact H | (rw [hy270]; exact H) | exact H
         have Ny270 := Aside0.mk hy270
         clear hy270
         have H' := Aside0.mk H
         clear H
         try go_wp2
         have n0_ := Aside0.mk (Kd.R_drew HO_9.out)
         have n1_ := Aside0.mk (blk_drew BK263.out)
         have n2_ := Aside0.mk (below_drew1 HB.out)
         clear HO_9
         clear BK263
         clear HB
         have HO_9 := n0_
         have BK263 := n1_
         have HB := n2_
         clear n0_ n1_ n2_
         have p267 : 0 ≤ (x10_1 : Int) := oda
         have q267 : x10_1 < (l0_0.length : Int) := oda
         obtain ⟨ad267, e267, hx267_0, hx267_1, hx267_2, hx267_3⟩ := at_T130 HR0_0.out x10_1 p267 q267
         have hw267_3 := hx267_3
         have hw267_2 := hx267_2
         have hw267_1 := hx267_1
         have hw267_0 := hx267_0
         cases e267
         replace hx267_0 := bc HB hx267_0
         replace hx267_1 := bc HB hx267_1
         replace hx267_2 := bc HB hx267_2
         replace hx267_3 := bc HB hx267_3
         replace p267 := eq_true p267
         replace q267 := eq_true q267
         obtain ⟨Ao17, co17, eo17⟩ := Kd.R_slice HO_9.out
         (first | subst eo17 | (injection eo17 with f1_ f2_ f3_; have f4_ := f1_.symm; have f5_ := f3_.symm; clear f1_ f2_ f3_; subst f4_; subst f5_))
         have p268 : 0 ≤ ((ji11) : Int) := oda
         have q268 : (ji11) < (x9_1.length : Int) := oda
         obtain ⟨ad268, e268, hx268_0⟩ := Kd.at_int (Kd.R_reads' HO_9.out).2.2 (ji11) p268 q268
         cases e268
         replace p268 := eq_true p268
         replace q268 := eq_true q268
         refine start_ (n := 17) (S := fun w' => w'.cell? ⟨gb263, 0, none⟩ = some (.slice (some ad267) l0_0.length c0_0) ∧ w'.cell? ⟨gb263, 1, none⟩ = some (.slice A0_1 l0_1.length c0_1) ∧ w'.cell? (ad267.add ((x10_1).toNat * 4)) = some (.int .i64 ((rd_T130 l0_0 x10_1).f0)) ∧ w'.cell? ⟨(ad267.add ((x10_1).toNat * 4)).block, (ad267.add ((x10_1).toNat * 4)).off + 1, none⟩ = some (.int .i64 ((rd_T130 l0_0 x10_1).f1)) ∧ w'.cell? ⟨(ad267.add ((x10_1).toNat * 4)).block, (ad267.add ((x10_1).toNat * 4)).off + 2, none⟩ = some (.int .i64 ((rd_T130 l0_0 x10_1).f2)) ∧ w'.cell? ⟨(ad267.add ((x10_1).toNat * 4)).block, (ad267.add ((x10_1).toNat * 4)).off + 3, none⟩ = some (.int .u8 ((rd_T130 l0_0 x10_1).f3)) ∧ w'.cell? (ad268.add ((ji11)).toNat) = some (.int .i64 (rd x9_1 (ji11)))) (ds := [14, 15]) #[false, false, false, false, false, false, false, false, false, false, false, false, false, false, false, false, false] (by kernel_rfl) rfl rfl ⟨(blk_cell BK263.out 0).trans rfl, (blk_cell BK263.out 1).trans rfl, ((HB.out.cell (World.block_lt_of_cell? w _ hw267_0)).trans hw267_0), ((HB.out.cell (World.block_lt_of_cell? w _ hw267_1)).trans hw267_1), ((HB.out.cell (World.block_lt_of_cell? w _ hw267_2)).trans hw267_2), ((HB.out.cell (World.block_lt_of_cell? w _ hw267_3)).trans hw267_3), hx268_0⟩ (fun hHeld => ?_); refine with_tabW span_Columns.tab5 span_Columns.bits5 (fun HT_ HW_ => ?_)
         generalize wr.drew = w16 at HO_9 BK263 HB hx267_0 hx267_1 hx267_2 hx267_3 hx268_0 hHeld ⊢
         refine pu 0 (some 18) ?_
         refine pu 1 (some 19) ?_
         refine pu 3 (some 21) ?_
         refine pu 6 (some 24) ?_
         refine pu 7 (some 25) ?_
         refine pu 8 (some 26) ?_
         refine pu 9 (some 27) ?_
         refine pu 10 (some 28) ?_
         refine pu 12 (some 30) ?_
         refine tr 2 (some 20) hHeld ?_
         refine pu 4 (some 22) ?_
         refine tr 5 (some 23) hHeld ?_
         refine tr 11 (some 29) hHeld ?_
         refine on 13 (some 31) fun K hK => ?_
         refine goes_ Tryz.func96 (by kernel_rfl) rfl #[.agg #[.int .i64 ((rd_T130 l0_0 x10_1).f0), .int .i64 ((rd_T130 l0_0 x10_1).f1), .int .i64 ((rd_T130 l0_0 x10_1).f2), .int .u8 ((rd_T130 l0_0 x10_1).f3)], .int .i64 (rd x9_1 (ji11)), .int .i64 a3] (by rfl) rfl rfl (by (try simp only [List.map_toArray, List.map_cons, List.map_nil]); first | done | (simp only [hji11]; rfl) | rfl | (simp only [List.length_drop, List.length_take]; rfl)) ?_
         with_reducible refine (span_Next.calls ((rd_T130 l0_0 x10_1).f0) ((rd_T130 l0_0 x10_1).f1) ((rd_T130 l0_0 x10_1).f2) ((rd_T130 l0_0 x10_1).f3) (rd x9_1 (ji11)) a3 t269 _ A14.out).mono ?_
         rintro e w18 ⟨rfl, hb⟩
         have HS6_ := (hb.cell (World.block_lt_of_cell? _ _ (hHeld.2.2.2.2.2.2))).trans (hHeld.2.2.2.2.2.2)
         refine ⟨_, rfl, ?_⟩
         have n0_ := Aside0.mk (Kd.R_below (rua HO_9) hb)
         have n1_ := Aside0.mk (bbw BK263 hb)
         have n2_ := Aside0.mk (below_step bel hb)
         clear HO_9
         clear BK263
         clear HB
         have HO_9 := n0_
         have BK263 := n1_
         have HB := n2_
         clear n0_ n1_ n2_
         (try clear hb)
         (try clear hb2)
         (try clear hk)
         (try clear hi)
         refine hK.out _ _ ⟨(blk_cell BK263.out 0).trans rfl, (blk_cell BK263.out 1).trans rfl, ((HB.out.cell (World.block_lt_of_cell? w _ hw267_0)).trans hw267_0), ((HB.out.cell (World.block_lt_of_cell? w _ hw267_1)).trans hw267_1), ((HB.out.cell (World.block_lt_of_cell? w _ hw267_2)).trans hw267_2), ((HB.out.cell (World.block_lt_of_cell? w _ hw267_3)).trans hw267_3), HS6_⟩ (fun hHeld => ?_)
         clear hK K
         refine nrm 31 ?_
         refine la 14 (some 32) fun K hK => ?_
         refine value_ (w1 := ?_) (v := ?_) (by rfl) rfl ?_ ?_
         rotate_left 2
         ·go_simp
          constructor
          ·rfl
          ·rfl
         refine hK.out _ _ ?_
         clear hK K
         refine nrm 32 ?_
         refine la 15 (some 33) fun K hK => ?_
         refine Kd.R_append_step (Kd.int .i64) (w0 := w) w.heap.size (by rfl) (.tmp 18) (.tmp 32) 83 3 (.int .i64 0) 8 rfl Tryz.underlying83 info3 rfl (by decide) (by omega) (.slice (some ad268) x9_1.length co17) x9_1 t269 [.int .i64 t269] (fun _ => True) (fun _ => False) rfl rfl ?aP (fun _ hk => hk.elim) ?aF ?aO ?aB ?aS ?aL ?_
         (case aP => exact rfl)
         (case aB => exact bel)
         (case aF => exact (fun _ _ => trivial))
         (case aO => exact (rua HO_9))
         (case aS => exact (below_size bel))
         (case aL => have := LMc15.out; omega)
         intro v271 w19 ho hb hg hat
         rw [← Ny270.out] at ho
         have n0_ := Aside0.mk (blk_grown (g := gb263) (o := .cells #[.slice (some ad267) l0_0.length c0_0, .slice A0_1 l0_1.length c0_1] 74 (0, 0)) blk hg (Kd.R_ne HO_9.out BK263.out (by decide)))
         have n1_ := Aside0.mk (hb)
         have n2_ := Aside0.mk (ho)
         clear BK263
         clear HB
         clear HO_9
         have BK263 := n0_
         have HB := n1_
         have HO272 := n2_
         clear n0_ n1_ n2_
         clear ho hb hg hat
         refine hK.out _ _ ?_
         clear hK K
         refine nrm 33 ?_
         refine pu 16 (some 9) ?_
         refine done_ (done_of HT_.out (by kernel_rfl)) ?_
         try go_wp2
         go_roundg k1
         case measure => have := HK1.out; omega
         case rel => exact ⟨(y270), (wrap64 (x10_1 + 1)), eqs, H', ⟨by have := HK1.out; omega⟩, ⟨by (with_reducible repeat (first | apply Kd.R_alloc | apply Kd.R_drewN | apply Kd.R_drew)); exact HO272.out⟩, ⟨blk⟩, ⟨bel⟩⟩
        ·rw [if_neg c15] at H
         exact absurd H (by simp)
       ·rw [if_neg c13] at H
        exact absurd H (by simp)
      ·rw [if_neg c12] at H
       exact absurd H (by simp)
     ·rw [if_neg c10] at H
      exact absurd H (by simp)
    ·rw [if_neg c9] at H
     exact absurd H (by simp)
   ·rw [if_neg c8] at H
    have c8b0 := decide_eq_false c8
    clear c8
    obtain rfl := Option.some.inj H
    go_wp2
    go_ret
    exact ⟨_, eqv, by (with_reducible repeat (first | apply Kd.R_alloc | apply Kd.R_drewN | apply Kd.R_drew)); exact HO_9.out, bel⟩
def span_Cells.f (k : Nat) (l0_0 : List (S130)) (l0_1 : List Int) (a1 : Int) (a2 : Int) (a3 : Int) (a4 : Int) : Option (Int) := (span_Trim.f k l0_0 l0_1 a1 a2).bind fun t274 => ((span_Columns.f k l0_0 l0_1 a1 t274 a4).bind fun t275 => (if 0 ≤ (wrap64 ((t275.length : Int) - 1)) then (if (wrap64 ((t275.length : Int) - 1)) < (t275.length : Int) then (if a3 = 3 then (some (wrap64 ((rd t275 (wrap64 ((t275.length : Int) - 1))) + 1))) else (some (rd t275 (wrap64 ((t275.length : Int) - 1))))) else (none)) else (none)))
def span_Cells.T1 : Bool × List (List Nat × List Nat) := (true, [([], []), ([], []), ([], []), ([], []), ([], []), ([2, 3, 4], [2, 3, 4]), ([], []), ([0, 1, 5, 6, 5], [0, 1, 5, 6]), ([7, 7, 0, 1, 2, 3, 4, 5, 6, 7], [7])])
def span_Cells.B1 : List Nat := [0, 0, 0, 0, 0, 28, 0, 127, 255]
theorem span_Cells.tab1 : rtab .any (opsOf Tryz.f100 1) = span_Cells.T1 := by kernel_rfl
theorem span_Cells.bits1 : waitsOk span_Cells.T1.2 span_Cells.B1 = true := by kernel_rfl
set_option maxHeartbeats 8000000 in
set_option maxRecDepth 100000 in
theorem span_Cells.calls (k : Nat) (A0_0 : Option Addr) (c0_0 : Nat) (l0_0 : List (S130)) (A0_1 : Option Addr) (c0_1 : Nat) (l0_1 : List Int) (a1 : Int) (a2 : Int) (a3 : Int) (a4 : Int) (r : Int) (w : World) (hr0_0 : Kd.C k130 w A0_0 l0_0.length l0_0) (hc0_0 : l0_0.length ≤ c0_0) (hr0_1 : Kd.C (Kd.int .u8) w A0_1 l0_1.length l0_1) (hc0_1 : l0_1.length ≤ c0_1) (h : span_Cells.f k l0_0 l0_1 a1 a2 a3 a4 = some r) :
  Calls Tryz.prog 100 #[.agg #[.slice A0_0 l0_0.length c0_0, .slice A0_1 l0_1.length c0_1], .int .i64 a1, .int .i64 a2, .int .u8 a3, .int .i64 a4] w fun e w' => e = .returned (.int .i64 r) ∧ Below w.heap.size w w' := by
 have hu74 := Tryz.underlying74
 have HR0_0 := Aside0.mk hr0_0
 have HC0_0 := Aside0.mk hc0_0
 clear hr0_0 hc0_0
 have HR0_1 := Aside0.mk hr0_1
 have HC0_1 := Aside0.mk hc0_1
 clear hr0_1 hc0_1
 have HB := Aside0.mk (Below.refl w.heap.size w)
 have H : ((span_Trim.f k l0_0 l0_1 a1 a2).bind fun t274 => ((span_Columns.f k l0_0 l0_1 a1 t274 a4).bind fun t275 => (if 0 ≤ (wrap64 ((t275.length : Int) - 1)) then (if (wrap64 ((t275.length : Int) - 1)) < (t275.length : Int) then (if a3 = 3 then (some (wrap64 ((rd t275 (wrap64 ((t275.length : Int) - 1))) + 1))) else (some (rd t275 (wrap64 ((t275.length : Int) - 1))))) else (none)) else (none)))) = some r := h
 clear h
 replace H := Option.bind_eq_some_iff.mp H
 obtain ⟨t274, A60, H⟩ := H
 replace H : ((span_Columns.f k l0_0 l0_1 a1 t274 a4).bind fun t275 => (if 0 ≤ (wrap64 ((t275.length : Int) - 1)) then (if (wrap64 ((t275.length : Int) - 1)) < (t275.length : Int) then (if a3 = 3 then (some (wrap64 ((rd t275 (wrap64 ((t275.length : Int) - 1))) + 1))) else (some (rd t275 (wrap64 ((t275.length : Int) - 1))))) else (none)) else (none))) = some r := H
 have A6 := Aside0.mk A60
 clear A60
 replace H := Option.bind_eq_some_iff.mp H
 obtain ⟨t275, A70, H⟩ := H
 replace H : (if 0 ≤ (wrap64 ((t275.length : Int) - 1)) then (if (wrap64 ((t275.length : Int) - 1)) < (t275.length : Int) then (if a3 = 3 then (some (wrap64 ((rd t275 (wrap64 ((t275.length : Int) - 1))) + 1))) else (some (rd t275 (wrap64 ((t275.length : Int) - 1))))) else (none)) else (none)) = some r := H
 have A7 := Aside0.mk A70
 clear A70
 obtain ⟨ji8, hji8⟩ : ∃ j_ : Int, (wrap64 ((t275.length : Int) - 1)) = j_ := ⟨_, rfl⟩
 replace H : (if 0 ≤ (ji8) then (if (ji8) < (t275.length : Int) then (if a3 = 3 then (some (wrap64 ((rd t275 (ji8)) + 1))) else (some (rd t275 (ji8)))) else (none)) else (none)) = some r := by first | (rw [hji8] at H; exact H) | (simp only [hji8] at H ⊢; exact H)
 (try rw [hji8] at A6)
 (try rw [hji8] at A7)
 have hji8w : (IntKind.i64.wrap ((t275.length : Int) - 1)) = ji8 := (i64_w _).trans hji8
 by_cases c9 : 0 ≤ (ji8)
 ·rw [if_pos c9] at H
  have c9b0 := decide_eq_true c9
  clear c9
  by_cases c10 : (ji8) < (t275.length : Int)
  ·rw [if_pos c10] at H
   have c10b0 := decide_eq_true c10
   clear c10
   by_cases c11 : a3 = 3
   ·rw [if_pos c11] at H
    have c11b0 : (a3 == 3) = true := beq_iff_eq.mpr c11
    have c11b1 : (a3 != 3) = false := bne_eq_false_iff_eq.mpr c11
    clear c11
    obtain rfl := Option.some.inj H
    go_enter Tryz.func100, Tryz.ntmps100
    try go_wp2_with (first | ((with_reducible refine gate_dst (N := 5) rfl ?_); refine box_ev (N := 5) (cs := #[.slice A0_0 l0_0.length c0_0, .slice A0_1 l0_1.length c0_1]) (t := 74) ?_; intro gb273 hg w12 hbox hb; have n0_ := Aside0.mk (below_step bel hb); have n1_ := Aside0.mk (hbox); have n2_ := Aside0.mk (szb hg); have n3_ := Aside0.mk (szb hg); clear HB; revert n0_ n1_ n2_ n3_; intro HB BK273 GW273 GE273; clear hb hbox hg))
    have n0_ := Aside0.mk (blk_drew BK273.out)
    have n1_ := Aside0.mk (below_drew1 HB.out)
    clear BK273
    clear HB
    have BK273 := n0_
    have HB := n1_
    clear n0_ n1_
    refine start_ (n := 9) (S := fun w' => w'.cell? ⟨gb273, 0, none⟩ = some (.slice A0_0 l0_0.length c0_0) ∧ w'.cell? ⟨gb273, 1, none⟩ = some (.slice A0_1 l0_1.length c0_1)) (ds := []) #[false, false, false, false, false, false, false, false, false] (by kernel_rfl) rfl rfl ⟨(blk_cell BK273.out 0).trans rfl, (blk_cell BK273.out 1).trans rfl⟩ (fun hHeld => ?_); refine with_tabW span_Cells.tab1 span_Cells.bits1 (fun HT_ HW_ => ?_)
    generalize w12.drew = w13 at BK273 HB hHeld ⊢
    refine pu 1 (some 14) ?_
    refine pu 3 (some 16) ?_
    refine pu 4 (some 17) ?_
    refine pu 6 (some 19) ?_
    refine tr 0 (some 13) hHeld ?_
    refine tr 2 (some 15) hHeld ?_
    refine on 5 (some 18) fun K hK => ?_
    refine goes_ Tryz.func97 (by kernel_rfl) rfl #[.agg #[.slice A0_0 l0_0.length c0_0, .slice A0_1 l0_1.length c0_1], .int .i64 a1, .int .i64 a2] (by rfl) rfl rfl (by (try simp only [List.map_toArray, List.map_cons, List.map_nil]); first | done | rfl | (simp only [List.length_drop, List.length_take]; rfl)) ?_
    with_reducible refine (span_Trim.calls k _ _ l0_0 _ _ l0_1 a1 a2 t274 _ ?side1 ?side2 ?side3 ?side4 A6.out).mono ?_
    (case side1 => repeat (first | exact (Kd.C_below HR0_0.out HB.out) | (with_reducible refine Kd.C_alloc ?_ _) | (with_reducible refine Kd.C_drewN ?_ _) | (with_reducible refine Kd.C_drew ?_)))
    (case side2 => exact HC0_0.out)
    (case side3 => repeat (first | exact (Kd.C_below HR0_1.out HB.out) | (with_reducible refine Kd.C_alloc ?_ _) | (with_reducible refine Kd.C_drewN ?_ _) | (with_reducible refine Kd.C_drew ?_)))
    (case side4 => exact HC0_1.out)
    rintro e w14 ⟨rfl, hb⟩
    refine ⟨_, rfl, ?_⟩
    have n0_ := Aside0.mk (bbw BK273 hb)
    have n1_ := Aside0.mk (below_step bel hb)
    clear BK273
    clear HB
    have BK273 := n0_
    have HB := n1_
    clear n0_ n1_
    (try clear hb)
    (try clear hb2)
    (try clear hk)
    (try clear hi)
    refine hK.out _ _ ⟨(blk_cell BK273.out 0).trans rfl, (blk_cell BK273.out 1).trans rfl⟩ (fun hHeld => ?_)
    clear hK K
    refine nrm 18 ?_
    refine on 7 (some 20) fun K hK => ?_
    refine goes_ Tryz.func109 (by kernel_rfl) rfl #[.agg #[.slice A0_0 l0_0.length c0_0, .slice A0_1 l0_1.length c0_1], .int .i64 a1, .int .i64 t274, .int .i64 a4] (by rfl) rfl rfl (by (try simp only [List.map_toArray, List.map_cons, List.map_nil]); first | done | rfl | (simp only [List.length_drop, List.length_take]; rfl)) ?_
    with_reducible refine (span_Columns.calls k _ _ l0_0 _ _ l0_1 a1 t274 a4 t275 _ ?side1 ?side2 ?side3 ?side4 A7.out).mono ?_
    (case side1 => repeat (first | exact (Kd.C_below HR0_0.out HB.out) | (with_reducible refine Kd.C_alloc ?_ _) | (with_reducible refine Kd.C_drewN ?_ _) | (with_reducible refine Kd.C_drew ?_)))
    (case side2 => exact HC0_0.out)
    (case side3 => repeat (first | exact (Kd.C_below HR0_1.out HB.out) | (with_reducible refine Kd.C_alloc ?_ _) | (with_reducible refine Kd.C_drewN ?_ _) | (with_reducible refine Kd.C_drew ?_)))
    (case side4 => exact HC0_1.out)
    rintro e w15 ⟨v276, rfl, ho0, hb⟩
    refine ⟨_, rfl, ?_⟩
    have n0_ := Aside0.mk (Kd.R_lower ho0 (below_size bel))
    have n1_ := Aside0.mk (bbw BK273 hb)
    have n2_ := Aside0.mk (below_step bel hb)
    clear BK273
    clear HB
    have HO277 := n0_
    have BK273 := n1_
    have HB := n2_
    clear n0_ n1_ n2_
    (try clear hb)
    (try clear hb2)
    (try clear hk)
    (try clear hi)
    (try clear ho0)
    refine hK.out _ _ ⟨(blk_cell BK273.out 0).trans rfl, (blk_cell BK273.out 1).trans rfl⟩ (fun hHeld => ?_)
    clear hK K
    refine nrm 20 ?_
    refine pu 8 (some 11) ?_
    refine done_ (done_of HT_.out (by kernel_rfl)) ?_
    obtain ⟨Ao16, co16, eo16⟩ := Kd.R_slice HO277.out
    subst eo16
    have p278 : 0 ≤ ((ji8) : Int) := oda
    have q278 : (ji8) < (t275.length : Int) := oda
    obtain ⟨ad278, e278, hx278_0⟩ := Kd.at_int (Kd.R_reads' HO277.out).2.2 (ji8) p278 q278
    cases e278
    replace p278 := eq_true p278
    replace q278 := eq_true q278
    try go_wp2
    go_ret
    exact ⟨by first | rfl | (simp [errW_none, errW_some] <;> rfl) | (simp only [← hji8]; first | rfl | (simp [errW_none, errW_some] <;> rfl)) | (simp [*, errW_none, errW_some] <;> rfl), bel⟩
   ·rw [if_neg c11] at H
    have c11b0 : (a3 == 3) = false := beq_eq_false_iff_ne.mpr c11
    have c11b1 : (a3 != 3) = true := bne_iff_ne.mpr c11
    obtain rfl := Option.some.inj H
    go_enter Tryz.func100, Tryz.ntmps100
    try go_wp2_with (first | ((with_reducible refine gate_dst (N := 5) rfl ?_); refine box_ev (N := 5) (cs := #[.slice A0_0 l0_0.length c0_0, .slice A0_1 l0_1.length c0_1]) (t := 74) ?_; intro gb273 hg w17 hbox hb; have n0_ := Aside0.mk (below_step bel hb); have n1_ := Aside0.mk (hbox); have n2_ := Aside0.mk (szb hg); have n3_ := Aside0.mk (szb hg); clear HB; revert n0_ n1_ n2_ n3_; intro HB BK273 GW273 GE273; clear hb hbox hg))
    have n0_ := Aside0.mk (blk_drew BK273.out)
    have n1_ := Aside0.mk (below_drew1 HB.out)
    clear BK273
    clear HB
    have BK273 := n0_
    have HB := n1_
    clear n0_ n1_
    refine start_ (n := 9) (S := fun w' => w'.cell? ⟨gb273, 0, none⟩ = some (.slice A0_0 l0_0.length c0_0) ∧ w'.cell? ⟨gb273, 1, none⟩ = some (.slice A0_1 l0_1.length c0_1)) (ds := []) #[false, false, false, false, false, false, false, false, false] (by kernel_rfl) rfl rfl ⟨(blk_cell BK273.out 0).trans rfl, (blk_cell BK273.out 1).trans rfl⟩ (fun hHeld => ?_); refine with_tabW span_Cells.tab1 span_Cells.bits1 (fun HT_ HW_ => ?_)
    generalize w17.drew = w18 at BK273 HB hHeld ⊢
    refine pu 1 (some 14) ?_
    refine pu 3 (some 16) ?_
    refine pu 4 (some 17) ?_
    refine pu 6 (some 19) ?_
    refine tr 0 (some 13) hHeld ?_
    refine tr 2 (some 15) hHeld ?_
    refine on 5 (some 18) fun K hK => ?_
    refine goes_ Tryz.func97 (by kernel_rfl) rfl #[.agg #[.slice A0_0 l0_0.length c0_0, .slice A0_1 l0_1.length c0_1], .int .i64 a1, .int .i64 a2] (by rfl) rfl rfl (by (try simp only [List.map_toArray, List.map_cons, List.map_nil]); first | done | rfl | (simp only [List.length_drop, List.length_take]; rfl)) ?_
    with_reducible refine (span_Trim.calls k _ _ l0_0 _ _ l0_1 a1 a2 t274 _ ?side1 ?side2 ?side3 ?side4 A6.out).mono ?_
    (case side1 => repeat (first | exact (Kd.C_below HR0_0.out HB.out) | (with_reducible refine Kd.C_alloc ?_ _) | (with_reducible refine Kd.C_drewN ?_ _) | (with_reducible refine Kd.C_drew ?_)))
    (case side2 => exact HC0_0.out)
    (case side3 => repeat (first | exact (Kd.C_below HR0_1.out HB.out) | (with_reducible refine Kd.C_alloc ?_ _) | (with_reducible refine Kd.C_drewN ?_ _) | (with_reducible refine Kd.C_drew ?_)))
    (case side4 => exact HC0_1.out)
    rintro e w19 ⟨rfl, hb⟩
    refine ⟨_, rfl, ?_⟩
    have n0_ := Aside0.mk (bbw BK273 hb)
    have n1_ := Aside0.mk (below_step bel hb)
    clear BK273
    clear HB
    have BK273 := n0_
    have HB := n1_
    clear n0_ n1_
    (try clear hb)
    (try clear hb2)
    (try clear hk)
    (try clear hi)
    refine hK.out _ _ ⟨(blk_cell BK273.out 0).trans rfl, (blk_cell BK273.out 1).trans rfl⟩ (fun hHeld => ?_)
    clear hK K
    refine nrm 18 ?_
    refine on 7 (some 20) fun K hK => ?_
    refine goes_ Tryz.func109 (by kernel_rfl) rfl #[.agg #[.slice A0_0 l0_0.length c0_0, .slice A0_1 l0_1.length c0_1], .int .i64 a1, .int .i64 t274, .int .i64 a4] (by rfl) rfl rfl (by (try simp only [List.map_toArray, List.map_cons, List.map_nil]); first | done | rfl | (simp only [List.length_drop, List.length_take]; rfl)) ?_
    with_reducible refine (span_Columns.calls k _ _ l0_0 _ _ l0_1 a1 t274 a4 t275 _ ?side1 ?side2 ?side3 ?side4 A7.out).mono ?_
    (case side1 => repeat (first | exact (Kd.C_below HR0_0.out HB.out) | (with_reducible refine Kd.C_alloc ?_ _) | (with_reducible refine Kd.C_drewN ?_ _) | (with_reducible refine Kd.C_drew ?_)))
    (case side2 => exact HC0_0.out)
    (case side3 => repeat (first | exact (Kd.C_below HR0_1.out HB.out) | (with_reducible refine Kd.C_alloc ?_ _) | (with_reducible refine Kd.C_drewN ?_ _) | (with_reducible refine Kd.C_drew ?_)))
    (case side4 => exact HC0_1.out)
    rintro e w20 ⟨v276, rfl, ho0, hb⟩
    refine ⟨_, rfl, ?_⟩
    have n0_ := Aside0.mk (Kd.R_lower ho0 (below_size bel))
    have n1_ := Aside0.mk (bbw BK273 hb)
    have n2_ := Aside0.mk (below_step bel hb)
    clear BK273
    clear HB
    have HO277 := n0_
    have BK273 := n1_
    have HB := n2_
    clear n0_ n1_ n2_
    (try clear hb)
    (try clear hb2)
    (try clear hk)
    (try clear hi)
    (try clear ho0)
    refine hK.out _ _ ⟨(blk_cell BK273.out 0).trans rfl, (blk_cell BK273.out 1).trans rfl⟩ (fun hHeld => ?_)
    clear hK K
    refine nrm 20 ?_
    refine pu 8 (some 11) ?_
    refine done_ (done_of HT_.out (by kernel_rfl)) ?_
    obtain ⟨Ao21, co21, eo21⟩ := Kd.R_slice HO277.out
    subst eo21
    have p278 : 0 ≤ ((ji8) : Int) := oda
    have q278 : (ji8) < (t275.length : Int) := oda
    obtain ⟨ad278, e278, hx278_0⟩ := Kd.at_int (Kd.R_reads' HO277.out).2.2 (ji8) p278 q278
    cases e278
    replace p278 := eq_true p278
    replace q278 := eq_true q278
    try go_wp2
    go_ret
    exact ⟨by first | rfl | (simp [errW_none, errW_some] <;> rfl) | (simp only [← hji8]; first | rfl | (simp [errW_none, errW_some] <;> rfl)) | (simp [*, errW_none, errW_some] <;> rfl), bel⟩
  ·rw [if_neg c10] at H
   exact absurd H (by simp)
 ·rw [if_neg c9] at H
  exact absurd H (by simp)
def span_Make.f (k : Nat) (l0_0 : List (S130)) (l0_1 : List Int) (a1 : Int) (a2 : Int) (a3 : Int) (a4 : Int) : Option (Int × Int × Int × Int) := (span_Cells.f k l0_0 l0_1 a1 a2 a3 a4).bind fun t281 => (some (a1, a2, t281, a3))
set_option maxHeartbeats 8000000 in
set_option maxRecDepth 100000 in
theorem span_Make.calls (k : Nat) (A0_0 : Option Addr) (c0_0 : Nat) (l0_0 : List (S130)) (A0_1 : Option Addr) (c0_1 : Nat) (l0_1 : List Int) (a1 : Int) (a2 : Int) (a3 : Int) (a4 : Int) (r1 : Int) (r2 : Int) (r3 : Int) (r4 : Int) (w : World) (hr0_0 : Kd.C k130 w A0_0 l0_0.length l0_0) (hc0_0 : l0_0.length ≤ c0_0) (hr0_1 : Kd.C (Kd.int .u8) w A0_1 l0_1.length l0_1) (hc0_1 : l0_1.length ≤ c0_1) (h : span_Make.f k l0_0 l0_1 a1 a2 a3 a4 = some (r1, r2, r3, r4)) :
  Calls Tryz.prog 83 #[.agg #[.slice A0_0 l0_0.length c0_0, .slice A0_1 l0_1.length c0_1], .int .i64 a1, .int .i64 a2, .int .u8 a3, .int .i64 a4] w fun e w' => e = .returned (.agg #[.int .i64 r1, .int .i64 r2, .int .i64 r3, .int .u8 r4]) ∧ Below w.heap.size w w' := by
 have hu74 := Tryz.underlying74
 have hu127 := Tryz.underlying127
 have HR0_0 := Aside0.mk hr0_0
 have HC0_0 := Aside0.mk hc0_0
 clear hr0_0 hc0_0
 have HR0_1 := Aside0.mk hr0_1
 have HC0_1 := Aside0.mk hc0_1
 clear hr0_1 hc0_1
 have HB := Aside0.mk (Below.refl w.heap.size w)
 have H : ((span_Cells.f k l0_0 l0_1 a1 a2 a3 a4).bind fun t281 => (some (a1, a2, t281, a3))) = some (r1, r2, r3, r4) := h
 clear h
 replace H := Option.bind_eq_some_iff.mp H
 obtain ⟨t281, A60, H⟩ := H
 replace H : (some (a1, a2, t281, a3)) = some (r1, r2, r3, r4) := H
 have A6 := Aside0.mk A60
 clear A60
 simp only [Option.some.injEq, Prod.mk.injEq] at H
 obtain ⟨rfl, rfl, rfl, rfl⟩ := H
 go_enter Tryz.func83, Tryz.ntmps83
 go_wp2_with (first | ((with_reducible refine gate_dst (N := 5) rfl ?_); refine box_ev (N := 5) (cs := #[.slice A0_0 l0_0.length c0_0, .slice A0_1 l0_1.length c0_1]) (t := 74) ?_; intro gb279 hg w7 hbox hb; have n0_ := Aside0.mk (below_step bel hb); have n1_ := Aside0.mk (hbox); have n2_ := Aside0.mk (szb hg); have n3_ := Aside0.mk (szb hg); clear HB; revert n0_ n1_ n2_ n3_; intro HB BK279 GW279 GE279; clear hb hbox hg) | ((with_reducible refine gate_dst (N := 10) rfl ?_); refine box_ev (N := 10) (cs := #[.int .i64 0, .int .i64 0, .int .i64 0, .int .u8 0]) (t := 127) ?_; intro gb280 hg w8 hbox hb; have n0_ := Aside0.mk (bbw BK279 hb); have n1_ := Aside0.mk (below_step bel hb); have n2_ := Aside0.mk (hbox); have n3_ := Aside0.mk (szb hg); have n4_ := Aside0.mk (szb hg); have n5_ := Aside0.mk (neb hg BK279); have n6_ := Aside0.mk (neb hg BK279).symm; clear BK279 HB; revert n0_ n1_ n2_ n3_ n4_ n5_ n6_; intro BK279 HB BK280 GW280 GE280 NB279_280 NB280_279; clear hb hbox hg; have hnb9 := NB279_280.out; have hnc9 := NB280_279.out; obtain ⟨hcz10_0, hcz10_1, hfz10_0, hfz10_1⟩ := cs2 BK279) | ((with_reducible refine gate_callee (f := 100) rfl ?_); refine goesL_ (some 18) rfl rfl Tryz.func100 (by kernel_rfl) rfl #[.agg #[.slice A0_0 l0_0.length c0_0, .slice A0_1 l0_1.length c0_1], .int .i64 a1, .int .i64 a2, .int .u8 a3, .int .i64 a4] rfl (by (try simp only [List.map_toArray, List.map_cons, List.map_nil]); first | done | rfl | (simp only [List.length_drop, List.length_take]; rfl)) ?_; (with_reducible refine (span_Cells.calls k _ _ l0_0 _ _ l0_1 a1 a2 a3 a4 t281 _ (cup HR0_0) HC0_0.out (cup HR0_1) HC0_1.out A6.out).mono ?_); rintro e w11 ⟨rfl, hb⟩; refine ⟨_, rfl, ?_⟩; have n0_ := Aside0.mk (bbw BK279 hb); have n1_ := Aside0.mk (bbw BK280 hb); have n2_ := Aside0.mk (below_step bel hb); clear BK279 BK280 HB; revert n0_ n1_ n2_; intro BK279 BK280 HB; (try clear hb); (try clear hb2); (try clear hk); (try clear hi); obtain ⟨hcz12_0, hcz12_1, hcz12_2, hcz12_3, hfz12_0, hfz12_1, hfz12_2, hfz12_3⟩ := cs4 BK280))
 refine bodyPost_ret (results_cell_row rfl _ _ gb280 127 #[.int .i64 a1, .int .i64 a2, .int .i64 t281, .int .u8 a3] (0, 0) _ rfl (by (with_reducible repeat (first | refine blk_drewN ?_ _ | refine blk_drew ?_ | refine blk_alloc ?_ _)); refine blk_put (cs := #[.int .i64 a1, .int .i64 a2, .int .i64 t281, .int .u8 0]) ?_ 3 _ rfl; (with_reducible repeat (first | refine blk_drewN ?_ _ | refine blk_drew ?_ | refine blk_alloc ?_ _)); refine blk_put (cs := #[.int .i64 a1, .int .i64 a2, .int .i64 0, .int .u8 0]) ?_ 2 _ rfl; (with_reducible repeat (first | refine blk_drewN ?_ _ | refine blk_drew ?_ | refine blk_alloc ?_ _)); refine blk_put (cs := #[.int .i64 a1, .int .i64 0, .int .i64 0, .int .u8 0]) ?_ 1 _ rfl; (with_reducible repeat (first | refine blk_drewN ?_ _ | refine blk_drew ?_ | refine blk_alloc ?_ _)); refine blk_put (cs := #[.int .i64 0, .int .i64 0, .int .i64 0, .int .u8 0]) ?_ 0 _ rfl; (with_reducible repeat (first | refine blk_drewN ?_ _ | refine blk_drew ?_ | refine blk_alloc ?_ _)); exact BK280.out) Tryz.underlying127 rfl (by kernel_rfl)) rfl ?_
 exact ⟨eqv, bel⟩
end Go.Proofs.YtkeccgkicffieaaGreatDoor.PTopWider
