/- The walks of auto.Run, slices.Reverse, prop.Check, hyph.Check, letters, least.Check, most: each computes what its Lean function tells. Conditions: none. -/
import Derived.Test.YtkeccgkicffieaaGreatDoorTopT
namespace Go.Proofs.YtkeccgkicffieaaGreatDoor.PTopWider
open Go.RowKit Go.Proofs.YtkeccgkicffieaaGreatDoorW.PrintWords Go.Proofs.YtkeccgkicffieaaGreatDoorW.PrintLast Go.Proofs.YtkeccgkicffieaaGreatDoorW.PrintMore
attribute [local go_sem] max2_int min2_int max_two min_two max_three min_three max_four min_four
set_option linter.unusedVariables false
set_option linter.unusedSimpArgs false
def auto_Run.l0 : Nat → List Int → Int → List Int → Int → Int → List (List Int) → List Int → Option (List Int)
 | 0, _, _, _, _, _, _, _ => none
 | k + 1, x5, x6, x14, x15, x16, x218000, x218001 => if x16 < x15 then (if 0 ≤ x16 then (if x16 < (x14.length : Int) then (if (rd x14 x16) < 0 then (some x5) else (if 0 ≤ x6 then (if x6 < (x218000.length : Int) then (if (rd x14 x16) ≥ ((rd_L4 x218000 x6).length : Int) then (some x5) else (if 0 ≤ (rd x14 x16) then (if (rd x14 x16) < ((rd_L4 x218000 x6).length : Int) then (if x5.length < 17592186044416 then (auto_Run.l0 k (x5 ++ [rd (rd_L4 x218000 x6) (rd x14 x16)]) (rd (rd_L4 x218000 x6) (rd x14 x16)) x14 x15 (wrap64 (x16 + 1)) x218000 x218001) else (none)) else (none)) else (none))) else (none)) else (none))) else (none)) else (none)) else (some x5)
def auto_Run.f (k : Nat) (l0_0 : List (List Int)) (l0_1 : List Int) (l1 : List Int) : Option (List Int) := if (l0_0.length : Int) = 0 then (some ([] : List Int)) else (auto_Run.l0 k (([0] : List Int)) 0 l1 (l1.length : Int) 0 l0_0 l0_1)
set_option maxHeartbeats 8000000 in
set_option maxRecDepth 100000 in
theorem auto_Run.calls (k : Nat) (A0_0 : Option Addr) (c0_0 : Nat) (l0_0 : List (List Int)) (A0_1 : Option Addr) (c0_1 : Nat) (l0_1 : List Int) (A1 : Option Addr) (c1 : Nat) (l1 : List Int) (r : List Int) (w : World) (hr0_0 : Kd.C (Kd.slice 3 (Kd.int .i64)) w A0_0 l0_0.length l0_0) (hc0_0 : l0_0.length ≤ c0_0) (hr0_1 : Kd.C (Kd.int .u32) w A0_1 l0_1.length l0_1) (hc0_1 : l0_1.length ≤ c0_1) (hr1 : Kd.C (Kd.int .i64) w A1 l1.length l1) (hc1 : l1.length ≤ c1) (h : auto_Run.f k l0_0 l0_1 l1 = some r) :
  Calls Tryz.prog 47 #[.agg #[.slice A0_0 l0_0.length c0_0, .slice A0_1 l0_1.length c0_1], .slice A1 l1.length c1] w fun e w' => ∃ v0_ : Value, e = .returned (v0_) ∧ Kd.R (Kd.int .i64) 3 w' w.heap.size (fun _ => True) v0_ r ∧ Below w.heap.size w w' := by
 have hu94 := Tryz.underlying94
 have HR0_0 := Aside0.mk hr0_0
 have HC0_0 := Aside0.mk hc0_0
 clear hr0_0 hc0_0
 have HR0_1 := Aside0.mk hr0_1
 have HC0_1 := Aside0.mk hc0_1
 clear hr0_1 hc0_1
 have HR1 := Aside0.mk hr1
 have HC1 := Aside0.mk hc1
 clear hr1 hc1
 have HB := Aside0.mk (Below.refl w.heap.size w)
 have H : (if (l0_0.length : Int) = 0 then (some ([] : List Int)) else (auto_Run.l0 k (([0] : List Int)) 0 l1 (l1.length : Int) 0 l0_0 l0_1)) = some r := h
 clear h
 by_cases c3 : (l0_0.length : Int) = 0
 ·rw [if_pos c3] at H
  have c3b0 : ((l0_0.length : Int) == 0) = true := beq_iff_eq.mpr c3
  have c3b1 : ((l0_0.length : Int) != 0) = false := bne_eq_false_iff_eq.mpr c3
  clear c3
  obtain rfl := Option.some.inj H
  go_enter Tryz.func47, Tryz.ntmps47
  go_wp2_with (first | ((with_reducible refine gate_dst (N := 2) rfl ?_); (try (refine gate_guard (by rfl) ?_; dsimp only)); refine box_ev (N := 2) (cs := #[.slice A0_0 l0_0.length c0_0, .slice A0_1 l0_1.length c0_1]) (t := 94) ?_; intro gb217 hg w4 hbox hb; have n0_ := Aside0.mk (below_step bel hb); have n1_ := Aside0.mk (hbox); have n2_ := Aside0.mk (szb hg); have n3_ := Aside0.mk (szb hg); clear HB; revert n0_ n1_ n2_ n3_; intro HB BK217 GW217 GE217; clear hb hbox hg; obtain ⟨hcz5_0, hcz5_1, hfz5_0, hfz5_1⟩ := cs2 BK217))
  go_ret
  exact ⟨_, eqv, by first | exact Kd.R_nil _ _ _ _ _ | exact Kd.N_nil _ _ _ _ _ | exact Kd.V_nil _ _ _ _ _ | exact Kd.Q_nil _ _ _ _ _ | exact Kd.S_nil _ _ _ _ _, bel⟩
 ·rw [if_neg c3] at H
  have c3b0 : ((l0_0.length : Int) == 0) = false := beq_eq_false_iff_ne.mpr c3
  have c3b1 : ((l0_0.length : Int) != 0) = true := bne_iff_ne.mpr c3
  have c3b2 : ¬ (l0_0 = []) := fun h_ => c3 (by rw [h_]; rfl)
  obtain ⟨y218, hy218⟩ : ∃ y_ : List Int, y_ = (([0] : List Int)) := ⟨_, rfl⟩
  replace H : (auto_Run.l0 k y218 0 l1 (l1.length : Int) 0 l0_0 l0_1) = some r := by first | (rw [hy218]; with_reducible exact H) | (have H2_ := (Option.bind_some _ _).symm.trans H; rw [hy218]; with_reducible exact H2_) | (have H2_ := (Option.bind_some _ _).symm.trans H; with_reducible exact H2_) | with_reducible exact H | (rw [hy218]; exact H) | exact H
  have Ny218 := Aside0.mk hy218
  clear hy218
  have H' := Aside0.mk H
  clear H
  go_enter Tryz.func47, Tryz.ntmps47
  go_wp2_with (first | ((with_reducible refine gate_dst (N := 2) rfl ?_); (try (refine gate_guard (by rfl) ?_; dsimp only)); refine box_ev (N := 2) (cs := #[.slice A0_0 l0_0.length c0_0, .slice A0_1 l0_1.length c0_1]) (t := 94) ?_; intro gb217 hg w6 hbox hb; have n0_ := Aside0.mk (below_step bel hb); have n1_ := Aside0.mk (hbox); have n2_ := Aside0.mk (szb hg); have n3_ := Aside0.mk (szb hg); clear HB; revert n0_ n1_ n2_ n3_; intro HB BK217 GW217 GE217; clear hb hbox hg; obtain ⟨hcz7_0, hcz7_1, hfz7_0, hfz7_1⟩ := cs2 BK217) | ((with_reducible refine gate_dst (N := 13) rfl ?_); (try (refine gate_guard (by rfl) ?_; dsimp only)); refine Kd.R_lit (Kd.int .i64) _ 3 ?hg (N := 13) ?hd (xs := ([0] : List Int)) (inner := [.int .i64 0]) (ok := fun _ => True) (okp := fun _ => True) ?hr ?hp (fun _ hk => hk) trivial (Below.refl _ _) (Nat.le_refl _) (by simp) ?_; (case hd => rfl); (case hg => rfl); (case hr => first | (go_simp; done) | (go_simp; rfl)); (case hp => exact (Reps.one (show Kd.M (Kd.int .i64) _ _ _ 0 [.int .i64 0] from rfl) (Reps.none _ _))); intro v219 w8 ho9 hb hg_ hnew_; clear hg_ hnew_; (first | rw [← Ny218.out] at ho9 | (simp only [Int.reduceToNat] at ho9; rw [← Ny218.out] at ho9)); have n0_ := Aside0.mk (Kd.R_lower ho9 (below_size bel)); have n1_ := Aside0.mk (bbw BK217 hb); have n2_ := Aside0.mk (below_step bel hb); clear BK217 HB; revert n0_ n1_ n2_; intro HO220 BK217 HB; clear hb ho9))
  go_loopg [5, 6, 16] k (fun kq v5 v6 v16 w' => ∃ (x5_1 : List Int) (x6_1 : Int) (x16_1 : Int), v6 = .int .i64 x6_1 ∧ v16 = .int .i64 x16_1 ∧ Aside0 (auto_Run.l0 kq x5_1 x6_1 l1 (l1.length : Int) x16_1 l0_0 l0_1 = some r) ∧ Aside0 (kq ≤ k) ∧ Aside0 (Kd.R (Kd.int .i64) 3 w' w.heap.size (fun _ => True) v5 x5_1) ∧ Aside0 (w'.heap[gb217]? = some (.cells #[(.slice A0_0 l0_0.length c0_0), (.slice A0_1 l0_1.length c0_1)] 94 (0, 0))) ∧ Aside0 (Below w.heap.size w w'))
  case atStart => exact ⟨(y218), (0), (0), eqs, eqs, H', ⟨Nat.le_refl _⟩, ⟨by (with_reducible repeat (first | apply Kd.R_alloc | apply Kd.R_drewN | apply Kd.R_drew)); exact HO220.out⟩, ⟨blk⟩, ⟨bel⟩⟩
  case round =>
   clear H'
   try clear c1
   try clear p2
   try clear c3
   try clear c3b0
   try clear c3b1
   try clear c3b2
   try clear c4
   try clear hcz5_0 hcz5_1 hcz7_0 hcz7_1 hfz5_0 hfz5_1 hfz7_0 hfz7_1
   obtain ⟨x5_1, x6_1, x16_1, rfl, rfl, HA, HK1, HO_5, BK217, HB⟩ := hrel
   cases gk with
   | zero => exact absurd HA.out (by simp [auto_Run.l0])
   | succ k1 =>
    have H := HA.out
    clear HA
    simp only [auto_Run.l0] at H
    by_cases c10 : x16_1 < (l1.length : Int)
    ·rw [if_pos c10] at H
     have c10b0 := decide_eq_true c10
     clear c10
     by_cases c11 : 0 ≤ x16_1
     ·rw [if_pos c11] at H
      have c11b0 := decide_eq_true c11
      clear c11
      by_cases c12 : x16_1 < (l1.length : Int)
      ·rw [if_pos c12] at H
       have c12b0 := decide_eq_true c12
       clear c12
       by_cases c13 : (rd l1 x16_1) < 0
       ·rw [if_pos c13] at H
        have c13b0 := decide_eq_true c13
        clear c13
        obtain rfl := Option.some.inj H
        have p221 : 0 ≤ (x16_1 : Int) := oda
        have q221 : x16_1 < (l1.length : Int) := oda
        obtain ⟨ad221, e221, hx221_0⟩ := Kd.at_int HR1.out x16_1 p221 q221
        cases e221
        replace hx221_0 := bc HB hx221_0
        replace p221 := eq_true p221
        replace q221 := eq_true q221
        go_wp2
        go_ret
        exact ⟨_, eqv, by (with_reducible repeat (first | apply Kd.R_alloc | apply Kd.R_drewN | apply Kd.R_drew)); exact HO_5.out, bel⟩
       ·rw [if_neg c13] at H
        have c13b0 := decide_eq_false c13
        clear c13
        by_cases c14 : 0 ≤ x6_1
        ·rw [if_pos c14] at H
         have c14b0 := decide_eq_true c14
         clear c14
         by_cases c15 : x6_1 < (l0_0.length : Int)
         ·rw [if_pos c15] at H
          have c15b0 := decide_eq_true c15
          clear c15
          by_cases c16 : (rd l1 x16_1) ≥ ((rd_L4 l0_0 x6_1).length : Int)
          ·rw [if_pos c16] at H
           have c16b0 := decide_eq_true c16
           clear c16
           obtain rfl := Option.some.inj H
           have p221 : 0 ≤ (x16_1 : Int) := oda
           have q221 : x16_1 < (l1.length : Int) := oda
           obtain ⟨ad221, e221, hx221_0⟩ := Kd.at_int HR1.out x16_1 p221 q221
           cases e221
           replace hx221_0 := bc HB hx221_0
           replace p221 := eq_true p221
           replace q221 := eq_true q221
           obtain ⟨hcz17_0, hcz17_1, hfz17_0, hfz17_1⟩ := cs2 BK217
           have p222 : 0 ≤ (x6_1 : Int) := oda
           have q222 : x6_1 < (l0_0.length : Int) := oda
           obtain ⟨ad222, A222_0, c222_0, e222, hx222_0, hl222_0, hi222_0⟩ := at_L4 HR0_0.out x6_1 p222 q222
           cases e222
           replace hx222_0 := bc HB hx222_0
           have HR222_0 := Aside0.mk hi222_0
           have HC222_0 := Aside0.mk hl222_0
           clear hi222_0 hl222_0
           replace p222 := eq_true p222
           replace q222 := eq_true q222
           go_wp2
           go_ret
           exact ⟨_, eqv, by (with_reducible repeat (first | apply Kd.R_alloc | apply Kd.R_drewN | apply Kd.R_drew)); exact HO_5.out, bel⟩
          ·rw [if_neg c16] at H
           have c16b0 := decide_eq_false c16
           clear c16
           by_cases c18 : 0 ≤ (rd l1 x16_1)
           ·rw [if_pos c18] at H
            have c18b0 := decide_eq_true c18
            clear c18
            by_cases c19 : (rd l1 x16_1) < ((rd_L4 l0_0 x6_1).length : Int)
            ·rw [if_pos c19] at H
             have c19b0 := decide_eq_true c19
             clear c19
             by_cases c20 : x5_1.length < 17592186044416
             ·rw [if_pos c20] at H
              have LMc20 := Aside0.mk c20
              clear c20
              obtain ⟨y225, hy225⟩ : ∃ y_ : List Int, y_ = (x5_1 ++ [rd (rd_L4 l0_0 x6_1) (rd l1 x16_1)]) := ⟨_, rfl⟩
              replace H : (auto_Run.l0 k1 y225 (rd (rd_L4 l0_0 x6_1) (rd l1 x16_1)) l1 (l1.length : Int) (wrap64 (x16_1 + 1)) l0_0 l0_1) = some r := by first | (rw [hy225]; with_reducible exact H) | (have H2_ := (Option.bind_some _ _).symm.trans H; rw [hy225]; with_reducible exact H2_) | (have H2_ := (Option.bind_some _ _).symm.trans H; with_reducible exact H2_) | with_reducible exact H | (rw [hy225]; exact H) | exact H
              have Ny225 := Aside0.mk hy225
              clear hy225
              have H' := Aside0.mk H
              clear H
              have p221 : 0 ≤ (x16_1 : Int) := oda
              have q221 : x16_1 < (l1.length : Int) := oda
              obtain ⟨ad221, e221, hx221_0⟩ := Kd.at_int HR1.out x16_1 p221 q221
              cases e221
              replace hx221_0 := bc HB hx221_0
              replace p221 := eq_true p221
              replace q221 := eq_true q221
              obtain ⟨hcz21_0, hcz21_1, hfz21_0, hfz21_1⟩ := cs2 BK217
              have p222 : 0 ≤ (x6_1 : Int) := oda
              have q222 : x6_1 < (l0_0.length : Int) := oda
              obtain ⟨ad222, A222_0, c222_0, e222, hx222_0, hl222_0, hi222_0⟩ := at_L4 HR0_0.out x6_1 p222 q222
              cases e222
              replace hx222_0 := bc HB hx222_0
              have HR222_0 := Aside0.mk hi222_0
              have HC222_0 := Aside0.mk hl222_0
              clear hi222_0 hl222_0
              replace p222 := eq_true p222
              replace q222 := eq_true q222
              have p223 : 0 ≤ (x6_1 : Int) := oda
              have q223 : x6_1 < (l0_0.length : Int) := oda
              obtain ⟨ad223, A223_0, c223_0, e223, hx223_0, hl223_0, hi223_0⟩ := at_L4 HR0_0.out x6_1 p223 q223
              obtain rfl : ad222 = ad223 := (by injection e223)
              replace hx223_0 := bc HB hx223_0
              have HR223_0 := Aside0.mk hi223_0
              have HC223_0 := Aside0.mk hl223_0
              clear hi223_0 hl223_0
              replace p223 := eq_true p223
              replace q223 := eq_true q223
              have ea_ := Option.some.inj (hx222_0.symm.trans hx223_0)
              injection ea_ with ea_ en_ ec_
              subst ea_
              subst ec_
              clear en_
              have p224 : 0 ≤ ((rd l1 x16_1) : Int) := oda
              have q224 : (rd l1 x16_1) < ((rd_L4 l0_0 x6_1).length : Int) := oda
              obtain ⟨ad224, e224, hx224_0⟩ := Kd.at_int HR223_0.out (rd l1 x16_1) p224 q224
              cases e224
              replace hx224_0 := bc HB hx224_0
              replace p224 := eq_true p224
              replace q224 := eq_true q224
              go_wp2_with (first | ((with_reducible refine gate_builtin (b := .append) (xs := #[.tmp 40, .tmp 42]) rfl ?_); (try (refine gate_guard (by rfl) ?_; dsimp only)); at_builtin; refine Kd.R_append (Kd.int .i64) (w0 := w) w.heap.size rfl (.tmp 40) (.tmp 42) 83 3 (.int .i64 0) 8 rfl Tryz.underlying83 info3 rfl (by decide) (by omega) u5 x5_1 (rd (rd_L4 l0_0 x6_1) (rd l1 x16_1)) [.int .i64 (rd (rd_L4 l0_0 x6_1) (rd l1 x16_1))] (fun _ => True) (fun _ => False) rfl rfl ?aP (fun _ hk => hk.elim) ?aF ?aO ?aB ?aS ?aL ?_; (case aP => exact rfl); (case aB => exact bel); (case aF => exact (fun _ _ => trivial)); (case aO => exact (rua HO_5)); (case aS => exact (below_size bel)); (case aL => have := LMc20.out; omega); intro v226 w22 ho hb hg hat; rw [← Ny225.out] at ho; have n0_ := Aside0.mk (blk_grown (g := gb217) (o := .cells #[.slice (some ad222) l0_0.length c0_0, .slice A0_1 l0_1.length c0_1] 94 (0, 0)) blk hg (Kd.R_ne HO_5.out BK217.out (by decide))); have n1_ := Aside0.mk (hb); have n2_ := Aside0.mk (ho); clear BK217 HB HO_5; revert n0_ n1_ n2_; intro BK217 HB HO227; clear ho hb hg hat))
              go_roundg k1
              case measure => have := HK1.out; omega
              case rel => exact ⟨(y225), (rd (rd_L4 l0_0 x6_1) (rd l1 x16_1)), (wrap64 (x16_1 + 1)), eqs, eqs, H', ⟨by have := HK1.out; omega⟩, ⟨by (with_reducible repeat (first | apply Kd.R_alloc | apply Kd.R_drewN | apply Kd.R_drew)); exact HO227.out⟩, ⟨blk⟩, ⟨bel⟩⟩
             ·rw [if_neg c20] at H
              exact absurd H (by simp)
            ·rw [if_neg c19] at H
             exact absurd H (by simp)
           ·rw [if_neg c18] at H
            exact absurd H (by simp)
         ·rw [if_neg c15] at H
          exact absurd H (by simp)
        ·rw [if_neg c14] at H
         exact absurd H (by simp)
      ·rw [if_neg c12] at H
       exact absurd H (by simp)
     ·rw [if_neg c11] at H
      exact absurd H (by simp)
    ·rw [if_neg c10] at H
     have c10b0 := decide_eq_false c10
     clear c10
     obtain rfl := Option.some.inj H
     go_wp2
     go_ret
     exact ⟨_, eqv, by (with_reducible repeat (first | apply Kd.R_alloc | apply Kd.R_drewN | apply Kd.R_drew)); exact HO_5.out, bel⟩
def slices_Reverse_int_int.l0 : Nat → List Int → Int → Int → Option (List Int)
 | 0, _, _, _ => none
 | k + 1, x0, x2, x3 => if x2 < x3 then (if 0 ≤ x3 then (if x3 < (x0.length : Int) then (if 0 ≤ x2 then (if x2 < (x0.length : Int) then (slices_Reverse_int_int.l0 k ((x0.set (x2 : Int).toNat (rd x0 x3)).set (x3 : Int).toNat (rd x0 x2)) (wrap64 (x2 + 1)) (wrap64 (x3 - 1))) else (none)) else (none)) else (none)) else (none)) else (some x0)
def slices_Reverse_int_int.f (k : Nat) (l0 : List Int) : Option (List Int) := slices_Reverse_int_int.l0 k l0 0 (wrap64 ((l0.length : Int) - 1))
def slices_Reverse_int_int.T3 : Bool × List (List Nat × List Nat) := (true, [([], []), ([], []), ([], []), ([], []), ([], []), ([], []), ([4, 5], [4, 5]), ([6], [6]), ([], []), ([], []), ([8, 9], [8, 9]), ([10], [10]), ([0, 1, 0, 1, 4, 5, 6, 7, 11], [0, 1]), ([12, 7, 0, 1, 4, 5, 6, 7, 11], [7, 12]), ([2, 3, 0, 1, 2, 3, 4, 5, 6, 7, 8, 9, 10, 11, 12, 13], [2, 3]), ([14, 11, 13, 0, 1, 2, 3, 4, 5, 6, 7, 8, 9, 10, 11, 12, 13], [11, 14])])
def slices_Reverse_int_int.B3 : List Nat := [0, 0, 0, 0, 0, 0, 48, 112, 0, 0, 768, 1792, 4083, 8179, 16383, 32767]
theorem slices_Reverse_int_int.tab3 : rtab .any (opsOf Tryz.f48 3) = slices_Reverse_int_int.T3 := by kernel_rfl
theorem slices_Reverse_int_int.bits3 : waitsOk slices_Reverse_int_int.T3.2 slices_Reverse_int_int.B3 = true := by kernel_rfl
set_option maxHeartbeats 8000000 in
set_option maxRecDepth 100000 in
theorem slices_Reverse_int_int.calls (k : Nat) (P0_ : Nat → Prop) (u9000_ : Value) (l0 : List Int) (r : List Int) (w0 w : World) (hB : Below w0.heap.size w0 w) (ho0 : Kd.R (Kd.int .i64) 3 w w0.heap.size P0_ u9000_ l0) (h : slices_Reverse_int_int.f k l0 = some r) :
  Calls Tryz.prog 48 #[u9000_] w fun e w' => e = .returned (.tuple #[]) ∧ Kd.R (Kd.int .i64) 3 w' w0.heap.size (fun k_ => (P0_ k_ ∨ w.heap.size ≤ k_)) u9000_ r ∧ Below w0.heap.size w0 w' ∧ Kept w w' (fun k_ => P0_ k_) := by
 have HO0 := Aside0.mk (show Kd.R (Kd.int .i64) 3 w w0.heap.size (fun k_ => (P0_ k_ ∨ w.heap.size ≤ k_)) u9000_ l0 from Kd.R_mono ho0 (fun k_ hk => (.inl hk)))
 have HK := Aside0.mk (Kept.refl w (fun k_ => P0_ k_))
 have HW0 := Aside0.mk hB.size
 have HB := Aside0.mk hB
 clear hB
 have H : (slices_Reverse_int_int.l0 k l0 0 (wrap64 ((l0.length : Int) - 1))) = some r := h
 clear h
 have H' := Aside0.mk H
 clear H
 obtain ⟨Ao2, co2, eo2⟩ := Kd.R_slice HO0.out
 subst eo2
 go_enter Tryz.func48, Tryz.ntmps48
 go_wp2
 go_loopg [2, 3] k (fun kq v2 v3 w' => ∃ (x0_1 : List Int) (x2_1 : Int) (x3_1 : Int), v2 = .int .i64 x2_1 ∧ v3 = .int .i64 x3_1 ∧ Aside0 (slices_Reverse_int_int.l0 kq x0_1 x2_1 x3_1 = some r) ∧ Aside0 (kq ≤ k) ∧ Aside0 (Kd.R (Kd.int .i64) 3 w' w0.heap.size (fun k_ => (P0_ k_ ∨ w.heap.size ≤ k_)) (.slice Ao2 l0.length co2) x0_1) ∧ Aside0 (Kept w w' (fun k_ => P0_ k_)) ∧ Aside0 (Below w0.heap.size w0 w'))
 case atStart => exact ⟨(l0), (0), (wrap64 ((l0.length : Int) - 1)), eqs, eqs, H', ⟨Nat.le_refl _⟩, ⟨by (with_reducible repeat (first | apply Kd.R_alloc | apply Kd.R_drewN | apply Kd.R_drew)); exact HO0.out⟩, ⟨by repeat (first | (with_reducible first | exact HK.out | apply Kept.alloc | apply Kept.drewN | apply Kept.drew) | exact HK.out)⟩, ⟨bel⟩⟩
 case round =>
  clear H'
  try clear p2
  obtain ⟨x0_1, x2_1, x3_1, rfl, rfl, HA, HK1, HO_0, HK, HB⟩ := hrel
  have hl0_1 := (Kd.R_reads' HO_0.out).1
  rw [hl0_1] at HO_0
  (try simp only [hl0_1])
  cases gk with
  | zero => exact absurd HA.out (by simp [slices_Reverse_int_int.l0])
  | succ k1 =>
   have H := HA.out
   clear HA
   simp only [slices_Reverse_int_int.l0] at H
   by_cases c3 : x2_1 < x3_1
   ·rw [if_pos c3] at H
    have c3b0 := decide_eq_true c3
    clear c3
    by_cases c4 : 0 ≤ x3_1
    ·rw [if_pos c4] at H
     have c4b0 := decide_eq_true c4
     clear c4
     by_cases c5 : x3_1 < (x0_1.length : Int)
     ·rw [if_pos c5] at H
      have c5b0 := decide_eq_true c5
      clear c5
      by_cases c6 : 0 ≤ x2_1
      ·rw [if_pos c6] at H
       have c6b0 := decide_eq_true c6
       clear c6
       by_cases c7 : x2_1 < (x0_1.length : Int)
       ·rw [if_pos c7] at H
        have c7b0 := decide_eq_true c7
        clear c7
        obtain ⟨y230, hy230⟩ : ∃ y_ : List Int, y_ = (x0_1.set (x2_1 : Int).toNat (rd x0_1 x3_1)) := ⟨_, rfl⟩
        replace H : (slices_Reverse_int_int.l0 k1 (y230.set (x3_1 : Int).toNat (rd x0_1 x2_1)) (wrap64 (x2_1 + 1)) (wrap64 (x3_1 - 1))) = some r := by first | (rw [hy230]; with_reducible exact H) | (have H2_ := (Option.bind_some _ _).symm.trans H; rw [hy230]; with_reducible exact H2_) | (have H2_ := (Option.bind_some _ _).symm.trans H; with_reducible exact H2_) | with_reducible exact H | (rw [hy230]; exact H) | exact H
        have Ny230 := Aside0.mk hy230
        clear hy230
        obtain ⟨y231, hy231⟩ : ∃ y_ : List Int, y_ = (y230.set (x3_1 : Int).toNat (rd x0_1 x2_1)) := ⟨_, rfl⟩
        replace H : (slices_Reverse_int_int.l0 k1 y231 (wrap64 (x2_1 + 1)) (wrap64 (x3_1 - 1))) = some r := by first | (rw [hy231]; with_reducible exact H) | (have H2_ := (Option.bind_some _ _).symm.trans H; rw [hy231]; with_reducible exact H2_) | (have H2_ := (Option.bind_some _ _).symm.trans H; with_reducible exact H2_) | with_reducible exact H | (rw [hy231]; exact H) | exact H
        have Ny231 := Aside0.mk hy231
        clear hy231
        have H' := Aside0.mk H
        clear H
        try go_wp2
        have n0_ := Aside0.mk (Kd.R_drew HO_0.out)
        have n1_ := Aside0.mk (Kept.drew HK.out)
        have n2_ := Aside0.mk (below_drew1 HB.out)
        clear HO_0
        clear HK
        clear HB
        have HO_0 := n0_
        have HK := n1_
        have HB := n2_
        clear n0_ n1_ n2_
        have p228 : 0 ≤ (x3_1 : Int) := oda
        have q228 : x3_1 < (x0_1.length : Int) := oda
        obtain ⟨ad228, e228, hx228_0⟩ := Kd.at_int (Kd.R_reads' HO_0.out).2.2 x3_1 p228 q228
        cases e228
        replace p228 := eq_true p228
        replace q228 := eq_true q228
        have p229 : 0 ≤ (x2_1 : Int) := oda
        have q229 : x2_1 < (x0_1.length : Int) := oda
        obtain ⟨ad229, e229, hx229_0⟩ := Kd.at_int (Kd.R_reads' HO_0.out).2.2 x2_1 p229 q229
        obtain rfl : ad228 = ad229 := (by injection e229)
        replace p229 := eq_true p229
        replace q229 := eq_true q229
        have p8 : 0 ≤ (x2_1 : Int) := oda
        have q8 : (x2_1 : Int) < ((x0_1.length : Int) : Int) := oda
        obtain ⟨go8, co8, eo8, gb8, gl8, cl8, HG8⟩ := Kd.R_form HO_0.out (by omega)
        (first | cases eo8 | (injection eo8 with ea_ en_ ec_; (first | subst ea_ | (injection ea_ with ea_; subst ea_)); subst ec_; clear en_))
        have GB8 := Aside0.mk gb8
        have GG8 := Aside0.mk HG8
        clear gb8 gl8 HG8
        have HMgo8 := Aside0.mk (show (P0_ go8 ∨ w.heap.size ≤ go8) from (HO_0.out.1 _ rfl))
        (first | simp only [add_plain] at hx228_0 | skip)
        (first | simp only [add_plain] at hx229_0 | skip)
        obtain ⟨hx8_0, hf8_0⟩ := Kd.R_celln 0 HO_0.out (x2_1 : Int) p8 q8
        replace p8 := eq_true p8
        replace q8 := eq_true q8
        have HP11 := Kd.R_putn HO_0.out (x2_1 : Int) (rd x0_1 x3_1)
        rw [← Ny230.out] at HP11
        have HQ11 := Aside0.mk HP11
        clear HP11
        have p9 : 0 ≤ (x3_1 : Int) := oda
        have q9 : (x3_1 : Int) < ((x0_1.length : Int) : Int) := oda
        obtain ⟨hx9_0, hf9_0⟩ := Kd.R_celln 0 HQ11.out (x3_1 : Int) p9 q9
        replace p9 := eq_true p9
        replace q9 := eq_true q9
        have HP12 := Kd.R_putn HQ11.out (x3_1 : Int) (rd x0_1 x2_1)
        rw [← Ny231.out] at HP12
        have HQ12 := Aside0.mk HP12
        clear HP12
        refine start_ (n := 16) (S := fun w' => w'.cell? ⟨go8, (x3_1).toNat, none⟩ = some (.int .i64 (rd x0_1 x3_1)) ∧ w'.cell? ⟨go8, (x2_1).toNat, none⟩ = some (.int .i64 (rd x0_1 x2_1))) (ds := [13, 15]) #[false, false, false, false, false, false, false, false, false, false, false, false, false, false, false, false] (by kernel_rfl) rfl rfl ⟨hx228_0, hx229_0⟩ (fun hHeld => ?_); refine with_tabW slices_Reverse_int_int.tab3 slices_Reverse_int_int.bits3 (fun HT_ HW_ => ?_)
        generalize wr.drew = w10 at HO_0 HK HB GG8 HQ11 HQ12 hf8_0 hf9_0 hx228_0 hx229_0 hx8_0 hx9_0 hHeld ⊢
        refine pu 0 (some 14) ?_
        refine pu 1 (some 15) ?_
        refine pu 2 (some 16) ?_
        refine pu 3 (some 17) ?_
        refine pu 4 (some 18) ?_
        refine pu 5 (some 19) ?_
        refine pu 6 (some 20) ?_
        refine pu 8 (some 22) ?_
        refine pu 9 (some 23) ?_
        refine pu 10 (some 24) ?_
        refine tr 7 (some 21) hHeld ?_
        refine tr 11 (some 25) hHeld ?_
        refine pu 12 (some 26) ?_
        refine la 13 none fun K hK => ?_
        refine skip_ (w1 := ?_) (by rfl) rfl ?_ ?_
        rotate_left
        ·go_simp
         rfl
        refine hK.out _ _ ?_
        clear hK K
        refine pu 14 (some 27) ?_
        refine la 15 none fun K hK => ?_
        refine skip_ (w1 := ?_) (by rfl) rfl ?_ ?_
        rotate_left
        ·go_simp
         rfl
        refine hK.out _ _ ?_
        clear hK K
        refine done_ (done_of HT_.out (by kernel_rfl)) ?_
        try go_wp2
        (try simp only [← hl0_1])
        go_roundg k1
        case measure => have := HK1.out; omega
        case rel => exact ⟨(y231), (wrap64 (x2_1 + 1)), (wrap64 (x3_1 - 1)), eqs, eqs, H', ⟨by have := HK1.out; omega⟩, ⟨by (try simp only [hl0_1]); (with_reducible repeat (first | apply Kd.R_alloc | apply Kd.R_drewN | apply Kd.R_drew)); exact HQ12.out⟩, ⟨by repeat (first | (with_reducible first | exact HK.out | apply Kept.alloc | apply Kept.drewN | apply Kept.drew | refine Kept.setCell ?_ HMgo8.out _ | refine Kept.setCell ?_ HMgo8.out _) | exact HK.out)⟩, ⟨bel⟩⟩
       ·rw [if_neg c7] at H
        exact absurd H (by simp)
      ·rw [if_neg c6] at H
       exact absurd H (by simp)
     ·rw [if_neg c5] at H
      exact absurd H (by simp)
    ·rw [if_neg c4] at H
     exact absurd H (by simp)
   ·rw [if_neg c3] at H
    have c3b0 := decide_eq_false c3
    clear c3
    obtain rfl := Option.some.inj H
    go_wp2
    first | go_end0 | ((try simp only [Exit.inBlock, Exit.then]); refine bodyPost_ret (results_none rfl _ _ _) rfl ?_)
    exact ⟨eqv, (by first | exact (rua HO_0) | (simp only [hl0_1]; exact (rua HO_0))), bel, by repeat (first | (with_reducible first | exact HK.out | apply Kept.alloc | apply Kept.drewN | apply Kept.drew) | exact HK.out)⟩
def prop_Check.l0 : Nat → Int → Int → List (S69) → Int → Int → Option (Bool)
 | 0, _, _, _, _, _ => none
 | k + 1, x1, x5, x11, x12, x13 => if x13 < x12 then (if 0 ≤ x13 then (if x13 < (x11.length : Int) then (if ((rd_T69 x11 x13).f0) ≤ x5 then (some false) else (if ((rd_T69 x11 x13).f1) < ((rd_T69 x11 x13).f0) then (some false) else (if ((rd_T69 x11 x13).f1) > 1114111 then (some false) else (if ((rd_T69 x11 x13).f2) < 0 then (some false) else (if ((rd_T69 x11 x13).f2) ≥ x1 then (some false) else (if ((rd_T69 x11 x13).f2) > 255 then (some false) else (prop_Check.l0 k x1 ((rd_T69 x11 x13).f1) x11 x12 (wrap64 (x13 + 1))))))))) else (none)) else (none)) else (some true)
def prop_Check.f (k : Nat) (l0 : List (S69)) (a1 : Int) : Option (Bool) := if (l0.length : Int) > 256 then (some false) else (prop_Check.l0 k a1 (-1) l0 (l0.length : Int) 0)
set_option maxHeartbeats 8000000 in
set_option maxRecDepth 100000 in
theorem prop_Check.calls (k : Nat) (A0 : Option Addr) (c0 : Nat) (l0 : List (S69)) (a1 : Int) (r : Bool) (w : World) (hr0 : Kd.C k69 w A0 l0.length l0) (hc0 : l0.length ≤ c0) (h : prop_Check.f k l0 a1 = some r) :
  Calls Tryz.prog 21 #[.slice A0 l0.length c0, .int .i64 a1] w fun e w' => e = .returned (.bool r) ∧ Below w.heap.size w w' := by
 have hu69 := Tryz.underlying69
 have HR0 := Aside0.mk hr0
 have HC0 := Aside0.mk hc0
 clear hr0 hc0
 have HB := Aside0.mk (Below.refl w.heap.size w)
 have H : (if (l0.length : Int) > 256 then (some false) else (prop_Check.l0 k a1 (-1) l0 (l0.length : Int) 0)) = some r := h
 clear h
 by_cases c3 : (l0.length : Int) > 256
 ·rw [if_pos c3] at H
  have c3b0 := decide_eq_true c3
  have c3b1 : decide (256 < l0.length) = true := decide_eq_true (by omega)
  clear c3
  obtain rfl := Option.some.inj H
  go_enter Tryz.func21, Tryz.ntmps21
  go_wp2
  go_ret
  exact ⟨eqv, bel⟩
 ·rw [if_neg c3] at H
  have c3b0 := decide_eq_false c3
  have c3b1 : decide (256 < l0.length) = false := decide_eq_false (by omega)
  clear c3
  have H' := Aside0.mk H
  clear H
  go_enter Tryz.func21, Tryz.ntmps21
  go_wp2
  go_loopg [5, 13] k (fun kq v5 v13 w' => ∃ (x5_1 : Int) (x13_1 : Int), v5 = .int .i32 x5_1 ∧ v13 = .int .i64 x13_1 ∧ Aside0 (prop_Check.l0 kq a1 x5_1 l0 (l0.length : Int) x13_1 = some r) ∧ Aside0 (kq ≤ k) ∧ Aside0 (Below w.heap.size w w'))
  case atStart => exact ⟨((-1)), (0), eqs, eqs, H', ⟨Nat.le_refl _⟩, ⟨bel⟩⟩
  case round =>
   clear H'
   try clear c2
   try clear p2
   try clear c3
   try clear c3b0
   try clear c3b1
   obtain ⟨x5_1, x13_1, rfl, rfl, HA, HK1, HB⟩ := hrel
   cases gk with
   | zero => exact absurd HA.out (by simp [prop_Check.l0])
   | succ k1 =>
    have H := HA.out
    clear HA
    simp only [prop_Check.l0] at H
    by_cases c4 : x13_1 < (l0.length : Int)
    ·rw [if_pos c4] at H
     have c4b0 := decide_eq_true c4
     clear c4
     by_cases c5 : 0 ≤ x13_1
     ·rw [if_pos c5] at H
      have c5b0 := decide_eq_true c5
      clear c5
      by_cases c6 : x13_1 < (l0.length : Int)
      ·rw [if_pos c6] at H
       have c6b0 := decide_eq_true c6
       clear c6
       by_cases c7 : ((rd_T69 l0 x13_1).f0) ≤ x5_1
       ·rw [if_pos c7] at H
        have c7b0 := decide_eq_true c7
        clear c7
        obtain rfl := Option.some.inj H
        have p190 : 0 ≤ (x13_1 : Int) := oda
        have q190 : x13_1 < (l0.length : Int) := oda
        obtain ⟨ad190, e190, hx190_0, hx190_1, hx190_2⟩ := at_T69 HR0.out x13_1 p190 q190
        cases e190
        replace hx190_0 := bc HB hx190_0
        replace hx190_1 := bc HB hx190_1
        replace hx190_2 := bc HB hx190_2
        replace p190 := eq_true p190
        replace q190 := eq_true q190
        go_wp2_with (first | ((with_reducible refine gate_dst (N := 7) rfl ?_); refine box_ev (N := 7) (cs := #[.int .i32 0, .int .i32 0, .int .i64 0]) (t := 69) ?_; intro gb191 hg w8 hbox hb; have n0_ := Aside0.mk (below_step bel hb); have n1_ := Aside0.mk (hbox); have n2_ := Aside0.mk (szb hg); have n3_ := Aside0.mk (szb hg); clear HB; revert n0_ n1_ n2_ n3_; intro HB BK191 GW191 GE191; clear hb hbox hg; obtain ⟨hcz9_0, hcz9_1, hcz9_2, hfz9_0, hfz9_1, hfz9_2⟩ := cs3 BK191))
        go_ret
        exact ⟨eqv, bel⟩
       ·rw [if_neg c7] at H
        have c7b0 := decide_eq_false c7
        clear c7
        by_cases c10 : ((rd_T69 l0 x13_1).f1) < ((rd_T69 l0 x13_1).f0)
        ·rw [if_pos c10] at H
         have c10b0 := decide_eq_true c10
         clear c10
         obtain rfl := Option.some.inj H
         have p190 : 0 ≤ (x13_1 : Int) := oda
         have q190 : x13_1 < (l0.length : Int) := oda
         obtain ⟨ad190, e190, hx190_0, hx190_1, hx190_2⟩ := at_T69 HR0.out x13_1 p190 q190
         cases e190
         replace hx190_0 := bc HB hx190_0
         replace hx190_1 := bc HB hx190_1
         replace hx190_2 := bc HB hx190_2
         replace p190 := eq_true p190
         replace q190 := eq_true q190
         go_wp2_with (first | ((with_reducible refine gate_dst (N := 7) rfl ?_); refine box_ev (N := 7) (cs := #[.int .i32 0, .int .i32 0, .int .i64 0]) (t := 69) ?_; intro gb191 hg w11 hbox hb; have n0_ := Aside0.mk (below_step bel hb); have n1_ := Aside0.mk (hbox); have n2_ := Aside0.mk (szb hg); have n3_ := Aside0.mk (szb hg); clear HB; revert n0_ n1_ n2_ n3_; intro HB BK191 GW191 GE191; clear hb hbox hg; obtain ⟨hcz12_0, hcz12_1, hcz12_2, hfz12_0, hfz12_1, hfz12_2⟩ := cs3 BK191))
         go_ret
         exact ⟨eqv, bel⟩
        ·rw [if_neg c10] at H
         have c10b0 := decide_eq_false c10
         clear c10
         by_cases c13 : ((rd_T69 l0 x13_1).f1) > 1114111
         ·rw [if_pos c13] at H
          have c13b0 := decide_eq_true c13
          clear c13
          obtain rfl := Option.some.inj H
          have p190 : 0 ≤ (x13_1 : Int) := oda
          have q190 : x13_1 < (l0.length : Int) := oda
          obtain ⟨ad190, e190, hx190_0, hx190_1, hx190_2⟩ := at_T69 HR0.out x13_1 p190 q190
          cases e190
          replace hx190_0 := bc HB hx190_0
          replace hx190_1 := bc HB hx190_1
          replace hx190_2 := bc HB hx190_2
          replace p190 := eq_true p190
          replace q190 := eq_true q190
          go_wp2_with (first | ((with_reducible refine gate_dst (N := 7) rfl ?_); refine box_ev (N := 7) (cs := #[.int .i32 0, .int .i32 0, .int .i64 0]) (t := 69) ?_; intro gb191 hg w14 hbox hb; have n0_ := Aside0.mk (below_step bel hb); have n1_ := Aside0.mk (hbox); have n2_ := Aside0.mk (szb hg); have n3_ := Aside0.mk (szb hg); clear HB; revert n0_ n1_ n2_ n3_; intro HB BK191 GW191 GE191; clear hb hbox hg; obtain ⟨hcz15_0, hcz15_1, hcz15_2, hfz15_0, hfz15_1, hfz15_2⟩ := cs3 BK191))
          go_ret
          exact ⟨eqv, bel⟩
         ·rw [if_neg c13] at H
          have c13b0 := decide_eq_false c13
          clear c13
          by_cases c16 : ((rd_T69 l0 x13_1).f2) < 0
          ·rw [if_pos c16] at H
           have c16b0 := decide_eq_true c16
           clear c16
           obtain rfl := Option.some.inj H
           have p190 : 0 ≤ (x13_1 : Int) := oda
           have q190 : x13_1 < (l0.length : Int) := oda
           obtain ⟨ad190, e190, hx190_0, hx190_1, hx190_2⟩ := at_T69 HR0.out x13_1 p190 q190
           cases e190
           replace hx190_0 := bc HB hx190_0
           replace hx190_1 := bc HB hx190_1
           replace hx190_2 := bc HB hx190_2
           replace p190 := eq_true p190
           replace q190 := eq_true q190
           go_wp2_with (first | ((with_reducible refine gate_dst (N := 7) rfl ?_); refine box_ev (N := 7) (cs := #[.int .i32 0, .int .i32 0, .int .i64 0]) (t := 69) ?_; intro gb191 hg w17 hbox hb; have n0_ := Aside0.mk (below_step bel hb); have n1_ := Aside0.mk (hbox); have n2_ := Aside0.mk (szb hg); have n3_ := Aside0.mk (szb hg); clear HB; revert n0_ n1_ n2_ n3_; intro HB BK191 GW191 GE191; clear hb hbox hg; obtain ⟨hcz18_0, hcz18_1, hcz18_2, hfz18_0, hfz18_1, hfz18_2⟩ := cs3 BK191))
           go_ret
           exact ⟨eqv, bel⟩
          ·rw [if_neg c16] at H
           have c16b0 := decide_eq_false c16
           clear c16
           by_cases c19 : ((rd_T69 l0 x13_1).f2) ≥ a1
           ·rw [if_pos c19] at H
            have c19b0 := decide_eq_true c19
            clear c19
            obtain rfl := Option.some.inj H
            have p190 : 0 ≤ (x13_1 : Int) := oda
            have q190 : x13_1 < (l0.length : Int) := oda
            obtain ⟨ad190, e190, hx190_0, hx190_1, hx190_2⟩ := at_T69 HR0.out x13_1 p190 q190
            cases e190
            replace hx190_0 := bc HB hx190_0
            replace hx190_1 := bc HB hx190_1
            replace hx190_2 := bc HB hx190_2
            replace p190 := eq_true p190
            replace q190 := eq_true q190
            go_wp2_with (first | ((with_reducible refine gate_dst (N := 7) rfl ?_); refine box_ev (N := 7) (cs := #[.int .i32 0, .int .i32 0, .int .i64 0]) (t := 69) ?_; intro gb191 hg w20 hbox hb; have n0_ := Aside0.mk (below_step bel hb); have n1_ := Aside0.mk (hbox); have n2_ := Aside0.mk (szb hg); have n3_ := Aside0.mk (szb hg); clear HB; revert n0_ n1_ n2_ n3_; intro HB BK191 GW191 GE191; clear hb hbox hg; obtain ⟨hcz21_0, hcz21_1, hcz21_2, hfz21_0, hfz21_1, hfz21_2⟩ := cs3 BK191))
            go_ret
            exact ⟨eqv, bel⟩
           ·rw [if_neg c19] at H
            have c19b0 := decide_eq_false c19
            clear c19
            by_cases c22 : ((rd_T69 l0 x13_1).f2) > 255
            ·rw [if_pos c22] at H
             have c22b0 := decide_eq_true c22
             clear c22
             obtain rfl := Option.some.inj H
             have p190 : 0 ≤ (x13_1 : Int) := oda
             have q190 : x13_1 < (l0.length : Int) := oda
             obtain ⟨ad190, e190, hx190_0, hx190_1, hx190_2⟩ := at_T69 HR0.out x13_1 p190 q190
             cases e190
             replace hx190_0 := bc HB hx190_0
             replace hx190_1 := bc HB hx190_1
             replace hx190_2 := bc HB hx190_2
             replace p190 := eq_true p190
             replace q190 := eq_true q190
             go_wp2_with (first | ((with_reducible refine gate_dst (N := 7) rfl ?_); refine box_ev (N := 7) (cs := #[.int .i32 0, .int .i32 0, .int .i64 0]) (t := 69) ?_; intro gb191 hg w23 hbox hb; have n0_ := Aside0.mk (below_step bel hb); have n1_ := Aside0.mk (hbox); have n2_ := Aside0.mk (szb hg); have n3_ := Aside0.mk (szb hg); clear HB; revert n0_ n1_ n2_ n3_; intro HB BK191 GW191 GE191; clear hb hbox hg; obtain ⟨hcz24_0, hcz24_1, hcz24_2, hfz24_0, hfz24_1, hfz24_2⟩ := cs3 BK191))
             go_ret
             exact ⟨eqv, bel⟩
            ·rw [if_neg c22] at H
             have c22b0 := decide_eq_false c22
             clear c22
             have H' := Aside0.mk H
             clear H
             have p190 : 0 ≤ (x13_1 : Int) := oda
             have q190 : x13_1 < (l0.length : Int) := oda
             obtain ⟨ad190, e190, hx190_0, hx190_1, hx190_2⟩ := at_T69 HR0.out x13_1 p190 q190
             cases e190
             replace hx190_0 := bc HB hx190_0
             replace hx190_1 := bc HB hx190_1
             replace hx190_2 := bc HB hx190_2
             replace p190 := eq_true p190
             replace q190 := eq_true q190
             go_wp2_with (first | ((with_reducible refine gate_dst (N := 7) rfl ?_); refine box_ev (N := 7) (cs := #[.int .i32 0, .int .i32 0, .int .i64 0]) (t := 69) ?_; intro gb191 hg w25 hbox hb; have n0_ := Aside0.mk (below_step bel hb); have n1_ := Aside0.mk (hbox); have n2_ := Aside0.mk (szb hg); have n3_ := Aside0.mk (szb hg); clear HB; revert n0_ n1_ n2_ n3_; intro HB BK191 GW191 GE191; clear hb hbox hg; obtain ⟨hcz26_0, hcz26_1, hcz26_2, hfz26_0, hfz26_1, hfz26_2⟩ := cs3 BK191))
             go_roundg k1
             case measure => have := HK1.out; omega
             case rel => exact ⟨((rd_T69 l0 x13_1).f1), (wrap64 (x13_1 + 1)), eqs, eqs, H', ⟨by have := HK1.out; omega⟩, ⟨bel⟩⟩
      ·rw [if_neg c6] at H
       exact absurd H (by simp)
     ·rw [if_neg c5] at H
      exact absurd H (by simp)
    ·rw [if_neg c4] at H
     have c4b0 := decide_eq_false c4
     clear c4
     obtain rfl := Option.some.inj H
     go_wp2
     go_ret
     exact ⟨eqv, bel⟩
def hyph_Check.l0 : Nat → Int → List (S69) → Int → Int → Option (Bool)
 | 0, _, _, _, _ => none
 | k + 1, x3, x9, x10, x11 => if x11 < x10 then (if 0 ≤ x11 then (if x11 < (x9.length : Int) then (if ((rd_T69 x9 x11).f0) ≤ x3 then (some false) else (if ((rd_T69 x9 x11).f1) < ((rd_T69 x9 x11).f0) then (some false) else (if ((rd_T69 x9 x11).f1) > 1114111 then (some false) else (if ((rd_T69 x9 x11).f2) < 0 then (some false) else (if ((rd_T69 x9 x11).f2) > (wrap64 (1114111 - (wrap64 (wrap32 (((rd_T69 x9 x11).f1) - ((rd_T69 x9 x11).f0)))))) then (some false) else (hyph_Check.l0 k ((rd_T69 x9 x11).f1) x9 x10 (wrap64 (x11 + 1)))))))) else (none)) else (none)) else (some true)
def hyph_Check.f (k : Nat) (l0 : List (S69)) : Option (Bool) := if (l0.length : Int) > 256 then (some false) else (hyph_Check.l0 k (-1) l0 (l0.length : Int) 0)
set_option maxHeartbeats 8000000 in
set_option maxRecDepth 100000 in
theorem hyph_Check.calls (k : Nat) (A0 : Option Addr) (c0 : Nat) (l0 : List (S69)) (r : Bool) (w : World) (hr0 : Kd.C k69 w A0 l0.length l0) (hc0 : l0.length ≤ c0) (h : hyph_Check.f k l0 = some r) :
  Calls Tryz.prog 22 #[.slice A0 l0.length c0] w fun e w' => e = .returned (.bool r) ∧ Below w.heap.size w w' := by
 have hu69 := Tryz.underlying69
 have HR0 := Aside0.mk hr0
 have HC0 := Aside0.mk hc0
 clear hr0 hc0
 have HB := Aside0.mk (Below.refl w.heap.size w)
 have H : (if (l0.length : Int) > 256 then (some false) else (hyph_Check.l0 k (-1) l0 (l0.length : Int) 0)) = some r := h
 clear h
 by_cases c2 : (l0.length : Int) > 256
 ·rw [if_pos c2] at H
  have c2b0 := decide_eq_true c2
  have c2b1 : decide (256 < l0.length) = true := decide_eq_true (by omega)
  clear c2
  obtain rfl := Option.some.inj H
  go_enter Tryz.func22, Tryz.ntmps22
  go_wp2
  go_ret
  exact ⟨eqv, bel⟩
 ·rw [if_neg c2] at H
  have c2b0 := decide_eq_false c2
  have c2b1 : decide (256 < l0.length) = false := decide_eq_false (by omega)
  clear c2
  have H' := Aside0.mk H
  clear H
  go_enter Tryz.func22, Tryz.ntmps22
  go_wp2
  go_loopg [3, 11] k (fun kq v3 v11 w' => ∃ (x3_1 : Int) (x11_1 : Int), v3 = .int .i32 x3_1 ∧ v11 = .int .i64 x11_1 ∧ Aside0 (hyph_Check.l0 kq x3_1 l0 (l0.length : Int) x11_1 = some r) ∧ Aside0 (kq ≤ k) ∧ Aside0 (Below w.heap.size w w'))
  case atStart => exact ⟨((-1)), (0), eqs, eqs, H', ⟨Nat.le_refl _⟩, ⟨bel⟩⟩
  case round =>
   clear H'
   try clear c2
   try clear c2b0
   try clear c2b1
   try clear p2
   obtain ⟨x3_1, x11_1, rfl, rfl, HA, HK1, HB⟩ := hrel
   cases gk with
   | zero => exact absurd HA.out (by simp [hyph_Check.l0])
   | succ k1 =>
    have H := HA.out
    clear HA
    simp only [hyph_Check.l0] at H
    by_cases c3 : x11_1 < (l0.length : Int)
    ·rw [if_pos c3] at H
     have c3b0 := decide_eq_true c3
     clear c3
     by_cases c4 : 0 ≤ x11_1
     ·rw [if_pos c4] at H
      have c4b0 := decide_eq_true c4
      clear c4
      by_cases c5 : x11_1 < (l0.length : Int)
      ·rw [if_pos c5] at H
       have c5b0 := decide_eq_true c5
       clear c5
       by_cases c6 : ((rd_T69 l0 x11_1).f0) ≤ x3_1
       ·rw [if_pos c6] at H
        have c6b0 := decide_eq_true c6
        clear c6
        obtain rfl := Option.some.inj H
        have p192 : 0 ≤ (x11_1 : Int) := oda
        have q192 : x11_1 < (l0.length : Int) := oda
        obtain ⟨ad192, e192, hx192_0, hx192_1, hx192_2⟩ := at_T69 HR0.out x11_1 p192 q192
        cases e192
        replace hx192_0 := bc HB hx192_0
        replace hx192_1 := bc HB hx192_1
        replace hx192_2 := bc HB hx192_2
        replace p192 := eq_true p192
        replace q192 := eq_true q192
        go_wp2_with (first | ((with_reducible refine gate_dst (N := 5) rfl ?_); refine box_ev (N := 5) (cs := #[.int .i32 0, .int .i32 0, .int .i64 0]) (t := 69) ?_; intro gb193 hg w7 hbox hb; have n0_ := Aside0.mk (below_step bel hb); have n1_ := Aside0.mk (hbox); have n2_ := Aside0.mk (szb hg); have n3_ := Aside0.mk (szb hg); clear HB; revert n0_ n1_ n2_ n3_; intro HB BK193 GW193 GE193; clear hb hbox hg; obtain ⟨hcz8_0, hcz8_1, hcz8_2, hfz8_0, hfz8_1, hfz8_2⟩ := cs3 BK193))
        go_ret
        exact ⟨eqv, bel⟩
       ·rw [if_neg c6] at H
        have c6b0 := decide_eq_false c6
        clear c6
        by_cases c9 : ((rd_T69 l0 x11_1).f1) < ((rd_T69 l0 x11_1).f0)
        ·rw [if_pos c9] at H
         have c9b0 := decide_eq_true c9
         clear c9
         obtain rfl := Option.some.inj H
         have p192 : 0 ≤ (x11_1 : Int) := oda
         have q192 : x11_1 < (l0.length : Int) := oda
         obtain ⟨ad192, e192, hx192_0, hx192_1, hx192_2⟩ := at_T69 HR0.out x11_1 p192 q192
         cases e192
         replace hx192_0 := bc HB hx192_0
         replace hx192_1 := bc HB hx192_1
         replace hx192_2 := bc HB hx192_2
         replace p192 := eq_true p192
         replace q192 := eq_true q192
         go_wp2_with (first | ((with_reducible refine gate_dst (N := 5) rfl ?_); refine box_ev (N := 5) (cs := #[.int .i32 0, .int .i32 0, .int .i64 0]) (t := 69) ?_; intro gb193 hg w10 hbox hb; have n0_ := Aside0.mk (below_step bel hb); have n1_ := Aside0.mk (hbox); have n2_ := Aside0.mk (szb hg); have n3_ := Aside0.mk (szb hg); clear HB; revert n0_ n1_ n2_ n3_; intro HB BK193 GW193 GE193; clear hb hbox hg; obtain ⟨hcz11_0, hcz11_1, hcz11_2, hfz11_0, hfz11_1, hfz11_2⟩ := cs3 BK193))
         go_ret
         exact ⟨eqv, bel⟩
        ·rw [if_neg c9] at H
         have c9b0 := decide_eq_false c9
         clear c9
         by_cases c12 : ((rd_T69 l0 x11_1).f1) > 1114111
         ·rw [if_pos c12] at H
          have c12b0 := decide_eq_true c12
          clear c12
          obtain rfl := Option.some.inj H
          have p192 : 0 ≤ (x11_1 : Int) := oda
          have q192 : x11_1 < (l0.length : Int) := oda
          obtain ⟨ad192, e192, hx192_0, hx192_1, hx192_2⟩ := at_T69 HR0.out x11_1 p192 q192
          cases e192
          replace hx192_0 := bc HB hx192_0
          replace hx192_1 := bc HB hx192_1
          replace hx192_2 := bc HB hx192_2
          replace p192 := eq_true p192
          replace q192 := eq_true q192
          go_wp2_with (first | ((with_reducible refine gate_dst (N := 5) rfl ?_); refine box_ev (N := 5) (cs := #[.int .i32 0, .int .i32 0, .int .i64 0]) (t := 69) ?_; intro gb193 hg w13 hbox hb; have n0_ := Aside0.mk (below_step bel hb); have n1_ := Aside0.mk (hbox); have n2_ := Aside0.mk (szb hg); have n3_ := Aside0.mk (szb hg); clear HB; revert n0_ n1_ n2_ n3_; intro HB BK193 GW193 GE193; clear hb hbox hg; obtain ⟨hcz14_0, hcz14_1, hcz14_2, hfz14_0, hfz14_1, hfz14_2⟩ := cs3 BK193))
          go_ret
          exact ⟨eqv, bel⟩
         ·rw [if_neg c12] at H
          have c12b0 := decide_eq_false c12
          clear c12
          by_cases c15 : ((rd_T69 l0 x11_1).f2) < 0
          ·rw [if_pos c15] at H
           have c15b0 := decide_eq_true c15
           clear c15
           obtain rfl := Option.some.inj H
           have p192 : 0 ≤ (x11_1 : Int) := oda
           have q192 : x11_1 < (l0.length : Int) := oda
           obtain ⟨ad192, e192, hx192_0, hx192_1, hx192_2⟩ := at_T69 HR0.out x11_1 p192 q192
           cases e192
           replace hx192_0 := bc HB hx192_0
           replace hx192_1 := bc HB hx192_1
           replace hx192_2 := bc HB hx192_2
           replace p192 := eq_true p192
           replace q192 := eq_true q192
           go_wp2_with (first | ((with_reducible refine gate_dst (N := 5) rfl ?_); refine box_ev (N := 5) (cs := #[.int .i32 0, .int .i32 0, .int .i64 0]) (t := 69) ?_; intro gb193 hg w16 hbox hb; have n0_ := Aside0.mk (below_step bel hb); have n1_ := Aside0.mk (hbox); have n2_ := Aside0.mk (szb hg); have n3_ := Aside0.mk (szb hg); clear HB; revert n0_ n1_ n2_ n3_; intro HB BK193 GW193 GE193; clear hb hbox hg; obtain ⟨hcz17_0, hcz17_1, hcz17_2, hfz17_0, hfz17_1, hfz17_2⟩ := cs3 BK193))
           go_ret
           exact ⟨eqv, bel⟩
          ·rw [if_neg c15] at H
           have c15b0 := decide_eq_false c15
           clear c15
           by_cases c18 : ((rd_T69 l0 x11_1).f2) > (wrap64 (1114111 - (wrap64 (wrap32 (((rd_T69 l0 x11_1).f1) - ((rd_T69 l0 x11_1).f0))))))
           ·rw [if_pos c18] at H
            have c18b0 := decide_eq_true c18
            clear c18
            obtain rfl := Option.some.inj H
            have p192 : 0 ≤ (x11_1 : Int) := oda
            have q192 : x11_1 < (l0.length : Int) := oda
            obtain ⟨ad192, e192, hx192_0, hx192_1, hx192_2⟩ := at_T69 HR0.out x11_1 p192 q192
            cases e192
            replace hx192_0 := bc HB hx192_0
            replace hx192_1 := bc HB hx192_1
            replace hx192_2 := bc HB hx192_2
            replace p192 := eq_true p192
            replace q192 := eq_true q192
            go_wp2_with (first | ((with_reducible refine gate_dst (N := 5) rfl ?_); refine box_ev (N := 5) (cs := #[.int .i32 0, .int .i32 0, .int .i64 0]) (t := 69) ?_; intro gb193 hg w19 hbox hb; have n0_ := Aside0.mk (below_step bel hb); have n1_ := Aside0.mk (hbox); have n2_ := Aside0.mk (szb hg); have n3_ := Aside0.mk (szb hg); clear HB; revert n0_ n1_ n2_ n3_; intro HB BK193 GW193 GE193; clear hb hbox hg; obtain ⟨hcz20_0, hcz20_1, hcz20_2, hfz20_0, hfz20_1, hfz20_2⟩ := cs3 BK193))
            go_ret
            exact ⟨eqv, bel⟩
           ·rw [if_neg c18] at H
            have c18b0 := decide_eq_false c18
            clear c18
            have H' := Aside0.mk H
            clear H
            have p192 : 0 ≤ (x11_1 : Int) := oda
            have q192 : x11_1 < (l0.length : Int) := oda
            obtain ⟨ad192, e192, hx192_0, hx192_1, hx192_2⟩ := at_T69 HR0.out x11_1 p192 q192
            cases e192
            replace hx192_0 := bc HB hx192_0
            replace hx192_1 := bc HB hx192_1
            replace hx192_2 := bc HB hx192_2
            replace p192 := eq_true p192
            replace q192 := eq_true q192
            go_wp2_with (first | ((with_reducible refine gate_dst (N := 5) rfl ?_); refine box_ev (N := 5) (cs := #[.int .i32 0, .int .i32 0, .int .i64 0]) (t := 69) ?_; intro gb193 hg w21 hbox hb; have n0_ := Aside0.mk (below_step bel hb); have n1_ := Aside0.mk (hbox); have n2_ := Aside0.mk (szb hg); have n3_ := Aside0.mk (szb hg); clear HB; revert n0_ n1_ n2_ n3_; intro HB BK193 GW193 GE193; clear hb hbox hg; obtain ⟨hcz22_0, hcz22_1, hcz22_2, hfz22_0, hfz22_1, hfz22_2⟩ := cs3 BK193))
            go_roundg k1
            case measure => have := HK1.out; omega
            case rel => exact ⟨((rd_T69 l0 x11_1).f1), (wrap64 (x11_1 + 1)), eqs, eqs, H', ⟨by have := HK1.out; omega⟩, ⟨bel⟩⟩
      ·rw [if_neg c5] at H
       exact absurd H (by simp)
     ·rw [if_neg c4] at H
      exact absurd H (by simp)
    ·rw [if_neg c3] at H
     have c3b0 := decide_eq_false c3
     clear c3
     obtain rfl := Option.some.inj H
     go_wp2
     go_ret
     exact ⟨eqv, bel⟩
def stanzatop_letters.l0 : Nat → ByteArray → List Int → List Int → Int → Int → Option (List Int)
 | 0, _, _, _, _, _ => none
 | k + 1, x1, x5, x8, x9, x10 => if x10 < x9 then (if 0 ≤ x10 then (if x10 < (x8.length : Int) then (if (x1.size : Int) = 0 then (none) else (if 0 ≤ (Int.tmod (wrap64 (rd x8 x10)) (x1.size : Int)) then (if (Int.tmod (wrap64 (rd x8 x10)) (x1.size : Int)) < (x1.size : Int) then (if x5.length < 140737488355328 then (stanzatop_letters.l0 k x1 (x5 ++ [bt x1 (Int.tmod (wrap64 (rd x8 x10)) (x1.size : Int))]) x8 x9 (wrap64 (x10 + 1))) else (none)) else (none)) else (none))) else (none)) else (none)) else (some x5)
def stanzatop_letters.f (k : Nat) (l0 : List Int) (a1 : ByteArray) : Option (List Int) := stanzatop_letters.l0 k a1 ([] : List Int) l0 (l0.length : Int) 0
set_option maxHeartbeats 8000000 in
set_option maxRecDepth 100000 in
theorem stanzatop_letters.calls (k : Nat) (A0 : Option Addr) (c0 : Nat) (l0 : List Int) (a1 : ByteArray) (r : List Int) (w : World) (hr0 : Kd.C (Kd.int .u8) w A0 l0.length l0) (hc0 : l0.length ≤ c0) (h : stanzatop_letters.f k l0 a1 = some r) :
  Calls Tryz.prog 8 #[.slice A0 l0.length c0, .string a1] w fun e w' => ∃ v0_ : Value, e = .returned (v0_) ∧ Kd.R (Kd.int .u8) 5 w' w.heap.size (fun _ => True) v0_ r ∧ Below w.heap.size w w' := by
 have HR0 := Aside0.mk hr0
 have HC0 := Aside0.mk hc0
 clear hr0 hc0
 have HB := Aside0.mk (Below.refl w.heap.size w)
 have H : (stanzatop_letters.l0 k a1 ([] : List Int) l0 (l0.length : Int) 0) = some r := h
 clear h
 have H' := Aside0.mk H
 clear H
 go_enter Tryz.func8, Tryz.ntmps8
 go_wp2
 go_loopg [5, 10] k (fun kq v5 v10 w' => ∃ (x5_1 : List Int) (x10_1 : Int), v10 = .int .i64 x10_1 ∧ Aside0 (stanzatop_letters.l0 kq a1 x5_1 l0 (l0.length : Int) x10_1 = some r) ∧ Aside0 (kq ≤ k) ∧ Aside0 (Kd.R (Kd.int .u8) 5 w' w.heap.size (fun _ => True) v5 x5_1) ∧ Aside0 (Below w.heap.size w w'))
 case atStart => exact ⟨(([] : List Int)), (0), eqs, H', ⟨Nat.le_refl _⟩, ⟨by first | exact Kd.R_nil _ _ _ _ _ | exact Kd.N_nil _ _ _ _ _ | exact Kd.V_nil _ _ _ _ _ | exact Kd.Q_nil _ _ _ _ _ | exact Kd.S_nil _ _ _ _ _⟩, ⟨bel⟩⟩
 case round =>
  clear H'
  try clear p2
  obtain ⟨x5_1, x10_1, rfl, HA, HK1, HO_5, HB⟩ := hrel
  cases gk with
  | zero => exact absurd HA.out (by simp [stanzatop_letters.l0])
  | succ k1 =>
   have H := HA.out
   clear HA
   simp only [stanzatop_letters.l0] at H
   by_cases c3 : x10_1 < (l0.length : Int)
   ·rw [if_pos c3] at H
    have c3b0 := decide_eq_true c3
    clear c3
    by_cases c4 : 0 ≤ x10_1
    ·rw [if_pos c4] at H
     have c4b0 := decide_eq_true c4
     clear c4
     by_cases c5 : x10_1 < (l0.length : Int)
     ·rw [if_pos c5] at H
      have c5b0 := decide_eq_true c5
      clear c5
      by_cases c6 : (a1.size : Int) = 0
      ·rw [if_pos c6] at H
       exact absurd H (by simp)
      ·rw [if_neg c6] at H
       have c6b0 : ((a1.size : Int) == 0) = false := beq_eq_false_iff_ne.mpr c6
       have c6b1 : ((a1.size : Int) != 0) = true := bne_iff_ne.mpr c6
       obtain ⟨ji7, hji7⟩ : ∃ j_ : Int, (Int.tmod (wrap64 (rd l0 x10_1)) (a1.size : Int)) = j_ := ⟨_, rfl⟩
       replace H : (if 0 ≤ (ji7) then (if (ji7) < (a1.size : Int) then (if x5_1.length < 140737488355328 then (stanzatop_letters.l0 k1 a1 (x5_1 ++ [bt a1 (ji7)]) l0 (l0.length : Int) (wrap64 (x10_1 + 1))) else (none)) else (none)) else (none)) = some r := by first | (rw [hji7] at H; exact H) | (simp only [hji7] at H ⊢; exact H)
       by_cases c8 : 0 ≤ (ji7)
       ·rw [if_pos c8] at H
        have c8b0 := decide_eq_true c8
        clear c8
        by_cases c9 : (ji7) < (a1.size : Int)
        ·rw [if_pos c9] at H
         have c9b0 := decide_eq_true c9
         clear c9
         by_cases c11 : x5_1.length < 140737488355328
         ·rw [if_pos c11] at H
          have LMc11 := Aside0.mk c11
          clear c11
          obtain ⟨y407, hy407⟩ : ∃ y_ : List Int, y_ = (x5_1 ++ [bt a1 (ji7)]) := ⟨_, rfl⟩
          replace H : (stanzatop_letters.l0 k1 a1 y407 l0 (l0.length : Int) (wrap64 (x10_1 + 1))) = some r := by first | (rw [hy407]; with_reducible exact H) | (have H2_ := (Option.bind_some _ _).symm.trans H; rw [hy407]; with_reducible exact H2_) | (have H2_ := (Option.bind_some _ _).symm.trans H; with_reducible exact H2_) | with_reducible exact H | (rw [hy407]; exact H) | exact H
          have Ny407 := Aside0.mk hy407
          clear hy407
          have H' := Aside0.mk H
          clear H
          have p406 : 0 ≤ (x10_1 : Int) := oda
          have q406 : x10_1 < (l0.length : Int) := oda
          obtain ⟨ad406, e406, hx406_0⟩ := Kd.at_int HR0.out x10_1 p406 q406
          cases e406
          replace hx406_0 := bc HB hx406_0
          replace p406 := eq_true p406
          replace q406 := eq_true q406
          have p10 : 0 ≤ ((ji7) : Int) := oda
          have q10 : (ji7) < (a1.size : Int) := oda
          have hx10 := bt_at a1 (ji7)
          replace p10 := eq_true p10
          replace q10 := eq_true q10
          go_wp2_with (first | ((with_reducible refine gate_builtin (b := .append) (xs := #[.tmp 14, .tmp 22]) rfl ?_); at_builtin; refine Kd.R_append (Kd.int .u8) (w0 := w) w.heap.size rfl (.tmp 14) (.tmp 22) 22 5 (.int .u8 0) 1 rfl Tryz.underlying22 info5 rfl (by decide) (by omega) u5 x5_1 (bt a1 (ji7)) [.int .u8 (bt a1 (ji7))] (fun _ => True) (fun _ => False) rfl rfl ?aP (fun _ hk => hk.elim) ?aF ?aO ?aB ?aS ?aL ?_; (case aP => exact rfl); (case aB => exact bel); (case aF => exact (fun _ _ => trivial)); (case aO => exact (rua HO_5)); (case aS => exact (below_size bel)); (case aL => have := LMc11.out; omega); intro v408 w12 ho hb hg hat; rw [← Ny407.out] at ho; have n0_ := Aside0.mk (hb); have n1_ := Aside0.mk (ho); clear HB HO_5; revert n0_ n1_; intro HB HO409; clear ho hb hg hat))
          go_roundg k1
          case measure => have := HK1.out; omega
          case rel => exact ⟨(y407), (wrap64 (x10_1 + 1)), eqs, H', ⟨by have := HK1.out; omega⟩, ⟨by (with_reducible repeat (first | apply Kd.R_alloc | apply Kd.R_drewN | apply Kd.R_drew)); exact HO409.out⟩, ⟨bel⟩⟩
         ·rw [if_neg c11] at H
          exact absurd H (by simp)
        ·rw [if_neg c9] at H
         exact absurd H (by simp)
       ·rw [if_neg c8] at H
        exact absurd H (by simp)
     ·rw [if_neg c5] at H
      exact absurd H (by simp)
    ·rw [if_neg c4] at H
     exact absurd H (by simp)
   ·rw [if_neg c3] at H
    have c3b0 := decide_eq_false c3
    clear c3
    obtain rfl := Option.some.inj H
    go_wp2
    go_ret
    exact ⟨_, eqv, by (with_reducible repeat (first | apply Kd.R_alloc | apply Kd.R_drewN | apply Kd.R_drew)); exact HO_5.out, bel⟩
mutual
def least_Check.j0 : Nat → Bool → List (List Int) → List Int → Option (Bool)
 | 0, _, _, _ => none
 | k + 1, x19, x127000, x127001 => if x19 = true then (some false) else (least_Check.l0 k x127000 (x127000.length : Int) 0 x127000 x127001)
def least_Check.l0 : Nat → List (List Int) → Int → Int → List (List Int) → List Int → Option (Bool)
 | 0, _, _, _, _, _ => none
 | k + 1, x21, x22, x23, x127000, x127001 => if x23 < x22 then (if 0 ≤ x23 then (if x23 < (x21.length : Int) then (if 0 < (x127000.length : Int) then (if ((rd_L4 x21 x23).length : Int) = ((rd_L4 x127000 0).length : Int) then (least_Check.l1 k x21 x22 x23 (rd_L4 x21 x23) ((rd_L4 x21 x23).length : Int) 0 x127000 x127001) else (some false)) else (none)) else (none)) else (none)) else (some true)
def least_Check.l1 : Nat → List (List Int) → Int → Int → List Int → Int → Int → List (List Int) → List Int → Option (Bool)
 | 0, _, _, _, _, _, _, _, _ => none
 | k + 1, x21, x22, x23, x35, x36, x37, x127000, x127001 => if x37 < x36 then (if 0 ≤ x37 then (if x37 < (x35.length : Int) then (if (rd x35 x37) < 0 then (some false) else (if (rd x35 x37) ≥ (x127000.length : Int) then (some false) else (least_Check.l1 k x21 x22 x23 x35 x36 (wrap64 (x37 + 1)) x127000 x127001))) else (none)) else (none)) else (least_Check.l0 k x21 x22 (wrap64 (x23 + 1)) x127000 x127001)
end
def least_Check.f (k : Nat) (l0_0 : List (List Int)) (l0_1 : List Int) : Option (Bool) := if (l0_0.length : Int) = 0 then (least_Check.j0 k true l0_0 l0_1) else (least_Check.j0 k ((l0_0.length : Int) != (l0_1.length : Int)) l0_0 l0_1)
set_option maxHeartbeats 8000000 in
set_option maxRecDepth 100000 in
theorem least_Check.calls (k : Nat) (A0_0 : Option Addr) (c0_0 : Nat) (l0_0 : List (List Int)) (A0_1 : Option Addr) (c0_1 : Nat) (l0_1 : List Int) (r : Bool) (w : World) (hr0_0 : Kd.C (Kd.slice 3 (Kd.int .i64)) w A0_0 l0_0.length l0_0) (hc0_0 : l0_0.length ≤ c0_0) (hr0_1 : Kd.C (Kd.int .u32) w A0_1 l0_1.length l0_1) (hc0_1 : l0_1.length ≤ c0_1) (h : least_Check.f k l0_0 l0_1 = some r) :
  Calls Tryz.prog 67 #[.agg #[.slice A0_0 l0_0.length c0_0, .slice A0_1 l0_1.length c0_1]] w fun e w' => e = .returned (.bool r) ∧ Below w.heap.size w w' := by
 have hu94 := Tryz.underlying94
 have HR0_0 := Aside0.mk hr0_0
 have HC0_0 := Aside0.mk hc0_0
 clear hr0_0 hc0_0
 have HR0_1 := Aside0.mk hr0_1
 have HC0_1 := Aside0.mk hc0_1
 clear hr0_1 hc0_1
 have HB := Aside0.mk (Below.refl w.heap.size w)
 have H : (if (l0_0.length : Int) = 0 then (least_Check.j0 k true l0_0 l0_1) else (least_Check.j0 k ((l0_0.length : Int) != (l0_1.length : Int)) l0_0 l0_1)) = some r := h
 clear h
 have HC2 := Aside0.mk H
 clear H
 go_enter Tryz.func67, Tryz.ntmps67
 go_upto_region 1 with (first | ((with_reducible refine gate_dst (N := 1) rfl ?_); (try (refine gate_guard (by rfl) ?_; dsimp only)); refine box_ev (N := 1) (cs := #[.slice A0_0 l0_0.length c0_0, .slice A0_1 l0_1.length c0_1]) (t := 94) ?_; intro gb126 hg w3 hbox hb; have n0_ := Aside0.mk (below_step bel hb); have n1_ := Aside0.mk (hbox); have n2_ := Aside0.mk (szb hg); have n3_ := Aside0.mk (szb hg); clear HB; revert n0_ n1_ n2_ n3_; intro HB BK126 GW126 GE126; clear hb hbox hg))
 (try simp only [Act.put, List.setIfInBounds_toArray, List.set_cons_zero, List.set_cons_succ])
 go_cut [19] (fun v19 wc => ∃ (kq : Nat) (x19_1 : Bool), v19 = .bool x19_1 ∧ Aside0 (least_Check.j0 kq x19_1 l0_0 l0_1 = some r) ∧ Aside0 (kq ≤ k) ∧ Aside0 (wc.heap[gb126]? = some (.cells #[(.slice A0_0 l0_0.length c0_0), (.slice A0_1 l0_1.length c0_1)] 94 (0, 0))) ∧ Aside0 (Below w.heap.size w wc))
 case first =>
  have H := HC2.out
  clear HC2
  by_cases c4 : (l0_0.length : Int) = 0
  ·rw [if_pos c4] at H
   have c4b0 : ((l0_0.length : Int) == 0) = true := beq_iff_eq.mpr c4
   have c4b1 : ((l0_0.length : Int) != 0) = false := bne_eq_false_iff_eq.mpr c4
   clear c4
   (first | rw [c4b0] | (simp only [i64_w, i32_w]; rw [c4b0]) | skip)
   have H' := Aside0.mk H
   clear H
   obtain ⟨hcz5_0, hcz5_1, hfz5_0, hfz5_1⟩ := cs2 BK126
   go_wp2
   go_meet
   case rel => exact ⟨_, (true), eqs, H', ⟨by first | omega | exact Nat.le_refl _⟩, ⟨blk⟩, ⟨bel⟩⟩
  ·rw [if_neg c4] at H
   have c4b0 : ((l0_0.length : Int) == 0) = false := beq_eq_false_iff_ne.mpr c4
   have c4b1 : ((l0_0.length : Int) != 0) = true := bne_iff_ne.mpr c4
   have c4b2 : ¬ (l0_0 = []) := fun h_ => c4 (by rw [h_]; rfl)
   (first | rw [c4b0] | (simp only [i64_w, i32_w]; rw [c4b0]) | skip)
   have H' := Aside0.mk H
   clear H
   obtain ⟨hcz6_0, hcz6_1, hfz6_0, hfz6_1⟩ := cs2 BK126
   go_wp2
   go_meet
   case rel => exact ⟨_, (((l0_0.length : Int) != (l0_1.length : Int))), eqs, H', ⟨by first | omega | exact Nat.le_refl _⟩, ⟨blk⟩, ⟨bel⟩⟩
 case rest =>
  clear HC2
  try clear p2
  try clear c4
  try clear c4b0
  try clear c4b1
  try clear c4b2
  try clear c6
  try clear hcz5_0 hcz5_1 hcz6_0 hcz6_1 hfz5_0 hfz5_1 hfz6_0 hfz6_1
  obtain ⟨kq, x19_1, rfl, HA, HJ1, BK126, HB⟩ := hcut
  cases kq with
  | zero => exact absurd HA.out (by simp [least_Check.j0])
  | succ kj1 =>
   have H := HA.out
   clear HA
   simp only [least_Check.j0] at H
   by_cases c7 : x19_1 = true
   ·subst c7
    have H1 : (some false) = some r := by rw [if_pos rfl] at H; exact H
    clear H
    have H := H1
    clear H1
    obtain rfl := Option.some.inj H
    go_wp2
    go_ret
    exact ⟨eqv, bel⟩
   ·replace c7 := Bool.eq_false_iff.mpr c7
    subst c7
    have H1 : (least_Check.l0 kj1 l0_0 (l0_0.length : Int) 0 l0_0 l0_1) = some r := by rw [if_neg (show ¬ (false = true) by decide)] at H; exact H
    clear H
    have H := H1
    clear H1
    have H' := Aside0.mk H
    clear H
    obtain ⟨hcz8_0, hcz8_1, hfz8_0, hfz8_1⟩ := cs2 BK126
    go_wp2
    go_loopg [23] kj1 (fun kq v23 w' => ∃ (x23_2 : Int), v23 = .int .i64 x23_2 ∧ Aside0 (least_Check.l0 kq l0_0 (l0_0.length : Int) x23_2 l0_0 l0_1 = some r) ∧ Aside0 (kq ≤ kj1) ∧ Aside0 (w'.heap[gb126]? = some (.cells #[(.slice A0_0 l0_0.length c0_0), (.slice A0_1 l0_1.length c0_1)] 94 (0, 0))) ∧ Aside0 (Below w.heap.size w w'))
    case atStart => exact ⟨(0), eqs, H', ⟨Nat.le_refl _⟩, ⟨blk⟩, ⟨bel⟩⟩
    case round =>
     clear H'
     try clear p2
     try clear c4
     try clear c4b0
     try clear c4b1
     try clear c4b2
     try clear c6
     try clear c7
     try clear hcz5_0 hcz5_1 hcz6_0 hcz6_1 hcz8_0 hcz8_1 hfz5_0 hfz5_1 hfz6_0 hfz6_1 hfz8_0 hfz8_1
     try clear p2
     obtain ⟨x23_2, rfl, HA, HK2, BK126, HB⟩ := hrel
     cases gk with
     | zero => exact absurd HA.out (by simp [least_Check.l0])
     | succ k2 =>
      have H := HA.out
      clear HA
      simp only [least_Check.l0] at H
      by_cases c9 : x23_2 < (l0_0.length : Int)
      ·rw [if_pos c9] at H
       have c9b0 := decide_eq_true c9
       clear c9
       by_cases c10 : 0 ≤ x23_2
       ·rw [if_pos c10] at H
        have c10b0 := decide_eq_true c10
        clear c10
        by_cases c11 : x23_2 < (l0_0.length : Int)
        ·rw [if_pos c11] at H
         have c11b0 := decide_eq_true c11
         clear c11
         by_cases c12 : 0 < (l0_0.length : Int)
         ·rw [if_pos c12] at H
          have c12b0 := decide_eq_true c12
          have c12b1 : decide (0 < l0_0.length) = true := decide_eq_true (by omega)
          clear c12
          by_cases c13 : ((rd_L4 l0_0 x23_2).length : Int) = ((rd_L4 l0_0 0).length : Int)
          ·rw [if_pos c13] at H
           have c13b0 : (((rd_L4 l0_0 x23_2).length : Int) == ((rd_L4 l0_0 0).length : Int)) = true := beq_iff_eq.mpr c13
           have c13b1 : (((rd_L4 l0_0 x23_2).length : Int) != ((rd_L4 l0_0 0).length : Int)) = false := bne_eq_false_iff_eq.mpr c13
           have c13b2 : ((rd_L4 l0_0 x23_2).length == (rd_L4 l0_0 0).length) = true := by first | simpa using c13 | (simp at c13 ⊢; omega)
           clear c13
           have H' := Aside0.mk H
           clear H
           have p127 : 0 ≤ (x23_2 : Int) := oda
           have q127 : x23_2 < (l0_0.length : Int) := oda
           obtain ⟨ad127, A127_0, c127_0, e127, hx127_0, hl127_0, hi127_0⟩ := at_L4 HR0_0.out x23_2 p127 q127
           cases e127
           replace hx127_0 := bc HB hx127_0
           have HR127_0 := Aside0.mk hi127_0
           have HC127_0 := Aside0.mk hl127_0
           clear hi127_0 hl127_0
           replace p127 := eq_true p127
           replace q127 := eq_true q127
           obtain ⟨hcz14_0, hcz14_1, hfz14_0, hfz14_1⟩ := cs2 BK126
           have p128 : 0 ≤ (0 : Int) := (by omega)
           have q128 : 0 < (l0_0.length : Int) := oda
           obtain ⟨ad128, A128_0, c128_0, e128, hx128_0, hl128_0, hi128_0⟩ := at_L4 HR0_0.out 0 p128 q128
           obtain rfl : ad127 = ad128 := (by injection e128)
           have qi128 : (0 < l0_0.length) = True := eq_true (by omega)
           (try rw [show ((0 : Int)).toNat = 0 from rfl] at hx128_0)
           (try rw [Addr.add_zero'] at hx128_0)
           replace hx128_0 := bc HB hx128_0
           have HR128_0 := Aside0.mk hi128_0
           have HC128_0 := Aside0.mk hl128_0
           clear hi128_0 hl128_0
           replace p128 := eq_true p128
           replace q128 := eq_true q128
           go_wp2
           go_loopg [37] k2 (fun kq v37 w' => ∃ (x37_3 : Int), v37 = .int .i64 x37_3 ∧ Aside0 (least_Check.l1 kq l0_0 (l0_0.length : Int) x23_2 (rd_L4 l0_0 x23_2) ((rd_L4 l0_0 x23_2).length : Int) x37_3 l0_0 l0_1 = some r) ∧ Aside0 (kq ≤ k2) ∧ Aside0 (w'.heap[gb126]? = some (.cells #[(.slice (some ad127) l0_0.length c0_0), (.slice A0_1 l0_1.length c0_1)] 94 (0, 0))) ∧ Aside0 (Below w.heap.size w w'))
           case atStart => exact ⟨(0), eqs, H', ⟨Nat.le_refl _⟩, ⟨blk⟩, ⟨bel⟩⟩
           case round =>
            clear H'
            try clear c1
            try clear p1
            try clear q1
            try clear hx1
            try clear qi1
            try clear p2
            try clear c4
            try clear c4b0
            try clear c4b1
            try clear c4b2
            try clear c6
            try clear c7
            try clear c9
            try clear c9b0
            try clear c10
            try clear c10b0
            try clear c11
            try clear c11b0
            try clear c12
            try clear c12b0
            try clear c12b1
            try clear p12
            try clear q12
            try clear hx12
            try clear qi12
            try clear c13
            try clear c13b0
            try clear c13b1
            try clear c13b2
            try clear hcz14_0 hcz14_1 hcz5_0 hcz5_1 hcz6_0 hcz6_1 hcz8_0 hcz8_1 hfz14_0 hfz14_1 hfz5_0 hfz5_1 hfz6_0 hfz6_1 hfz8_0 hfz8_1
            try clear hx127_0
            try clear hx128_0
            try clear p127
            try clear p128
            try clear p2
            try clear q127
            try clear q128
            obtain ⟨x37_3, rfl, HA, HK3, BK126, HB⟩ := hrel
            cases gk with
            | zero => exact absurd HA.out (by simp [least_Check.l1])
            | succ k3 =>
             have H := HA.out
             clear HA
             simp only [least_Check.l1] at H
             by_cases c15 : x37_3 < ((rd_L4 l0_0 x23_2).length : Int)
             ·rw [if_pos c15] at H
              have c15b0 := decide_eq_true c15
              clear c15
              by_cases c16 : 0 ≤ x37_3
              ·rw [if_pos c16] at H
               have c16b0 := decide_eq_true c16
               clear c16
               by_cases c17 : x37_3 < ((rd_L4 l0_0 x23_2).length : Int)
               ·rw [if_pos c17] at H
                have c17b0 := decide_eq_true c17
                clear c17
                by_cases c18 : (rd (rd_L4 l0_0 x23_2) x37_3) < 0
                ·rw [if_pos c18] at H
                 have c18b0 := decide_eq_true c18
                 clear c18
                 obtain rfl := Option.some.inj H
                 have p129 : 0 ≤ (x37_3 : Int) := oda
                 have q129 : x37_3 < ((rd_L4 l0_0 x23_2).length : Int) := oda
                 obtain ⟨ad129, e129, hx129_0⟩ := Kd.at_int HR127_0.out x37_3 p129 q129
                 cases e129
                 replace hx129_0 := bc HB hx129_0
                 replace p129 := eq_true p129
                 replace q129 := eq_true q129
                 go_wp2
                 go_ret
                 exact ⟨eqv, bel⟩
                ·rw [if_neg c18] at H
                 have c18b0 := decide_eq_false c18
                 clear c18
                 by_cases c19 : (rd (rd_L4 l0_0 x23_2) x37_3) ≥ (l0_0.length : Int)
                 ·rw [if_pos c19] at H
                  have c19b0 := decide_eq_true c19
                  clear c19
                  obtain rfl := Option.some.inj H
                  have p129 : 0 ≤ (x37_3 : Int) := oda
                  have q129 : x37_3 < ((rd_L4 l0_0 x23_2).length : Int) := oda
                  obtain ⟨ad129, e129, hx129_0⟩ := Kd.at_int HR127_0.out x37_3 p129 q129
                  cases e129
                  replace hx129_0 := bc HB hx129_0
                  replace p129 := eq_true p129
                  replace q129 := eq_true q129
                  obtain ⟨hcz20_0, hcz20_1, hfz20_0, hfz20_1⟩ := cs2 BK126
                  go_wp2
                  go_ret
                  exact ⟨eqv, bel⟩
                 ·rw [if_neg c19] at H
                  have c19b0 := decide_eq_false c19
                  clear c19
                  have H' := Aside0.mk H
                  clear H
                  have p129 : 0 ≤ (x37_3 : Int) := oda
                  have q129 : x37_3 < ((rd_L4 l0_0 x23_2).length : Int) := oda
                  obtain ⟨ad129, e129, hx129_0⟩ := Kd.at_int HR127_0.out x37_3 p129 q129
                  cases e129
                  replace hx129_0 := bc HB hx129_0
                  replace p129 := eq_true p129
                  replace q129 := eq_true q129
                  obtain ⟨hcz21_0, hcz21_1, hfz21_0, hfz21_1⟩ := cs2 BK126
                  go_wp2
                  go_roundg k3
                  case measure => have := HJ1.out; have := HK2.out; have := HK3.out; omega
                  case rel => exact ⟨(wrap64 (x37_3 + 1)), eqs, H', ⟨by have := HJ1.out; have := HK2.out; have := HK3.out; omega⟩, ⟨blk⟩, ⟨bel⟩⟩
               ·rw [if_neg c17] at H
                exact absurd H (by simp)
              ·rw [if_neg c16] at H
               exact absurd H (by simp)
             ·rw [if_neg c15] at H
              have c15b0 := decide_eq_false c15
              clear c15
              have H' := Aside0.mk H
              clear H
              go_wp2
              go_roundg k3
              case measure => have := HJ1.out; have := HK2.out; have := HK3.out; omega
              case rel => exact ⟨(wrap64 (x23_2 + 1)), eqs, H', ⟨by have := HJ1.out; have := HK2.out; have := HK3.out; omega⟩, ⟨blk⟩, ⟨bel⟩⟩
          ·rw [if_neg c13] at H
           have c13b0 : (((rd_L4 l0_0 x23_2).length : Int) == ((rd_L4 l0_0 0).length : Int)) = false := beq_eq_false_iff_ne.mpr c13
           have c13b1 : (((rd_L4 l0_0 x23_2).length : Int) != ((rd_L4 l0_0 0).length : Int)) = true := bne_iff_ne.mpr c13
           have c13b2 : ((rd_L4 l0_0 x23_2).length == (rd_L4 l0_0 0).length) = false := by first | simpa using c13 | (simp at c13 ⊢; omega)
           obtain rfl := Option.some.inj H
           have p127 : 0 ≤ (x23_2 : Int) := oda
           have q127 : x23_2 < (l0_0.length : Int) := oda
           obtain ⟨ad127, A127_0, c127_0, e127, hx127_0, hl127_0, hi127_0⟩ := at_L4 HR0_0.out x23_2 p127 q127
           cases e127
           replace hx127_0 := bc HB hx127_0
           have HR127_0 := Aside0.mk hi127_0
           have HC127_0 := Aside0.mk hl127_0
           clear hi127_0 hl127_0
           replace p127 := eq_true p127
           replace q127 := eq_true q127
           obtain ⟨hcz22_0, hcz22_1, hfz22_0, hfz22_1⟩ := cs2 BK126
           have p128 : 0 ≤ (0 : Int) := (by omega)
           have q128 : 0 < (l0_0.length : Int) := oda
           obtain ⟨ad128, A128_0, c128_0, e128, hx128_0, hl128_0, hi128_0⟩ := at_L4 HR0_0.out 0 p128 q128
           obtain rfl : ad127 = ad128 := (by injection e128)
           have qi128 : (0 < l0_0.length) = True := eq_true (by omega)
           (try rw [show ((0 : Int)).toNat = 0 from rfl] at hx128_0)
           (try rw [Addr.add_zero'] at hx128_0)
           replace hx128_0 := bc HB hx128_0
           have HR128_0 := Aside0.mk hi128_0
           have HC128_0 := Aside0.mk hl128_0
           clear hi128_0 hl128_0
           replace p128 := eq_true p128
           replace q128 := eq_true q128
           go_wp2
           go_ret
           exact ⟨eqv, bel⟩
         ·rw [if_neg c12] at H
          exact absurd H (by simp)
        ·rw [if_neg c11] at H
         exact absurd H (by simp)
       ·rw [if_neg c10] at H
        exact absurd H (by simp)
      ·rw [if_neg c9] at H
       have c9b0 := decide_eq_false c9
       clear c9
       obtain rfl := Option.some.inj H
       go_wp2
       go_ret
       exact ⟨eqv, bel⟩
def least_most.l0 : Nat → Int → List Int → Int → Int → Option (Int)
 | 0, _, _, _, _ => none
 | k + 1, x3, x6, x7, x8 => if x8 < x7 then (if 0 ≤ x8 then (if x8 < (x6.length : Int) then (least_most.l0 k (mx x3 (rd x6 x8)) x6 x7 (wrap64 (x8 + 1))) else (none)) else (none)) else (some x3)
def least_most.f (k : Nat) (l0 : List Int) : Option (Int) := least_most.l0 k 0 l0 (l0.length : Int) 0
set_option maxHeartbeats 8000000 in
set_option maxRecDepth 100000 in
theorem least_most.calls (k : Nat) (A0 : Option Addr) (c0 : Nat) (l0 : List Int) (r : Int) (w : World) (hr0 : Kd.C (Kd.int .i64) w A0 l0.length l0) (hc0 : l0.length ≤ c0) (h : least_most.f k l0 = some r) :
  Calls Tryz.prog 71 #[.slice A0 l0.length c0] w fun e w' => e = .returned (.int .i64 r) ∧ Below w.heap.size w w' := by
 have HR0 := Aside0.mk hr0
 have HC0 := Aside0.mk hc0
 clear hr0 hc0
 have HB := Aside0.mk (Below.refl w.heap.size w)
 have H : (least_most.l0 k 0 l0 (l0.length : Int) 0) = some r := h
 clear h
 have H' := Aside0.mk H
 clear H
 go_enter Tryz.func71, Tryz.ntmps71
 go_wp2
 go_loopg [3, 8] k (fun kq v3 v8 w' => ∃ (x3_1 : Int) (x8_1 : Int), v3 = .int .i64 x3_1 ∧ v8 = .int .i64 x8_1 ∧ Aside0 (least_most.l0 kq x3_1 l0 (l0.length : Int) x8_1 = some r) ∧ Aside0 (kq ≤ k) ∧ Aside0 (Below w.heap.size w w'))
 case atStart => exact ⟨(0), (0), eqs, eqs, H', ⟨Nat.le_refl _⟩, ⟨bel⟩⟩
 case round =>
  clear H'
  obtain ⟨x3_1, x8_1, rfl, rfl, HA, HK1, HB⟩ := hrel
  cases gk with
  | zero => exact absurd HA.out (by simp [least_most.l0])
  | succ k1 =>
   have H := HA.out
   clear HA
   simp only [least_most.l0] at H
   by_cases c2 : x8_1 < (l0.length : Int)
   ·rw [if_pos c2] at H
    have c2b0 := decide_eq_true c2
    clear c2
    by_cases c3 : 0 ≤ x8_1
    ·rw [if_pos c3] at H
     have c3b0 := decide_eq_true c3
     clear c3
     by_cases c4 : x8_1 < (l0.length : Int)
     ·rw [if_pos c4] at H
      have c4b0 := decide_eq_true c4
      clear c4
      obtain ⟨ji5, hji5⟩ : ∃ j_ : Int, (mx x3_1 (rd l0 x8_1)) = j_ := ⟨_, rfl⟩
      replace H : (least_most.l0 k1 ji5 l0 (l0.length : Int) (wrap64 (x8_1 + 1))) = some r := by first | (rw [hji5] at H; exact H) | (simp only [hji5] at H ⊢; exact H)
      have hji5_ : (if x3_1 < (rd l0 x8_1) then (rd l0 x8_1) else x3_1) = ji5 := hji5
      have H' := Aside0.mk H
      clear H
      have p130 : 0 ≤ (x8_1 : Int) := oda
      have q130 : x8_1 < (l0.length : Int) := oda
      obtain ⟨ad130, e130, hx130_0⟩ := Kd.at_int HR0.out x8_1 p130 q130
      cases e130
      replace hx130_0 := bc HB hx130_0
      replace p130 := eq_true p130
      replace q130 := eq_true q130
      go_wp2
      go_roundg k1
      case measure => have := HK1.out; omega
      case rel => exact ⟨(ji5), (wrap64 (x8_1 + 1)), (by first | rfl | (simp; done) | (simp only [← hji5] <;> (first | rfl | simp)) | (simp [*]; done)), eqs, H', ⟨by have := HK1.out; omega⟩, ⟨bel⟩⟩
     ·rw [if_neg c4] at H
      exact absurd H (by simp)
    ·rw [if_neg c3] at H
     exact absurd H (by simp)
   ·rw [if_neg c2] at H
    have c2b0 := decide_eq_false c2
    clear c2
    obtain rfl := Option.some.inj H
    go_wp2
    go_ret
    exact ⟨eqv, bel⟩
end Go.Proofs.YtkeccgkicffieaaGreatDoor.PTopWider
