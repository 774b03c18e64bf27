/- The walks of first.Break, lines.Part, lines.Break, lines.Rows: each computes what its Lean function tells. Conditions: none. -/
import Derived.Test.YtkeccgkicffieaaGreatDoorTopT
import Derived.Test.YtkeccgkicffieaaGreatDoorTopF
namespace Go.Proofs.YtkeccgkicffieaaGreatDoor.PTopWider
open Go.RowKit Go.Proofs.YtkeccgkicffieaaGreatDoorW.PrintWords Go.Proofs.YtkeccgkicffieaaGreatDoorW.PrintLast Go.Proofs.YtkeccgkicffieaaGreatDoorW.PrintMore
attribute [local go_sem] max2_int min2_int max_two min_two max_three min_three max_four min_four
set_option linter.unusedVariables false
set_option linter.unusedSimpArgs false
def first_Break.l0 : Nat → Int → Int → List (S127) → List (S130) → List Int → Int → Int → Int → Int → Int → Nat → Option ((List (S127)))
 | 0, _, _, _, _, _, _, _, _, _, _, _ => none
 | k + 1, x1, x2, x9, x324000, x324001, x325000, x325001, x325002, x325003, x325004, x325005 => if x1 < x2 then ((first_one.f k x324000 x324001 x1 x2 x325000 x325001 x325002 x325003 x325004 x325005).bind fun bt325 => (if x9.length < 4398046511104 then (first_Break.l0 k bt325.2.1 x2 (x9 ++ [(⟨bt325.1, bt325.2.1, bt325.2.2.1, bt325.2.2.2⟩ : S127)]) x324000 x324001 x325000 x325001 x325002 x325003 x325004 x325005) else (none))) else (some x9)
def first_Break.f (k : Nat) (l0_0 : List (S130)) (l0_1 : List Int) (a1 : Int) (a2 : Int) (a3_0 : Int) (a3_1 : Int) (a3_2 : Int) (a3_3 : Int) (a3_4 : Int) (a3_5 : Nat) : Option ((List (S127))) := first_Break.l0 k a1 a2 ([] : List (S127)) l0_0 l0_1 a3_0 a3_1 a3_2 a3_3 a3_4 a3_5
set_option maxHeartbeats 8000000 in
set_option maxRecDepth 100000 in
theorem first_Break.calls (k : Nat) (A0_0 : Option Addr) (c0_0 : Nat) (l0_0 : List (S130)) (A0_1 : Option Addr) (c0_1 : Nat) (l0_1 : List Int) (a1 : Int) (a2 : Int) (a3_0 : Int) (a3_1 : Int) (a3_2 : Int) (a3_3 : Int) (a3_4 : Int) (a3_5 : Nat) (r : List (S127)) (w : World) (hr0_0 : Kd.C k130 w A0_0 l0_0.length l0_0) (hc0_0 : l0_0.length ≤ c0_0) (hr0_1 : Kd.C (Kd.int .u8) w A0_1 l0_1.length l0_1) (hc0_1 : l0_1.length ≤ c0_1) (h : first_Break.f k l0_0 l0_1 a1 a2 a3_0 a3_1 a3_2 a3_3 a3_4 a3_5 = some r) :
  Calls Tryz.prog 54 #[.agg #[.slice A0_0 l0_0.length c0_0, .slice A0_1 l0_1.length c0_1], .int .i64 a1, .int .i64 a2, .agg #[.int .i64 a3_0, .int .i64 a3_1, .int .u8 a3_2, .int .i64 a3_3, .int .i64 a3_4, .float .f64 a3_5]] w fun e w' => ∃ v0_ : Value, e = .returned (v0_) ∧ Kd.R k127 127 w' w.heap.size (fun _ => True) v0_ r ∧ Below w.heap.size w w' := by
 have hu74 := Tryz.underlying74
 have hu40 := Tryz.underlying40
 have hu127 := Tryz.underlying127
 have HR0_0 := Aside0.mk hr0_0
 have HC0_0 := Aside0.mk hc0_0
 clear hr0_0 hc0_0
 have HR0_1 := Aside0.mk hr0_1
 have HC0_1 := Aside0.mk hc0_1
 clear hr0_1 hc0_1
 have HB := Aside0.mk (Below.refl w.heap.size w)
 have H : (first_Break.l0 k a1 a2 ([] : List (S127)) l0_0 l0_1 a3_0 a3_1 a3_2 a3_3 a3_4 a3_5) = some r := h
 clear h
 have H' := Aside0.mk H
 clear H
 go_enter Tryz.func54, Tryz.ntmps54
 go_wp2_with (first | ((with_reducible refine gate_dst (N := 4) rfl ?_); refine box_ev (N := 4) (cs := #[.slice A0_0 l0_0.length c0_0, .slice A0_1 l0_1.length c0_1]) (t := 74) ?_; intro gb323 hg w5 hbox hb; have n0_ := Aside0.mk (below_step bel hb); have n1_ := Aside0.mk (hbox); have n2_ := Aside0.mk (szb hg); have n3_ := Aside0.mk (szb hg); clear HB; revert n0_ n1_ n2_ n3_; intro HB BK323 GW323 GE323; clear hb hbox hg) | ((with_reducible refine gate_dst (N := 7) rfl ?_); refine box_ev (N := 7) (cs := #[.int .i64 a3_0, .int .i64 a3_1, .int .u8 a3_2, .int .i64 a3_3, .int .i64 a3_4, .float .f64 a3_5]) (t := 40) ?_; intro gb324 hg w6 hbox hb; have n0_ := Aside0.mk (bbw BK323 hb); have n1_ := Aside0.mk (below_step bel hb); have n2_ := Aside0.mk (hbox); have n3_ := Aside0.mk (szb hg); have n4_ := Aside0.mk (szb hg); have n5_ := Aside0.mk (neb hg BK323); have n6_ := Aside0.mk (neb hg BK323).symm; clear BK323 HB; revert n0_ n1_ n2_ n3_ n4_ n5_ n6_; intro BK323 HB BK324 GW324 GE324 NB323_324 NB324_323; clear hb hbox hg))
 go_loopg [1, 9] k (fun kq v1 v9 w' => ∃ (x1_1 : Int) (x9_1 : List (S127)), v1 = .int .i64 x1_1 ∧ Aside0 (first_Break.l0 kq x1_1 a2 x9_1 l0_0 l0_1 a3_0 a3_1 a3_2 a3_3 a3_4 a3_5 = some r) ∧ Aside0 (kq ≤ k) ∧ Aside0 (Kd.R k127 127 w' w.heap.size (fun _ => True) v9 x9_1) ∧ Aside0 (w'.heap[gb323]? = some (.cells #[(.slice A0_0 l0_0.length c0_0), (.slice A0_1 l0_1.length c0_1)] 74 (0, 0))) ∧ Aside0 (w'.heap[gb324]? = some (.cells #[.int .i64 a3_0, .int .i64 a3_1, .int .u8 a3_2, .int .i64 a3_3, .int .i64 a3_4, .float .f64 a3_5] 40 (0, 0))) ∧ Aside0 (Below w.heap.size w w'))
 case atStart => exact ⟨(a1), (([] : List (S127))), eqs, H', ⟨Nat.le_refl _⟩, ⟨by first | exact Kd.R_nil _ _ _ _ _ | exact Kd.N_nil _ _ _ _ _ | exact Kd.V_nil _ _ _ _ _ | exact Kd.Q_nil _ _ _ _ _ | exact Kd.S_nil _ _ _ _ _⟩, ⟨blk⟩, ⟨blk⟩, ⟨bel⟩⟩
 case round =>
  clear H'
  try clear p2
  try clear c5
  obtain ⟨x1_1, x9_1, rfl, HA, HK1, HO_9, BK323, BK324, HB⟩ := hrel
  cases gk with
  | zero => exact absurd HA.out (by simp [first_Break.l0])
  | succ k1 =>
   have H := HA.out
   clear HA
   simp only [first_Break.l0] at H
   by_cases c7 : x1_1 < a2
   ·rw [if_pos c7] at H
    have c7b0 := decide_eq_true c7
    clear c7
    replace H := Option.bind_eq_some_iff.mp H
    obtain ⟨⟨t325, t326, t327, t328⟩, A80, H⟩ := H
    replace H : (if x9_1.length < 4398046511104 then (first_Break.l0 k1 t326 a2 (x9_1 ++ [(⟨t325, t326, t327, t328⟩ : S127)]) l0_0 l0_1 a3_0 a3_1 a3_2 a3_3 a3_4 a3_5) else (none)) = some r := H
    have A8 := Aside0.mk A80
    clear A80
    by_cases c9 : x9_1.length < 4398046511104
    ·rw [if_pos c9] at H
     have LMc9 := Aside0.mk c9
     clear c9
     obtain ⟨y330, hy330⟩ : ∃ y_ : List (S127), y_ = (x9_1 ++ [(⟨t325, t326, t327, t328⟩ : S127)]) := ⟨_, rfl⟩
     replace H : (first_Break.l0 k1 t326 a2 y330 l0_0 l0_1 a3_0 a3_1 a3_2 a3_3 a3_4 a3_5) = some r := by first | (rw [hy330]; with_reducible exact H) | (have H2_ := (Option.bind_some _ _).symm.trans H; rw [hy330]; with_reducible exact H2_) | (have H2_ := (Option.bind_some _ _).symm.trans H; with_reducible exact H2_) | with_reducible exact H | (rw [hy330]; exact H) | exact H
     have Ny330 := Aside0.mk hy330
     clear hy330
     have H' := Aside0.mk H
     clear H
     have hnb10 := NB323_324.out
     have hnc10 := NB324_323.out
     obtain ⟨hcz11_0, hcz11_1, hfz11_0, hfz11_1⟩ := cs2 BK323
     obtain ⟨hcz12_0, hcz12_1, hcz12_2, hcz12_3, hcz12_4, hcz12_5, hfz12_0, hfz12_1, hfz12_2, hfz12_3, hfz12_4, hfz12_5⟩ := cs6 BK324
     go_wp2_with (first | ((with_reducible refine gate_callee (f := 84) rfl ?_); refine goesL_ (some 18) rfl rfl Tryz.func84 (by kernel_rfl) rfl #[.agg #[.slice A0_0 l0_0.length c0_0, .slice A0_1 l0_1.length c0_1], .int .i64 x1_1, .int .i64 a2, .agg #[.int .i64 a3_0, .int .i64 a3_1, .int .u8 a3_2, .int .i64 a3_3, .int .i64 a3_4, .float .f64 a3_5]] rfl (by (try simp only [List.map_toArray, List.map_cons, List.map_nil]); first | done | rfl | (simp only [List.length_drop, List.length_take]; rfl)) ?_; (with_reducible refine (first_one.calls k1 _ _ l0_0 _ _ l0_1 x1_1 a2 a3_0 a3_1 a3_2 a3_3 a3_4 a3_5 t325 t326 t327 t328 _ (cup HR0_0) HC0_0.out (cup HR0_1) HC0_1.out A8.out).mono ?_); rintro e w13 ⟨rfl, hb⟩; refine ⟨_, rfl, ?_⟩; have n0_ := Aside0.mk (Kd.R_below (rua HO_9) hb); have n1_ := Aside0.mk (bbw BK323 hb); have n2_ := Aside0.mk (bbw BK324 hb); have n3_ := Aside0.mk (below_step bel hb); clear HO_9 BK323 BK324 HB; revert n0_ n1_ n2_ n3_; intro HO_9 BK323 BK324 HB; (try clear hb); (try clear hb2); (try clear hk); (try clear hi)) | ((with_reducible refine gate_dst (N := 10) rfl ?_); refine box_ev (N := 10) (cs := #[.int .i64 0, .int .i64 0, .int .i64 0, .int .u8 0]) (t := 127) ?_; intro gb329 hg w14 hbox hb; have n0_ := Aside0.mk (Kd.R_below (Kd.R_elderB (rua HO_9) gb329 (Nat.le_of_eq hg.symm)) hb); have n1_ := Aside0.mk (bbw BK323 hb); have n2_ := Aside0.mk (bbw BK324 hb); have n3_ := Aside0.mk (below_step bel hb); have n4_ := Aside0.mk (hbox); have n5_ := Aside0.mk (szb hg); have n6_ := Aside0.mk (szb hg); have n7_ := Aside0.mk (neb hg BK323); have n8_ := Aside0.mk (neb hg BK323).symm; have n9_ := Aside0.mk (neb hg BK324); have n10_ := Aside0.mk (neb hg BK324).symm; clear HO_9 BK323 BK324 HB; revert n0_ n1_ n2_ n3_ n4_ n5_ n6_ n7_ n8_ n9_ n10_; intro HO_9 BK323 BK324 HB BK329 GW329 GE329 NB323_329 NB329_323 NB324_329 NB329_324; clear hb hbox hg; have hnb15 := NB329_323.out; have hnc15 := NB323_329.out; have hnb16 := NB329_324.out; have hnc16 := NB324_329.out; obtain ⟨hcz17_0, hcz17_1, hcz17_2, hcz17_3, hfz17_0, hfz17_1, hfz17_2, hfz17_3⟩ := cs4 BK329) | ((with_reducible refine gate_builtin (b := .append) (xs := #[.tmp 19, .tmp 21]) rfl ?_); at_builtin; refine Kd.R_append k127 (w0 := w) w.heap.size rfl (.tmp 19) (.tmp 21) 77 127 (.agg #[(.int .i64 0), (.int .i64 0), (.int .i64 0), (.int .u8 0)]) 32 rfl Tryz.underlying77 info127 rfl (by decide) (by omega) u9 x9_1 (⟨t325, t326, t327, t328⟩ : S127) [.int .i64 t325, .int .i64 t326, .int .i64 t327, .int .u8 t328] (fun k_ => k_ ≠ gb329) (fun _ => False) rfl (by first | (go_simp; done) | (go_simp; rfl)) ?aP (fun _ hk => hk.elim) ?aF ?aO ?aB ?aS ?aL ?_; (case aP => exact k127_mkM _ _ _ (⟨t325, t326, t327, t328⟩ : S127)); (case aB => exact bel); (case aF => exact (fun k_ hk => Kd.freshB (g := gb329) (o := .cells #[.int .i64 t325, .int .i64 t326, .int .i64 t327, .int .u8 t328] 127 (0, 0)) (by (with_reducible repeat (first | refine blk_drewN ?_ _ | refine blk_drew ?_ | refine blk_alloc ?_ _)); refine blk_put (cs := #[.int .i64 t325, .int .i64 t326, .int .i64 t327, .int .u8 0]) ?_ 3 _ rfl; (with_reducible repeat (first | refine blk_drewN ?_ _ | refine blk_drew ?_ | refine blk_alloc ?_ _)); refine blk_put (cs := #[.int .i64 t325, .int .i64 t326, .int .i64 0, .int .u8 0]) ?_ 2 _ rfl; (with_reducible repeat (first | refine blk_drewN ?_ _ | refine blk_drew ?_ | refine blk_alloc ?_ _)); refine blk_put (cs := #[.int .i64 t325, .int .i64 0, .int .i64 0, .int .u8 0]) ?_ 1 _ rfl; (with_reducible repeat (first | refine blk_drewN ?_ _ | refine blk_drew ?_ | refine blk_alloc ?_ _)); refine blk_put (cs := #[.int .i64 0, .int .i64 0, .int .i64 0, .int .u8 0]) ?_ 0 _ rfl; (with_reducible repeat (first | refine blk_drewN ?_ _ | refine blk_drew ?_ | refine blk_alloc ?_ _)); exact BK329.out) k_ hk)); (case aO => exact (by (with_reducible repeat (first | apply Kd.R_alloc | apply Kd.R_drewN | apply Kd.R_drew)); exact Kd.R_mono (Kd.R_far (p := ⟨gb329, 3, none⟩) (Kd.R_far (p := ⟨gb329, 2, none⟩) (Kd.R_far (p := ⟨gb329, 1, none⟩) (Kd.R_far (p := ⟨gb329, 0, none⟩) (Kd.R_mono HO_9.out (fun k_ hk => (⟨hk, hk.2⟩ : _ ∧ k_ ≠ gb329))) (fun _ hk => hk.2) (.int .i64 t325)) (fun _ hk => hk.2) (.int .i64 t326)) (fun _ hk => hk.2) (.int .i64 t327)) (fun _ hk => hk.2) (.int .u8 t328)) (fun _ hk => hk.1.2))); (case aS => exact (below_size bel)); (case aL => have := LMc9.out; omega); intro v331 w18 ho hb hg hat; rw [← Ny330.out] at ho; have n0_ := Aside0.mk (blk_grown (g := gb323) (o := .cells #[.slice A0_0 l0_0.length c0_0, .slice A0_1 l0_1.length c0_1] 74 (0, 0)) (by (with_reducible repeat (first | refine blk_drewN ?_ _ | refine blk_drew ?_ | refine blk_alloc ?_ _)); refine blk_far ?_ NB323_329.out _; (with_reducible repeat (first | refine blk_drewN ?_ _ | refine blk_drew ?_ | refine blk_alloc ?_ _)); refine blk_far ?_ NB323_329.out _; (with_reducible repeat (first | refine blk_drewN ?_ _ | refine blk_drew ?_ | refine blk_alloc ?_ _)); refine blk_far ?_ NB323_329.out _; (with_reducible repeat (first | refine blk_drewN ?_ _ | refine blk_drew ?_ | refine blk_alloc ?_ _)); refine blk_far ?_ NB323_329.out _; (with_reducible repeat (first | refine blk_drewN ?_ _ | refine blk_drew ?_ | refine blk_alloc ?_ _)); exact BK323.out) hg (Kd.R_ne HO_9.out BK323.out (by decide))); have n1_ := Aside0.mk (blk_grown (g := gb324) (o := .cells #[.int .i64 a3_0, .int .i64 a3_1, .int .u8 a3_2, .int .i64 a3_3, .int .i64 a3_4, .float .f64 a3_5] 40 (0, 0)) (by (with_reducible repeat (first | refine blk_drewN ?_ _ | refine blk_drew ?_ | refine blk_alloc ?_ _)); refine blk_far ?_ NB324_329.out _; (with_reducible repeat (first | refine blk_drewN ?_ _ | refine blk_drew ?_ | refine blk_alloc ?_ _)); refine blk_far ?_ NB324_329.out _; (with_reducible repeat (first | refine blk_drewN ?_ _ | refine blk_drew ?_ | refine blk_alloc ?_ _)); refine blk_far ?_ NB324_329.out _; (with_reducible repeat (first | refine blk_drewN ?_ _ | refine blk_drew ?_ | refine blk_alloc ?_ _)); refine blk_far ?_ NB324_329.out _; (with_reducible repeat (first | refine blk_drewN ?_ _ | refine blk_drew ?_ | refine blk_alloc ?_ _)); exact BK324.out) hg (Kd.R_ne HO_9.out BK324.out (by decide))); have n2_ := Aside0.mk (blk_grown (g := gb329) (o := .cells #[.int .i64 t325, .int .i64 t326, .int .i64 t327, .int .u8 t328] 127 (0, 0)) (by (with_reducible repeat (first | refine blk_drewN ?_ _ | refine blk_drew ?_ | refine blk_alloc ?_ _)); refine blk_put (cs := #[.int .i64 t325, .int .i64 t326, .int .i64 t327, .int .u8 0]) ?_ 3 _ rfl; (with_reducible repeat (first | refine blk_drewN ?_ _ | refine blk_drew ?_ | refine blk_alloc ?_ _)); refine blk_put (cs := #[.int .i64 t325, .int .i64 t326, .int .i64 0, .int .u8 0]) ?_ 2 _ rfl; (with_reducible repeat (first | refine blk_drewN ?_ _ | refine blk_drew ?_ | refine blk_alloc ?_ _)); refine blk_put (cs := #[.int .i64 t325, .int .i64 0, .int .i64 0, .int .u8 0]) ?_ 1 _ rfl; (with_reducible repeat (first | refine blk_drewN ?_ _ | refine blk_drew ?_ | refine blk_alloc ?_ _)); refine blk_put (cs := #[.int .i64 0, .int .i64 0, .int .i64 0, .int .u8 0]) ?_ 0 _ rfl; (with_reducible repeat (first | refine blk_drewN ?_ _ | refine blk_drew ?_ | refine blk_alloc ?_ _)); exact BK329.out) hg (Kd.R_away HO_9.out (fun _ hk => hk.2))); have n3_ := Aside0.mk (hb); have n4_ := Aside0.mk (ho); clear BK323 BK324 BK329 HB HO_9; revert n0_ n1_ n2_ n3_ n4_; intro BK323 BK324 BK329 HB HO332; clear ho hb hg hat; obtain ⟨hcz19_0, hcz19_1, hcz19_2, hcz19_3, hfz19_0, hfz19_1, hfz19_2, hfz19_3⟩ := cs4 BK329))
     go_roundg k1
     case measure => have := HK1.out; omega
     case rel => exact ⟨(t326), (y330), eqs, H', ⟨by have := HK1.out; omega⟩, ⟨by (with_reducible repeat (first | apply Kd.R_alloc | apply Kd.R_drewN | apply Kd.R_drew)); exact Kd.R_mono HO332.out (fun _ hk => trivial)⟩, ⟨blk⟩, ⟨blk⟩, ⟨bel⟩⟩
    ·rw [if_neg c9] at H
     exact absurd H (by simp)
   ·rw [if_neg c7] at H
    have c7b0 := decide_eq_false c7
    clear c7
    obtain rfl := Option.some.inj H
    go_wp2
    go_ret
    exact ⟨_, eqv, by (with_reducible repeat (first | apply Kd.R_alloc | apply Kd.R_drewN | apply Kd.R_drew)); exact HO_9.out, bel⟩
def lines_Part.f (k : Nat) (l0_0 : List (S130)) (l0_1 : List Int) (a1 : Int) (a2 : Int) (a3_0 : Int) (a3_1 : Int) (a3_2 : Int) (a3_3 : Int) (a3_4 : Int) (a3_5 : Nat) : Option ((List (S127)) × Bool) := if a3_2 = 1 then ((best_Break.f l0_0 l0_1 a1 a2 a3_0 a3_1 a3_2 a3_3 a3_4 a3_5).bind fun bt335 => (if bt335.2 = true then (some (bt335.1, false)) else ((first_Break.f k l0_0 l0_1 a1 a2 a3_0 a3_1 a3_2 a3_3 a3_4 a3_5).bind fun t339 => (some (t339, (a3_2 == 1)))))) else ((first_Break.f k l0_0 l0_1 a1 a2 a3_0 a3_1 a3_2 a3_3 a3_4 a3_5).bind fun t342 => (some (t342, (a3_2 == 1))))
def lines_Part.T5 : Bool × List (List Nat × List Nat) := (true, [([], []), ([], []), ([], []), ([], []), ([0, 1, 2, 3], [0, 1, 2, 3]), ([], []), ([5], [5]), ([6], [6]), ([4, 4, 0, 1, 2, 3, 4], [4]), ([7, 8, 0, 1, 2, 3, 4, 5, 6, 7, 8], [7])])
def lines_Part.B5 : List Nat := [0, 0, 0, 0, 15, 0, 32, 96, 31, 511]
theorem lines_Part.tab5 : rtab .any (opsOf Tryz.f32 5) = lines_Part.T5 := by kernel_rfl
theorem lines_Part.bits5 : waitsOk lines_Part.T5.2 lines_Part.B5 = true := by kernel_rfl
set_option maxHeartbeats 8000000 in
set_option maxRecDepth 100000 in
theorem lines_Part.calls (k : Nat) (A0_0 : Option Addr) (c0_0 : Nat) (l0_0 : List (S130)) (A0_1 : Option Addr) (c0_1 : Nat) (l0_1 : List Int) (a1 : Int) (a2 : Int) (a3_0 : Int) (a3_1 : Int) (a3_2 : Int) (a3_3 : Int) (a3_4 : Int) (a3_5 : Nat) (r1 : List (S127)) (r2 : Bool) (w : World) (hr0_0 : Kd.C k130 w A0_0 l0_0.length l0_0) (hc0_0 : l0_0.length ≤ c0_0) (hr0_1 : Kd.C (Kd.int .u8) w A0_1 l0_1.length l0_1) (hc0_1 : l0_1.length ≤ c0_1) (h : lines_Part.f k l0_0 l0_1 a1 a2 a3_0 a3_1 a3_2 a3_3 a3_4 a3_5 = some (r1, r2)) :
  Calls Tryz.prog 32 #[.agg #[.slice A0_0 l0_0.length c0_0, .slice A0_1 l0_1.length c0_1], .int .i64 a1, .int .i64 a2, .agg #[.int .i64 a3_0, .int .i64 a3_1, .int .u8 a3_2, .int .i64 a3_3, .int .i64 a3_4, .float .f64 a3_5]] w fun e w' => ∃ v0_ : Value, e = .returned (.tuple #[v0_, .bool r2]) ∧ Kd.R k127 127 w' w.heap.size (fun _ => True) v0_ r1 ∧ Below w.heap.size w w' := by
 have hu74 := Tryz.underlying74
 have hu40 := Tryz.underlying40
 have HR0_0 := Aside0.mk hr0_0
 have HC0_0 := Aside0.mk hc0_0
 clear hr0_0 hc0_0
 have HR0_1 := Aside0.mk hr0_1
 have HC0_1 := Aside0.mk hc0_1
 clear hr0_1 hc0_1
 have HB := Aside0.mk (Below.refl w.heap.size w)
 have H : (if a3_2 = 1 then ((best_Break.f l0_0 l0_1 a1 a2 a3_0 a3_1 a3_2 a3_3 a3_4 a3_5).bind fun bt335 => (if bt335.2 = true then (some (bt335.1, false)) else ((first_Break.f k l0_0 l0_1 a1 a2 a3_0 a3_1 a3_2 a3_3 a3_4 a3_5).bind fun t339 => (some (t339, (a3_2 == 1)))))) else ((first_Break.f k l0_0 l0_1 a1 a2 a3_0 a3_1 a3_2 a3_3 a3_4 a3_5).bind fun t342 => (some (t342, (a3_2 == 1))))) = some (r1, r2) := h
 clear h
 by_cases c5 : a3_2 = 1
 ·rw [if_pos c5] at H
  have c5b0 : (a3_2 == 1) = true := beq_iff_eq.mpr c5
  have c5b1 : (a3_2 != 1) = false := bne_eq_false_iff_eq.mpr c5
  clear c5
  replace H := Option.bind_eq_some_iff.mp H
  obtain ⟨⟨t335, t338⟩, A60, H⟩ := H
  replace H : (if t338 = true then (some (t335, false)) else ((first_Break.f k l0_0 l0_1 a1 a2 a3_0 a3_1 a3_2 a3_3 a3_4 a3_5).bind fun t339 => (some (t339, (a3_2 == 1))))) = some (r1, r2) := H
  have A6 := Aside0.mk A60
  clear A60
  by_cases c7 : t338 = true
  ·subst c7
   have H1 : (some (t335, false)) = some (r1, r2) := by rw [if_pos rfl] at H; exact H
   clear H
   have H := H1
   clear H1
   simp only [Option.some.injEq, Prod.mk.injEq] at H
   obtain ⟨rfl, rfl⟩ := H
   go_enter Tryz.func32, Tryz.ntmps32
   go_wp2_with (first | ((with_reducible refine gate_dst (N := 4) rfl ?_); refine box_ev (N := 4) (cs := #[.slice A0_0 l0_0.length c0_0, .slice A0_1 l0_1.length c0_1]) (t := 74) ?_; intro gb333 hg w8 hbox hb; have n0_ := Aside0.mk (below_step bel hb); have n1_ := Aside0.mk (hbox); have n2_ := Aside0.mk (szb hg); have n3_ := Aside0.mk (szb hg); clear HB; revert n0_ n1_ n2_ n3_; intro HB BK333 GW333 GE333; clear hb hbox hg) | ((with_reducible refine gate_dst (N := 7) rfl ?_); refine box_ev (N := 7) (cs := #[.int .i64 a3_0, .int .i64 a3_1, .int .u8 a3_2, .int .i64 a3_3, .int .i64 a3_4, .float .f64 a3_5]) (t := 40) ?_; intro gb334 hg w9 hbox hb; have n0_ := Aside0.mk (bbw BK333 hb); have n1_ := Aside0.mk (below_step bel hb); have n2_ := Aside0.mk (hbox); have n3_ := Aside0.mk (szb hg); have n4_ := Aside0.mk (szb hg); have n5_ := Aside0.mk (neb hg BK333); have n6_ := Aside0.mk (neb hg BK333).symm; clear BK333 HB; revert n0_ n1_ n2_ n3_ n4_ n5_ n6_; intro BK333 HB BK334 GW334 GE334 NB333_334 NB334_333; clear hb hbox hg; have hnb10 := NB334_333.out; have hnc10 := NB333_334.out; obtain ⟨hcz11_0, hcz11_1, hcz11_2, hcz11_3, hcz11_4, hcz11_5, hfz11_0, hfz11_1, hfz11_2, hfz11_3, hfz11_4, hfz11_5⟩ := cs6 BK334; obtain ⟨hcz12_0, hcz12_1, hfz12_0, hfz12_1⟩ := cs2 BK333) | ((with_reducible refine gate_callee (f := 53) rfl ?_); refine goesL_ (some 20) rfl rfl Tryz.func53 (by kernel_rfl) rfl #[.agg #[.slice A0_0 l0_0.length c0_0, .slice A0_1 l0_1.length c0_1], .int .i64 a1, .int .i64 a2, .agg #[.int .i64 a3_0, .int .i64 a3_1, .int .u8 a3_2, .int .i64 a3_3, .int .i64 a3_4, .float .f64 a3_5]] rfl (by (try simp only [List.map_toArray, List.map_cons, List.map_nil]); first | done | rfl | (simp only [List.length_drop, List.length_take]; rfl)) ?_; (with_reducible refine (best_Break.calls _ _ l0_0 _ _ l0_1 a1 a2 a3_0 a3_1 a3_2 a3_3 a3_4 a3_5 t335 true _ (cup HR0_0) HC0_0.out (cup HR0_1) HC0_1.out A6.out).mono ?_); rintro e w13 ⟨v336, rfl, ho0, hb⟩; refine ⟨_, rfl, ?_⟩; have n0_ := Aside0.mk (Kd.R_lower ho0 (below_size bel)); have n1_ := Aside0.mk (bbw BK333 hb); have n2_ := Aside0.mk (bbw BK334 hb); have n3_ := Aside0.mk (below_step bel hb); clear BK333 BK334 HB; revert n0_ n1_ n2_ n3_; intro HO337 BK333 BK334 HB; (try clear hb); (try clear hb2); (try clear hk); (try clear hi); (try clear ho0)))
   go_ret2
   exact ⟨_, eqv, by (with_reducible repeat (first | apply Kd.R_alloc | apply Kd.R_drewN | apply Kd.R_drew)); exact HO337.out, bel⟩
  ·replace c7 := Bool.eq_false_iff.mpr c7
   subst c7
   have H1 : ((first_Break.f k l0_0 l0_1 a1 a2 a3_0 a3_1 a3_2 a3_3 a3_4 a3_5).bind fun t339 => (some (t339, (a3_2 == 1)))) = some (r1, r2) := by rw [if_neg (show ¬ (false = true) by decide)] at H; exact H
   clear H
   have H := H1
   clear H1
   replace H := Option.bind_eq_some_iff.mp H
   obtain ⟨t339, A140, H⟩ := H
   replace H : (some (t339, (a3_2 == 1))) = some (r1, r2) := H
   have A14 := Aside0.mk A140
   clear A140
   simp only [Option.some.injEq, Prod.mk.injEq] at H
   obtain ⟨rfl, rfl⟩ := H
   go_enter Tryz.func32, Tryz.ntmps32
   try go_wp2_with (first | ((with_reducible refine gate_dst (N := 4) rfl ?_); refine box_ev (N := 4) (cs := #[.slice A0_0 l0_0.length c0_0, .slice A0_1 l0_1.length c0_1]) (t := 74) ?_; intro gb333 hg w15 hbox hb; have n0_ := Aside0.mk (below_step bel hb); have n1_ := Aside0.mk (hbox); have n2_ := Aside0.mk (szb hg); have n3_ := Aside0.mk (szb hg); clear HB; revert n0_ n1_ n2_ n3_; intro HB BK333 GW333 GE333; clear hb hbox hg) | ((with_reducible refine gate_dst (N := 7) rfl ?_); refine box_ev (N := 7) (cs := #[.int .i64 a3_0, .int .i64 a3_1, .int .u8 a3_2, .int .i64 a3_3, .int .i64 a3_4, .float .f64 a3_5]) (t := 40) ?_; intro gb334 hg w16 hbox hb; have n0_ := Aside0.mk (bbw BK333 hb); have n1_ := Aside0.mk (below_step bel hb); have n2_ := Aside0.mk (hbox); have n3_ := Aside0.mk (szb hg); have n4_ := Aside0.mk (szb hg); have n5_ := Aside0.mk (neb hg BK333); have n6_ := Aside0.mk (neb hg BK333).symm; clear BK333 HB; revert n0_ n1_ n2_ n3_ n4_ n5_ n6_; intro BK333 HB BK334 GW334 GE334 NB333_334 NB334_333; clear hb hbox hg; have hnb17 := NB334_333.out; have hnc17 := NB333_334.out; obtain ⟨hcz18_0, hcz18_1, hcz18_2, hcz18_3, hcz18_4, hcz18_5, hfz18_0, hfz18_1, hfz18_2, hfz18_3, hfz18_4, hfz18_5⟩ := cs6 BK334; obtain ⟨hcz19_0, hcz19_1, hfz19_0, hfz19_1⟩ := cs2 BK333) | ((with_reducible refine gate_callee (f := 53) rfl ?_); refine goesL_ (some 20) rfl rfl Tryz.func53 (by kernel_rfl) rfl #[.agg #[.slice A0_0 l0_0.length c0_0, .slice A0_1 l0_1.length c0_1], .int .i64 a1, .int .i64 a2, .agg #[.int .i64 a3_0, .int .i64 a3_1, .int .u8 a3_2, .int .i64 a3_3, .int .i64 a3_4, .float .f64 a3_5]] rfl (by (try simp only [List.map_toArray, List.map_cons, List.map_nil]); first | done | rfl | (simp only [List.length_drop, List.length_take]; rfl)) ?_; (with_reducible refine (best_Break.calls _ _ l0_0 _ _ l0_1 a1 a2 a3_0 a3_1 a3_2 a3_3 a3_4 a3_5 t335 false _ (cup HR0_0) HC0_0.out (cup HR0_1) HC0_1.out A6.out).mono ?_); rintro e w20 ⟨v336, rfl, ho0, hb⟩; refine ⟨_, rfl, ?_⟩; have n0_ := Aside0.mk (Kd.R_lower ho0 (below_size bel)); have n1_ := Aside0.mk (bbw BK333 hb); have n2_ := Aside0.mk (bbw BK334 hb); have n3_ := Aside0.mk (below_step bel hb); clear BK333 BK334 HB; revert n0_ n1_ n2_ n3_; intro HO337 BK333 BK334 HB; (try clear hb); (try clear hb2); (try clear hk); (try clear hi); (try clear ho0)))
   have n0_ := Aside0.mk (Kd.R_drew HO337.out)
   have n1_ := Aside0.mk (blk_drew BK333.out)
   have n2_ := Aside0.mk (blk_drew BK334.out)
   have n3_ := Aside0.mk (below_drew1 HB.out)
   clear HO337
   clear BK333
   clear BK334
   clear HB
   have HO337 := n0_
   have BK333 := n1_
   have BK334 := n2_
   have HB := n3_
   clear n0_ n1_ n2_ n3_
   refine start_ (n := 10) (S := fun w' => w'.cell? ⟨gb333, 0, none⟩ = some (.slice A0_0 l0_0.length c0_0) ∧ w'.cell? ⟨gb333, 1, none⟩ = some (.slice A0_1 l0_1.length c0_1) ∧ w'.cell? ⟨gb334, 0, none⟩ = some (.int .i64 a3_0) ∧ w'.cell? ⟨gb334, 1, none⟩ = some (.int .i64 a3_1) ∧ w'.cell? ⟨gb334, 2, none⟩ = some (.int .u8 a3_2) ∧ w'.cell? ⟨gb334, 3, none⟩ = some (.int .i64 a3_3) ∧ w'.cell? ⟨gb334, 4, none⟩ = some (.int .i64 a3_4) ∧ w'.cell? ⟨gb334, 5, none⟩ = some (.float .f64 a3_5)) (ds := []) #[false, false, false, false, false, false, false, false, false, false] (by kernel_rfl) rfl rfl ⟨(blk_cell BK333.out 0).trans rfl, (blk_cell BK333.out 1).trans rfl, (blk_cell BK334.out 0).trans rfl, (blk_cell BK334.out 1).trans rfl, (blk_cell BK334.out 2).trans rfl, (blk_cell BK334.out 3).trans rfl, (blk_cell BK334.out 4).trans rfl, (blk_cell BK334.out 5).trans rfl⟩ (fun hHeld => ?_); refine with_tabW lines_Part.tab5 lines_Part.bits5 (fun HT_ HW_ => ?_)
   generalize w20.drew = w21 at HO337 BK333 BK334 HB hHeld ⊢
   refine pu 1 (some 26) ?_
   refine pu 2 (some 27) ?_
   refine pu 5 (some 30) ?_
   refine tr 0 (some 25) hHeld ?_
   refine tr 3 (some 28) hHeld ?_
   refine tr 6 (some 31) hHeld ?_
   refine pu 7 (some 32) ?_
   refine on 4 (some 29) fun K hK => ?_
   refine goes_ Tryz.func54 (by kernel_rfl) rfl #[.agg #[.slice A0_0 l0_0.length c0_0, .slice A0_1 l0_1.length c0_1], .int .i64 a1, .int .i64 a2, .agg #[.int .i64 a3_0, .int .i64 a3_1, .int .u8 a3_2, .int .i64 a3_3, .int .i64 a3_4, .float .f64 a3_5]] (by rfl) rfl rfl (by (try simp only [List.map_toArray, List.map_cons, List.map_nil]); first | done | rfl | (simp only [List.length_drop, List.length_take]; rfl)) ?_
   with_reducible refine (first_Break.calls k _ _ l0_0 _ _ l0_1 a1 a2 a3_0 a3_1 a3_2 a3_3 a3_4 a3_5 t339 _ ?side1 ?side2 ?side3 ?side4 A14.out).mono ?_
   (case side1 => repeat (first | exact (Kd.C_below HR0_0.out HB.out) | (with_reducible refine Kd.C_alloc ?_ _) | (with_reducible refine Kd.C_drewN ?_ _) | (with_reducible refine Kd.C_drew ?_)))
   (case side2 => exact HC0_0.out)
   (case side3 => repeat (first | exact (Kd.C_below HR0_1.out HB.out) | (with_reducible refine Kd.C_alloc ?_ _) | (with_reducible refine Kd.C_drewN ?_ _) | (with_reducible refine Kd.C_drew ?_)))
   (case side4 => exact HC0_1.out)
   rintro e w22 ⟨v340, rfl, ho0, hb⟩
   refine ⟨_, rfl, ?_⟩
   have n0_ := Aside0.mk (Kd.R_elder' (rua HO337) (Kd.R_base ho0) hb)
   have n1_ := Aside0.mk (Kd.R_lower (Kd.R_new' ho0 (Kd.R_lt (rua HO337))) (below_size bel))
   have n2_ := Aside0.mk (bbw BK333 hb)
   have n3_ := Aside0.mk (bbw BK334 hb)
   have n4_ := Aside0.mk (below_step bel hb)
   clear HO337
   clear BK333
   clear BK334
   clear HB
   have HO337 := n0_
   have HO341 := n1_
   have BK333 := n2_
   have BK334 := n3_
   have HB := n4_
   clear n0_ n1_ n2_ n3_ n4_
   (try clear hb)
   (try clear hb2)
   (try clear hk)
   (try clear hi)
   (try clear ho0)
   refine hK.out _ _ ⟨(blk_cell BK333.out 0).trans rfl, (blk_cell BK333.out 1).trans rfl, (blk_cell BK334.out 0).trans rfl, (blk_cell BK334.out 1).trans rfl, (blk_cell BK334.out 2).trans rfl, (blk_cell BK334.out 3).trans rfl, (blk_cell BK334.out 4).trans rfl, (blk_cell BK334.out 5).trans rfl⟩ (fun hHeld => ?_)
   clear hK K
   refine nrm 29 ?_
   refine pu 8 (some 8) ?_
   refine pu 9 (some 9) ?_
   refine done_ (done_of HT_.out (by kernel_rfl)) ?_
   try go_wp2
   go_ret2
   exact ⟨_, eqv, by (with_reducible repeat (first | apply Kd.R_alloc | apply Kd.R_drewN | apply Kd.R_drew)); exact Kd.R_mono HO341.out (fun _ hk => trivial), bel⟩
 ·rw [if_neg c5] at H
  have c5b0 : (a3_2 == 1) = false := beq_eq_false_iff_ne.mpr c5
  have c5b1 : (a3_2 != 1) = true := bne_iff_ne.mpr c5
  replace H := Option.bind_eq_some_iff.mp H
  obtain ⟨t342, A230, H⟩ := H
  replace H : (some (t342, (a3_2 == 1))) = some (r1, r2) := H
  have A23 := Aside0.mk A230
  clear A230
  simp only [Option.some.injEq, Prod.mk.injEq] at H
  obtain ⟨rfl, rfl⟩ := H
  go_enter Tryz.func32, Tryz.ntmps32
  try go_wp2_with (first | ((with_reducible refine gate_dst (N := 4) rfl ?_); refine box_ev (N := 4) (cs := #[.slice A0_0 l0_0.length c0_0, .slice A0_1 l0_1.length c0_1]) (t := 74) ?_; intro gb333 hg w24 hbox hb; have n0_ := Aside0.mk (below_step bel hb); have n1_ := Aside0.mk (hbox); have n2_ := Aside0.mk (szb hg); have n3_ := Aside0.mk (szb hg); clear HB; revert n0_ n1_ n2_ n3_; intro HB BK333 GW333 GE333; clear hb hbox hg) | ((with_reducible refine gate_dst (N := 7) rfl ?_); refine box_ev (N := 7) (cs := #[.int .i64 a3_0, .int .i64 a3_1, .int .u8 a3_2, .int .i64 a3_3, .int .i64 a3_4, .float .f64 a3_5]) (t := 40) ?_; intro gb334 hg w25 hbox hb; have n0_ := Aside0.mk (bbw BK333 hb); have n1_ := Aside0.mk (below_step bel hb); have n2_ := Aside0.mk (hbox); have n3_ := Aside0.mk (szb hg); have n4_ := Aside0.mk (szb hg); have n5_ := Aside0.mk (neb hg BK333); have n6_ := Aside0.mk (neb hg BK333).symm; clear BK333 HB; revert n0_ n1_ n2_ n3_ n4_ n5_ n6_; intro BK333 HB BK334 GW334 GE334 NB333_334 NB334_333; clear hb hbox hg; have hnb26 := NB334_333.out; have hnc26 := NB333_334.out; obtain ⟨hcz27_0, hcz27_1, hcz27_2, hcz27_3, hcz27_4, hcz27_5, hfz27_0, hfz27_1, hfz27_2, hfz27_3, hfz27_4, hfz27_5⟩ := cs6 BK334))
  have n0_ := Aside0.mk (blk_drew BK333.out)
  have n1_ := Aside0.mk (blk_drew BK334.out)
  have n2_ := Aside0.mk (below_drew1 HB.out)
  clear BK333
  clear BK334
  clear HB
  have BK333 := n0_
  have BK334 := n1_
  have HB := n2_
  clear n0_ n1_ n2_
  refine start_ (n := 10) (S := fun w' => w'.cell? ⟨gb333, 0, none⟩ = some (.slice A0_0 l0_0.length c0_0) ∧ w'.cell? ⟨gb333, 1, none⟩ = some (.slice A0_1 l0_1.length c0_1) ∧ w'.cell? ⟨gb334, 0, none⟩ = some (.int .i64 a3_0) ∧ w'.cell? ⟨gb334, 1, none⟩ = some (.int .i64 a3_1) ∧ w'.cell? ⟨gb334, 2, none⟩ = some (.int .u8 a3_2) ∧ w'.cell? ⟨gb334, 3, none⟩ = some (.int .i64 a3_3) ∧ w'.cell? ⟨gb334, 4, none⟩ = some (.int .i64 a3_4) ∧ w'.cell? ⟨gb334, 5, none⟩ = some (.float .f64 a3_5)) (ds := []) #[false, false, false, false, false, false, false, false, false, false] (by kernel_rfl) rfl rfl ⟨(blk_cell BK333.out 0).trans rfl, (blk_cell BK333.out 1).trans rfl, (blk_cell BK334.out 0).trans rfl, (blk_cell BK334.out 1).trans rfl, (blk_cell BK334.out 2).trans rfl, (blk_cell BK334.out 3).trans rfl, (blk_cell BK334.out 4).trans rfl, (blk_cell BK334.out 5).trans rfl⟩ (fun hHeld => ?_); refine with_tabW lines_Part.tab5 lines_Part.bits5 (fun HT_ HW_ => ?_)
  generalize w25.drew = w28 at BK333 BK334 HB hHeld ⊢
  refine pu 1 (some 26) ?_
  refine pu 2 (some 27) ?_
  refine pu 5 (some 30) ?_
  refine tr 0 (some 25) hHeld ?_
  refine tr 3 (some 28) hHeld ?_
  refine tr 6 (some 31) hHeld ?_
  refine pu 7 (some 32) ?_
  refine on 4 (some 29) fun K hK => ?_
  refine goes_ Tryz.func54 (by kernel_rfl) rfl #[.agg #[.slice A0_0 l0_0.length c0_0, .slice A0_1 l0_1.length c0_1], .int .i64 a1, .int .i64 a2, .agg #[.int .i64 a3_0, .int .i64 a3_1, .int .u8 a3_2, .int .i64 a3_3, .int .i64 a3_4, .float .f64 a3_5]] (by rfl) rfl rfl (by (try simp only [List.map_toArray, List.map_cons, List.map_nil]); first | done | rfl | (simp only [List.length_drop, List.length_take]; rfl)) ?_
  with_reducible refine (first_Break.calls k _ _ l0_0 _ _ l0_1 a1 a2 a3_0 a3_1 a3_2 a3_3 a3_4 a3_5 t342 _ ?side1 ?side2 ?side3 ?side4 A23.out).mono ?_
  (case side1 => repeat (first | exact (Kd.C_below HR0_0.out HB.out) | (with_reducible refine Kd.C_alloc ?_ _) | (with_reducible refine Kd.C_drewN ?_ _) | (with_reducible refine Kd.C_drew ?_)))
  (case side2 => exact HC0_0.out)
  (case side3 => repeat (first | exact (Kd.C_below HR0_1.out HB.out) | (with_reducible refine Kd.C_alloc ?_ _) | (with_reducible refine Kd.C_drewN ?_ _) | (with_reducible refine Kd.C_drew ?_)))
  (case side4 => exact HC0_1.out)
  rintro e w29 ⟨v343, rfl, ho0, hb⟩
  refine ⟨_, rfl, ?_⟩
  have n0_ := Aside0.mk (Kd.R_lower ho0 (below_size bel))
  have n1_ := Aside0.mk (bbw BK333 hb)
  have n2_ := Aside0.mk (bbw BK334 hb)
  have n3_ := Aside0.mk (below_step bel hb)
  clear BK333
  clear BK334
  clear HB
  have HO344 := n0_
  have BK333 := n1_
  have BK334 := n2_
  have HB := n3_
  clear n0_ n1_ n2_ n3_
  (try clear hb)
  (try clear hb2)
  (try clear hk)
  (try clear hi)
  (try clear ho0)
  refine hK.out _ _ ⟨(blk_cell BK333.out 0).trans rfl, (blk_cell BK333.out 1).trans rfl, (blk_cell BK334.out 0).trans rfl, (blk_cell BK334.out 1).trans rfl, (blk_cell BK334.out 2).trans rfl, (blk_cell BK334.out 3).trans rfl, (blk_cell BK334.out 4).trans rfl, (blk_cell BK334.out 5).trans rfl⟩ (fun hHeld => ?_)
  clear hK K
  refine nrm 29 ?_
  refine pu 8 (some 8) ?_
  refine pu 9 (some 9) ?_
  refine done_ (done_of HT_.out (by kernel_rfl)) ?_
  try go_wp2
  go_ret2
  exact ⟨_, eqv, by (with_reducible repeat (first | apply Kd.R_alloc | apply Kd.R_drewN | apply Kd.R_drew)); exact HO344.out, bel⟩
def lines_Break.l0 : Nat → List (S127) → Bool → Int → List Int → Int → Int → List (S130) → List Int → Int → Int → Int → Int → Int → Nat → Option ((List (S127)) × Bool)
 | 0, _, _, _, _, _, _, _, _, _, _, _, _, _, _ => none
 | k + 1, x6, x7, x8, x14, x15, x16, x346000, x346001, x347000, x347001, x347002, x347003, x347004, x347005 => if x16 < x15 then (if 0 ≤ x16 then (if x16 < (x14.length : Int) then ((lines_Part.f k x346000 x346001 x8 (rd x14 x16) x347000 x347001 x347002 x347003 x347004 x347005).bind fun bt351 => (if x6.length + bt351.1.length < 4398046511104 then ((some (x6 ++ bt351.1 : List (S127))).bind fun y355 => (if x7 = true then (lines_Break.l0 k y355 true (rd x14 x16) x14 x15 (wrap64 (x16 + 1)) x346000 x346001 x347000 x347001 x347002 x347003 x347004 x347005) else (lines_Break.l0 k y355 bt351.2 (rd x14 x16) x14 x15 (wrap64 (x16 + 1)) x346000 x346001 x347000 x347001 x347002 x347003 x347004 x347005))) else (none))) else (none)) else (none)) else (some (x6, x7))
def lines_Break.f (k : Nat) (l0_0 : List (S130)) (l0_1 : List Int) (a1_0 : Int) (a1_1 : Int) (a1_2 : Int) (a1_3 : Int) (a1_4 : Int) (a1_5 : Nat) : Option ((List (S127)) × Bool) := (items_Parts.f k l0_0 l0_1).bind fun t347 => (lines_Break.l0 k ([] : List (S127)) false 0 t347 (t347.length : Int) 0 l0_0 l0_1 a1_0 a1_1 a1_2 a1_3 a1_4 a1_5)
set_option maxHeartbeats 8000000 in
set_option maxRecDepth 100000 in
theorem lines_Break.calls (k : Nat) (A0_0 : Option Addr) (c0_0 : Nat) (l0_0 : List (S130)) (A0_1 : Option Addr) (c0_1 : Nat) (l0_1 : List Int) (a1_0 : Int) (a1_1 : Int) (a1_2 : Int) (a1_3 : Int) (a1_4 : Int) (a1_5 : Nat) (r1 : List (S127)) (r2 : Bool) (w : World) (hr0_0 : Kd.C k130 w A0_0 l0_0.length l0_0) (hc0_0 : l0_0.length ≤ c0_0) (hr0_1 : Kd.C (Kd.int .u8) w A0_1 l0_1.length l0_1) (hc0_1 : l0_1.length ≤ c0_1) (h : lines_Break.f k l0_0 l0_1 a1_0 a1_1 a1_2 a1_3 a1_4 a1_5 = some (r1, r2)) :
  Calls Tryz.prog 17 #[.agg #[.slice A0_0 l0_0.length c0_0, .slice A0_1 l0_1.length c0_1], .agg #[.int .i64 a1_0, .int .i64 a1_1, .int .u8 a1_2, .int .i64 a1_3, .int .i64 a1_4, .float .f64 a1_5]] w fun e w' => ∃ v0_ : Value, e = .returned (.tuple #[v0_, .bool r2]) ∧ Kd.R k127 127 w' w.heap.size (fun _ => True) v0_ r1 ∧ Below w.heap.size w w' := by
 have hu74 := Tryz.underlying74
 have hu40 := Tryz.underlying40
 have HR0_0 := Aside0.mk hr0_0
 have HC0_0 := Aside0.mk hc0_0
 clear hr0_0 hc0_0
 have HR0_1 := Aside0.mk hr0_1
 have HC0_1 := Aside0.mk hc0_1
 clear hr0_1 hc0_1
 have HB := Aside0.mk (Below.refl w.heap.size w)
 have H : ((items_Parts.f k l0_0 l0_1).bind fun t347 => (lines_Break.l0 k ([] : List (S127)) false 0 t347 (t347.length : Int) 0 l0_0 l0_1 a1_0 a1_1 a1_2 a1_3 a1_4 a1_5)) = some (r1, r2) := h
 clear h
 replace H := Option.bind_eq_some_iff.mp H
 obtain ⟨t347, A30, H⟩ := H
 replace H : (lines_Break.l0 k ([] : List (S127)) false 0 t347 (t347.length : Int) 0 l0_0 l0_1 a1_0 a1_1 a1_2 a1_3 a1_4 a1_5) = some (r1, r2) := H
 have A3 := Aside0.mk A30
 clear A30
 have H' := Aside0.mk H
 clear H
 go_enter Tryz.func17, Tryz.ntmps17
 go_wp2_with (first | ((with_reducible refine gate_dst (N := 2) rfl ?_); refine box_ev (N := 2) (cs := #[.slice A0_0 l0_0.length c0_0, .slice A0_1 l0_1.length c0_1]) (t := 74) ?_; intro gb345 hg w4 hbox hb; have n0_ := Aside0.mk (below_step bel hb); have n1_ := Aside0.mk (hbox); have n2_ := Aside0.mk (szb hg); have n3_ := Aside0.mk (szb hg); clear HB; revert n0_ n1_ n2_ n3_; intro HB BK345 GW345 GE345; clear hb hbox hg) | ((with_reducible refine gate_dst (N := 3) rfl ?_); refine box_ev (N := 3) (cs := #[.int .i64 a1_0, .int .i64 a1_1, .int .u8 a1_2, .int .i64 a1_3, .int .i64 a1_4, .float .f64 a1_5]) (t := 40) ?_; intro gb346 hg w5 hbox hb; have n0_ := Aside0.mk (bbw BK345 hb); have n1_ := Aside0.mk (below_step bel hb); have n2_ := Aside0.mk (hbox); have n3_ := Aside0.mk (szb hg); have n4_ := Aside0.mk (szb hg); have n5_ := Aside0.mk (neb hg BK345); have n6_ := Aside0.mk (neb hg BK345).symm; clear BK345 HB; revert n0_ n1_ n2_ n3_ n4_ n5_ n6_; intro BK345 HB BK346 GW346 GE346 NB345_346 NB346_345; clear hb hbox hg; have hnb6 := NB345_346.out; have hnc6 := NB346_345.out; obtain ⟨hcz7_0, hcz7_1, hfz7_0, hfz7_1⟩ := cs2 BK345) | ((with_reducible refine gate_callee (f := 31) rfl ?_); refine goesL_ (some 14) rfl rfl Tryz.func31 (by kernel_rfl) rfl #[.agg #[.slice A0_0 l0_0.length c0_0, .slice A0_1 l0_1.length c0_1]] rfl (by (try simp only [List.map_toArray, List.map_cons, List.map_nil]); first | done | rfl | (simp only [List.length_drop, List.length_take]; rfl)) ?_; (with_reducible refine (items_Parts.calls k _ _ l0_0 _ _ l0_1 t347 _ (cup HR0_0) HC0_0.out (cup HR0_1) HC0_1.out A3.out).mono ?_); rintro e w8 ⟨v348, rfl, ho0, hb⟩; refine ⟨_, rfl, ?_⟩; have n0_ := Aside0.mk (Kd.R_lower ho0 (below_size bel)); have n1_ := Aside0.mk (bbw BK345 hb); have n2_ := Aside0.mk (bbw BK346 hb); have n3_ := Aside0.mk (below_step bel hb); clear BK345 BK346 HB; revert n0_ n1_ n2_ n3_; intro HO349 BK345 BK346 HB; (try clear hb); (try clear hb2); (try clear hk); (try clear hi); (try clear ho0); obtain ⟨Ao9, co9, eo9⟩ := Kd.R_slice HO349.out; subst eo9))
 go_loopg [6, 7, 8, 16] k (fun kq v6 v7 v8 v16 w' => ∃ (x6_1 : List (S127)) (x7_1 : Bool) (x8_1 : Int) (x16_1 : Int), v7 = .bool x7_1 ∧ v8 = .int .i64 x8_1 ∧ v16 = .int .i64 x16_1 ∧ Aside0 (lines_Break.l0 kq x6_1 x7_1 x8_1 t347 (t347.length : Int) x16_1 l0_0 l0_1 a1_0 a1_1 a1_2 a1_3 a1_4 a1_5 = some (r1, r2)) ∧ Aside0 (kq ≤ k) ∧ Aside0 (Kd.R k127 127 w' w.heap.size (fun _ => True) v6 x6_1) ∧ Aside0 (Kd.R (Kd.int .i64) 3 w' w.heap.size (fun _ => True) (.slice Ao9 t347.length co9) t347) ∧ Aside0 (w'.heap[gb345]? = some (.cells #[(.slice A0_0 l0_0.length c0_0), (.slice A0_1 l0_1.length c0_1)] 74 (0, 0))) ∧ Aside0 (w'.heap[gb346]? = some (.cells #[.int .i64 a1_0, .int .i64 a1_1, .int .u8 a1_2, .int .i64 a1_3, .int .i64 a1_4, .float .f64 a1_5] 40 (0, 0))) ∧ Aside0 (Below w.heap.size w w'))
 case atStart => exact ⟨(([] : List (S127))), (false), (0), (0), eqs, eqs, eqs, H', ⟨Nat.le_refl _⟩, ⟨by first | exact Kd.R_nil _ _ _ _ _ | exact Kd.N_nil _ _ _ _ _ | exact Kd.V_nil _ _ _ _ _ | exact Kd.Q_nil _ _ _ _ _ | exact Kd.S_nil _ _ _ _ _⟩, ⟨by (with_reducible repeat (first | apply Kd.R_alloc | apply Kd.R_drewN | apply Kd.R_drew)); exact HO349.out⟩, ⟨blk⟩, ⟨blk⟩, ⟨bel⟩⟩
 case round =>
  clear H'
  try clear c1
  try clear p2
  try clear c3
  try clear c6
  try clear hcz7_0 hcz7_1 hfz7_0 hfz7_1
  obtain ⟨x6_1, x7_1, x8_1, x16_1, rfl, rfl, rfl, HA, HK1, HO_6, HO_14, BK345, BK346, HB⟩ := hrel
  cases gk with
  | zero => exact absurd HA.out (by simp [lines_Break.l0])
  | succ k1 =>
   have H := HA.out
   clear HA
   simp only [lines_Break.l0] at H
   by_cases c10 : x16_1 < (t347.length : Int)
   ·rw [if_pos c10] at H
    have c10b0 := decide_eq_true c10
    clear c10
    by_cases c11 : 0 ≤ x16_1
    ·rw [if_pos c11] at H
     have c11b0 := decide_eq_true c11
     clear c11
     by_cases c12 : x16_1 < (t347.length : Int)
     ·rw [if_pos c12] at H
      have c12b0 := decide_eq_true c12
      clear c12
      replace H := Option.bind_eq_some_iff.mp H
      obtain ⟨⟨t351, t354⟩, A130, H⟩ := H
      replace H : (if x6_1.length + t351.length < 4398046511104 then ((some (x6_1 ++ t351 : List (S127))).bind fun y355 => (if x7_1 = true then (lines_Break.l0 k1 y355 true (rd t347 x16_1) t347 (t347.length : Int) (wrap64 (x16_1 + 1)) l0_0 l0_1 a1_0 a1_1 a1_2 a1_3 a1_4 a1_5) else (lines_Break.l0 k1 y355 t354 (rd t347 x16_1) t347 (t347.length : Int) (wrap64 (x16_1 + 1)) l0_0 l0_1 a1_0 a1_1 a1_2 a1_3 a1_4 a1_5))) else (none)) = some (r1, r2) := H
      have A13 := Aside0.mk A130
      clear A130
      by_cases c14 : x6_1.length + t351.length < 4398046511104
      ·rw [if_pos c14] at H
       have LMc14 := Aside0.mk c14
       clear c14
       obtain ⟨y355, hy355⟩ : ∃ y_ : List (S127), y_ = (x6_1 ++ t351) := ⟨_, rfl⟩
       replace H : (if x7_1 = true then (lines_Break.l0 k1 y355 true (rd t347 x16_1) t347 (t347.length : Int) (wrap64 (x16_1 + 1)) l0_0 l0_1 a1_0 a1_1 a1_2 a1_3 a1_4 a1_5) else (lines_Break.l0 k1 y355 t354 (rd t347 x16_1) t347 (t347.length : Int) (wrap64 (x16_1 + 1)) l0_0 l0_1 a1_0 a1_1 a1_2 a1_3 a1_4 a1_5)) = some (r1, r2) := by first | (rw [hy355]; with_reducible exact H) | (have H2_ := (Option.bind_some _ _).symm.trans H; rw [hy355]; with_reducible exact H2_) | (have H2_ := (Option.bind_some _ _).symm.trans H; with_reducible exact H2_) | with_reducible exact H | (rw [hy355]; exact H) | exact H
       have Ny355 := Aside0.mk hy355
       clear hy355
       by_cases c15 : x7_1 = true
       ·subst c15
        have H1 : (lines_Break.l0 k1 y355 true (rd t347 x16_1) t347 (t347.length : Int) (wrap64 (x16_1 + 1)) l0_0 l0_1 a1_0 a1_1 a1_2 a1_3 a1_4 a1_5) = some (r1, r2) := by rw [if_pos rfl] at H; exact H
        clear H
        have H := H1
        clear H1
        have H' := Aside0.mk H
        clear H
        have p350 : 0 ≤ (x16_1 : Int) := oda
        have q350 : x16_1 < (t347.length : Int) := oda
        obtain ⟨ad350, e350, hx350_0⟩ := Kd.at_int (Kd.R_reads' HO_14.out).2.2 x16_1 p350 q350
        cases e350
        replace p350 := eq_true p350
        replace q350 := eq_true q350
        have hnb16 := NB345_346.out
        have hnc16 := NB346_345.out
        obtain ⟨hcz17_0, hcz17_1, hfz17_0, hfz17_1⟩ := cs2 BK345
        obtain ⟨hcz18_0, hcz18_1, hcz18_2, hcz18_3, hcz18_4, hcz18_5, hfz18_0, hfz18_1, hfz18_2, hfz18_3, hfz18_4, hfz18_5⟩ := cs6 BK346
        go_wp2_with (first | ((with_reducible refine gate_callee (f := 32) rfl ?_); refine goesL_ (some 25) rfl rfl Tryz.func32 (by kernel_rfl) rfl #[.agg #[.slice A0_0 l0_0.length c0_0, .slice A0_1 l0_1.length c0_1], .int .i64 x8_1, .int .i64 (rd t347 x16_1), .agg #[.int .i64 a1_0, .int .i64 a1_1, .int .u8 a1_2, .int .i64 a1_3, .int .i64 a1_4, .float .f64 a1_5]] rfl (by (try simp only [List.map_toArray, List.map_cons, List.map_nil]); first | done | rfl | (simp only [List.length_drop, List.length_take]; rfl)) ?_; (with_reducible refine (lines_Part.calls k1 _ _ l0_0 _ _ l0_1 x8_1 (rd t347 x16_1) a1_0 a1_1 a1_2 a1_3 a1_4 a1_5 t351 t354 _ (cup HR0_0) HC0_0.out (cup HR0_1) HC0_1.out A13.out).mono ?_); rintro e w19 ⟨v352, rfl, ho0, hb⟩; refine ⟨_, rfl, ?_⟩; have n0_ := Aside0.mk (Kd.R_elder' (rua HO_6) (Kd.R_base ho0) hb); have n1_ := Aside0.mk (Kd.R_below (rua HO_14) hb); have n2_ := Aside0.mk (Kd.R_lower (Kd.R_new' ho0 (Kd.R_lt (rua HO_6))) (below_size bel)); have n3_ := Aside0.mk (bbw BK345 hb); have n4_ := Aside0.mk (bbw BK346 hb); have n5_ := Aside0.mk (below_step bel hb); clear HO_6 HO_14 BK345 BK346 HB; revert n0_ n1_ n2_ n3_ n4_ n5_; intro HO_6 HO_14 HO353 BK345 BK346 HB; (try clear hb); (try clear hb2); (try clear hk); (try clear hi); (try clear ho0); obtain ⟨Ao21, co21, eo21⟩ := Kd.R_slice HO353.out; subst eo21) | ((with_reducible refine gate_builtin (b := .append) (xs := #[.tmp 28, .tmp 29]) rfl ?_); at_builtin; refine Kd.R_append_rows k127 (w0 := w) w.heap.size rfl (.tmp 28) (.tmp 29) 77 127 (.agg #[(.int .i64 0), (.int .i64 0), (.int .i64 0), (.int .u8 0)]) 32 rfl Tryz.underlying77 info127 rfl (by decide) (by omega) u6 x6_1 t351 _ _ _ (fun k_ => some k_ ≠ (.slice Ao21 t351.length co21 : Value).ownBlock) (fun _ => False) rfl rfl ?aO ?aR (fun _ _ h => h) (fun _ h => h.elim) ?aF ?aB ?aS ?aL ?_; (case aR => repeat (first | exact (Kd.R_reads' HO353.out).2.2 | (with_reducible refine Kd.C_alloc ?_ _) | (with_reducible refine Kd.C_drewN ?_ _) | (with_reducible refine Kd.C_drew ?_))); (case aB => exact bel); (case aF => exact (fun k_ hk => Kd.fresh' (Kd.R_lt (rua HO353)) k_ hk)); (case aO => exact (by (with_reducible repeat (first | apply Kd.R_alloc | apply Kd.R_drewN | apply Kd.R_drew)); exact Kd.R_mono HO_6.out (fun _ hk => hk.2))); (case aS => exact (below_size bel)); (case aL => have := LMc14.out; omega); intro v356 w20 ho hb hg hat; rw [← Ny355.out] at ho; have n0_ := Aside0.mk (Kd.R_over' (rua HO_14) (Kd.R_typed (rua HO_6)) (by decide) hg); have n1_ := Aside0.mk (blk_grown (g := gb345) (o := .cells #[.slice A0_0 l0_0.length c0_0, .slice A0_1 l0_1.length c0_1] 74 (0, 0)) blk hg (Kd.R_ne HO_6.out BK345.out (by decide))); have n2_ := Aside0.mk (blk_grown (g := gb346) (o := .cells #[.int .i64 a1_0, .int .i64 a1_1, .int .u8 a1_2, .int .i64 a1_3, .int .i64 a1_4, .float .f64 a1_5] 40 (0, 0)) blk hg (Kd.R_ne HO_6.out BK346.out (by decide))); have n3_ := Aside0.mk (Kd.R_after (ok := (fun _ => True)) (rua HO353) hg hat); have n4_ := Aside0.mk (hb); have n5_ := Aside0.mk (ho); clear HO_14 BK345 BK346 HO353 HB HO_6; revert n0_ n1_ n2_ n3_ n4_ n5_; intro HO_14 BK345 BK346 HO353 HB HO357; clear ho hb hg hat))
        go_roundg k1
        case measure => have := HK1.out; omega
        case rel => exact ⟨(y355), (true), (rd t347 x16_1), (wrap64 (x16_1 + 1)), eqs, eqs, eqs, H', ⟨by have := HK1.out; omega⟩, ⟨by (with_reducible repeat (first | apply Kd.R_alloc | apply Kd.R_drewN | apply Kd.R_drew)); exact Kd.R_mono HO357.out (fun _ hk => trivial)⟩, ⟨by (with_reducible repeat (first | apply Kd.R_alloc | apply Kd.R_drewN | apply Kd.R_drew)); exact HO_14.out⟩, ⟨blk⟩, ⟨blk⟩, ⟨bel⟩⟩
       ·replace c15 := Bool.eq_false_iff.mpr c15
        subst c15
        have H1 : (lines_Break.l0 k1 y355 t354 (rd t347 x16_1) t347 (t347.length : Int) (wrap64 (x16_1 + 1)) l0_0 l0_1 a1_0 a1_1 a1_2 a1_3 a1_4 a1_5) = some (r1, r2) := by rw [if_neg (show ¬ (false = true) by decide)] at H; exact H
        clear H
        have H := H1
        clear H1
        have H' := Aside0.mk H
        clear H
        have p350 : 0 ≤ (x16_1 : Int) := oda
        have q350 : x16_1 < (t347.length : Int) := oda
        obtain ⟨ad350, e350, hx350_0⟩ := Kd.at_int (Kd.R_reads' HO_14.out).2.2 x16_1 p350 q350
        cases e350
        replace p350 := eq_true p350
        replace q350 := eq_true q350
        have hnb22 := NB345_346.out
        have hnc22 := NB346_345.out
        obtain ⟨hcz23_0, hcz23_1, hfz23_0, hfz23_1⟩ := cs2 BK345
        obtain ⟨hcz24_0, hcz24_1, hcz24_2, hcz24_3, hcz24_4, hcz24_5, hfz24_0, hfz24_1, hfz24_2, hfz24_3, hfz24_4, hfz24_5⟩ := cs6 BK346
        go_wp2_with (first | ((with_reducible refine gate_callee (f := 32) rfl ?_); refine goesL_ (some 25) rfl rfl Tryz.func32 (by kernel_rfl) rfl #[.agg #[.slice A0_0 l0_0.length c0_0, .slice A0_1 l0_1.length c0_1], .int .i64 x8_1, .int .i64 (rd t347 x16_1), .agg #[.int .i64 a1_0, .int .i64 a1_1, .int .u8 a1_2, .int .i64 a1_3, .int .i64 a1_4, .float .f64 a1_5]] rfl (by (try simp only [List.map_toArray, List.map_cons, List.map_nil]); first | done | rfl | (simp only [List.length_drop, List.length_take]; rfl)) ?_; (with_reducible refine (lines_Part.calls k1 _ _ l0_0 _ _ l0_1 x8_1 (rd t347 x16_1) a1_0 a1_1 a1_2 a1_3 a1_4 a1_5 t351 t354 _ (cup HR0_0) HC0_0.out (cup HR0_1) HC0_1.out A13.out).mono ?_); rintro e w25 ⟨v352, rfl, ho0, hb⟩; refine ⟨_, rfl, ?_⟩; have n0_ := Aside0.mk (Kd.R_elder' (rua HO_6) (Kd.R_base ho0) hb); have n1_ := Aside0.mk (Kd.R_below (rua HO_14) hb); have n2_ := Aside0.mk (Kd.R_lower (Kd.R_new' ho0 (Kd.R_lt (rua HO_6))) (below_size bel)); have n3_ := Aside0.mk (bbw BK345 hb); have n4_ := Aside0.mk (bbw BK346 hb); have n5_ := Aside0.mk (below_step bel hb); clear HO_6 HO_14 BK345 BK346 HB; revert n0_ n1_ n2_ n3_ n4_ n5_; intro HO_6 HO_14 HO353 BK345 BK346 HB; (try clear hb); (try clear hb2); (try clear hk); (try clear hi); (try clear ho0); obtain ⟨Ao27, co27, eo27⟩ := Kd.R_slice HO353.out; subst eo27) | ((with_reducible refine gate_builtin (b := .append) (xs := #[.tmp 28, .tmp 29]) rfl ?_); at_builtin; refine Kd.R_append_rows k127 (w0 := w) w.heap.size rfl (.tmp 28) (.tmp 29) 77 127 (.agg #[(.int .i64 0), (.int .i64 0), (.int .i64 0), (.int .u8 0)]) 32 rfl Tryz.underlying77 info127 rfl (by decide) (by omega) u6 x6_1 t351 _ _ _ (fun k_ => some k_ ≠ (.slice Ao27 t351.length co27 : Value).ownBlock) (fun _ => False) rfl rfl ?aO ?aR (fun _ _ h => h) (fun _ h => h.elim) ?aF ?aB ?aS ?aL ?_; (case aR => repeat (first | exact (Kd.R_reads' HO353.out).2.2 | (with_reducible refine Kd.C_alloc ?_ _) | (with_reducible refine Kd.C_drewN ?_ _) | (with_reducible refine Kd.C_drew ?_))); (case aB => exact bel); (case aF => exact (fun k_ hk => Kd.fresh' (Kd.R_lt (rua HO353)) k_ hk)); (case aO => exact (by (with_reducible repeat (first | apply Kd.R_alloc | apply Kd.R_drewN | apply Kd.R_drew)); exact Kd.R_mono HO_6.out (fun _ hk => hk.2))); (case aS => exact (below_size bel)); (case aL => have := LMc14.out; omega); intro v356 w26 ho hb hg hat; rw [← Ny355.out] at ho; have n0_ := Aside0.mk (Kd.R_over' (rua HO_14) (Kd.R_typed (rua HO_6)) (by decide) hg); have n1_ := Aside0.mk (blk_grown (g := gb345) (o := .cells #[.slice A0_0 l0_0.length c0_0, .slice A0_1 l0_1.length c0_1] 74 (0, 0)) blk hg (Kd.R_ne HO_6.out BK345.out (by decide))); have n2_ := Aside0.mk (blk_grown (g := gb346) (o := .cells #[.int .i64 a1_0, .int .i64 a1_1, .int .u8 a1_2, .int .i64 a1_3, .int .i64 a1_4, .float .f64 a1_5] 40 (0, 0)) blk hg (Kd.R_ne HO_6.out BK346.out (by decide))); have n3_ := Aside0.mk (Kd.R_after (ok := (fun _ => True)) (rua HO353) hg hat); have n4_ := Aside0.mk (hb); have n5_ := Aside0.mk (ho); clear HO_14 BK345 BK346 HO353 HB HO_6; revert n0_ n1_ n2_ n3_ n4_ n5_; intro HO_14 BK345 BK346 HO353 HB HO357; clear ho hb hg hat))
        go_roundg k1
        case measure => have := HK1.out; omega
        case rel => exact ⟨(y355), (t354), (rd t347 x16_1), (wrap64 (x16_1 + 1)), eqs, eqs, eqs, H', ⟨by have := HK1.out; omega⟩, ⟨by (with_reducible repeat (first | apply Kd.R_alloc | apply Kd.R_drewN | apply Kd.R_drew)); exact Kd.R_mono HO357.out (fun _ hk => trivial)⟩, ⟨by (with_reducible repeat (first | apply Kd.R_alloc | apply Kd.R_drewN | apply Kd.R_drew)); exact HO_14.out⟩, ⟨blk⟩, ⟨blk⟩, ⟨bel⟩⟩
      ·rw [if_neg c14] at H
       exact absurd H (by simp)
     ·rw [if_neg c12] at H
      exact absurd H (by simp)
    ·rw [if_neg c11] at H
     exact absurd H (by simp)
   ·rw [if_neg c10] at H
    have c10b0 := decide_eq_false c10
    clear c10
    simp only [Option.some.injEq, Prod.mk.injEq] at H
    obtain ⟨rfl, rfl⟩ := H
    go_wp2
    go_ret2
    exact ⟨_, eqv, by (with_reducible repeat (first | apply Kd.R_alloc | apply Kd.R_drewN | apply Kd.R_drew)); exact HO_6.out, bel⟩
def lines_Rows.l0 : Nat → List (S50) → List (S127) → Int → Int → List (S130) → List Int → Option ((List (S50)))
 | 0, _, _, _, _, _, _ => none
 | k + 1, x5, x14, x15, x16, x359000, x359001 => if x16 < x15 then (if 0 ≤ x16 then (if x16 < (x14.length : Int) then (if 0 ≤ (wrap64 (((rd_T127 x14 x16).f1) - 1)) then (if (wrap64 (((rd_T127 x14 x16).f1) - 1)) < (x359000.length : Int) then (if 0 ≤ ((rd_T127 x14 x16).f0) then (if ((rd_T127 x14 x16).f0) < (x359000.length : Int) then (if x5.length < 4398046511104 then (lines_Rows.l0 k (x5 ++ [(⟨(rd_T130 x359000 ((rd_T127 x14 x16).f0)).f0, wrap64 (((rd_T130 x359000 (wrap64 (((rd_T127 x14 x16).f1) - 1))).f0) + ((rd_T130 x359000 (wrap64 (((rd_T127 x14 x16).f1) - 1))).f1)), (rd_T127 x14 x16).f2, (rd_T127 x14 x16).f3⟩ : S50)]) x14 x15 (wrap64 (x16 + 1)) x359000 x359001) else (none)) else (none)) else (none)) else (none)) else (none)) else (none)) else (none)) else (some x5)
def lines_Rows.f (k : Nat) (l0_0 : List (S130)) (l0_1 : List Int) (l1 : List (S127)) : Option ((List (S50))) := if (l1.length : Int) = 0 then (some (([(⟨0, 0, 0, 2⟩ : S50)] : List (S50)))) else (lines_Rows.l0 k ([] : List (S50)) l1 (l1.length : Int) 0 l0_0 l0_1)
def lines_Rows.T8 : Bool × List (List Nat × List Nat) := (true, [([], []), ([], []), ([1], [1]), ([], []), ([3], [3]), ([2, 4], [2, 4]), ([5], [5]), ([6], [6]), ([], []), ([8], [8]), ([], []), ([10], [10]), ([9, 11], [9, 11]), ([], []), ([13], [13]), ([], []), ([15], [15]), ([7, 12, 14, 16], [7, 12, 14, 16]), ([17], [17]), ([0, 18], [0, 18]), ([19, 19, 0, 1, 2, 3, 4, 5, 6, 7, 8, 9, 10, 11, 12, 13, 14, 15, 16, 17, 18, 19], [0, 19])])
def lines_Rows.B8 : List Nat := [0, 0, 2, 0, 8, 30, 62, 126, 0, 256, 0, 1024, 3840, 0, 8192, 0, 32768, 131070, 262142, 524287, 1048575]
theorem lines_Rows.tab8 : rtab .any (opsOf Tryz.f18 8) = lines_Rows.T8 := by kernel_rfl
theorem lines_Rows.bits8 : waitsOk lines_Rows.T8.2 lines_Rows.B8 = true := by kernel_rfl
set_option maxHeartbeats 8000000 in
set_option maxRecDepth 100000 in
theorem lines_Rows.calls (k : Nat) (A0_0 : Option Addr) (c0_0 : Nat) (l0_0 : List (S130)) (A0_1 : Option Addr) (c0_1 : Nat) (l0_1 : List Int) (A1 : Option Addr) (c1 : Nat) (l1 : List (S127)) (r : List (S50)) (w : World) (hr0_0 : Kd.C k130 w A0_0 l0_0.length l0_0) (hc0_0 : l0_0.length ≤ c0_0) (hr0_1 : Kd.C (Kd.int .u8) w A0_1 l0_1.length l0_1) (hc0_1 : l0_1.length ≤ c0_1) (hr1 : Kd.C k127 w A1 l1.length l1) (hc1 : l1.length ≤ c1) (h : lines_Rows.f k l0_0 l0_1 l1 = some r) :
  Calls Tryz.prog 18 #[.agg #[.slice A0_0 l0_0.length c0_0, .slice A0_1 l0_1.length c0_1], .slice A1 l1.length c1] w fun e w' => ∃ v0_ : Value, e = .returned (v0_) ∧ Kd.R k50 50 w' w.heap.size (fun _ => True) v0_ r ∧ Below w.heap.size w w' := by
 have hu74 := Tryz.underlying74
 have hu50 := Tryz.underlying50
 have hu127 := Tryz.underlying127
 have hu130 := Tryz.underlying130
 have HR0_0 := Aside0.mk hr0_0
 have HC0_0 := Aside0.mk hc0_0
 clear hr0_0 hc0_0
 have HR0_1 := Aside0.mk hr0_1
 have HC0_1 := Aside0.mk hc0_1
 clear hr0_1 hc0_1
 have HR1 := Aside0.mk hr1
 have HC1 := Aside0.mk hc1
 clear hr1 hc1
 have HB := Aside0.mk (Below.refl w.heap.size w)
 have H : (if (l1.length : Int) = 0 then (some (([(⟨0, 0, 0, 2⟩ : S50)] : List (S50)))) else (lines_Rows.l0 k ([] : List (S50)) l1 (l1.length : Int) 0 l0_0 l0_1)) = some r := h
 clear h
 by_cases c3 : (l1.length : Int) = 0
 ·rw [if_pos c3] at H
  have c3b0 : ((l1.length : Int) == 0) = true := beq_iff_eq.mpr c3
  have c3b1 : ((l1.length : Int) != 0) = false := bne_eq_false_iff_eq.mpr c3
  clear c3
  obtain ⟨y359, hy359⟩ : ∃ y_ : List (S50), y_ = (([(⟨0, 0, 0, 2⟩ : S50)] : List (S50))) := ⟨_, rfl⟩
  replace H : (some y359) = some r := by first | (rw [hy359]; with_reducible exact H) | (have H2_ := (Option.bind_some _ _).symm.trans H; rw [hy359]; with_reducible exact H2_) | (have H2_ := (Option.bind_some _ _).symm.trans H; with_reducible exact H2_) | with_reducible exact H | (rw [hy359]; exact H) | exact H
  have Ny359 := Aside0.mk hy359
  clear hy359
  obtain rfl := Option.some.inj H
  go_enter Tryz.func18, Tryz.ntmps18
  go_wp2_with (first | ((with_reducible refine gate_dst (N := 2) rfl ?_); refine box_ev (N := 2) (cs := #[.slice A0_0 l0_0.length c0_0, .slice A0_1 l0_1.length c0_1]) (t := 74) ?_; intro gb358 hg w4 hbox hb; have n0_ := Aside0.mk (below_step bel hb); have n1_ := Aside0.mk (hbox); have n2_ := Aside0.mk (szb hg); have n3_ := Aside0.mk (szb hg); clear HB; revert n0_ n1_ n2_ n3_; intro HB BK358 GW358 GE358; clear hb hbox hg) | ((with_reducible refine gate_dst (N := 13) rfl ?_); refine Kd.R_lit k50 _ 50 ?hg (N := 13) ?hd (xs := ([(⟨0, 0, 0, 2⟩ : S50)] : List (S50))) (inner := [.int .i64 0, .int .i64 0, .int .i64 0, .int .u8 2]) (ok := fun _ => True) (okp := fun _ => True) ?hr ?hp (fun _ hk => hk) trivial (Below.refl _ _) (Nat.le_refl _) (by simp) ?_; (case hd => rfl); (case hg => rfl); (case hr => first | (go_simp; done) | (go_simp; rfl)); (case hp => exact (Reps.c4 (show Kd.M k50 _ _ _ (⟨0, 0, 0, 2⟩ : S50) [.int .i64 0, .int .i64 0, .int .i64 0, .int .u8 2] from (k50_mkM _ _ _ (⟨0, 0, 0, 2⟩ : S50) )) (Reps.none _ _))); intro v360 w5 ho6 hb hg_ hnew_; clear hg_ hnew_; (first | rw [← Ny359.out] at ho6 | (simp only [Int.reduceToNat] at ho6; rw [← Ny359.out] at ho6)); have n0_ := Aside0.mk (Kd.R_lower ho6 (below_size bel)); have n1_ := Aside0.mk (bbw BK358 hb); have n2_ := Aside0.mk (below_step bel hb); clear BK358 HB; revert n0_ n1_ n2_; intro HO361 BK358 HB; clear hb ho6))
  go_ret
  exact ⟨_, eqv, by (with_reducible repeat (first | apply Kd.R_alloc | apply Kd.R_drewN | apply Kd.R_drew)); exact HO361.out, bel⟩
 ·rw [if_neg c3] at H
  have c3b0 : ((l1.length : Int) == 0) = false := beq_eq_false_iff_ne.mpr c3
  have c3b1 : ((l1.length : Int) != 0) = true := bne_iff_ne.mpr c3
  have c3b2 : ¬ (l1 = []) := fun h_ => c3 (by rw [h_]; rfl)
  have H' := Aside0.mk H
  clear H
  go_enter Tryz.func18, Tryz.ntmps18
  go_wp2_with (first | ((with_reducible refine gate_dst (N := 2) rfl ?_); refine box_ev (N := 2) (cs := #[.slice A0_0 l0_0.length c0_0, .slice A0_1 l0_1.length c0_1]) (t := 74) ?_; intro gb358 hg w7 hbox hb; have n0_ := Aside0.mk (below_step bel hb); have n1_ := Aside0.mk (hbox); have n2_ := Aside0.mk (szb hg); have n3_ := Aside0.mk (szb hg); clear HB; revert n0_ n1_ n2_ n3_; intro HB BK358 GW358 GE358; clear hb hbox hg))
  go_loopg [5, 16] k (fun kq v5 v16 w' => ∃ (x5_1 : List (S50)) (x16_1 : Int), v16 = .int .i64 x16_1 ∧ Aside0 (lines_Rows.l0 kq x5_1 l1 (l1.length : Int) x16_1 l0_0 l0_1 = some r) ∧ Aside0 (kq ≤ k) ∧ Aside0 (Kd.R k50 50 w' w.heap.size (fun _ => True) v5 x5_1) ∧ Aside0 (w'.heap[gb358]? = some (.cells #[(.slice A0_0 l0_0.length c0_0), (.slice A0_1 l0_1.length c0_1)] 74 (0, 0))) ∧ Aside0 (Below w.heap.size w w'))
  case atStart => exact ⟨(([] : List (S50))), (0), eqs, H', ⟨Nat.le_refl _⟩, ⟨by first | exact Kd.R_nil _ _ _ _ _ | exact Kd.N_nil _ _ _ _ _ | exact Kd.V_nil _ _ _ _ _ | exact Kd.Q_nil _ _ _ _ _ | exact Kd.S_nil _ _ _ _ _⟩, ⟨blk⟩, ⟨bel⟩⟩
  case round =>
   clear H'
   try clear c1
   try clear p2
   try clear c3
   try clear c3b0
   try clear c3b1
   try clear c3b2
   try clear c4
   obtain ⟨x5_1, x16_1, rfl, HA, HK1, HO_5, BK358, HB⟩ := hrel
   cases gk with
   | zero => exact absurd HA.out (by simp [lines_Rows.l0])
   | succ k1 =>
    have H := HA.out
    clear HA
    simp only [lines_Rows.l0] at H
    by_cases c8 : x16_1 < (l1.length : Int)
    ·rw [if_pos c8] at H
     have c8b0 := decide_eq_true c8
     clear c8
     by_cases c9 : 0 ≤ x16_1
     ·rw [if_pos c9] at H
      have c9b0 := decide_eq_true c9
      clear c9
      by_cases c10 : x16_1 < (l1.length : Int)
      ·rw [if_pos c10] at H
       have c10b0 := decide_eq_true c10
       clear c10
       obtain ⟨ji11, hji11⟩ : ∃ j_ : Int, (wrap64 (((rd_T127 l1 x16_1).f1) - 1)) = j_ := ⟨_, rfl⟩
       replace H : (if 0 ≤ (ji11) then (if (ji11) < (l0_0.length : Int) then (if 0 ≤ ((rd_T127 l1 x16_1).f0) then (if ((rd_T127 l1 x16_1).f0) < (l0_0.length : Int) then (if x5_1.length < 4398046511104 then (lines_Rows.l0 k1 (x5_1 ++ [(⟨(rd_T130 l0_0 ((rd_T127 l1 x16_1).f0)).f0, wrap64 (((rd_T130 l0_0 (ji11)).f0) + ((rd_T130 l0_0 (ji11)).f1)), (rd_T127 l1 x16_1).f2, (rd_T127 l1 x16_1).f3⟩ : S50)]) l1 (l1.length : Int) (wrap64 (x16_1 + 1)) l0_0 l0_1) else (none)) else (none)) else (none)) else (none)) else (none)) = some r := by first | (rw [hji11] at H; exact H) | (simp only [hji11] at H ⊢; exact H)
       have hji11w : (IntKind.i64.wrap (((rd_T127 l1 x16_1).f1) - 1)) = ji11 := (i64_w _).trans hji11
       by_cases c12 : 0 ≤ (ji11)
       ·rw [if_pos c12] at H
        have c12b0 := decide_eq_true c12
        clear c12
        by_cases c13 : (ji11) < (l0_0.length : Int)
        ·rw [if_pos c13] at H
         have c13b0 := decide_eq_true c13
         clear c13
         by_cases c14 : 0 ≤ ((rd_T127 l1 x16_1).f0)
         ·rw [if_pos c14] at H
          have c14b0 := decide_eq_true c14
          clear c14
          by_cases c15 : ((rd_T127 l1 x16_1).f0) < (l0_0.length : Int)
          ·rw [if_pos c15] at H
           have c15b0 := decide_eq_true c15
           clear c15
           by_cases c16 : x5_1.length < 4398046511104
           ·rw [if_pos c16] at H
            have LMc16 := Aside0.mk c16
            clear c16
            obtain ⟨y367, hy367⟩ : ∃ y_ : List (S50), y_ = (x5_1 ++ [(⟨(rd_T130 l0_0 ((rd_T127 l1 x16_1).f0)).f0, wrap64 (((rd_T130 l0_0 (ji11)).f0) + ((rd_T130 l0_0 (ji11)).f1)), (rd_T127 l1 x16_1).f2, (rd_T127 l1 x16_1).f3⟩ : S50)]) := ⟨_, rfl⟩
            replace H : (lines_Rows.l0 k1 y367 l1 (l1.length : Int) (wrap64 (x16_1 + 1)) l0_0 l0_1) = some r := by first | (rw [hy367]; with_reducible exact H) | (have H2_ := (Option.bind_some _ _).symm.trans H; rw [hy367]; with_reducible exact H2_) | (have H2_ := (Option.bind_some _ _).symm.trans H; with_reducible exact H2_) | with_reducible exact H | (rw [hy367]; exact H) | exact H
            have Ny367 := Aside0.mk hy367
            clear hy367
            have H' := Aside0.mk H
            clear H
            have p362 : 0 ≤ (x16_1 : Int) := oda
            have q362 : x16_1 < (l1.length : Int) := oda
            obtain ⟨ad362, e362, hx362_0, hx362_1, hx362_2, hx362_3⟩ := at_T127 HR1.out x16_1 p362 q362
            cases e362
            replace hx362_0 := bc HB hx362_0
            replace hx362_1 := bc HB hx362_1
            replace hx362_2 := bc HB hx362_2
            replace hx362_3 := bc HB hx362_3
            replace p362 := eq_true p362
            replace q362 := eq_true q362
            try go_wp2_with (first | ((with_reducible refine gate_dst (N := 7) rfl ?_); refine box_ev (N := 7) (cs := #[.int .i64 0, .int .i64 0, .int .i64 0, .int .u8 0]) (t := 127) ?_; intro gb363 hg w17 hbox hb; have n0_ := Aside0.mk (Kd.R_below (rua HO_5) hb); have n1_ := Aside0.mk (bbw BK358 hb); have n2_ := Aside0.mk (below_step bel hb); have n3_ := Aside0.mk (hbox); have n4_ := Aside0.mk (szb hg); have n5_ := Aside0.mk (szb hg); have n6_ := Aside0.mk (neb hg BK358); have n7_ := Aside0.mk (neb hg BK358).symm; clear HO_5 BK358 HB; revert n0_ n1_ n2_ n3_ n4_ n5_ n6_ n7_; intro HO_5 BK358 HB BK363 GW363 GE363 NB358_363 NB363_358; clear hb hbox hg; have hnb18 := NB363_358.out; have hnc18 := NB358_363.out; obtain ⟨hcz19_0, hcz19_1, hcz19_2, hcz19_3, hfz19_0, hfz19_1, hfz19_2, hfz19_3⟩ := cs4 BK363; obtain ⟨hcz20_0, hcz20_1, hfz20_0, hfz20_1⟩ := cs2 BK358; have p364 : 0 ≤ ((ji11) : Int) := oda; have q364 : (ji11) < (l0_0.length : Int) := oda; obtain ⟨ad364, e364, hx364_0, hx364_1, hx364_2, hx364_3⟩ := at_T130 HR0_0.out (ji11) p364 q364; cases e364; have hn364_0 : ad364.block ≠ gb363 := Nat.ne_of_lt (Nat.lt_of_lt_of_le (by have := World.block_lt_of_cell? _ _ hx364_0; first | rwa [add_block] at this | exact this) GW363.out); have hn364_1 : ad364.block ≠ gb363 := Nat.ne_of_lt (Nat.lt_of_lt_of_le (by have := World.block_lt_of_cell? _ _ hx364_0; first | rwa [add_block] at this | exact this) GW363.out); have hn364_2 : ad364.block ≠ gb363 := Nat.ne_of_lt (Nat.lt_of_lt_of_le (by have := World.block_lt_of_cell? _ _ hx364_0; first | rwa [add_block] at this | exact this) GW363.out); have hn364_3 : ad364.block ≠ gb363 := Nat.ne_of_lt (Nat.lt_of_lt_of_le (by have := World.block_lt_of_cell? _ _ hx364_0; first | rwa [add_block] at this | exact this) GW363.out); replace hx364_0 := bc HB hx364_0; replace hx364_1 := bc HB hx364_1; replace hx364_2 := bc HB hx364_2; replace hx364_3 := bc HB hx364_3; replace hx364_0 := (cell_far (p := ⟨gb363, 0, none⟩) (by first | (rw [add_block]; exact hn364_0) | (show (Addr.add _ _).block ≠ _; rw [add_block]; exact hn364_0) | exact hn364_0) (.int .i64 ((rd_T127 l1 x16_1).f0))).trans hx364_0; replace hx364_1 := (cell_far (p := ⟨gb363, 0, none⟩) (by first | (rw [add_block]; exact hn364_0) | (show (Addr.add _ _).block ≠ _; rw [add_block]; exact hn364_0) | exact hn364_0) (.int .i64 ((rd_T127 l1 x16_1).f0))).trans hx364_1; replace hx364_2 := (cell_far (p := ⟨gb363, 0, none⟩) (by first | (rw [add_block]; exact hn364_0) | (show (Addr.add _ _).block ≠ _; rw [add_block]; exact hn364_0) | exact hn364_0) (.int .i64 ((rd_T127 l1 x16_1).f0))).trans hx364_2; replace hx364_3 := (cell_far (p := ⟨gb363, 0, none⟩) (by first | (rw [add_block]; exact hn364_0) | (show (Addr.add _ _).block ≠ _; rw [add_block]; exact hn364_0) | exact hn364_0) (.int .i64 ((rd_T127 l1 x16_1).f0))).trans hx364_3; replace hx364_0 := (cell_far (p := ⟨gb363, 1, none⟩) (by first | (rw [add_block]; exact hn364_1) | (show (Addr.add _ _).block ≠ _; rw [add_block]; exact hn364_1) | exact hn364_1) (.int .i64 ((rd_T127 l1 x16_1).f1))).trans hx364_0; replace hx364_1 := (cell_far (p := ⟨gb363, 1, none⟩) (by first | (rw [add_block]; exact hn364_1) | (show (Addr.add _ _).block ≠ _; rw [add_block]; exact hn364_1) | exact hn364_1) (.int .i64 ((rd_T127 l1 x16_1).f1))).trans hx364_1; replace hx364_2 := (cell_far (p := ⟨gb363, 1, none⟩) (by first | (rw [add_block]; exact hn364_1) | (show (Addr.add _ _).block ≠ _; rw [add_block]; exact hn364_1) | exact hn364_1) (.int .i64 ((rd_T127 l1 x16_1).f1))).trans hx364_2; replace hx364_3 := (cell_far (p := ⟨gb363, 1, none⟩) (by first | (rw [add_block]; exact hn364_1) | (show (Addr.add _ _).block ≠ _; rw [add_block]; exact hn364_1) | exact hn364_1) (.int .i64 ((rd_T127 l1 x16_1).f1))).trans hx364_3; replace hx364_0 := (cell_far (p := ⟨gb363, 2, none⟩) (by first | (rw [add_block]; exact hn364_2) | (show (Addr.add _ _).block ≠ _; rw [add_block]; exact hn364_2) | exact hn364_2) (.int .i64 ((rd_T127 l1 x16_1).f2))).trans hx364_0; replace hx364_1 := (cell_far (p := ⟨gb363, 2, none⟩) (by first | (rw [add_block]; exact hn364_2) | (show (Addr.add _ _).block ≠ _; rw [add_block]; exact hn364_2) | exact hn364_2) (.int .i64 ((rd_T127 l1 x16_1).f2))).trans hx364_1; replace hx364_2 := (cell_far (p := ⟨gb363, 2, none⟩) (by first | (rw [add_block]; exact hn364_2) | (show (Addr.add _ _).block ≠ _; rw [add_block]; exact hn364_2) | exact hn364_2) (.int .i64 ((rd_T127 l1 x16_1).f2))).trans hx364_2; replace hx364_3 := (cell_far (p := ⟨gb363, 2, none⟩) (by first | (rw [add_block]; exact hn364_2) | (show (Addr.add _ _).block ≠ _; rw [add_block]; exact hn364_2) | exact hn364_2) (.int .i64 ((rd_T127 l1 x16_1).f2))).trans hx364_3; replace hx364_0 := (cell_far (p := ⟨gb363, 3, none⟩) (by first | (rw [add_block]; exact hn364_3) | (show (Addr.add _ _).block ≠ _; rw [add_block]; exact hn364_3) | exact hn364_3) (.int .u8 ((rd_T127 l1 x16_1).f3))).trans hx364_0; replace hx364_1 := (cell_far (p := ⟨gb363, 3, none⟩) (by first | (rw [add_block]; exact hn364_3) | (show (Addr.add _ _).block ≠ _; rw [add_block]; exact hn364_3) | exact hn364_3) (.int .u8 ((rd_T127 l1 x16_1).f3))).trans hx364_1; replace hx364_2 := (cell_far (p := ⟨gb363, 3, none⟩) (by first | (rw [add_block]; exact hn364_3) | (show (Addr.add _ _).block ≠ _; rw [add_block]; exact hn364_3) | exact hn364_3) (.int .u8 ((rd_T127 l1 x16_1).f3))).trans hx364_2; replace hx364_3 := (cell_far (p := ⟨gb363, 3, none⟩) (by first | (rw [add_block]; exact hn364_3) | (show (Addr.add _ _).block ≠ _; rw [add_block]; exact hn364_3) | exact hn364_3) (.int .u8 ((rd_T127 l1 x16_1).f3))).trans hx364_3; clear hn364_0 hn364_1 hn364_2 hn364_3; replace p364 := eq_true p364; replace q364 := eq_true q364) | ((with_reducible refine gate_dst (N := 8) rfl ?_); refine box_ev (N := 8) (cs := #[.int .i64 0, .int .i64 0, .int .i64 0, .int .u8 0]) (t := 130) ?_; intro gb365 hg w21 hbox hb; have n0_ := Aside0.mk (Kd.R_below (by (with_reducible repeat (first | apply Kd.R_alloc | apply Kd.R_drewN | apply Kd.R_drew)); exact (Kd.R_mono (Kd.R_far (p := ⟨gb363, 3, none⟩) (Kd.R_far (p := ⟨gb363, 2, none⟩) (Kd.R_far (p := ⟨gb363, 1, none⟩) (Kd.R_far (p := ⟨gb363, 0, none⟩) (Kd.R_types HO_5.out BK363.out (by decide)) (fun _ hk => hk.2) (.int .i64 ((rd_T127 l1 x16_1).f0))) (fun _ hk => hk.2) (.int .i64 ((rd_T127 l1 x16_1).f1))) (fun _ hk => hk.2) (.int .i64 ((rd_T127 l1 x16_1).f2))) (fun _ hk => hk.2) (.int .u8 ((rd_T127 l1 x16_1).f3))) (fun _ h_ => h_.1))) hb); have n1_ := Aside0.mk (blk_below (g := gb358) (o := .cells #[.slice (some ad364) l0_0.length c0_0, .slice A0_1 l0_1.length c0_1] 74 (0, 0)) (by (with_reducible repeat (first | refine blk_drewN ?_ _ | refine blk_drew ?_ | refine blk_alloc ?_ _)); refine blk_far ?_ NB358_363.out _; (with_reducible repeat (first | refine blk_drewN ?_ _ | refine blk_drew ?_ | refine blk_alloc ?_ _)); refine blk_far ?_ NB358_363.out _; (with_reducible repeat (first | refine blk_drewN ?_ _ | refine blk_drew ?_ | refine blk_alloc ?_ _)); refine blk_far ?_ NB358_363.out _; (with_reducible repeat (first | refine blk_drewN ?_ _ | refine blk_drew ?_ | refine blk_alloc ?_ _)); refine blk_far ?_ NB358_363.out _; (with_reducible repeat (first | refine blk_drewN ?_ _ | refine blk_drew ?_ | refine blk_alloc ?_ _)); exact BK358.out) hb); have n2_ := Aside0.mk (blk_below (g := gb363) (o := .cells #[.int .i64 ((rd_T127 l1 x16_1).f0), .int .i64 ((rd_T127 l1 x16_1).f1), .int .i64 ((rd_T127 l1 x16_1).f2), .int .u8 ((rd_T127 l1 x16_1).f3)] 127 (0, 0)) (by (with_reducible repeat (first | refine blk_drewN ?_ _ | refine blk_drew ?_ | refine blk_alloc ?_ _)); refine blk_put (cs := #[.int .i64 ((rd_T127 l1 x16_1).f0), .int .i64 ((rd_T127 l1 x16_1).f1), .int .i64 ((rd_T127 l1 x16_1).f2), .int .u8 0]) ?_ 3 _ rfl; (with_reducible repeat (first | refine blk_drewN ?_ _ | refine blk_drew ?_ | refine blk_alloc ?_ _)); refine blk_put (cs := #[.int .i64 ((rd_T127 l1 x16_1).f0), .int .i64 ((rd_T127 l1 x16_1).f1), .int .i64 0, .int .u8 0]) ?_ 2 _ rfl; (with_reducible repeat (first | refine blk_drewN ?_ _ | refine blk_drew ?_ | refine blk_alloc ?_ _)); refine blk_put (cs := #[.int .i64 ((rd_T127 l1 x16_1).f0), .int .i64 0, .int .i64 0, .int .u8 0]) ?_ 1 _ rfl; (with_reducible repeat (first | refine blk_drewN ?_ _ | refine blk_drew ?_ | refine blk_alloc ?_ _)); refine blk_put (cs := #[.int .i64 0, .int .i64 0, .int .i64 0, .int .u8 0]) ?_ 0 _ rfl; (with_reducible repeat (first | refine blk_drewN ?_ _ | refine blk_drew ?_ | refine blk_alloc ?_ _)); exact BK363.out) hb); have n3_ := Aside0.mk (below_step bel hb); have n4_ := Aside0.mk (hbox); have n5_ := Aside0.mk (szb hg); have n6_ := Aside0.mk (szb hg); have n7_ := Aside0.mk ((by rw [hg]; exact Nat.ne_of_lt (blk_lt (g := gb358) (o := .cells #[.slice (some ad364) l0_0.length c0_0, .slice A0_1 l0_1.length c0_1] 74 (0, 0)) (by (with_reducible repeat (first | refine blk_drewN ?_ _ | refine blk_drew ?_ | refine blk_alloc ?_ _)); refine blk_far ?_ NB358_363.out _; (with_reducible repeat (first | refine blk_drewN ?_ _ | refine blk_drew ?_ | refine blk_alloc ?_ _)); refine blk_far ?_ NB358_363.out _; (with_reducible repeat (first | refine blk_drewN ?_ _ | refine blk_drew ?_ | refine blk_alloc ?_ _)); refine blk_far ?_ NB358_363.out _; (with_reducible repeat (first | refine blk_drewN ?_ _ | refine blk_drew ?_ | refine blk_alloc ?_ _)); refine blk_far ?_ NB358_363.out _; (with_reducible repeat (first | refine blk_drewN ?_ _ | refine blk_drew ?_ | refine blk_alloc ?_ _)); exact BK358.out)) : gb358 ≠ gb365)); have n8_ := Aside0.mk ((by rw [hg]; exact Nat.ne_of_gt (blk_lt (g := gb358) (o := .cells #[.slice (some ad364) l0_0.length c0_0, .slice A0_1 l0_1.length c0_1] 74 (0, 0)) (by (with_reducible repeat (first | refine blk_drewN ?_ _ | refine blk_drew ?_ | refine blk_alloc ?_ _)); refine blk_far ?_ NB358_363.out _; (with_reducible repeat (first | refine blk_drewN ?_ _ | refine blk_drew ?_ | refine blk_alloc ?_ _)); refine blk_far ?_ NB358_363.out _; (with_reducible repeat (first | refine blk_drewN ?_ _ | refine blk_drew ?_ | refine blk_alloc ?_ _)); refine blk_far ?_ NB358_363.out _; (with_reducible repeat (first | refine blk_drewN ?_ _ | refine blk_drew ?_ | refine blk_alloc ?_ _)); refine blk_far ?_ NB358_363.out _; (with_reducible repeat (first | refine blk_drewN ?_ _ | refine blk_drew ?_ | refine blk_alloc ?_ _)); exact BK358.out)) : gb365 ≠ gb358)); have n9_ := Aside0.mk ((by rw [hg]; exact Nat.ne_of_lt (blk_lt (g := gb363) (o := .cells #[.int .i64 ((rd_T127 l1 x16_1).f0), .int .i64 ((rd_T127 l1 x16_1).f1), .int .i64 ((rd_T127 l1 x16_1).f2), .int .u8 ((rd_T127 l1 x16_1).f3)] 127 (0, 0)) (by (with_reducible repeat (first | refine blk_drewN ?_ _ | refine blk_drew ?_ | refine blk_alloc ?_ _)); refine blk_put (cs := #[.int .i64 ((rd_T127 l1 x16_1).f0), .int .i64 ((rd_T127 l1 x16_1).f1), .int .i64 ((rd_T127 l1 x16_1).f2), .int .u8 0]) ?_ 3 _ rfl; (with_reducible repeat (first | refine blk_drewN ?_ _ | refine blk_drew ?_ | refine blk_alloc ?_ _)); refine blk_put (cs := #[.int .i64 ((rd_T127 l1 x16_1).f0), .int .i64 ((rd_T127 l1 x16_1).f1), .int .i64 0, .int .u8 0]) ?_ 2 _ rfl; (with_reducible repeat (first | refine blk_drewN ?_ _ | refine blk_drew ?_ | refine blk_alloc ?_ _)); refine blk_put (cs := #[.int .i64 ((rd_T127 l1 x16_1).f0), .int .i64 0, .int .i64 0, .int .u8 0]) ?_ 1 _ rfl; (with_reducible repeat (first | refine blk_drewN ?_ _ | refine blk_drew ?_ | refine blk_alloc ?_ _)); refine blk_put (cs := #[.int .i64 0, .int .i64 0, .int .i64 0, .int .u8 0]) ?_ 0 _ rfl; (with_reducible repeat (first | refine blk_drewN ?_ _ | refine blk_drew ?_ | refine blk_alloc ?_ _)); exact BK363.out)) : gb363 ≠ gb365)); have n10_ := Aside0.mk ((by rw [hg]; exact Nat.ne_of_gt (blk_lt (g := gb363) (o := .cells #[.int .i64 ((rd_T127 l1 x16_1).f0), .int .i64 ((rd_T127 l1 x16_1).f1), .int .i64 ((rd_T127 l1 x16_1).f2), .int .u8 ((rd_T127 l1 x16_1).f3)] 127 (0, 0)) (by (with_reducible repeat (first | refine blk_drewN ?_ _ | refine blk_drew ?_ | refine blk_alloc ?_ _)); refine blk_put (cs := #[.int .i64 ((rd_T127 l1 x16_1).f0), .int .i64 ((rd_T127 l1 x16_1).f1), .int .i64 ((rd_T127 l1 x16_1).f2), .int .u8 0]) ?_ 3 _ rfl; (with_reducible repeat (first | refine blk_drewN ?_ _ | refine blk_drew ?_ | refine blk_alloc ?_ _)); refine blk_put (cs := #[.int .i64 ((rd_T127 l1 x16_1).f0), .int .i64 ((rd_T127 l1 x16_1).f1), .int .i64 0, .int .u8 0]) ?_ 2 _ rfl; (with_reducible repeat (first | refine blk_drewN ?_ _ | refine blk_drew ?_ | refine blk_alloc ?_ _)); refine blk_put (cs := #[.int .i64 ((rd_T127 l1 x16_1).f0), .int .i64 0, .int .i64 0, .int .u8 0]) ?_ 1 _ rfl; (with_reducible repeat (first | refine blk_drewN ?_ _ | refine blk_drew ?_ | refine blk_alloc ?_ _)); refine blk_put (cs := #[.int .i64 0, .int .i64 0, .int .i64 0, .int .u8 0]) ?_ 0 _ rfl; (with_reducible repeat (first | refine blk_drewN ?_ _ | refine blk_drew ?_ | refine blk_alloc ?_ _)); exact BK363.out)) : gb365 ≠ gb363)); clear HO_5 BK358 BK363 HB; revert n0_ n1_ n2_ n3_ n4_ n5_ n6_ n7_ n8_ n9_ n10_; intro HO_5 BK358 BK363 HB BK365 GW365 GE365 NB358_365 NB365_358 NB363_365 NB365_363; clear hb hbox hg; have hnb22 := NB365_358.out; have hnc22 := NB358_365.out; have hnb23 := NB365_363.out; have hnc23 := NB363_365.out; obtain ⟨hcz24_0, hcz24_1, hcz24_2, hcz24_3, hfz24_0, hfz24_1, hfz24_2, hfz24_3⟩ := cs4 BK365))
            have n0_ : Aside0 (Kd.R k50 50 ((((w21.setCell ⟨gb365, 0, none⟩ (.int .i64 ((rd_T130 l0_0 (ji11)).f0))).setCell ⟨gb365, 1, none⟩ (.int .i64 ((rd_T130 l0_0 (ji11)).f1))).setCell ⟨gb365, 2, none⟩ (.int .i64 ((rd_T130 l0_0 (ji11)).f2))).setCell ⟨gb365, 3, none⟩ (.int .u8 ((rd_T130 l0_0 (ji11)).f3))) w.heap.size (fun _ => True) u5 x5_1) := ⟨by (with_reducible repeat (first | apply Kd.R_alloc | apply Kd.R_drewN | apply Kd.R_drew)); exact Kd.R_mono (Kd.R_far (p := ⟨gb365, 3, none⟩) (Kd.R_far (p := ⟨gb365, 2, none⟩) (Kd.R_far (p := ⟨gb365, 1, none⟩) (Kd.R_far (p := ⟨gb365, 0, none⟩) (Kd.R_types HO_5.out BK365.out (by decide)) (fun _ hk => hk.2) (.int .i64 ((rd_T130 l0_0 (ji11)).f0))) (fun _ hk => hk.2) (.int .i64 ((rd_T130 l0_0 (ji11)).f1))) (fun _ hk => hk.2) (.int .i64 ((rd_T130 l0_0 (ji11)).f2))) (fun _ hk => hk.2) (.int .u8 ((rd_T130 l0_0 (ji11)).f3))) (fun _ hk => trivial)⟩
            have n1_ : Aside0 (((((w21.setCell ⟨gb365, 0, none⟩ (.int .i64 ((rd_T130 l0_0 (ji11)).f0))).setCell ⟨gb365, 1, none⟩ (.int .i64 ((rd_T130 l0_0 (ji11)).f1))).setCell ⟨gb365, 2, none⟩ (.int .i64 ((rd_T130 l0_0 (ji11)).f2))).setCell ⟨gb365, 3, none⟩ (.int .u8 ((rd_T130 l0_0 (ji11)).f3))).heap[gb358]? = some (.cells #[.slice (some ad364) l0_0.length c0_0, .slice A0_1 l0_1.length c0_1] 74 (0, 0))) := ⟨by (with_reducible repeat (first | refine blk_drewN ?_ _ | refine blk_drew ?_ | refine blk_alloc ?_ _)); refine blk_far ?_ NB358_365.out _; (with_reducible repeat (first | refine blk_drewN ?_ _ | refine blk_drew ?_ | refine blk_alloc ?_ _)); refine blk_far ?_ NB358_365.out _; (with_reducible repeat (first | refine blk_drewN ?_ _ | refine blk_drew ?_ | refine blk_alloc ?_ _)); refine blk_far ?_ NB358_365.out _; (with_reducible repeat (first | refine blk_drewN ?_ _ | refine blk_drew ?_ | refine blk_alloc ?_ _)); refine blk_far ?_ NB358_365.out _; (with_reducible repeat (first | refine blk_drewN ?_ _ | refine blk_drew ?_ | refine blk_alloc ?_ _)); exact BK358.out⟩
            have n2_ : Aside0 (((((w21.setCell ⟨gb365, 0, none⟩ (.int .i64 ((rd_T130 l0_0 (ji11)).f0))).setCell ⟨gb365, 1, none⟩ (.int .i64 ((rd_T130 l0_0 (ji11)).f1))).setCell ⟨gb365, 2, none⟩ (.int .i64 ((rd_T130 l0_0 (ji11)).f2))).setCell ⟨gb365, 3, none⟩ (.int .u8 ((rd_T130 l0_0 (ji11)).f3))).heap[gb363]? = some (.cells #[.int .i64 ((rd_T127 l1 x16_1).f0), .int .i64 ((rd_T127 l1 x16_1).f1), .int .i64 ((rd_T127 l1 x16_1).f2), .int .u8 ((rd_T127 l1 x16_1).f3)] 127 (0, 0))) := ⟨by (with_reducible repeat (first | refine blk_drewN ?_ _ | refine blk_drew ?_ | refine blk_alloc ?_ _)); refine blk_far ?_ NB363_365.out _; (with_reducible repeat (first | refine blk_drewN ?_ _ | refine blk_drew ?_ | refine blk_alloc ?_ _)); refine blk_far ?_ NB363_365.out _; (with_reducible repeat (first | refine blk_drewN ?_ _ | refine blk_drew ?_ | refine blk_alloc ?_ _)); refine blk_far ?_ NB363_365.out _; (with_reducible repeat (first | refine blk_drewN ?_ _ | refine blk_drew ?_ | refine blk_alloc ?_ _)); refine blk_far ?_ NB363_365.out _; (with_reducible repeat (first | refine blk_drewN ?_ _ | refine blk_drew ?_ | refine blk_alloc ?_ _)); exact BK363.out⟩
            have n3_ : Aside0 (((((w21.setCell ⟨gb365, 0, none⟩ (.int .i64 ((rd_T130 l0_0 (ji11)).f0))).setCell ⟨gb365, 1, none⟩ (.int .i64 ((rd_T130 l0_0 (ji11)).f1))).setCell ⟨gb365, 2, none⟩ (.int .i64 ((rd_T130 l0_0 (ji11)).f2))).setCell ⟨gb365, 3, none⟩ (.int .u8 ((rd_T130 l0_0 (ji11)).f3))).heap[gb365]? = some (.cells #[.int .i64 ((rd_T130 l0_0 (ji11)).f0), .int .i64 ((rd_T130 l0_0 (ji11)).f1), .int .i64 ((rd_T130 l0_0 (ji11)).f2), .int .u8 ((rd_T130 l0_0 (ji11)).f3)] 130 (0, 0))) := ⟨by (with_reducible repeat (first | refine blk_drewN ?_ _ | refine blk_drew ?_ | refine blk_alloc ?_ _)); refine blk_put (cs := #[.int .i64 ((rd_T130 l0_0 (ji11)).f0), .int .i64 ((rd_T130 l0_0 (ji11)).f1), .int .i64 ((rd_T130 l0_0 (ji11)).f2), .int .u8 0]) ?_ 3 _ rfl; (with_reducible repeat (first | refine blk_drewN ?_ _ | refine blk_drew ?_ | refine blk_alloc ?_ _)); refine blk_put (cs := #[.int .i64 ((rd_T130 l0_0 (ji11)).f0), .int .i64 ((rd_T130 l0_0 (ji11)).f1), .int .i64 0, .int .u8 0]) ?_ 2 _ rfl; (with_reducible repeat (first | refine blk_drewN ?_ _ | refine blk_drew ?_ | refine blk_alloc ?_ _)); refine blk_put (cs := #[.int .i64 ((rd_T130 l0_0 (ji11)).f0), .int .i64 0, .int .i64 0, .int .u8 0]) ?_ 1 _ rfl; (with_reducible repeat (first | refine blk_drewN ?_ _ | refine blk_drew ?_ | refine blk_alloc ?_ _)); refine blk_put (cs := #[.int .i64 0, .int .i64 0, .int .i64 0, .int .u8 0]) ?_ 0 _ rfl; (with_reducible repeat (first | refine blk_drewN ?_ _ | refine blk_drew ?_ | refine blk_alloc ?_ _)); exact BK365.out⟩
            have n4_ : Aside0 (Below w.heap.size w ((((w21.setCell ⟨gb365, 0, none⟩ (.int .i64 ((rd_T130 l0_0 (ji11)).f0))).setCell ⟨gb365, 1, none⟩ (.int .i64 ((rd_T130 l0_0 (ji11)).f1))).setCell ⟨gb365, 2, none⟩ (.int .i64 ((rd_T130 l0_0 (ji11)).f2))).setCell ⟨gb365, 3, none⟩ (.int .u8 ((rd_T130 l0_0 (ji11)).f3)))) := ⟨bel⟩
            (try clear HO_5)
            (try clear BK358)
            (try clear BK363)
            (try clear BK365)
            (try clear HB)
            generalize ((((w21.setCell ⟨gb365, 0, none⟩ (.int .i64 ((rd_T130 l0_0 (ji11)).f0))).setCell ⟨gb365, 1, none⟩ (.int .i64 ((rd_T130 l0_0 (ji11)).f1))).setCell ⟨gb365, 2, none⟩ (.int .i64 ((rd_T130 l0_0 (ji11)).f2))).setCell ⟨gb365, 3, none⟩ (.int .u8 ((rd_T130 l0_0 (ji11)).f3))) = w25 at n0_ n1_ n2_ n3_ n4_ ⊢
            have HO_5 := n0_
            have BK358 := n1_
            have BK363 := n2_
            have BK365 := n3_
            have HB := n4_
            clear n0_ n1_ n2_ n3_ n4_
            have n0_ := Aside0.mk (Kd.R_drew HO_5.out)
            have n1_ := Aside0.mk (blk_drew BK358.out)
            have n2_ := Aside0.mk (blk_drew BK363.out)
            have n3_ := Aside0.mk (blk_drew BK365.out)
            have n4_ := Aside0.mk (below_drew1 HB.out)
            clear HO_5
            clear BK358
            clear BK363
            clear BK365
            clear HB
            have HO_5 := n0_
            have BK358 := n1_
            have BK363 := n2_
            have BK365 := n3_
            have HB := n4_
            clear n0_ n1_ n2_ n3_ n4_
            have p366 : 0 ≤ (((rd_T127 l1 x16_1).f0) : Int) := oda
            have q366 : ((rd_T127 l1 x16_1).f0) < (l0_0.length : Int) := oda
            obtain ⟨ad366, e366, hx366_0, hx366_1, hx366_2, hx366_3⟩ := at_T130 HR0_0.out ((rd_T127 l1 x16_1).f0) p366 q366
            have hw366_3 := hx366_3
            have hw366_2 := hx366_2
            have hw366_1 := hx366_1
            have hw366_0 := hx366_0
            obtain rfl : ad364 = ad366 := (by injection e366)
            replace hx366_0 := bc HB hx366_0
            replace hx366_1 := bc HB hx366_1
            replace hx366_2 := bc HB hx366_2
            replace hx366_3 := bc HB hx366_3
            replace p366 := eq_true p366
            replace q366 := eq_true q366
            refine start_ (n := 21) (S := fun w' => w'.cell? ⟨gb358, 0, none⟩ = some (.slice (some ad364) l0_0.length c0_0) ∧ w'.cell? ⟨gb358, 1, none⟩ = some (.slice A0_1 l0_1.length c0_1) ∧ w'.cell? ⟨gb363, 0, none⟩ = some (.int .i64 ((rd_T127 l1 x16_1).f0)) ∧ w'.cell? ⟨gb363, 1, none⟩ = some (.int .i64 ((rd_T127 l1 x16_1).f1)) ∧ w'.cell? ⟨gb363, 2, none⟩ = some (.int .i64 ((rd_T127 l1 x16_1).f2)) ∧ w'.cell? ⟨gb363, 3, none⟩ = some (.int .u8 ((rd_T127 l1 x16_1).f3)) ∧ w'.cell? ⟨gb365, 0, none⟩ = some (.int .i64 ((rd_T130 l0_0 (ji11)).f0)) ∧ w'.cell? ⟨gb365, 1, none⟩ = some (.int .i64 ((rd_T130 l0_0 (ji11)).f1)) ∧ w'.cell? ⟨gb365, 2, none⟩ = some (.int .i64 ((rd_T130 l0_0 (ji11)).f2)) ∧ w'.cell? ⟨gb365, 3, none⟩ = some (.int .u8 ((rd_T130 l0_0 (ji11)).f3)) ∧ w'.cell? (ad364.add ((((rd_T127 l1 x16_1).f0)).toNat * 4)) = some (.int .i64 ((rd_T130 l0_0 ((rd_T127 l1 x16_1).f0)).f0)) ∧ w'.cell? ⟨(ad364.add ((((rd_T127 l1 x16_1).f0)).toNat * 4)).block, (ad364.add ((((rd_T127 l1 x16_1).f0)).toNat * 4)).off + 1, none⟩ = some (.int .i64 ((rd_T130 l0_0 ((rd_T127 l1 x16_1).f0)).f1)) ∧ w'.cell? ⟨(ad364.add ((((rd_T127 l1 x16_1).f0)).toNat * 4)).block, (ad364.add ((((rd_T127 l1 x16_1).f0)).toNat * 4)).off + 2, none⟩ = some (.int .i64 ((rd_T130 l0_0 ((rd_T127 l1 x16_1).f0)).f2)) ∧ w'.cell? ⟨(ad364.add ((((rd_T127 l1 x16_1).f0)).toNat * 4)).block, (ad364.add ((((rd_T127 l1 x16_1).f0)).toNat * 4)).off + 3, none⟩ = some (.int .u8 ((rd_T130 l0_0 ((rd_T127 l1 x16_1).f0)).f3))) (ds := []) #[false, false, false, false, false, false, false, false, false, false, false, false, false, false, false, false, false, false, false, false, false] (by kernel_rfl) rfl rfl ⟨(blk_cell BK358.out 0).trans rfl, (blk_cell BK358.out 1).trans rfl, (blk_cell BK363.out 0).trans rfl, (blk_cell BK363.out 1).trans rfl, (blk_cell BK363.out 2).trans rfl, (blk_cell BK363.out 3).trans rfl, (blk_cell BK365.out 0).trans rfl, (blk_cell BK365.out 1).trans rfl, (blk_cell BK365.out 2).trans rfl, (blk_cell BK365.out 3).trans rfl, ((HB.out.cell (World.block_lt_of_cell? w _ hw366_0)).trans hw366_0), ((HB.out.cell (World.block_lt_of_cell? w _ hw366_1)).trans hw366_1), ((HB.out.cell (World.block_lt_of_cell? w _ hw366_2)).trans hw366_2), ((HB.out.cell (World.block_lt_of_cell? w _ hw366_3)).trans hw366_3)⟩ (fun hHeld => ?_); refine with_tabW lines_Rows.tab8 lines_Rows.bits8 (fun HT_ HW_ => ?_)
            generalize w25.drew = w26 at HO_5 BK358 BK363 BK365 HB hx366_0 hx366_1 hx366_2 hx366_3 hHeld ⊢
            refine pu 0 (some 27) ?_
            refine pu 1 (some 28) ?_
            refine pu 3 (some 30) ?_
            refine pu 8 (some 35) ?_
            refine pu 10 (some 37) ?_
            refine pu 13 (some 40) ?_
            refine pu 15 (some 42) ?_
            refine tr 2 (some 29) hHeld ?_
            refine tr 4 (some 31) hHeld ?_
            refine pu 5 (some 32) ?_
            refine pu 6 (some 33) ?_
            refine tr 7 (some 34) hHeld ?_
            refine tr 9 (some 36) hHeld ?_
            refine tr 11 (some 38) hHeld ?_
            refine pu 12 (some 39) ?_
            refine tr 14 (some 41) hHeld ?_
            refine tr 16 (some 43) hHeld ?_
            refine pu 17 (some 44) ?_
            refine on 18 (some 45) fun K hK => ?_
            refine value_ (w1 := ?_) (v := ?_) (by rfl) rfl ?_ ?_
            rotate_left 2
            ·go_simp
             constructor
             ·rfl
             ·rfl
            refine hK.out _ _ ⟨(blk_cell (blk_alloc BK358.out _) 0).trans rfl, (blk_cell (blk_alloc BK358.out _) 1).trans rfl, (blk_cell (blk_alloc BK363.out _) 0).trans rfl, (blk_cell (blk_alloc BK363.out _) 1).trans rfl, (blk_cell (blk_alloc BK363.out _) 2).trans rfl, (blk_cell (blk_alloc BK363.out _) 3).trans rfl, (blk_cell (blk_alloc BK365.out _) 0).trans rfl, (blk_cell (blk_alloc BK365.out _) 1).trans rfl, (blk_cell (blk_alloc BK365.out _) 2).trans rfl, (blk_cell (blk_alloc BK365.out _) 3).trans rfl, (World.cell?_alloc_lt _ _ _ (World.block_lt_of_cell? _ _ (((HB.out.cell (World.block_lt_of_cell? w _ hw366_0)).trans hw366_0)))).trans (((HB.out.cell (World.block_lt_of_cell? w _ hw366_0)).trans hw366_0)), (World.cell?_alloc_lt _ _ _ (World.block_lt_of_cell? _ _ (((HB.out.cell (World.block_lt_of_cell? w _ hw366_1)).trans hw366_1)))).trans (((HB.out.cell (World.block_lt_of_cell? w _ hw366_1)).trans hw366_1)), (World.cell?_alloc_lt _ _ _ (World.block_lt_of_cell? _ _ (((HB.out.cell (World.block_lt_of_cell? w _ hw366_2)).trans hw366_2)))).trans (((HB.out.cell (World.block_lt_of_cell? w _ hw366_2)).trans hw366_2)), (World.cell?_alloc_lt _ _ _ (World.block_lt_of_cell? _ _ (((HB.out.cell (World.block_lt_of_cell? w _ hw366_3)).trans hw366_3)))).trans (((HB.out.cell (World.block_lt_of_cell? w _ hw366_3)).trans hw366_3))⟩ (fun hHeld => ?_)
            clear hK K
            refine nrm 45 ?_
            refine on 19 (some 46) fun K hK => ?_
            refine Kd.R_append_step k50 (w0 := w) w.heap.size (by rfl) (.tmp 27) (.tmp 45) 43 50 (.agg #[(.int .i64 0), (.int .i64 0), (.int .i64 0), (.int .u8 0)]) 32 rfl Tryz.underlying43 info50 rfl (by decide) (by omega) u5 x5_1 (⟨(rd_T130 l0_0 ((rd_T127 l1 x16_1).f0)).f0, wrap64 (((rd_T130 l0_0 (ji11)).f0) + ((rd_T130 l0_0 (ji11)).f1)), (rd_T127 l1 x16_1).f2, (rd_T127 l1 x16_1).f3⟩ : S50) [.int .i64 ((rd_T130 l0_0 ((rd_T127 l1 x16_1).f0)).f0), .int .i64 (wrap64 (((rd_T130 l0_0 (ji11)).f0) + ((rd_T130 l0_0 (ji11)).f1))), .int .i64 ((rd_T127 l1 x16_1).f2), .int .u8 ((rd_T127 l1 x16_1).f3)] (fun _ => True) (fun _ => False) rfl rfl ?aP (fun _ hk => hk.elim) ?aF ?aO ?aB ?aS ?aL ?_
            (case aP => exact k50_mkM _ _ _ (⟨(rd_T130 l0_0 ((rd_T127 l1 x16_1).f0)).f0, wrap64 (((rd_T130 l0_0 (ji11)).f0) + ((rd_T130 l0_0 (ji11)).f1)), (rd_T127 l1 x16_1).f2, (rd_T127 l1 x16_1).f3⟩ : S50))
            (case aB => exact bel)
            (case aF => exact (fun _ _ => trivial))
            (case aO => exact (rua HO_5))
            (case aS => exact (below_size bel))
            (case aL => have := LMc16.out; omega)
            intro v368 w27 ho hb hg hat
            rw [← Ny367.out] at ho
            have n0_ := Aside0.mk (blk_grown (g := gb358) (o := .cells #[.slice (some ad364) l0_0.length c0_0, .slice A0_1 l0_1.length c0_1] 74 (0, 0)) blk hg (Kd.R_ne HO_5.out BK358.out (by decide)))
            have n1_ := Aside0.mk (blk_grown (g := gb363) (o := .cells #[.int .i64 ((rd_T127 l1 x16_1).f0), .int .i64 ((rd_T127 l1 x16_1).f1), .int .i64 ((rd_T127 l1 x16_1).f2), .int .u8 ((rd_T127 l1 x16_1).f3)] 127 (0, 0)) blk hg (Kd.R_ne HO_5.out BK363.out (by decide)))
            have n2_ := Aside0.mk (blk_grown (g := gb365) (o := .cells #[.int .i64 ((rd_T130 l0_0 (ji11)).f0), .int .i64 ((rd_T130 l0_0 (ji11)).f1), .int .i64 ((rd_T130 l0_0 (ji11)).f2), .int .u8 ((rd_T130 l0_0 (ji11)).f3)] 130 (0, 0)) blk hg (Kd.R_ne HO_5.out BK365.out (by decide)))
            have n3_ := Aside0.mk (hb)
            have n4_ := Aside0.mk (ho)
            clear BK358
            clear BK363
            clear BK365
            clear HB
            clear HO_5
            have BK358 := n0_
            have BK363 := n1_
            have BK365 := n2_
            have HB := n3_
            have HO369 := n4_
            clear n0_ n1_ n2_ n3_ n4_
            clear ho hb hg hat
            refine hK.out _ _ ⟨(blk_cell BK358.out 0).trans rfl, (blk_cell BK358.out 1).trans rfl, (blk_cell BK363.out 0).trans rfl, (blk_cell BK363.out 1).trans rfl, (blk_cell BK363.out 2).trans rfl, (blk_cell BK363.out 3).trans rfl, (blk_cell BK365.out 0).trans rfl, (blk_cell BK365.out 1).trans rfl, (blk_cell BK365.out 2).trans rfl, (blk_cell BK365.out 3).trans rfl, ((HB.out.cell (World.block_lt_of_cell? w _ hw366_0)).trans hw366_0), ((HB.out.cell (World.block_lt_of_cell? w _ hw366_1)).trans hw366_1), ((HB.out.cell (World.block_lt_of_cell? w _ hw366_2)).trans hw366_2), ((HB.out.cell (World.block_lt_of_cell? w _ hw366_3)).trans hw366_3)⟩ (fun hHeld => ?_)
            clear hK K
            refine nrm 46 ?_
            refine pu 20 (some 5) ?_
            refine done_ (done_of HT_.out (by kernel_rfl)) ?_
            try go_wp2
            go_roundg k1
            case measure => have := HK1.out; omega
            case rel => exact ⟨(y367), (wrap64 (x16_1 + 1)), eqs, H', ⟨by have := HK1.out; omega⟩, ⟨by (with_reducible repeat (first | apply Kd.R_alloc | apply Kd.R_drewN | apply Kd.R_drew)); exact HO369.out⟩, ⟨blk⟩, ⟨bel⟩⟩
           ·rw [if_neg c16] at H
            exact absurd H (by simp)
          ·rw [if_neg c15] at H
           exact absurd H (by simp)
         ·rw [if_neg c14] at H
          exact absurd H (by simp)
        ·rw [if_neg c13] at H
         exact absurd H (by simp)
       ·rw [if_neg c12] at H
        exact absurd H (by simp)
      ·rw [if_neg c10] at H
       exact absurd H (by simp)
     ·rw [if_neg c9] at H
      exact absurd H (by simp)
    ·rw [if_neg c8] at H
     have c8b0 := decide_eq_false c8
     clear c8
     obtain rfl := Option.some.inj H
     go_wp2
     go_ret
     exact ⟨_, eqv, by (with_reducible repeat (first | apply Kd.R_alloc | apply Kd.R_drewN | apply Kd.R_drew)); exact HO_5.out, bel⟩
end Go.Proofs.YtkeccgkicffieaaGreatDoor.PTopWider
