/- The walks of first.one: it computes what its Lean function tells. Conditions: none. -/
import Derived.Test.YtkeccgkicffieaaGreatDoorTopT
import Derived.Test.YtkeccgkicffieaaGreatDoorTopL
namespace Go.Proofs.YtkeccgkicffieaaGreatDoor.PTopWider
open Go.RowKit Go.Proofs.YtkeccgkicffieaaGreatDoorW.PrintWords Go.Proofs.YtkeccgkicffieaaGreatDoorW.PrintLast Go.Proofs.YtkeccgkicffieaaGreatDoorW.PrintMore
attribute [local go_sem] max2_int min2_int max_two min_two max_three min_three max_four min_four
set_option linter.unusedVariables false
set_option linter.unusedSimpArgs false
def span_Check.f (a0_0 : Int) (a0_1 : Int) (a0_2 : Int) (a0_3 : Int) (a0_4 : Int) (a0_5 : Nat) : Option (Bool) := if a0_0 ≥ 1 then (if a0_0 ≤ 1048576 then (if a0_1 ≥ 1 then (if a0_1 ≤ 64 then (if a0_2 ≤ 1 then (if a0_3 ≥ 0 then (if a0_3 ≤ 1048576 then (if a0_4 ≥ 0 then (some (decide (a0_4 ≤ 1048576))) else (some false)) else (some false)) else (some false)) else (some false)) else (some false)) else (some false)) else (some false)) else (some false)
set_option maxHeartbeats 8000000 in
set_option maxRecDepth 100000 in
theorem span_Check.calls (a0_0 a0_1 a0_2 a0_3 a0_4 : Int) (a0_5 : Nat) (w : World) (h : span_Check.f a0_0 a0_1 a0_2 a0_3 a0_4 a0_5 = some true) :
  Calls Tryz.prog 15 #[.agg #[.int .i64 a0_0, .int .i64 a0_1, .int .u8 a0_2, .int .i64 a0_3, .int .i64 a0_4, .float .f64 a0_5]] w fun e w' => e = .returned (.bool true) ∧ Below w.heap.size w w' := by
 have hu40 := Tryz.underlying40
 unfold span_Check.f at h
 by_cases c0 : a0_0 ≥ 1
 rotate_left
 ·rw [if_neg c0] at h
  cases h
 rw [if_pos c0] at h
 by_cases c1 : a0_0 ≤ 1048576
 rotate_left
 ·rw [if_neg c1] at h
  cases h
 rw [if_pos c1] at h
 by_cases c2 : a0_1 ≥ 1
 rotate_left
 ·rw [if_neg c2] at h
  cases h
 rw [if_pos c2] at h
 by_cases c3 : a0_1 ≤ 64
 rotate_left
 ·rw [if_neg c3] at h
  cases h
 rw [if_pos c3] at h
 by_cases c4 : a0_2 ≤ 1
 rotate_left
 ·rw [if_neg c4] at h
  cases h
 rw [if_pos c4] at h
 by_cases c5 : a0_3 ≥ 0
 rotate_left
 ·rw [if_neg c5] at h
  cases h
 rw [if_pos c5] at h
 by_cases c6 : a0_3 ≤ 1048576
 rotate_left
 ·rw [if_neg c6] at h
  cases h
 rw [if_pos c6] at h
 by_cases c7 : a0_4 ≥ 0
 rotate_left
 ·rw [if_neg c7] at h
  cases h
 rw [if_pos c7] at h
 have c8 : a0_4 ≤ 1048576 := by simpa using h
 have d0 : decide (a0_0 ≥ 1) = true := decide_eq_true c0
 have d1 : decide (a0_0 ≤ 1048576) = true := decide_eq_true c1
 have d2 : decide (a0_1 ≥ 1) = true := decide_eq_true c2
 have d3 : decide (a0_1 ≤ 64) = true := decide_eq_true c3
 have d4 : decide (a0_2 ≤ 1) = true := decide_eq_true c4
 have d5 : decide (a0_3 ≥ 0) = true := decide_eq_true c5
 have d6 : decide (a0_3 ≤ 1048576) = true := decide_eq_true c6
 have d7 : decide (a0_4 ≥ 0) = true := decide_eq_true c7
 have d8 : decide (a0_4 ≤ 1048576) = true := decide_eq_true c8
 have g0 : decide (1 ≤ a0_0) = true := by simp; omega
 have g1 : decide (1 ≤ a0_1) = true := by simp; omega
 have g2 : decide (0 ≤ a0_3) = true := by simp; omega
 have g3 : decide (0 ≤ a0_4) = true := by simp; omega
 have kb := blk_new w (.cells #[.int .i64 a0_0, .int .i64 a0_1, .int .u8 a0_2, .int .i64 a0_3, .int .i64 a0_4, .float .f64 a0_5] 40)
 have z0 := blk_cell kb 0
 have z1 := blk_cell kb 1
 have z2 := blk_cell kb 2
 have z3 := blk_cell kb 3
 have z4 := blk_cell kb 4
 clear c0 c1 c2 c3 c4 c5 c6 c7 c8 h
 go_enter Tryz.func15, Tryz.ntmps15
 go_wp2_with fail
 try go_quiet (fail)
 try go_wp2_with fail
 go_ret
 exact ⟨rfl, below_alloc (Below.refl w.heap.size w) _⟩
def best_Break.f (l0_0 : List (S130)) (l0_1 : List Int) (a1 : Int) (a2 : Int) (a3_0 : Int) (a3_1 : Int) (a3_2 : Int) (a3_3 : Int) (a3_4 : Int) (a3_5 : Nat) : Option ((List (S127)) × Bool) := none
set_option maxHeartbeats 8000000 in
set_option maxRecDepth 100000 in
theorem best_Break.calls (A0_0 : Option Addr) (c0_0 : Nat) (l0_0 : List (S130)) (A0_1 : Option Addr) (c0_1 : Nat) (l0_1 : List Int) (a1 : Int) (a2 : Int) (a3_0 : Int) (a3_1 : Int) (a3_2 : Int) (a3_3 : Int) (a3_4 : Int) (a3_5 : Nat) (r1 : List (S127)) (r2 : Bool) (w : World) (hr0_0 : Kd.C k130 w A0_0 l0_0.length l0_0) (hc0_0 : l0_0.length ≤ c0_0) (hr0_1 : Kd.C (Kd.int .u8) w A0_1 l0_1.length l0_1) (hc0_1 : l0_1.length ≤ c0_1) (h : best_Break.f l0_0 l0_1 a1 a2 a3_0 a3_1 a3_2 a3_3 a3_4 a3_5 = some (r1, r2)) :
  Calls Tryz.prog 53 #[.agg #[.slice A0_0 l0_0.length c0_0, .slice A0_1 l0_1.length c0_1], .int .i64 a1, .int .i64 a2, .agg #[.int .i64 a3_0, .int .i64 a3_1, .int .u8 a3_2, .int .i64 a3_3, .int .i64 a3_4, .float .f64 a3_5]] w fun e w' => ∃ v0_ : Value, e = .returned (.tuple #[v0_, .bool r2]) ∧ Kd.R k127 127 w' w.heap.size (fun _ => True) v0_ r1 ∧ Below w.heap.size w w' := by
 have hu74 := Tryz.underlying74
 have hu40 := Tryz.underlying40
 have hu219 := Tryz.underlying219
 have HR0_0 := Aside0.mk hr0_0
 have HC0_0 := Aside0.mk hc0_0
 clear hr0_0 hc0_0
 have HR0_1 := Aside0.mk hr0_1
 have HC0_1 := Aside0.mk hc0_1
 clear hr0_1 hc0_1
 have HB := Aside0.mk (Below.refl w.heap.size w)
 have H : (none) = some (r1, r2) := h
 clear h
 exact absurd H (by simp)
mutual
def first_one.j2 : Nat → Int → Int → Int → Int → List (S130) → List Int → Int → Int → Int → Int → Int → Nat → Option (Int × Int × Int × Int)
 | 0, _, _, _, _, _, _, _, _, _, _, _, _ => none
 | k + 1, x1, x2, x9, x10, x283000, x283001, x284000, x284001, x284002, x284003, x284004, x284005 => if x9 ≥ 0 then (if 0 ≤ x9 then (if x9 < (x283001.length : Int) then ((span_Make.f k x283000 x283001 x1 x9 (rd x283001 x9) x284001).bind fun bt292 => (some (bt292.1, bt292.2.1, bt292.2.2.1, bt292.2.2.2))) else (none)) else (none)) else (if x10 = x2 then (if 0 ≤ x2 then (if x2 < (x283001.length : Int) then (if x10 < x2 then (if 0 ≤ x10 then (if x10 < (x283001.length : Int) then (if (rd x283001 x10) = 1 then ((span_Make.f k x283000 x283001 x1 x10 1 x284001).bind fun bt298 => (some (bt298.1, bt298.2.1, bt298.2.2.1, bt298.2.2.2))) else ((span_Make.f k x283000 x283001 x1 x10 (rd x283001 x2) x284001).bind fun bt302 => (some (bt302.1, bt302.2.1, bt302.2.2.1, bt302.2.2.2)))) else (none)) else (none)) else ((span_Make.f k x283000 x283001 x1 x10 (rd x283001 x2) x284001).bind fun bt306 => (some (bt306.1, bt306.2.1, bt306.2.2.1, bt306.2.2.2)))) else (none)) else (none)) else (if x10 < x2 then (if 0 ≤ x10 then (if x10 < (x283001.length : Int) then (if (rd x283001 x10) = 1 then ((span_Make.f k x283000 x283001 x1 x10 1 x284001).bind fun bt311 => (some (bt311.1, bt311.2.1, bt311.2.2.1, bt311.2.2.2))) else ((span_Make.f k x283000 x283001 x1 x10 4 x284001).bind fun bt315 => (some (bt315.1, bt315.2.1, bt315.2.2.1, bt315.2.2.2)))) else (none)) else (none)) else ((span_Make.f k x283000 x283001 x1 x10 4 x284001).bind fun bt319 => (some (bt319.1, bt319.2.1, bt319.2.2.1, bt319.2.2.2)))))
def first_one.l0 : Nat → Int → Int → Int → Int → Int → Int → Int → List (S130) → List Int → Int → Int → Int → Int → Int → Nat → Option (Int × Int × Int × Int)
 | 0, _, _, _, _, _, _, _, _, _, _, _, _, _, _, _ => none
 | k + 1, x1, x2, x9, x10, x11, x12, x13, x283000, x283001, x284000, x284001, x284002, x284003, x284004, x284005 => if x13 ≤ x2 then (if 0 ≤ (wrap64 (x13 - 1)) then (if (wrap64 (x13 - 1)) < (x283000.length : Int) then ((span_Next.f ((rd_T130 x283000 (wrap64 (x13 - 1))).f0) ((rd_T130 x283000 (wrap64 (x13 - 1))).f1) ((rd_T130 x283000 (wrap64 (x13 - 1))).f2) ((rd_T130 x283000 (wrap64 (x13 - 1))).f3) x11 x284001).bind fun t287 => ((span_Trim.f k x283000 x283001 (wrap64 (x13 - 1)) x13).bind fun t288 => (if t288 = x13 then (first_one.j1 k x1 x2 x9 x10 t287 t287 x13 x283000 x283001 x284000 x284001 x284002 x284003 x284004 x284005) else (first_one.j1 k x1 x2 x9 x10 t287 x12 x13 x283000 x283001 x284000 x284001 x284002 x284003 x284004 x284005)))) else (none)) else (none)) else (first_one.j2 k x1 x2 x9 x10 x283000 x283001 x284000 x284001 x284002 x284003 x284004 x284005)
def first_one.j1 : Nat → Int → Int → Int → Int → Int → Int → Int → List (S130) → List Int → Int → Int → Int → Int → Int → Nat → Option (Int × Int × Int × Int)
 | 0, _, _, _, _, _, _, _, _, _, _, _, _, _, _, _ => none
 | k + 1, x1, x2, x9, x10, x11, x12, x13, x283000, x283001, x284000, x284001, x284002, x284003, x284004, x284005 => if x12 > x284000 then (first_one.j2 k x1 x2 x9 x10 x283000 x283001 x284000 x284001 x284002 x284003 x284004 x284005) else ((span_Ends.f x283000 x283001 x13).bind fun bt289 => (if bt289.2 = true then (if bt289.1 = 3 then (if x12 < x284000 then (first_one.l0 k x1 x2 x13 x13 x11 x12 (wrap64 (x13 + 1)) x283000 x283001 x284000 x284001 x284002 x284003 x284004 x284005) else (first_one.l0 k x1 x2 x9 x13 x11 x12 (wrap64 (x13 + 1)) x283000 x283001 x284000 x284001 x284002 x284003 x284004 x284005)) else (first_one.l0 k x1 x2 x13 x13 x11 x12 (wrap64 (x13 + 1)) x283000 x283001 x284000 x284001 x284002 x284003 x284004 x284005)) else (first_one.l0 k x1 x2 x9 x13 x11 x12 (wrap64 (x13 + 1)) x283000 x283001 x284000 x284001 x284002 x284003 x284004 x284005)))
end
def first_one.f (k : Nat) (l0_0 : List (S130)) (l0_1 : List Int) (a1 : Int) (a2 : Int) (a3_0 : Int) (a3_1 : Int) (a3_2 : Int) (a3_3 : Int) (a3_4 : Int) (a3_5 : Nat) : Option (Int × Int × Int × Int) := first_one.l0 k a1 a2 (-1) (wrap64 (a1 + 1)) 0 0 (wrap64 (a1 + 1)) l0_0 l0_1 a3_0 a3_1 a3_2 a3_3 a3_4 a3_5
def first_one.T16 : Bool × List (List Nat × List Nat) := (true, [([], []), ([], []), ([], []), ([], []), ([3], [3]), ([], []), ([4, 5], [4, 5]), ([6], [6]), ([], []), ([8], [8]), ([0, 1, 2, 7, 9], [0, 1, 2, 7, 9]), ([10, 10, 0, 1, 2, 3, 4, 5, 6, 7, 8, 9, 10], [10])])
def first_one.B16 : List Nat := [0, 0, 0, 0, 8, 0, 56, 120, 0, 256, 1023, 2047]
theorem first_one.tab16 : rtab .any (opsOf Tryz.f84 16) = first_one.T16 := by kernel_rfl
theorem first_one.bits16 : waitsOk first_one.T16.2 first_one.B16 = true := by kernel_rfl
set_option maxHeartbeats 8000000 in
set_option maxRecDepth 100000 in
theorem first_one.calls (k : Nat) (A0_0 : Option Addr) (c0_0 : Nat) (l0_0 : List (S130)) (A0_1 : Option Addr) (c0_1 : Nat) (l0_1 : List Int) (a1 : Int) (a2 : Int) (a3_0 : Int) (a3_1 : Int) (a3_2 : Int) (a3_3 : Int) (a3_4 : Int) (a3_5 : Nat) (r1 : Int) (r2 : Int) (r3 : Int) (r4 : Int) (w : World) (hr0_0 : Kd.C k130 w A0_0 l0_0.length l0_0) (hc0_0 : l0_0.length ≤ c0_0) (hr0_1 : Kd.C (Kd.int .u8) w A0_1 l0_1.length l0_1) (hc0_1 : l0_1.length ≤ c0_1) (h : first_one.f k l0_0 l0_1 a1 a2 a3_0 a3_1 a3_2 a3_3 a3_4 a3_5 = some (r1, r2, r3, r4)) :
  Calls Tryz.prog 84 #[.agg #[.slice A0_0 l0_0.length c0_0, .slice A0_1 l0_1.length c0_1], .int .i64 a1, .int .i64 a2, .agg #[.int .i64 a3_0, .int .i64 a3_1, .int .u8 a3_2, .int .i64 a3_3, .int .i64 a3_4, .float .f64 a3_5]] w fun e w' => e = .returned (.agg #[.int .i64 r1, .int .i64 r2, .int .i64 r3, .int .u8 r4]) ∧ Below w.heap.size w w' := by
 have hu74 := Tryz.underlying74
 have hu40 := Tryz.underlying40
 have hu127 := Tryz.underlying127
 have hu130 := Tryz.underlying130
 have HR0_0 := Aside0.mk hr0_0
 have HC0_0 := Aside0.mk hc0_0
 clear hr0_0 hc0_0
 have HR0_1 := Aside0.mk hr0_1
 have HC0_1 := Aside0.mk hc0_1
 clear hr0_1 hc0_1
 have HB := Aside0.mk (Below.refl w.heap.size w)
 have H : (first_one.l0 k a1 a2 (-1) (wrap64 (a1 + 1)) 0 0 (wrap64 (a1 + 1)) l0_0 l0_1 a3_0 a3_1 a3_2 a3_3 a3_4 a3_5) = some (r1, r2, r3, r4) := h
 clear h
 have HC5 := Aside0.mk H
 clear H
 go_enter Tryz.func84, Tryz.ntmps84
 go_upto_block 0 with (first | ((with_reducible refine gate_dst (N := 4) rfl ?_); refine box_ev (N := 4) (cs := #[.slice A0_0 l0_0.length c0_0, .slice A0_1 l0_1.length c0_1]) (t := 74) ?_; intro gb282 hg w6 hbox hb; have n0_ := Aside0.mk (below_step bel hb); have n1_ := Aside0.mk (hbox); have n2_ := Aside0.mk (szb hg); have n3_ := Aside0.mk (szb hg); clear HB; revert n0_ n1_ n2_ n3_; intro HB BK282 GW282 GE282; clear hb hbox hg) | ((with_reducible refine gate_dst (N := 7) rfl ?_); refine box_ev (N := 7) (cs := #[.int .i64 a3_0, .int .i64 a3_1, .int .u8 a3_2, .int .i64 a3_3, .int .i64 a3_4, .float .f64 a3_5]) (t := 40) ?_; intro gb283 hg w7 hbox hb; have n0_ := Aside0.mk (bbw BK282 hb); have n1_ := Aside0.mk (below_step bel hb); have n2_ := Aside0.mk (hbox); have n3_ := Aside0.mk (szb hg); have n4_ := Aside0.mk (szb hg); have n5_ := Aside0.mk (neb hg BK282); have n6_ := Aside0.mk (neb hg BK282).symm; clear BK282 HB; revert n0_ n1_ n2_ n3_ n4_ n5_ n6_; intro BK282 HB BK283 GW283 GE283 NB282_283 NB283_282; clear hb hbox hg) | ((with_reducible refine gate_dst (N := 8) rfl ?_); refine box_ev (N := 8) (cs := #[.int .i64 0, .int .i64 0, .int .i64 0, .int .u8 0]) (t := 127) ?_; intro gb284 hg w8 hbox hb; have n0_ := Aside0.mk (bbw BK282 hb); have n1_ := Aside0.mk (bbw BK283 hb); have n2_ := Aside0.mk (below_step bel hb); have n3_ := Aside0.mk (hbox); have n4_ := Aside0.mk (szb hg); have n5_ := Aside0.mk (szb hg); have n6_ := Aside0.mk (neb hg BK282); have n7_ := Aside0.mk (neb hg BK282).symm; have n8_ := Aside0.mk (neb hg BK283); have n9_ := Aside0.mk (neb hg BK283).symm; clear BK282 BK283 HB; revert n0_ n1_ n2_ n3_ n4_ n5_ n6_ n7_ n8_ n9_; intro BK282 BK283 HB BK284 GW284 GE284 NB282_284 NB284_282 NB283_284 NB284_283; clear hb hbox hg))
 (try simp only [Act.put, List.setIfInBounds_toArray, List.set_cons_zero, List.set_cons_succ])
 go_cut [9, 10] (fun v9 v10 wc => ∃ (kq : Nat) (x9_4 : Int) (x10_4 : Int), v9 = .int .i64 x9_4 ∧ v10 = .int .i64 x10_4 ∧ Aside0 (first_one.j2 kq a1 a2 x9_4 x10_4 l0_0 l0_1 a3_0 a3_1 a3_2 a3_3 a3_4 a3_5 = some (r1, r2, r3, r4)) ∧ Aside0 (kq ≤ k) ∧ Aside0 (wc.heap[gb282]? = some (.cells #[(.slice A0_0 l0_0.length c0_0), (.slice A0_1 l0_1.length c0_1)] 74 (0, 0))) ∧ Aside0 (wc.heap[gb283]? = some (.cells #[.int .i64 a3_0, .int .i64 a3_1, .int .u8 a3_2, .int .i64 a3_3, .int .i64 a3_4, .float .f64 a3_5] 40 (0, 0))) ∧ Aside0 (wc.heap[gb284]? = some (.cells #[.int .i64 0, .int .i64 0, .int .i64 0, .int .u8 0] 127 (0, 0))) ∧ Aside0 (Below w.heap.size w wc))
 case first =>
  have H := HC5.out
  clear HC5
  have H' := Aside0.mk H
  clear H
  go_wp2
  go_loopg [9, 10, 11, 12, 13] k (fun kq v9 v10 v11 v12 v13 w' => ∃ (x9_1 : Int) (x10_1 : Int) (x11_1 : Int) (x12_1 : Int) (x13_1 : Int), v9 = .int .i64 x9_1 ∧ v10 = .int .i64 x10_1 ∧ v11 = .int .i64 x11_1 ∧ v12 = .int .i64 x12_1 ∧ v13 = .int .i64 x13_1 ∧ Aside0 (first_one.l0 kq a1 a2 x9_1 x10_1 x11_1 x12_1 x13_1 l0_0 l0_1 a3_0 a3_1 a3_2 a3_3 a3_4 a3_5 = some (r1, r2, r3, r4)) ∧ Aside0 (kq ≤ k) ∧ Aside0 (w'.heap[gb282]? = some (.cells #[(.slice A0_0 l0_0.length c0_0), (.slice A0_1 l0_1.length c0_1)] 74 (0, 0))) ∧ Aside0 (w'.heap[gb283]? = some (.cells #[.int .i64 a3_0, .int .i64 a3_1, .int .u8 a3_2, .int .i64 a3_3, .int .i64 a3_4, .float .f64 a3_5] 40 (0, 0))) ∧ Aside0 (w'.heap[gb284]? = some (.cells #[.int .i64 0, .int .i64 0, .int .i64 0, .int .u8 0] 127 (0, 0))) ∧ Aside0 (Below w.heap.size w w'))
  case atStart => exact ⟨((-1)), (wrap64 (a1 + 1)), (0), (0), (wrap64 (a1 + 1)), eqs, eqs, eqs, eqs, eqs, H', ⟨Nat.le_refl _⟩, ⟨blk⟩, ⟨blk⟩, ⟨blk⟩, ⟨bel⟩⟩
  case round =>
   clear H'
   try clear p2
   try clear p6
   try clear c8
   obtain ⟨x9_1, x10_1, x11_1, x12_1, x13_1, rfl, rfl, rfl, rfl, rfl, HA, HK1, BK282, BK283, BK284, HB⟩ := hrel
   cases gk with
   | zero => exact absurd HA.out (by simp [first_one.l0])
   | succ k1 =>
    have H := HA.out
    clear HA
    simp only [first_one.l0] at H
    by_cases c9 : x13_1 ≤ a2
    ·rw [if_pos c9] at H
     have c9b0 := decide_eq_true c9
     clear c9
     (first | rw [c9b0] | (simp only [i64_w, i32_w]; rw [c9b0]) | skip)
     obtain ⟨ji10, hji10⟩ : ∃ j_ : Int, (wrap64 (x13_1 - 1)) = j_ := ⟨_, rfl⟩
     replace H : (if 0 ≤ (ji10) then (if (ji10) < (l0_0.length : Int) then ((span_Next.f ((rd_T130 l0_0 (ji10)).f0) ((rd_T130 l0_0 (ji10)).f1) ((rd_T130 l0_0 (ji10)).f2) ((rd_T130 l0_0 (ji10)).f3) x11_1 a3_1).bind fun t287 => ((span_Trim.f k1 l0_0 l0_1 (ji10) x13_1).bind fun t288 => (if t288 = x13_1 then (first_one.j1 k1 a1 a2 x9_1 x10_1 t287 t287 x13_1 l0_0 l0_1 a3_0 a3_1 a3_2 a3_3 a3_4 a3_5) else (first_one.j1 k1 a1 a2 x9_1 x10_1 t287 x12_1 x13_1 l0_0 l0_1 a3_0 a3_1 a3_2 a3_3 a3_4 a3_5)))) else (none)) else (none)) = some (r1, r2, r3, r4) := by first | (rw [hji10] at H; exact H) | (simp only [hji10] at H ⊢; exact H)
     have hji10w : (IntKind.i64.wrap (x13_1 - 1)) = ji10 := (i64_w _).trans hji10
     by_cases c11 : 0 ≤ (ji10)
     ·rw [if_pos c11] at H
      have c11b0 := decide_eq_true c11
      clear c11
      by_cases c12 : (ji10) < (l0_0.length : Int)
      ·rw [if_pos c12] at H
       have c12b0 := decide_eq_true c12
       clear c12
       replace H := Option.bind_eq_some_iff.mp H
       obtain ⟨t287, A130, H⟩ := H
       replace H : ((span_Trim.f k1 l0_0 l0_1 (ji10) x13_1).bind fun t288 => (if t288 = x13_1 then (first_one.j1 k1 a1 a2 x9_1 x10_1 t287 t287 x13_1 l0_0 l0_1 a3_0 a3_1 a3_2 a3_3 a3_4 a3_5) else (first_one.j1 k1 a1 a2 x9_1 x10_1 t287 x12_1 x13_1 l0_0 l0_1 a3_0 a3_1 a3_2 a3_3 a3_4 a3_5))) = some (r1, r2, r3, r4) := H
       have A13 := Aside0.mk A130
       clear A130
       replace H := Option.bind_eq_some_iff.mp H
       obtain ⟨t288, A140, H⟩ := H
       replace H : (if t288 = x13_1 then (first_one.j1 k1 a1 a2 x9_1 x10_1 t287 t287 x13_1 l0_0 l0_1 a3_0 a3_1 a3_2 a3_3 a3_4 a3_5) else (first_one.j1 k1 a1 a2 x9_1 x10_1 t287 x12_1 x13_1 l0_0 l0_1 a3_0 a3_1 a3_2 a3_3 a3_4 a3_5)) = some (r1, r2, r3, r4) := H
       have A14 := Aside0.mk A140
       clear A140
       have HC15 := Aside0.mk H
       clear H
       have hnb16 := NB282_283.out
       have hnc16 := NB283_282.out
       have hnb17 := NB282_284.out
       have hnc17 := NB284_282.out
       obtain ⟨hcz18_0, hcz18_1, hfz18_0, hfz18_1⟩ := cs2 BK282
       have p285 : 0 ≤ ((ji10) : Int) := oda
       have q285 : (ji10) < (l0_0.length : Int) := oda
       obtain ⟨ad285, e285, hx285_0, hx285_1, hx285_2, hx285_3⟩ := at_T130 HR0_0.out (ji10) p285 q285
       cases e285
       replace hx285_0 := bc HB hx285_0
       replace hx285_1 := bc HB hx285_1
       replace hx285_2 := bc HB hx285_2
       replace hx285_3 := bc HB hx285_3
       replace p285 := eq_true p285
       replace q285 := eq_true q285
       go_upto_if 44 with (first | ((with_reducible refine gate_dst (N := 14) rfl ?_); refine box_ev (N := 14) (cs := #[.int .i64 0, .int .i64 0, .int .i64 0, .int .u8 0]) (t := 130) ?_; intro gb286 hg w19 hbox hb; have n0_ := Aside0.mk (bbw BK282 hb); have n1_ := Aside0.mk (bbw BK283 hb); have n2_ := Aside0.mk (bbw BK284 hb); have n3_ := Aside0.mk (below_step bel hb); have n4_ := Aside0.mk (hbox); have n5_ := Aside0.mk (szb hg); have n6_ := Aside0.mk (szb hg); have n7_ := Aside0.mk (neb hg BK282); have n8_ := Aside0.mk (neb hg BK282).symm; have n9_ := Aside0.mk (neb hg BK283); have n10_ := Aside0.mk (neb hg BK283).symm; have n11_ := Aside0.mk (neb hg BK284); have n12_ := Aside0.mk (neb hg BK284).symm; clear BK282 BK283 BK284 HB; revert n0_ n1_ n2_ n3_ n4_ n5_ n6_ n7_ n8_ n9_ n10_ n11_ n12_; intro BK282 BK283 BK284 HB BK286 GW286 GE286 NB282_286 NB286_282 NB283_286 NB286_283 NB284_286 NB286_284; clear hb hbox hg; have hnb20 := NB286_282.out; have hnc20 := NB282_286.out; have hnb21 := NB286_283.out; have hnc21 := NB283_286.out; have hnb22 := NB286_284.out; have hnc22 := NB284_286.out; obtain ⟨hcz23_0, hcz23_1, hcz23_2, hcz23_3, hfz23_0, hfz23_1, hfz23_2, hfz23_3⟩ := cs4 BK286; have hnb24 := NB283_284.out; have hnc24 := NB284_283.out; obtain ⟨hcz25_0, hcz25_1, hcz25_2, hcz25_3, hcz25_4, hcz25_5, hfz25_0, hfz25_1, hfz25_2, hfz25_3, hfz25_4, hfz25_5⟩ := cs6 BK283) | ((with_reducible refine gate_callee (f := 96) rfl ?_); refine goesL_ (some 37) rfl rfl Tryz.func96 (by kernel_rfl) rfl #[.agg #[.int .i64 ((rd_T130 l0_0 (ji10)).f0), .int .i64 ((rd_T130 l0_0 (ji10)).f1), .int .i64 ((rd_T130 l0_0 (ji10)).f2), .int .u8 ((rd_T130 l0_0 (ji10)).f3)], .int .i64 x11_1, .int .i64 a3_1] rfl (by (try simp only [List.map_toArray, List.map_cons, List.map_nil]); first | done | (simp only [hji10]; rfl) | rfl | (simp only [List.length_drop, List.length_take]; rfl)) ?_; (with_reducible refine (span_Next.calls ((rd_T130 l0_0 (ji10)).f0) ((rd_T130 l0_0 (ji10)).f1) ((rd_T130 l0_0 (ji10)).f2) ((rd_T130 l0_0 (ji10)).f3) x11_1 a3_1 t287 _ A13.out).mono ?_); rintro e w26 ⟨rfl, hb⟩; refine ⟨_, rfl, ?_⟩; have n0_ := Aside0.mk (blk_below (g := gb282) (o := .cells #[.slice (some ad285) l0_0.length c0_0, .slice A0_1 l0_1.length c0_1] 74 (0, 0)) (by (with_reducible repeat (first | refine blk_drewN ?_ _ | refine blk_drew ?_ | refine blk_alloc ?_ _)); refine blk_far ?_ NB282_286.out _; (with_reducible repeat (first | refine blk_drewN ?_ _ | refine blk_drew ?_ | refine blk_alloc ?_ _)); refine blk_far ?_ NB282_286.out _; (with_reducible repeat (first | refine blk_drewN ?_ _ | refine blk_drew ?_ | refine blk_alloc ?_ _)); refine blk_far ?_ NB282_286.out _; (with_reducible repeat (first | refine blk_drewN ?_ _ | refine blk_drew ?_ | refine blk_alloc ?_ _)); refine blk_far ?_ NB282_286.out _; (with_reducible repeat (first | refine blk_drewN ?_ _ | refine blk_drew ?_ | refine blk_alloc ?_ _)); exact BK282.out) hb); have n1_ := Aside0.mk (blk_below (g := gb283) (o := .cells #[.int .i64 a3_0, .int .i64 a3_1, .int .u8 a3_2, .int .i64 a3_3, .int .i64 a3_4, .float .f64 a3_5] 40 (0, 0)) (by (with_reducible repeat (first | refine blk_drewN ?_ _ | refine blk_drew ?_ | refine blk_alloc ?_ _)); refine blk_far ?_ NB283_286.out _; (with_reducible repeat (first | refine blk_drewN ?_ _ | refine blk_drew ?_ | refine blk_alloc ?_ _)); refine blk_far ?_ NB283_286.out _; (with_reducible repeat (first | refine blk_drewN ?_ _ | refine blk_drew ?_ | refine blk_alloc ?_ _)); refine blk_far ?_ NB283_286.out _; (with_reducible repeat (first | refine blk_drewN ?_ _ | refine blk_drew ?_ | refine blk_alloc ?_ _)); refine blk_far ?_ NB283_286.out _; (with_reducible repeat (first | refine blk_drewN ?_ _ | refine blk_drew ?_ | refine blk_alloc ?_ _)); exact BK283.out) hb); have n2_ := Aside0.mk (blk_below (g := gb284) (o := .cells #[.int .i64 0, .int .i64 0, .int .i64 0, .int .u8 0] 127 (0, 0)) (by (with_reducible repeat (first | refine blk_drewN ?_ _ | refine blk_drew ?_ | refine blk_alloc ?_ _)); refine blk_far ?_ NB284_286.out _; (with_reducible repeat (first | refine blk_drewN ?_ _ | refine blk_drew ?_ | refine blk_alloc ?_ _)); refine blk_far ?_ NB284_286.out _; (with_reducible repeat (first | refine blk_drewN ?_ _ | refine blk_drew ?_ | refine blk_alloc ?_ _)); refine blk_far ?_ NB284_286.out _; (with_reducible repeat (first | refine blk_drewN ?_ _ | refine blk_drew ?_ | refine blk_alloc ?_ _)); refine blk_far ?_ NB284_286.out _; (with_reducible repeat (first | refine blk_drewN ?_ _ | refine blk_drew ?_ | refine blk_alloc ?_ _)); exact BK284.out) hb); have n3_ := Aside0.mk (blk_below (g := gb286) (o := .cells #[.int .i64 ((rd_T130 l0_0 (ji10)).f0), .int .i64 ((rd_T130 l0_0 (ji10)).f1), .int .i64 ((rd_T130 l0_0 (ji10)).f2), .int .u8 ((rd_T130 l0_0 (ji10)).f3)] 130 (0, 0)) (by (with_reducible repeat (first | refine blk_drewN ?_ _ | refine blk_drew ?_ | refine blk_alloc ?_ _)); refine blk_put (cs := #[.int .i64 ((rd_T130 l0_0 (ji10)).f0), .int .i64 ((rd_T130 l0_0 (ji10)).f1), .int .i64 ((rd_T130 l0_0 (ji10)).f2), .int .u8 0]) ?_ 3 _ rfl; (with_reducible repeat (first | refine blk_drewN ?_ _ | refine blk_drew ?_ | refine blk_alloc ?_ _)); refine blk_put (cs := #[.int .i64 ((rd_T130 l0_0 (ji10)).f0), .int .i64 ((rd_T130 l0_0 (ji10)).f1), .int .i64 0, .int .u8 0]) ?_ 2 _ rfl; (with_reducible repeat (first | refine blk_drewN ?_ _ | refine blk_drew ?_ | refine blk_alloc ?_ _)); refine blk_put (cs := #[.int .i64 ((rd_T130 l0_0 (ji10)).f0), .int .i64 0, .int .i64 0, .int .u8 0]) ?_ 1 _ rfl; (with_reducible repeat (first | refine blk_drewN ?_ _ | refine blk_drew ?_ | refine blk_alloc ?_ _)); refine blk_put (cs := #[.int .i64 0, .int .i64 0, .int .i64 0, .int .u8 0]) ?_ 0 _ rfl; (with_reducible repeat (first | refine blk_drewN ?_ _ | refine blk_drew ?_ | refine blk_alloc ?_ _)); exact BK286.out) hb); have n4_ := Aside0.mk (below_step bel hb); clear BK282 BK283 BK284 BK286 HB; revert n0_ n1_ n2_ n3_ n4_; intro BK282 BK283 BK284 BK286 HB; (try clear hb); (try clear hb2); (try clear hk); (try clear hi); obtain ⟨hcz27_0, hcz27_1, hfz27_0, hfz27_1⟩ := cs2 BK282) | ((with_reducible refine gate_callee (f := 97) rfl ?_); refine goesL_ (some 42) rfl rfl Tryz.func97 (by kernel_rfl) rfl #[.agg #[.slice (some ad285) l0_0.length c0_0, .slice A0_1 l0_1.length c0_1], .int .i64 ji10, .int .i64 x13_1] rfl (by (try simp only [List.map_toArray, List.map_cons, List.map_nil]); first | done | (simp only [hji10]; rfl) | rfl | (simp only [List.length_drop, List.length_take]; rfl)) ?_; (with_reducible refine (span_Trim.calls k1 _ _ l0_0 _ _ l0_1 ji10 x13_1 t288 _ (cup HR0_0) HC0_0.out (cup HR0_1) HC0_1.out A14.out).mono ?_); rintro e w28 ⟨rfl, hb⟩; refine ⟨_, rfl, ?_⟩; have n0_ := Aside0.mk (bbw BK282 hb); have n1_ := Aside0.mk (bbw BK283 hb); have n2_ := Aside0.mk (bbw BK284 hb); have n3_ := Aside0.mk (bbw BK286 hb); have n4_ := Aside0.mk (below_step bel hb); clear BK282 BK283 BK284 BK286 HB; revert n0_ n1_ n2_ n3_ n4_; intro BK282 BK283 BK284 BK286 HB; (try clear hb); (try clear hb2); (try clear hk); (try clear hi)))
       (try simp only [Act.put, List.setIfInBounds_toArray, List.set_cons_zero, List.set_cons_succ])
       go_cut [12] (fun v12 wc => ∃ (kq : Nat) (x12_14 : Int), v12 = .int .i64 x12_14 ∧ Aside0 (first_one.j1 kq a1 a2 x9_1 x10_1 t287 x12_14 x13_1 l0_0 l0_1 a3_0 a3_1 a3_2 a3_3 a3_4 a3_5 = some (r1, r2, r3, r4)) ∧ Aside0 (kq ≤ k1) ∧ Aside0 (wc.heap[gb282]? = some (.cells #[(.slice (some ad285) l0_0.length c0_0), (.slice A0_1 l0_1.length c0_1)] 74 (0, 0))) ∧ Aside0 (wc.heap[gb283]? = some (.cells #[.int .i64 a3_0, .int .i64 a3_1, .int .u8 a3_2, .int .i64 a3_3, .int .i64 a3_4, .float .f64 a3_5] 40 (0, 0))) ∧ Aside0 (wc.heap[gb284]? = some (.cells #[.int .i64 0, .int .i64 0, .int .i64 0, .int .u8 0] 127 (0, 0))) ∧ Aside0 (wc.heap[gb286]? = some (.cells #[.int .i64 ((rd_T130 l0_0 (ji10)).f0), .int .i64 ((rd_T130 l0_0 (ji10)).f1), .int .i64 ((rd_T130 l0_0 (ji10)).f2), .int .u8 ((rd_T130 l0_0 (ji10)).f3)] 130 (0, 0))) ∧ Aside0 (Below w.heap.size w wc))
       case first =>
        have H := HC15.out
        clear HC15
        by_cases c29 : t288 = x13_1
        ·rw [if_pos c29] at H
         have c29b0 : (t288 == x13_1) = true := beq_iff_eq.mpr c29
         have c29b1 : (t288 != x13_1) = false := bne_eq_false_iff_eq.mpr c29
         clear c29
         (first | rw [c29b0] | (simp only [i64_w, i32_w]; rw [c29b0]) | skip)
         have H' := Aside0.mk H
         clear H
         go_wp2
         go_meet
         case rel => exact ⟨_, (t287), eqs, H', ⟨by have := HK1.out; first | omega | exact Nat.le_refl _⟩, ⟨blk⟩, ⟨blk⟩, ⟨blk⟩, ⟨blk⟩, ⟨bel⟩⟩
        ·rw [if_neg c29] at H
         have c29b0 : (t288 == x13_1) = false := beq_eq_false_iff_ne.mpr c29
         have c29b1 : (t288 != x13_1) = true := bne_iff_ne.mpr c29
         (first | rw [c29b0] | (simp only [i64_w, i32_w]; rw [c29b0]) | skip)
         have H' := Aside0.mk H
         clear H
         go_wp2
         go_meet
         case rel => exact ⟨_, (x12_1), eqs, H', ⟨by have := HK1.out; first | omega | exact Nat.le_refl _⟩, ⟨blk⟩, ⟨blk⟩, ⟨blk⟩, ⟨blk⟩, ⟨bel⟩⟩
       case rest =>
        clear HC15
        try clear c1
        try clear c2
        try clear p2
        try clear q2
        try clear hx2
        try clear p6
        try clear c8
        try clear c9
        try clear c9b0
        try clear c11
        try clear c11b0
        try clear c12
        try clear c12b0
        try clear c16
        try clear c17
        try clear c20
        try clear c21
        try clear c22
        try clear c24
        try clear p28
        try clear q28
        try clear hx28
        try clear c29
        try clear c29b0
        try clear c29b1
        try clear hcz18_0 hcz18_1 hcz23_0 hcz23_1 hcz23_2 hcz23_3 hcz25_0 hcz25_1 hcz25_2 hcz25_3 hcz25_4 hcz25_5 hcz27_0 hcz27_1 hfz18_0 hfz18_1 hfz23_0 hfz23_1 hfz23_2 hfz23_3 hfz25_0 hfz25_1 hfz25_2 hfz25_3 hfz25_4 hfz25_5 hfz27_0 hfz27_1
        try clear hx285_0
        try clear hx285_1
        try clear hx285_2
        try clear hx285_3
        try clear p2
        try clear p285
        try clear p6
        try clear q285
        obtain ⟨kq, x12_14, rfl, HA, HJ14, BK282, BK283, BK284, BK286, HB⟩ := hcut
        cases kq with
        | zero => exact absurd HA.out (by simp [first_one.j1])
        | succ kj14 =>
         have H := HA.out
         clear HA
         simp only [first_one.j1] at H
         by_cases c30 : x12_14 > a3_0
         ·rw [if_pos c30] at H
          have c30b0 := decide_eq_true c30
          clear c30
          have H' := Aside0.mk H
          clear H
          have hnb31 := NB283_282.out
          have hnc31 := NB282_283.out
          have hnb32 := NB283_284.out
          have hnc32 := NB284_283.out
          have hnb33 := NB283_286.out
          have hnc33 := NB286_283.out
          obtain ⟨hcz34_0, hcz34_1, hcz34_2, hcz34_3, hcz34_4, hcz34_5, hfz34_0, hfz34_1, hfz34_2, hfz34_3, hfz34_4, hfz34_5⟩ := cs6 BK283
          go_wp2
          go_meet
          case rel => exact ⟨_, (x9_1), (x10_1), eqs, eqs, H', ⟨by have := HK1.out; have := HJ14.out; first | omega | exact Nat.le_refl _⟩, ⟨blk⟩, ⟨blk⟩, ⟨blk⟩, ⟨bel⟩⟩
         ·rw [if_neg c30] at H
          have c30b0 := decide_eq_false c30
          clear c30
          replace H := Option.bind_eq_some_iff.mp H
          obtain ⟨⟨t289, t290⟩, A350, H⟩ := H
          replace H : (if t290 = true then (if t289 = 3 then (if x12_14 < a3_0 then (first_one.l0 kj14 a1 a2 x13_1 x13_1 t287 x12_14 (wrap64 (x13_1 + 1)) l0_0 l0_1 a3_0 a3_1 a3_2 a3_3 a3_4 a3_5) else (first_one.l0 kj14 a1 a2 x9_1 x13_1 t287 x12_14 (wrap64 (x13_1 + 1)) l0_0 l0_1 a3_0 a3_1 a3_2 a3_3 a3_4 a3_5)) else (first_one.l0 kj14 a1 a2 x13_1 x13_1 t287 x12_14 (wrap64 (x13_1 + 1)) l0_0 l0_1 a3_0 a3_1 a3_2 a3_3 a3_4 a3_5)) else (first_one.l0 kj14 a1 a2 x9_1 x13_1 t287 x12_14 (wrap64 (x13_1 + 1)) l0_0 l0_1 a3_0 a3_1 a3_2 a3_3 a3_4 a3_5)) = some (r1, r2, r3, r4) := H
          have A35 := Aside0.mk A350
          clear A350
          by_cases c36 : t290 = true
          ·subst c36
           have H1 : (if t289 = 3 then (if x12_14 < a3_0 then (first_one.l0 kj14 a1 a2 x13_1 x13_1 t287 x12_14 (wrap64 (x13_1 + 1)) l0_0 l0_1 a3_0 a3_1 a3_2 a3_3 a3_4 a3_5) else (first_one.l0 kj14 a1 a2 x9_1 x13_1 t287 x12_14 (wrap64 (x13_1 + 1)) l0_0 l0_1 a3_0 a3_1 a3_2 a3_3 a3_4 a3_5)) else (first_one.l0 kj14 a1 a2 x13_1 x13_1 t287 x12_14 (wrap64 (x13_1 + 1)) l0_0 l0_1 a3_0 a3_1 a3_2 a3_3 a3_4 a3_5)) = some (r1, r2, r3, r4) := by rw [if_pos rfl] at H; exact H
           clear H
           have H := H1
           clear H1
           by_cases c37 : t289 = 3
           ·rw [if_pos c37] at H
            have c37b0 : (t289 == 3) = true := beq_iff_eq.mpr c37
            have c37b1 : (t289 != 3) = false := bne_eq_false_iff_eq.mpr c37
            clear c37
            by_cases c38 : x12_14 < a3_0
            ·rw [if_pos c38] at H
             have c38b0 := decide_eq_true c38
             clear c38
             have H' := Aside0.mk H
             clear H
             have hnb39 := NB283_282.out
             have hnc39 := NB282_283.out
             have hnb40 := NB283_284.out
             have hnc40 := NB284_283.out
             have hnb41 := NB283_286.out
             have hnc41 := NB286_283.out
             obtain ⟨hcz42_0, hcz42_1, hcz42_2, hcz42_3, hcz42_4, hcz42_5, hfz42_0, hfz42_1, hfz42_2, hfz42_3, hfz42_4, hfz42_5⟩ := cs6 BK283
             have hnb43 := NB282_284.out
             have hnc43 := NB284_282.out
             have hnb44 := NB282_286.out
             have hnc44 := NB286_282.out
             obtain ⟨hcz45_0, hcz45_1, hfz45_0, hfz45_1⟩ := cs2 BK282
             go_wp2_with (first | ((with_reducible refine gate_callee (f := 98) rfl ?_); refine goesL_ (some 54) rfl rfl Tryz.func98 (by kernel_rfl) rfl #[.agg #[.slice (some ad285) l0_0.length c0_0, .slice A0_1 l0_1.length c0_1], .int .i64 x13_1] rfl (by (try simp only [List.map_toArray, List.map_cons, List.map_nil]); first | done | rfl | (simp only [List.length_drop, List.length_take]; rfl)) ?_; (with_reducible refine (span_Ends.calls _ _ l0_0 _ _ l0_1 x13_1 t289 true _ (cup HR0_0) HC0_0.out (cup HR0_1) HC0_1.out A35.out).mono ?_); rintro e w46 ⟨rfl, hb⟩; refine ⟨_, rfl, ?_⟩; have n0_ := Aside0.mk (bbw BK282 hb); have n1_ := Aside0.mk (bbw BK283 hb); have n2_ := Aside0.mk (bbw BK284 hb); have n3_ := Aside0.mk (bbw BK286 hb); have n4_ := Aside0.mk (below_step bel hb); clear BK282 BK283 BK284 BK286 HB; revert n0_ n1_ n2_ n3_ n4_; intro BK282 BK283 BK284 BK286 HB; (try clear hb); (try clear hb2); (try clear hk); (try clear hi); obtain ⟨hcz47_0, hcz47_1, hcz47_2, hcz47_3, hcz47_4, hcz47_5, hfz47_0, hfz47_1, hfz47_2, hfz47_3, hfz47_4, hfz47_5⟩ := cs6 BK283))
             go_roundg kj14
             case measure => have := HK1.out; have := HJ14.out; omega
             case rel => exact ⟨(x13_1), (x13_1), (t287), (x12_14), (wrap64 (x13_1 + 1)), eqs, eqs, eqs, eqs, eqs, H', ⟨by have := HK1.out; have := HJ14.out; omega⟩, ⟨blk⟩, ⟨blk⟩, ⟨blk⟩, ⟨bel⟩⟩
            ·rw [if_neg c38] at H
             have c38b0 := decide_eq_false c38
             clear c38
             have H' := Aside0.mk H
             clear H
             have hnb48 := NB283_282.out
             have hnc48 := NB282_283.out
             have hnb49 := NB283_284.out
             have hnc49 := NB284_283.out
             have hnb50 := NB283_286.out
             have hnc50 := NB286_283.out
             obtain ⟨hcz51_0, hcz51_1, hcz51_2, hcz51_3, hcz51_4, hcz51_5, hfz51_0, hfz51_1, hfz51_2, hfz51_3, hfz51_4, hfz51_5⟩ := cs6 BK283
             have hnb52 := NB282_284.out
             have hnc52 := NB284_282.out
             have hnb53 := NB282_286.out
             have hnc53 := NB286_282.out
             obtain ⟨hcz54_0, hcz54_1, hfz54_0, hfz54_1⟩ := cs2 BK282
             go_wp2_with (first | ((with_reducible refine gate_callee (f := 98) rfl ?_); refine goesL_ (some 54) rfl rfl Tryz.func98 (by kernel_rfl) rfl #[.agg #[.slice (some ad285) l0_0.length c0_0, .slice A0_1 l0_1.length c0_1], .int .i64 x13_1] rfl (by (try simp only [List.map_toArray, List.map_cons, List.map_nil]); first | done | rfl | (simp only [List.length_drop, List.length_take]; rfl)) ?_; (with_reducible refine (span_Ends.calls _ _ l0_0 _ _ l0_1 x13_1 t289 true _ (cup HR0_0) HC0_0.out (cup HR0_1) HC0_1.out A35.out).mono ?_); rintro e w55 ⟨rfl, hb⟩; refine ⟨_, rfl, ?_⟩; have n0_ := Aside0.mk (bbw BK282 hb); have n1_ := Aside0.mk (bbw BK283 hb); have n2_ := Aside0.mk (bbw BK284 hb); have n3_ := Aside0.mk (bbw BK286 hb); have n4_ := Aside0.mk (below_step bel hb); clear BK282 BK283 BK284 BK286 HB; revert n0_ n1_ n2_ n3_ n4_; intro BK282 BK283 BK284 BK286 HB; (try clear hb); (try clear hb2); (try clear hk); (try clear hi); obtain ⟨hcz56_0, hcz56_1, hcz56_2, hcz56_3, hcz56_4, hcz56_5, hfz56_0, hfz56_1, hfz56_2, hfz56_3, hfz56_4, hfz56_5⟩ := cs6 BK283))
             go_roundg kj14
             case measure => have := HK1.out; have := HJ14.out; omega
             case rel => exact ⟨(x9_1), (x13_1), (t287), (x12_14), (wrap64 (x13_1 + 1)), eqs, eqs, eqs, eqs, eqs, H', ⟨by have := HK1.out; have := HJ14.out; omega⟩, ⟨blk⟩, ⟨blk⟩, ⟨blk⟩, ⟨bel⟩⟩
           ·rw [if_neg c37] at H
            have c37b0 : (t289 == 3) = false := beq_eq_false_iff_ne.mpr c37
            have c37b1 : (t289 != 3) = true := bne_iff_ne.mpr c37
            have H' := Aside0.mk H
            clear H
            have hnb57 := NB283_282.out
            have hnc57 := NB282_283.out
            have hnb58 := NB283_284.out
            have hnc58 := NB284_283.out
            have hnb59 := NB283_286.out
            have hnc59 := NB286_283.out
            obtain ⟨hcz60_0, hcz60_1, hcz60_2, hcz60_3, hcz60_4, hcz60_5, hfz60_0, hfz60_1, hfz60_2, hfz60_3, hfz60_4, hfz60_5⟩ := cs6 BK283
            have hnb61 := NB282_284.out
            have hnc61 := NB284_282.out
            have hnb62 := NB282_286.out
            have hnc62 := NB286_282.out
            obtain ⟨hcz63_0, hcz63_1, hfz63_0, hfz63_1⟩ := cs2 BK282
            go_wp2_with (first | ((with_reducible refine gate_callee (f := 98) rfl ?_); refine goesL_ (some 54) rfl rfl Tryz.func98 (by kernel_rfl) rfl #[.agg #[.slice (some ad285) l0_0.length c0_0, .slice A0_1 l0_1.length c0_1], .int .i64 x13_1] rfl (by (try simp only [List.map_toArray, List.map_cons, List.map_nil]); first | done | rfl | (simp only [List.length_drop, List.length_take]; rfl)) ?_; (with_reducible refine (span_Ends.calls _ _ l0_0 _ _ l0_1 x13_1 t289 true _ (cup HR0_0) HC0_0.out (cup HR0_1) HC0_1.out A35.out).mono ?_); rintro e w64 ⟨rfl, hb⟩; refine ⟨_, rfl, ?_⟩; have n0_ := Aside0.mk (bbw BK282 hb); have n1_ := Aside0.mk (bbw BK283 hb); have n2_ := Aside0.mk (bbw BK284 hb); have n3_ := Aside0.mk (bbw BK286 hb); have n4_ := Aside0.mk (below_step bel hb); clear BK282 BK283 BK284 BK286 HB; revert n0_ n1_ n2_ n3_ n4_; intro BK282 BK283 BK284 BK286 HB; (try clear hb); (try clear hb2); (try clear hk); (try clear hi)))
            go_roundg kj14
            case measure => have := HK1.out; have := HJ14.out; omega
            case rel => exact ⟨(x13_1), (x13_1), (t287), (x12_14), (wrap64 (x13_1 + 1)), eqs, eqs, eqs, eqs, eqs, H', ⟨by have := HK1.out; have := HJ14.out; omega⟩, ⟨blk⟩, ⟨blk⟩, ⟨blk⟩, ⟨bel⟩⟩
          ·replace c36 := Bool.eq_false_iff.mpr c36
           subst c36
           have H1 : (first_one.l0 kj14 a1 a2 x9_1 x13_1 t287 x12_14 (wrap64 (x13_1 + 1)) l0_0 l0_1 a3_0 a3_1 a3_2 a3_3 a3_4 a3_5) = some (r1, r2, r3, r4) := by rw [if_neg (show ¬ (false = true) by decide)] at H; exact H
           clear H
           have H := H1
           clear H1
           have H' := Aside0.mk H
           clear H
           have hnb65 := NB283_282.out
           have hnc65 := NB282_283.out
           have hnb66 := NB283_284.out
           have hnc66 := NB284_283.out
           have hnb67 := NB283_286.out
           have hnc67 := NB286_283.out
           obtain ⟨hcz68_0, hcz68_1, hcz68_2, hcz68_3, hcz68_4, hcz68_5, hfz68_0, hfz68_1, hfz68_2, hfz68_3, hfz68_4, hfz68_5⟩ := cs6 BK283
           have hnb69 := NB282_284.out
           have hnc69 := NB284_282.out
           have hnb70 := NB282_286.out
           have hnc70 := NB286_282.out
           obtain ⟨hcz71_0, hcz71_1, hfz71_0, hfz71_1⟩ := cs2 BK282
           go_wp2_with (first | ((with_reducible refine gate_callee (f := 98) rfl ?_); refine goesL_ (some 54) rfl rfl Tryz.func98 (by kernel_rfl) rfl #[.agg #[.slice (some ad285) l0_0.length c0_0, .slice A0_1 l0_1.length c0_1], .int .i64 x13_1] rfl (by (try simp only [List.map_toArray, List.map_cons, List.map_nil]); first | done | rfl | (simp only [List.length_drop, List.length_take]; rfl)) ?_; (with_reducible refine (span_Ends.calls _ _ l0_0 _ _ l0_1 x13_1 t289 false _ (cup HR0_0) HC0_0.out (cup HR0_1) HC0_1.out A35.out).mono ?_); rintro e w72 ⟨rfl, hb⟩; refine ⟨_, rfl, ?_⟩; have n0_ := Aside0.mk (bbw BK282 hb); have n1_ := Aside0.mk (bbw BK283 hb); have n2_ := Aside0.mk (bbw BK284 hb); have n3_ := Aside0.mk (bbw BK286 hb); have n4_ := Aside0.mk (below_step bel hb); clear BK282 BK283 BK284 BK286 HB; revert n0_ n1_ n2_ n3_ n4_; intro BK282 BK283 BK284 BK286 HB; (try clear hb); (try clear hb2); (try clear hk); (try clear hi)))
           go_roundg kj14
           case measure => have := HK1.out; have := HJ14.out; omega
           case rel => exact ⟨(x9_1), (x13_1), (t287), (x12_14), (wrap64 (x13_1 + 1)), eqs, eqs, eqs, eqs, eqs, H', ⟨by have := HK1.out; have := HJ14.out; omega⟩, ⟨blk⟩, ⟨blk⟩, ⟨blk⟩, ⟨bel⟩⟩
      ·rw [if_neg c12] at H
       exact absurd H (by simp)
     ·rw [if_neg c11] at H
      exact absurd H (by simp)
    ·rw [if_neg c9] at H
     have c9b0 := decide_eq_false c9
     clear c9
     (first | rw [c9b0] | (simp only [i64_w, i32_w]; rw [c9b0]) | skip)
     have H' := Aside0.mk H
     clear H
     go_wp2
     go_meet
     case rel => exact ⟨_, (x9_1), (x10_1), eqs, eqs, H', ⟨by have := HK1.out; first | omega | exact Nat.le_refl _⟩, ⟨blk⟩, ⟨blk⟩, ⟨blk⟩, ⟨bel⟩⟩
 case rest =>
  clear HC5
  try clear c1
  try clear c2
  try clear p2
  try clear q2
  try clear hx2
  try clear c3
  try clear c4
  try clear c5
  try clear c6
  try clear p6
  try clear c7
  try clear c8
  try clear c9
  try clear c9b0
  try clear c11
  try clear c11b0
  try clear c12
  try clear c12b0
  try clear c16
  try clear c17
  try clear c20
  try clear c21
  try clear c22
  try clear c24
  try clear p28
  try clear q28
  try clear hx28
  try clear c29
  try clear c29b0
  try clear c29b1
  try clear c30
  try clear c30b0
  try clear c31
  try clear c32
  try clear c33
  try clear c36
  try clear c37
  try clear c37b0
  try clear c37b1
  try clear c38
  try clear c38b0
  try clear c39
  try clear c40
  try clear c41
  try clear c43
  try clear c44
  try clear c48
  try clear c49
  try clear c50
  try clear c52
  try clear c53
  try clear c57
  try clear c58
  try clear c59
  try clear c61
  try clear c62
  try clear p64
  try clear c65
  try clear c66
  try clear c67
  try clear c69
  try clear c70
  try clear hcz18_0 hcz18_1 hcz23_0 hcz23_1 hcz23_2 hcz23_3 hcz25_0 hcz25_1 hcz25_2 hcz25_3 hcz25_4 hcz25_5 hcz27_0 hcz27_1 hcz34_0 hcz34_1 hcz34_2 hcz34_3 hcz34_4 hcz34_5 hcz42_0 hcz42_1 hcz42_2 hcz42_3 hcz42_4 hcz42_5 hcz45_0 hcz45_1 hcz47_0 hcz47_1 hcz47_2 hcz47_3 hcz47_4 hcz47_5 hcz51_0 hcz51_1 hcz51_2 hcz51_3 hcz51_4 hcz51_5 hcz54_0 hcz54_1 hcz56_0 hcz56_1 hcz56_2 hcz56_3 hcz56_4 hcz56_5 hcz60_0 hcz60_1 hcz60_2 hcz60_3 hcz60_4 hcz60_5 hcz63_0 hcz63_1 hcz68_0 hcz68_1 hcz68_2 hcz68_3 hcz68_4 hcz68_5 hcz71_0 hcz71_1 hfz18_0 hfz18_1 hfz23_0 hfz23_1 hfz23_2 hfz23_3 hfz25_0 hfz25_1 hfz25_2 hfz25_3 hfz25_4 hfz25_5 hfz27_0 hfz27_1 hfz34_0 hfz34_1 hfz34_2 hfz34_3 hfz34_4 hfz34_5 hfz42_0 hfz42_1 hfz42_2 hfz42_3 hfz42_4 hfz42_5 hfz45_0 hfz45_1 hfz47_0 hfz47_1 hfz47_2 hfz47_3 hfz47_4 hfz47_5 hfz51_0 hfz51_1 hfz51_2 hfz51_3 hfz51_4 hfz51_5 hfz54_0 hfz54_1 hfz56_0 hfz56_1 hfz56_2 hfz56_3 hfz56_4 hfz56_5 hfz60_0 hfz60_1 hfz60_2 hfz60_3 hfz60_4 hfz60_5 hfz63_0 hfz63_1 hfz68_0 hfz68_1 hfz68_2 hfz68_3 hfz68_4 hfz68_5 hfz71_0 hfz71_1
  try clear hx285_0
  try clear hx285_1
  try clear hx285_2
  try clear hx285_3
  try clear p2
  try clear p28
  try clear p285
  try clear p6
  try clear q2
  try clear q28
  try clear q285
  obtain ⟨kq, x9_4, x10_4, rfl, rfl, HA, HJ4, BK282, BK283, BK284, HB⟩ := hcut
  cases kq with
  | zero => exact absurd HA.out (by simp [first_one.j2])
  | succ kj4 =>
   have H := HA.out
   clear HA
   simp only [first_one.j2] at H
   by_cases c73 : x9_4 ≥ 0
   ·rw [if_pos c73] at H
    have c73b0 := decide_eq_true c73
    clear c73
    by_cases c74 : 0 ≤ x9_4
    ·rw [if_pos c74] at H
     have c74b0 := decide_eq_true c74
     clear c74
     by_cases c75 : x9_4 < (l0_1.length : Int)
     ·rw [if_pos c75] at H
      have c75b0 := decide_eq_true c75
      clear c75
      replace H := Option.bind_eq_some_iff.mp H
      obtain ⟨⟨t292, t293, t294, t295⟩, A760, H⟩ := H
      replace H : (some (t292, t293, t294, t295)) = some (r1, r2, r3, r4) := H
      have A76 := Aside0.mk A760
      clear A760
      simp only [Option.some.injEq, Prod.mk.injEq] at H
      obtain ⟨rfl, rfl, rfl, rfl⟩ := H
      try go_wp2
      have n0_ := Aside0.mk (blk_drew BK282.out)
      have n1_ := Aside0.mk (blk_drew BK283.out)
      have n2_ := Aside0.mk (blk_drew BK284.out)
      have n3_ := Aside0.mk (below_drew1 HB.out)
      clear BK282
      clear BK283
      clear BK284
      clear HB
      have BK282 := n0_
      have BK283 := n1_
      have BK284 := n2_
      have HB := n3_
      clear n0_ n1_ n2_ n3_
      have p291 : 0 ≤ (x9_4 : Int) := oda
      have q291 : x9_4 < (l0_1.length : Int) := oda
      obtain ⟨ad291, e291, hx291_0⟩ := Kd.at_int HR0_1.out x9_4 p291 q291
      have hw291_0 := hx291_0
      cases e291
      replace hx291_0 := bc HB hx291_0
      replace p291 := eq_true p291
      replace q291 := eq_true q291
      refine start_ (n := 12) (S := fun w' => w'.cell? ⟨gb282, 0, none⟩ = some (.slice A0_0 l0_0.length c0_0) ∧ w'.cell? ⟨gb282, 1, none⟩ = some (.slice (some ad291) l0_1.length c0_1) ∧ w'.cell? ⟨gb283, 0, none⟩ = some (.int .i64 a3_0) ∧ w'.cell? ⟨gb283, 1, none⟩ = some (.int .i64 a3_1) ∧ w'.cell? ⟨gb283, 2, none⟩ = some (.int .u8 a3_2) ∧ w'.cell? ⟨gb283, 3, none⟩ = some (.int .i64 a3_3) ∧ w'.cell? ⟨gb283, 4, none⟩ = some (.int .i64 a3_4) ∧ w'.cell? ⟨gb283, 5, none⟩ = some (.float .f64 a3_5) ∧ w'.cell? (ad291.add (x9_4).toNat) = some (.int .u8 (rd l0_1 x9_4))) (ds := []) #[false, false, false, false, false, false, false, false, false, false, false, false] (by kernel_rfl) rfl rfl ⟨(blk_cell BK282.out 0).trans rfl, (blk_cell BK282.out 1).trans rfl, (blk_cell BK283.out 0).trans rfl, (blk_cell BK283.out 1).trans rfl, (blk_cell BK283.out 2).trans rfl, (blk_cell BK283.out 3).trans rfl, (blk_cell BK283.out 4).trans rfl, (blk_cell BK283.out 5).trans rfl, ((HB.out.cell (World.block_lt_of_cell? w _ hw291_0)).trans hw291_0)⟩ (fun hHeld => ?_); refine with_tabW first_one.tab16 first_one.bits16 (fun HT_ HW_ => ?_)
      generalize wc.drew = w77 at BK282 BK283 BK284 HB hx291_0 hHeld ⊢
      refine pu 1 (some 72) ?_
      refine pu 2 (some 73) ?_
      refine pu 3 (some 74) ?_
      refine pu 5 (some 76) ?_
      refine pu 8 (some 79) ?_
      refine tr 0 (some 71) hHeld ?_
      refine tr 4 (some 75) hHeld ?_
      refine pu 6 (some 77) ?_
      refine tr 7 (some 78) hHeld ?_
      refine tr 9 (some 80) hHeld ?_
      refine on 10 (some 81) fun K hK => ?_
      refine goes_ Tryz.func83 (by kernel_rfl) rfl #[.agg #[.slice A0_0 l0_0.length c0_0, .slice (some ad291) l0_1.length c0_1], .int .i64 a1, .int .i64 x9_4, .int .u8 (rd l0_1 x9_4), .int .i64 a3_1] (by rfl) rfl rfl (by (try simp only [List.map_toArray, List.map_cons, List.map_nil]); first | done | rfl | (simp only [List.length_drop, List.length_take]; rfl)) ?_
      with_reducible refine (span_Make.calls kj4 _ _ l0_0 _ _ l0_1 a1 x9_4 (rd l0_1 x9_4) a3_1 t292 t293 t294 t295 _ ?side1 ?side2 ?side3 ?side4 A76.out).mono ?_
      (case side1 => repeat (first | exact (Kd.C_below HR0_0.out HB.out) | (with_reducible refine Kd.C_alloc ?_ _) | (with_reducible refine Kd.C_drewN ?_ _) | (with_reducible refine Kd.C_drew ?_)))
      (case side2 => exact HC0_0.out)
      (case side3 => repeat (first | exact (Kd.C_below HR0_1.out HB.out) | (with_reducible refine Kd.C_alloc ?_ _) | (with_reducible refine Kd.C_drewN ?_ _) | (with_reducible refine Kd.C_drew ?_)))
      (case side4 => exact HC0_1.out)
      rintro e w78 ⟨rfl, hb⟩
      refine ⟨_, rfl, ?_⟩
      have n0_ := Aside0.mk (bbw BK282 hb)
      have n1_ := Aside0.mk (bbw BK283 hb)
      have n2_ := Aside0.mk (bbw BK284 hb)
      have n3_ := Aside0.mk (below_step bel hb)
      clear BK282
      clear BK283
      clear BK284
      clear HB
      have BK282 := n0_
      have BK283 := n1_
      have BK284 := n2_
      have HB := n3_
      clear n0_ n1_ n2_ n3_
      (try clear hb)
      (try clear hb2)
      (try clear hk)
      (try clear hi)
      refine hK.out _ _ ⟨(blk_cell BK282.out 0).trans rfl, (blk_cell BK282.out 1).trans rfl, (blk_cell BK283.out 0).trans rfl, (blk_cell BK283.out 1).trans rfl, (blk_cell BK283.out 2).trans rfl, (blk_cell BK283.out 3).trans rfl, (blk_cell BK283.out 4).trans rfl, (blk_cell BK283.out 5).trans rfl, ((HB.out.cell (World.block_lt_of_cell? w _ hw291_0)).trans hw291_0)⟩ (fun hHeld => ?_)
      clear hK K
      refine nrm 81 ?_
      refine on 11 none fun K hK => ?_
      have hs79 : w78.cell? ⟨gb284, 0, none⟩ = some (.int .i64 0) := (blk_cell BK284.out 0).trans rfl
      have hfs79 := blk_frozen BK284.out 0
      have hns79_0 := NB282_284.out
      have hns79_1 := NB283_284.out
      have hms79_0 := NB284_282.out
      have hms79_1 := NB284_283.out
      have hs80 : w78.cell? ⟨gb284, 1, none⟩ = some (.int .i64 0) := (blk_cell BK284.out 1).trans rfl
      have hfs80 := blk_frozen BK284.out 1
      have hns80_0 := NB282_284.out
      have hns80_1 := NB283_284.out
      have hms80_0 := NB284_282.out
      have hms80_1 := NB284_283.out
      have hs81 : w78.cell? ⟨gb284, 2, none⟩ = some (.int .i64 0) := (blk_cell BK284.out 2).trans rfl
      have hfs81 := blk_frozen BK284.out 2
      have hns81_0 := NB282_284.out
      have hns81_1 := NB283_284.out
      have hms81_0 := NB284_282.out
      have hms81_1 := NB284_283.out
      have hs82 : w78.cell? ⟨gb284, 3, none⟩ = some (.int .u8 0) := (blk_cell BK284.out 3).trans rfl
      have hfs82 := blk_frozen BK284.out 3
      have hns82_0 := NB282_284.out
      have hns82_1 := NB283_284.out
      have hms82_0 := NB284_282.out
      have hms82_1 := NB284_283.out
      refine skip_ (w1 := ?_) (by rfl) rfl ?_ ?_
      rotate_left
      ·go_simp
       rfl
      refine hK.out _ _ ⟨((cell_far (p := ⟨gb284, _, none⟩) NB282_284.out _).trans (((cell_far (p := ⟨gb284, _, none⟩) NB282_284.out _).trans (((cell_far (p := ⟨gb284, _, none⟩) NB282_284.out _).trans (((cell_far (p := ⟨gb284, _, none⟩) NB282_284.out _).trans (hHeld.1)))))))), ((cell_far (p := ⟨gb284, _, none⟩) NB282_284.out _).trans (((cell_far (p := ⟨gb284, _, none⟩) NB282_284.out _).trans (((cell_far (p := ⟨gb284, _, none⟩) NB282_284.out _).trans (((cell_far (p := ⟨gb284, _, none⟩) NB282_284.out _).trans (hHeld.2.1)))))))), ((cell_far (p := ⟨gb284, _, none⟩) NB283_284.out _).trans (((cell_far (p := ⟨gb284, _, none⟩) NB283_284.out _).trans (((cell_far (p := ⟨gb284, _, none⟩) NB283_284.out _).trans (((cell_far (p := ⟨gb284, _, none⟩) NB283_284.out _).trans (hHeld.2.2.1)))))))), ((cell_far (p := ⟨gb284, _, none⟩) NB283_284.out _).trans (((cell_far (p := ⟨gb284, _, none⟩) NB283_284.out _).trans (((cell_far (p := ⟨gb284, _, none⟩) NB283_284.out _).trans (((cell_far (p := ⟨gb284, _, none⟩) NB283_284.out _).trans (hHeld.2.2.2.1)))))))), ((cell_far (p := ⟨gb284, _, none⟩) NB283_284.out _).trans (((cell_far (p := ⟨gb284, _, none⟩) NB283_284.out _).trans (((cell_far (p := ⟨gb284, _, none⟩) NB283_284.out _).trans (((cell_far (p := ⟨gb284, _, none⟩) NB283_284.out _).trans (hHeld.2.2.2.2.1)))))))), ((cell_far (p := ⟨gb284, _, none⟩) NB283_284.out _).trans (((cell_far (p := ⟨gb284, _, none⟩) NB283_284.out _).trans (((cell_far (p := ⟨gb284, _, none⟩) NB283_284.out _).trans (((cell_far (p := ⟨gb284, _, none⟩) NB283_284.out _).trans (hHeld.2.2.2.2.2.1)))))))), ((cell_far (p := ⟨gb284, _, none⟩) NB283_284.out _).trans (((cell_far (p := ⟨gb284, _, none⟩) NB283_284.out _).trans (((cell_far (p := ⟨gb284, _, none⟩) NB283_284.out _).trans (((cell_far (p := ⟨gb284, _, none⟩) NB283_284.out _).trans (hHeld.2.2.2.2.2.2.1)))))))), ((cell_far (p := ⟨gb284, _, none⟩) NB283_284.out _).trans (((cell_far (p := ⟨gb284, _, none⟩) NB283_284.out _).trans (((cell_far (p := ⟨gb284, _, none⟩) NB283_284.out _).trans (((cell_far (p := ⟨gb284, _, none⟩) NB283_284.out _).trans (hHeld.2.2.2.2.2.2.2.1)))))))), ((cell_far (p := ⟨gb284, _, none⟩) (by first | exact Nat.ne_of_lt (Nat.lt_of_lt_of_le (by have := World.block_lt_of_cell? _ _ hw291_0; first | rwa [add_block] at this | exact this) GW284.out) | (rw [add_block]; exact Nat.ne_of_lt (Nat.lt_of_lt_of_le (by have := World.block_lt_of_cell? _ _ hw291_0; first | rwa [add_block] at this | exact this) GW284.out)) | (show (Addr.add _ _).block ≠ _; rw [add_block]; exact Nat.ne_of_lt (Nat.lt_of_lt_of_le (by have := World.block_lt_of_cell? _ _ hw291_0; first | rwa [add_block] at this | exact this) GW284.out)) | (dsimp only; exact Nat.ne_of_lt (Nat.lt_of_lt_of_le (by have := World.block_lt_of_cell? _ _ hw291_0; first | rwa [add_block] at this | exact this) GW284.out))) _).trans (((cell_far (p := ⟨gb284, _, none⟩) (by first | exact Nat.ne_of_lt (Nat.lt_of_lt_of_le (by have := World.block_lt_of_cell? _ _ hw291_0; first | rwa [add_block] at this | exact this) GW284.out) | (rw [add_block]; exact Nat.ne_of_lt (Nat.lt_of_lt_of_le (by have := World.block_lt_of_cell? _ _ hw291_0; first | rwa [add_block] at this | exact this) GW284.out)) | (show (Addr.add _ _).block ≠ _; rw [add_block]; exact Nat.ne_of_lt (Nat.lt_of_lt_of_le (by have := World.block_lt_of_cell? _ _ hw291_0; first | rwa [add_block] at this | exact this) GW284.out)) | (dsimp only; exact Nat.ne_of_lt (Nat.lt_of_lt_of_le (by have := World.block_lt_of_cell? _ _ hw291_0; first | rwa [add_block] at this | exact this) GW284.out))) _).trans (((cell_far (p := ⟨gb284, _, none⟩) (by first | exact Nat.ne_of_lt (Nat.lt_of_lt_of_le (by have := World.block_lt_of_cell? _ _ hw291_0; first | rwa [add_block] at this | exact this) GW284.out) | (rw [add_block]; exact Nat.ne_of_lt (Nat.lt_of_lt_of_le (by have := World.block_lt_of_cell? _ _ hw291_0; first | rwa [add_block] at this | exact this) GW284.out)) | (show (Addr.add _ _).block ≠ _; rw [add_block]; exact Nat.ne_of_lt (Nat.lt_of_lt_of_le (by have := World.block_lt_of_cell? _ _ hw291_0; first | rwa [add_block] at this | exact this) GW284.out)) | (dsimp only; exact Nat.ne_of_lt (Nat.lt_of_lt_of_le (by have := World.block_lt_of_cell? _ _ hw291_0; first | rwa [add_block] at this | exact this) GW284.out))) _).trans (((cell_far (p := ⟨gb284, _, none⟩) (by first | exact Nat.ne_of_lt (Nat.lt_of_lt_of_le (by have := World.block_lt_of_cell? _ _ hw291_0; first | rwa [add_block] at this | exact this) GW284.out) | (rw [add_block]; exact Nat.ne_of_lt (Nat.lt_of_lt_of_le (by have := World.block_lt_of_cell? _ _ hw291_0; first | rwa [add_block] at this | exact this) GW284.out)) | (show (Addr.add _ _).block ≠ _; rw [add_block]; exact Nat.ne_of_lt (Nat.lt_of_lt_of_le (by have := World.block_lt_of_cell? _ _ hw291_0; first | rwa [add_block] at this | exact this) GW284.out)) | (dsimp only; exact Nat.ne_of_lt (Nat.lt_of_lt_of_le (by have := World.block_lt_of_cell? _ _ hw291_0; first | rwa [add_block] at this | exact this) GW284.out))) _).trans (hHeld.2.2.2.2.2.2.2.2))))))))⟩ (fun hHeld => ?_)
      clear hK K
      refine done_ (done_of HT_.out (by kernel_rfl)) ?_
      try go_wp2
      refine bodyPost_ret (results_cell_row rfl _ _ gb284 127 #[.int .i64 t292, .int .i64 t293, .int .i64 t294, .int .u8 t295] (0, 0) _ rfl (by (with_reducible repeat (first | refine blk_drewN ?_ _ | refine blk_drew ?_ | refine blk_alloc ?_ _)); refine blk_put (cs := #[.int .i64 t292, .int .i64 t293, .int .i64 t294, .int .u8 0]) ?_ 3 _ rfl; (with_reducible repeat (first | refine blk_drewN ?_ _ | refine blk_drew ?_ | refine blk_alloc ?_ _)); refine blk_put (cs := #[.int .i64 t292, .int .i64 t293, .int .i64 0, .int .u8 0]) ?_ 2 _ rfl; (with_reducible repeat (first | refine blk_drewN ?_ _ | refine blk_drew ?_ | refine blk_alloc ?_ _)); refine blk_put (cs := #[.int .i64 t292, .int .i64 0, .int .i64 0, .int .u8 0]) ?_ 1 _ rfl; (with_reducible repeat (first | refine blk_drewN ?_ _ | refine blk_drew ?_ | refine blk_alloc ?_ _)); refine blk_put (cs := #[.int .i64 0, .int .i64 0, .int .i64 0, .int .u8 0]) ?_ 0 _ rfl; (with_reducible repeat (first | refine blk_drewN ?_ _ | refine blk_drew ?_ | refine blk_alloc ?_ _)); exact BK284.out) Tryz.underlying127 rfl (by kernel_rfl)) rfl ?_
      exact ⟨eqv, bel⟩
     ·rw [if_neg c75] at H
      exact absurd H (by simp)
    ·rw [if_neg c74] at H
     exact absurd H (by simp)
   ·rw [if_neg c73] at H
    have c73b0 := decide_eq_false c73
    clear c73
    by_cases c83 : x10_4 = a2
    ·rw [if_pos c83] at H
     have c83b0 : (x10_4 == a2) = true := beq_iff_eq.mpr c83
     have c83b1 : (x10_4 != a2) = false := bne_eq_false_iff_eq.mpr c83
     clear c83
     by_cases c84 : 0 ≤ a2
     ·rw [if_pos c84] at H
      have c84b0 := decide_eq_true c84
      clear c84
      by_cases c85 : a2 < (l0_1.length : Int)
      ·rw [if_pos c85] at H
       have c85b0 := decide_eq_true c85
       clear c85
       by_cases c86 : x10_4 < a2
       ·rw [if_pos c86] at H
        have c86b0 := decide_eq_true c86
        clear c86
        by_cases c87 : 0 ≤ x10_4
        ·rw [if_pos c87] at H
         have c87b0 := decide_eq_true c87
         clear c87
         by_cases c88 : x10_4 < (l0_1.length : Int)
         ·rw [if_pos c88] at H
          have c88b0 := decide_eq_true c88
          clear c88
          by_cases c89 : (rd l0_1 x10_4) = 1
          ·rw [if_pos c89] at H
           have c89b0 : ((rd l0_1 x10_4) == 1) = true := beq_iff_eq.mpr c89
           have c89b1 : ((rd l0_1 x10_4) != 1) = false := bne_eq_false_iff_eq.mpr c89
           clear c89
           replace H := Option.bind_eq_some_iff.mp H
           obtain ⟨⟨t298, t299, t300, t301⟩, A900, H⟩ := H
           replace H : (some (t298, t299, t300, t301)) = some (r1, r2, r3, r4) := H
           have A90 := Aside0.mk A900
           clear A900
           simp only [Option.some.injEq, Prod.mk.injEq] at H
           obtain ⟨rfl, rfl, rfl, rfl⟩ := H
           have hnb91 := NB282_283.out
           have hnc91 := NB283_282.out
           have hnb92 := NB282_284.out
           have hnc92 := NB284_282.out
           obtain ⟨hcz93_0, hcz93_1, hfz93_0, hfz93_1⟩ := cs2 BK282
           have p296 : 0 ≤ (a2 : Int) := oda
           have q296 : a2 < (l0_1.length : Int) := oda
           obtain ⟨ad296, e296, hx296_0⟩ := Kd.at_int HR0_1.out a2 p296 q296
           cases e296
           replace hx296_0 := bc HB hx296_0
           replace p296 := eq_true p296
           replace q296 := eq_true q296
           have p297 : 0 ≤ (x10_4 : Int) := oda
           have q297 : x10_4 < (l0_1.length : Int) := oda
           obtain ⟨ad297, e297, hx297_0⟩ := Kd.at_int HR0_1.out x10_4 p297 q297
           obtain rfl : ad296 = ad297 := (by injection e297)
           replace hx297_0 := bc HB hx297_0
           replace p297 := eq_true p297
           replace q297 := eq_true q297
           have hnb94 := NB283_284.out
           have hnc94 := NB284_283.out
           obtain ⟨hcz95_0, hcz95_1, hcz95_2, hcz95_3, hcz95_4, hcz95_5, hfz95_0, hfz95_1, hfz95_2, hfz95_3, hfz95_4, hfz95_5⟩ := cs6 BK283
           go_wp2_with (first | ((with_reducible refine gate_callee (f := 83) rfl ?_); refine goesL_ (some 107) rfl rfl Tryz.func83 (by kernel_rfl) rfl #[.agg #[.slice A0_0 l0_0.length c0_0, .slice (some ad296) l0_1.length c0_1], .int .i64 a1, .int .i64 x10_4, .int .u8 1, .int .i64 a3_1] rfl (by (try simp only [List.map_toArray, List.map_cons, List.map_nil]); first | done | rfl | (simp only [List.length_drop, List.length_take]; rfl)) ?_; (with_reducible refine (span_Make.calls kj4 _ _ l0_0 _ _ l0_1 a1 x10_4 1 a3_1 t298 t299 t300 t301 _ (cup HR0_0) HC0_0.out (cup HR0_1) HC0_1.out A90.out).mono ?_); rintro e w96 ⟨rfl, hb⟩; refine ⟨_, rfl, ?_⟩; have n0_ := Aside0.mk (bbw BK282 hb); have n1_ := Aside0.mk (bbw BK283 hb); have n2_ := Aside0.mk (bbw BK284 hb); have n3_ := Aside0.mk (below_step bel hb); clear BK282 BK283 BK284 HB; revert n0_ n1_ n2_ n3_; intro BK282 BK283 BK284 HB; (try clear hb); (try clear hb2); (try clear hk); (try clear hi); obtain ⟨hcz97_0, hcz97_1, hcz97_2, hcz97_3, hfz97_0, hfz97_1, hfz97_2, hfz97_3⟩ := cs4 BK284))
           refine bodyPost_ret (results_cell_row rfl _ _ gb284 127 #[.int .i64 t298, .int .i64 t299, .int .i64 t300, .int .u8 t301] (0, 0) _ rfl (by (with_reducible repeat (first | refine blk_drewN ?_ _ | refine blk_drew ?_ | refine blk_alloc ?_ _)); refine blk_put (cs := #[.int .i64 t298, .int .i64 t299, .int .i64 t300, .int .u8 0]) ?_ 3 _ rfl; (with_reducible repeat (first | refine blk_drewN ?_ _ | refine blk_drew ?_ | refine blk_alloc ?_ _)); refine blk_put (cs := #[.int .i64 t298, .int .i64 t299, .int .i64 0, .int .u8 0]) ?_ 2 _ rfl; (with_reducible repeat (first | refine blk_drewN ?_ _ | refine blk_drew ?_ | refine blk_alloc ?_ _)); refine blk_put (cs := #[.int .i64 t298, .int .i64 0, .int .i64 0, .int .u8 0]) ?_ 1 _ rfl; (with_reducible repeat (first | refine blk_drewN ?_ _ | refine blk_drew ?_ | refine blk_alloc ?_ _)); refine blk_put (cs := #[.int .i64 0, .int .i64 0, .int .i64 0, .int .u8 0]) ?_ 0 _ rfl; (with_reducible repeat (first | refine blk_drewN ?_ _ | refine blk_drew ?_ | refine blk_alloc ?_ _)); exact BK284.out) Tryz.underlying127 rfl (by kernel_rfl)) rfl ?_
           exact ⟨eqv, bel⟩
          ·rw [if_neg c89] at H
           have c89b0 : ((rd l0_1 x10_4) == 1) = false := beq_eq_false_iff_ne.mpr c89
           have c89b1 : ((rd l0_1 x10_4) != 1) = true := bne_iff_ne.mpr c89
           replace H := Option.bind_eq_some_iff.mp H
           obtain ⟨⟨t302, t303, t304, t305⟩, A980, H⟩ := H
           replace H : (some (t302, t303, t304, t305)) = some (r1, r2, r3, r4) := H
           have A98 := Aside0.mk A980
           clear A980
           simp only [Option.some.injEq, Prod.mk.injEq] at H
           obtain ⟨rfl, rfl, rfl, rfl⟩ := H
           have hnb99 := NB282_283.out
           have hnc99 := NB283_282.out
           have hnb100 := NB282_284.out
           have hnc100 := NB284_282.out
           obtain ⟨hcz101_0, hcz101_1, hfz101_0, hfz101_1⟩ := cs2 BK282
           have p296 : 0 ≤ (a2 : Int) := oda
           have q296 : a2 < (l0_1.length : Int) := oda
           obtain ⟨ad296, e296, hx296_0⟩ := Kd.at_int HR0_1.out a2 p296 q296
           cases e296
           replace hx296_0 := bc HB hx296_0
           replace p296 := eq_true p296
           replace q296 := eq_true q296
           have p297 : 0 ≤ (x10_4 : Int) := oda
           have q297 : x10_4 < (l0_1.length : Int) := oda
           obtain ⟨ad297, e297, hx297_0⟩ := Kd.at_int HR0_1.out x10_4 p297 q297
           obtain rfl : ad296 = ad297 := (by injection e297)
           replace hx297_0 := bc HB hx297_0
           replace p297 := eq_true p297
           replace q297 := eq_true q297
           have hnb102 := NB283_284.out
           have hnc102 := NB284_283.out
           obtain ⟨hcz103_0, hcz103_1, hcz103_2, hcz103_3, hcz103_4, hcz103_5, hfz103_0, hfz103_1, hfz103_2, hfz103_3, hfz103_4, hfz103_5⟩ := cs6 BK283
           go_wp2_with (first | ((with_reducible refine gate_callee (f := 83) rfl ?_); refine goesL_ (some 107) rfl rfl Tryz.func83 (by kernel_rfl) rfl #[.agg #[.slice A0_0 l0_0.length c0_0, .slice (some ad296) l0_1.length c0_1], .int .i64 a1, .int .i64 x10_4, .int .u8 (rd l0_1 a2), .int .i64 a3_1] rfl (by (try simp only [List.map_toArray, List.map_cons, List.map_nil]); first | done | rfl | (simp only [List.length_drop, List.length_take]; rfl)) ?_; (with_reducible refine (span_Make.calls kj4 _ _ l0_0 _ _ l0_1 a1 x10_4 (rd l0_1 a2) a3_1 t302 t303 t304 t305 _ (cup HR0_0) HC0_0.out (cup HR0_1) HC0_1.out A98.out).mono ?_); rintro e w104 ⟨rfl, hb⟩; refine ⟨_, rfl, ?_⟩; have n0_ := Aside0.mk (bbw BK282 hb); have n1_ := Aside0.mk (bbw BK283 hb); have n2_ := Aside0.mk (bbw BK284 hb); have n3_ := Aside0.mk (below_step bel hb); clear BK282 BK283 BK284 HB; revert n0_ n1_ n2_ n3_; intro BK282 BK283 BK284 HB; (try clear hb); (try clear hb2); (try clear hk); (try clear hi); obtain ⟨hcz105_0, hcz105_1, hcz105_2, hcz105_3, hfz105_0, hfz105_1, hfz105_2, hfz105_3⟩ := cs4 BK284))
           refine bodyPost_ret (results_cell_row rfl _ _ gb284 127 #[.int .i64 t302, .int .i64 t303, .int .i64 t304, .int .u8 t305] (0, 0) _ rfl (by (with_reducible repeat (first | refine blk_drewN ?_ _ | refine blk_drew ?_ | refine blk_alloc ?_ _)); refine blk_put (cs := #[.int .i64 t302, .int .i64 t303, .int .i64 t304, .int .u8 0]) ?_ 3 _ rfl; (with_reducible repeat (first | refine blk_drewN ?_ _ | refine blk_drew ?_ | refine blk_alloc ?_ _)); refine blk_put (cs := #[.int .i64 t302, .int .i64 t303, .int .i64 0, .int .u8 0]) ?_ 2 _ rfl; (with_reducible repeat (first | refine blk_drewN ?_ _ | refine blk_drew ?_ | refine blk_alloc ?_ _)); refine blk_put (cs := #[.int .i64 t302, .int .i64 0, .int .i64 0, .int .u8 0]) ?_ 1 _ rfl; (with_reducible repeat (first | refine blk_drewN ?_ _ | refine blk_drew ?_ | refine blk_alloc ?_ _)); refine blk_put (cs := #[.int .i64 0, .int .i64 0, .int .i64 0, .int .u8 0]) ?_ 0 _ rfl; (with_reducible repeat (first | refine blk_drewN ?_ _ | refine blk_drew ?_ | refine blk_alloc ?_ _)); exact BK284.out) Tryz.underlying127 rfl (by kernel_rfl)) rfl ?_
           exact ⟨eqv, bel⟩
         ·rw [if_neg c88] at H
          exact absurd H (by simp)
        ·rw [if_neg c87] at H
         exact absurd H (by simp)
       ·rw [if_neg c86] at H
        have c86b0 := decide_eq_false c86
        clear c86
        replace H := Option.bind_eq_some_iff.mp H
        obtain ⟨⟨t306, t307, t308, t309⟩, A1060, H⟩ := H
        replace H : (some (t306, t307, t308, t309)) = some (r1, r2, r3, r4) := H
        have A106 := Aside0.mk A1060
        clear A1060
        simp only [Option.some.injEq, Prod.mk.injEq] at H
        obtain ⟨rfl, rfl, rfl, rfl⟩ := H
        have hnb107 := NB282_283.out
        have hnc107 := NB283_282.out
        have hnb108 := NB282_284.out
        have hnc108 := NB284_282.out
        obtain ⟨hcz109_0, hcz109_1, hfz109_0, hfz109_1⟩ := cs2 BK282
        have p296 : 0 ≤ (a2 : Int) := oda
        have q296 : a2 < (l0_1.length : Int) := oda
        obtain ⟨ad296, e296, hx296_0⟩ := Kd.at_int HR0_1.out a2 p296 q296
        cases e296
        replace hx296_0 := bc HB hx296_0
        replace p296 := eq_true p296
        replace q296 := eq_true q296
        have hnb110 := NB283_284.out
        have hnc110 := NB284_283.out
        obtain ⟨hcz111_0, hcz111_1, hcz111_2, hcz111_3, hcz111_4, hcz111_5, hfz111_0, hfz111_1, hfz111_2, hfz111_3, hfz111_4, hfz111_5⟩ := cs6 BK283
        go_wp2_with (first | ((with_reducible refine gate_callee (f := 83) rfl ?_); refine goesL_ (some 107) rfl rfl Tryz.func83 (by kernel_rfl) rfl #[.agg #[.slice A0_0 l0_0.length c0_0, .slice (some ad296) l0_1.length c0_1], .int .i64 a1, .int .i64 x10_4, .int .u8 (rd l0_1 a2), .int .i64 a3_1] rfl (by (try simp only [List.map_toArray, List.map_cons, List.map_nil]); first | done | rfl | (simp only [List.length_drop, List.length_take]; rfl)) ?_; (with_reducible refine (span_Make.calls kj4 _ _ l0_0 _ _ l0_1 a1 x10_4 (rd l0_1 a2) a3_1 t306 t307 t308 t309 _ (cup HR0_0) HC0_0.out (cup HR0_1) HC0_1.out A106.out).mono ?_); rintro e w112 ⟨rfl, hb⟩; refine ⟨_, rfl, ?_⟩; have n0_ := Aside0.mk (bbw BK282 hb); have n1_ := Aside0.mk (bbw BK283 hb); have n2_ := Aside0.mk (bbw BK284 hb); have n3_ := Aside0.mk (below_step bel hb); clear BK282 BK283 BK284 HB; revert n0_ n1_ n2_ n3_; intro BK282 BK283 BK284 HB; (try clear hb); (try clear hb2); (try clear hk); (try clear hi); obtain ⟨hcz113_0, hcz113_1, hcz113_2, hcz113_3, hfz113_0, hfz113_1, hfz113_2, hfz113_3⟩ := cs4 BK284))
        refine bodyPost_ret (results_cell_row rfl _ _ gb284 127 #[.int .i64 t306, .int .i64 t307, .int .i64 t308, .int .u8 t309] (0, 0) _ rfl (by (with_reducible repeat (first | refine blk_drewN ?_ _ | refine blk_drew ?_ | refine blk_alloc ?_ _)); refine blk_put (cs := #[.int .i64 t306, .int .i64 t307, .int .i64 t308, .int .u8 0]) ?_ 3 _ rfl; (with_reducible repeat (first | refine blk_drewN ?_ _ | refine blk_drew ?_ | refine blk_alloc ?_ _)); refine blk_put (cs := #[.int .i64 t306, .int .i64 t307, .int .i64 0, .int .u8 0]) ?_ 2 _ rfl; (with_reducible repeat (first | refine blk_drewN ?_ _ | refine blk_drew ?_ | refine blk_alloc ?_ _)); refine blk_put (cs := #[.int .i64 t306, .int .i64 0, .int .i64 0, .int .u8 0]) ?_ 1 _ rfl; (with_reducible repeat (first | refine blk_drewN ?_ _ | refine blk_drew ?_ | refine blk_alloc ?_ _)); refine blk_put (cs := #[.int .i64 0, .int .i64 0, .int .i64 0, .int .u8 0]) ?_ 0 _ rfl; (with_reducible repeat (first | refine blk_drewN ?_ _ | refine blk_drew ?_ | refine blk_alloc ?_ _)); exact BK284.out) Tryz.underlying127 rfl (by kernel_rfl)) rfl ?_
        exact ⟨eqv, bel⟩
      ·rw [if_neg c85] at H
       exact absurd H (by simp)
     ·rw [if_neg c84] at H
      exact absurd H (by simp)
    ·rw [if_neg c83] at H
     have c83b0 : (x10_4 == a2) = false := beq_eq_false_iff_ne.mpr c83
     have c83b1 : (x10_4 != a2) = true := bne_iff_ne.mpr c83
     by_cases c114 : x10_4 < a2
     ·rw [if_pos c114] at H
      have c114b0 := decide_eq_true c114
      clear c114
      by_cases c115 : 0 ≤ x10_4
      ·rw [if_pos c115] at H
       have c115b0 := decide_eq_true c115
       clear c115
       by_cases c116 : x10_4 < (l0_1.length : Int)
       ·rw [if_pos c116] at H
        have c116b0 := decide_eq_true c116
        clear c116
        by_cases c117 : (rd l0_1 x10_4) = 1
        ·rw [if_pos c117] at H
         have c117b0 : ((rd l0_1 x10_4) == 1) = true := beq_iff_eq.mpr c117
         have c117b1 : ((rd l0_1 x10_4) != 1) = false := bne_eq_false_iff_eq.mpr c117
         clear c117
         replace H := Option.bind_eq_some_iff.mp H
         obtain ⟨⟨t311, t312, t313, t314⟩, A1180, H⟩ := H
         replace H : (some (t311, t312, t313, t314)) = some (r1, r2, r3, r4) := H
         have A118 := Aside0.mk A1180
         clear A1180
         simp only [Option.some.injEq, Prod.mk.injEq] at H
         obtain ⟨rfl, rfl, rfl, rfl⟩ := H
         have hnb119 := NB282_283.out
         have hnc119 := NB283_282.out
         have hnb120 := NB282_284.out
         have hnc120 := NB284_282.out
         obtain ⟨hcz121_0, hcz121_1, hfz121_0, hfz121_1⟩ := cs2 BK282
         have p310 : 0 ≤ (x10_4 : Int) := oda
         have q310 : x10_4 < (l0_1.length : Int) := oda
         obtain ⟨ad310, e310, hx310_0⟩ := Kd.at_int HR0_1.out x10_4 p310 q310
         cases e310
         replace hx310_0 := bc HB hx310_0
         replace p310 := eq_true p310
         replace q310 := eq_true q310
         have hnb122 := NB283_284.out
         have hnc122 := NB284_283.out
         obtain ⟨hcz123_0, hcz123_1, hcz123_2, hcz123_3, hcz123_4, hcz123_5, hfz123_0, hfz123_1, hfz123_2, hfz123_3, hfz123_4, hfz123_5⟩ := cs6 BK283
         go_wp2_with (first | ((with_reducible refine gate_callee (f := 83) rfl ?_); refine goesL_ (some 107) rfl rfl Tryz.func83 (by kernel_rfl) rfl #[.agg #[.slice A0_0 l0_0.length c0_0, .slice (some ad310) l0_1.length c0_1], .int .i64 a1, .int .i64 x10_4, .int .u8 1, .int .i64 a3_1] rfl (by (try simp only [List.map_toArray, List.map_cons, List.map_nil]); first | done | rfl | (simp only [List.length_drop, List.length_take]; rfl)) ?_; (with_reducible refine (span_Make.calls kj4 _ _ l0_0 _ _ l0_1 a1 x10_4 1 a3_1 t311 t312 t313 t314 _ (cup HR0_0) HC0_0.out (cup HR0_1) HC0_1.out A118.out).mono ?_); rintro e w124 ⟨rfl, hb⟩; refine ⟨_, rfl, ?_⟩; have n0_ := Aside0.mk (bbw BK282 hb); have n1_ := Aside0.mk (bbw BK283 hb); have n2_ := Aside0.mk (bbw BK284 hb); have n3_ := Aside0.mk (below_step bel hb); clear BK282 BK283 BK284 HB; revert n0_ n1_ n2_ n3_; intro BK282 BK283 BK284 HB; (try clear hb); (try clear hb2); (try clear hk); (try clear hi); obtain ⟨hcz125_0, hcz125_1, hcz125_2, hcz125_3, hfz125_0, hfz125_1, hfz125_2, hfz125_3⟩ := cs4 BK284))
         refine bodyPost_ret (results_cell_row rfl _ _ gb284 127 #[.int .i64 t311, .int .i64 t312, .int .i64 t313, .int .u8 t314] (0, 0) _ rfl (by (with_reducible repeat (first | refine blk_drewN ?_ _ | refine blk_drew ?_ | refine blk_alloc ?_ _)); refine blk_put (cs := #[.int .i64 t311, .int .i64 t312, .int .i64 t313, .int .u8 0]) ?_ 3 _ rfl; (with_reducible repeat (first | refine blk_drewN ?_ _ | refine blk_drew ?_ | refine blk_alloc ?_ _)); refine blk_put (cs := #[.int .i64 t311, .int .i64 t312, .int .i64 0, .int .u8 0]) ?_ 2 _ rfl; (with_reducible repeat (first | refine blk_drewN ?_ _ | refine blk_drew ?_ | refine blk_alloc ?_ _)); refine blk_put (cs := #[.int .i64 t311, .int .i64 0, .int .i64 0, .int .u8 0]) ?_ 1 _ rfl; (with_reducible repeat (first | refine blk_drewN ?_ _ | refine blk_drew ?_ | refine blk_alloc ?_ _)); refine blk_put (cs := #[.int .i64 0, .int .i64 0, .int .i64 0, .int .u8 0]) ?_ 0 _ rfl; (with_reducible repeat (first | refine blk_drewN ?_ _ | refine blk_drew ?_ | refine blk_alloc ?_ _)); exact BK284.out) Tryz.underlying127 rfl (by kernel_rfl)) rfl ?_
         exact ⟨eqv, bel⟩
        ·rw [if_neg c117] at H
         have c117b0 : ((rd l0_1 x10_4) == 1) = false := beq_eq_false_iff_ne.mpr c117
         have c117b1 : ((rd l0_1 x10_4) != 1) = true := bne_iff_ne.mpr c117
         replace H := Option.bind_eq_some_iff.mp H
         obtain ⟨⟨t315, t316, t317, t318⟩, A1260, H⟩ := H
         replace H : (some (t315, t316, t317, t318)) = some (r1, r2, r3, r4) := H
         have A126 := Aside0.mk A1260
         clear A1260
         simp only [Option.some.injEq, Prod.mk.injEq] at H
         obtain ⟨rfl, rfl, rfl, rfl⟩ := H
         have hnb127 := NB282_283.out
         have hnc127 := NB283_282.out
         have hnb128 := NB282_284.out
         have hnc128 := NB284_282.out
         obtain ⟨hcz129_0, hcz129_1, hfz129_0, hfz129_1⟩ := cs2 BK282
         have p310 : 0 ≤ (x10_4 : Int) := oda
         have q310 : x10_4 < (l0_1.length : Int) := oda
         obtain ⟨ad310, e310, hx310_0⟩ := Kd.at_int HR0_1.out x10_4 p310 q310
         cases e310
         replace hx310_0 := bc HB hx310_0
         replace p310 := eq_true p310
         replace q310 := eq_true q310
         have hnb130 := NB283_284.out
         have hnc130 := NB284_283.out
         obtain ⟨hcz131_0, hcz131_1, hcz131_2, hcz131_3, hcz131_4, hcz131_5, hfz131_0, hfz131_1, hfz131_2, hfz131_3, hfz131_4, hfz131_5⟩ := cs6 BK283
         go_wp2_with (first | ((with_reducible refine gate_callee (f := 83) rfl ?_); refine goesL_ (some 107) rfl rfl Tryz.func83 (by kernel_rfl) rfl #[.agg #[.slice A0_0 l0_0.length c0_0, .slice (some ad310) l0_1.length c0_1], .int .i64 a1, .int .i64 x10_4, .int .u8 4, .int .i64 a3_1] rfl (by (try simp only [List.map_toArray, List.map_cons, List.map_nil]); first | done | rfl | (simp only [List.length_drop, List.length_take]; rfl)) ?_; (with_reducible refine (span_Make.calls kj4 _ _ l0_0 _ _ l0_1 a1 x10_4 4 a3_1 t315 t316 t317 t318 _ (cup HR0_0) HC0_0.out (cup HR0_1) HC0_1.out A126.out).mono ?_); rintro e w132 ⟨rfl, hb⟩; refine ⟨_, rfl, ?_⟩; have n0_ := Aside0.mk (bbw BK282 hb); have n1_ := Aside0.mk (bbw BK283 hb); have n2_ := Aside0.mk (bbw BK284 hb); have n3_ := Aside0.mk (below_step bel hb); clear BK282 BK283 BK284 HB; revert n0_ n1_ n2_ n3_; intro BK282 BK283 BK284 HB; (try clear hb); (try clear hb2); (try clear hk); (try clear hi); obtain ⟨hcz133_0, hcz133_1, hcz133_2, hcz133_3, hfz133_0, hfz133_1, hfz133_2, hfz133_3⟩ := cs4 BK284))
         refine bodyPost_ret (results_cell_row rfl _ _ gb284 127 #[.int .i64 t315, .int .i64 t316, .int .i64 t317, .int .u8 t318] (0, 0) _ rfl (by (with_reducible repeat (first | refine blk_drewN ?_ _ | refine blk_drew ?_ | refine blk_alloc ?_ _)); refine blk_put (cs := #[.int .i64 t315, .int .i64 t316, .int .i64 t317, .int .u8 0]) ?_ 3 _ rfl; (with_reducible repeat (first | refine blk_drewN ?_ _ | refine blk_drew ?_ | refine blk_alloc ?_ _)); refine blk_put (cs := #[.int .i64 t315, .int .i64 t316, .int .i64 0, .int .u8 0]) ?_ 2 _ rfl; (with_reducible repeat (first | refine blk_drewN ?_ _ | refine blk_drew ?_ | refine blk_alloc ?_ _)); refine blk_put (cs := #[.int .i64 t315, .int .i64 0, .int .i64 0, .int .u8 0]) ?_ 1 _ rfl; (with_reducible repeat (first | refine blk_drewN ?_ _ | refine blk_drew ?_ | refine blk_alloc ?_ _)); refine blk_put (cs := #[.int .i64 0, .int .i64 0, .int .i64 0, .int .u8 0]) ?_ 0 _ rfl; (with_reducible repeat (first | refine blk_drewN ?_ _ | refine blk_drew ?_ | refine blk_alloc ?_ _)); exact BK284.out) Tryz.underlying127 rfl (by kernel_rfl)) rfl ?_
         exact ⟨eqv, bel⟩
       ·rw [if_neg c116] at H
        exact absurd H (by simp)
      ·rw [if_neg c115] at H
       exact absurd H (by simp)
     ·rw [if_neg c114] at H
      have c114b0 := decide_eq_false c114
      clear c114
      replace H := Option.bind_eq_some_iff.mp H
      obtain ⟨⟨t319, t320, t321, t322⟩, A1340, H⟩ := H
      replace H : (some (t319, t320, t321, t322)) = some (r1, r2, r3, r4) := H
      have A134 := Aside0.mk A1340
      clear A1340
      simp only [Option.some.injEq, Prod.mk.injEq] at H
      obtain ⟨rfl, rfl, rfl, rfl⟩ := H
      have hnb135 := NB282_283.out
      have hnc135 := NB283_282.out
      have hnb136 := NB282_284.out
      have hnc136 := NB284_282.out
      obtain ⟨hcz137_0, hcz137_1, hfz137_0, hfz137_1⟩ := cs2 BK282
      have hnb138 := NB283_284.out
      have hnc138 := NB284_283.out
      obtain ⟨hcz139_0, hcz139_1, hcz139_2, hcz139_3, hcz139_4, hcz139_5, hfz139_0, hfz139_1, hfz139_2, hfz139_3, hfz139_4, hfz139_5⟩ := cs6 BK283
      go_wp2_with (first | ((with_reducible refine gate_callee (f := 83) rfl ?_); refine goesL_ (some 107) rfl rfl Tryz.func83 (by kernel_rfl) rfl #[.agg #[.slice A0_0 l0_0.length c0_0, .slice A0_1 l0_1.length c0_1], .int .i64 a1, .int .i64 x10_4, .int .u8 4, .int .i64 a3_1] rfl (by (try simp only [List.map_toArray, List.map_cons, List.map_nil]); first | done | rfl | (simp only [List.length_drop, List.length_take]; rfl)) ?_; (with_reducible refine (span_Make.calls kj4 _ _ l0_0 _ _ l0_1 a1 x10_4 4 a3_1 t319 t320 t321 t322 _ (cup HR0_0) HC0_0.out (cup HR0_1) HC0_1.out A134.out).mono ?_); rintro e w140 ⟨rfl, hb⟩; refine ⟨_, rfl, ?_⟩; have n0_ := Aside0.mk (bbw BK282 hb); have n1_ := Aside0.mk (bbw BK283 hb); have n2_ := Aside0.mk (bbw BK284 hb); have n3_ := Aside0.mk (below_step bel hb); clear BK282 BK283 BK284 HB; revert n0_ n1_ n2_ n3_; intro BK282 BK283 BK284 HB; (try clear hb); (try clear hb2); (try clear hk); (try clear hi); obtain ⟨hcz141_0, hcz141_1, hcz141_2, hcz141_3, hfz141_0, hfz141_1, hfz141_2, hfz141_3⟩ := cs4 BK284))
      refine bodyPost_ret (results_cell_row rfl _ _ gb284 127 #[.int .i64 t319, .int .i64 t320, .int .i64 t321, .int .u8 t322] (0, 0) _ rfl (by (with_reducible repeat (first | refine blk_drewN ?_ _ | refine blk_drew ?_ | refine blk_alloc ?_ _)); refine blk_put (cs := #[.int .i64 t319, .int .i64 t320, .int .i64 t321, .int .u8 0]) ?_ 3 _ rfl; (with_reducible repeat (first | refine blk_drewN ?_ _ | refine blk_drew ?_ | refine blk_alloc ?_ _)); refine blk_put (cs := #[.int .i64 t319, .int .i64 t320, .int .i64 0, .int .u8 0]) ?_ 2 _ rfl; (with_reducible repeat (first | refine blk_drewN ?_ _ | refine blk_drew ?_ | refine blk_alloc ?_ _)); refine blk_put (cs := #[.int .i64 t319, .int .i64 0, .int .i64 0, .int .u8 0]) ?_ 1 _ rfl; (with_reducible repeat (first | refine blk_drewN ?_ _ | refine blk_drew ?_ | refine blk_alloc ?_ _)); refine blk_put (cs := #[.int .i64 0, .int .i64 0, .int .i64 0, .int .u8 0]) ?_ 0 _ rfl; (with_reducible repeat (first | refine blk_drewN ?_ _ | refine blk_drew ?_ | refine blk_alloc ?_ _)); exact BK284.out) Tryz.underlying127 rfl (by kernel_rfl)) rfl ?_
      exact ⟨eqv, bel⟩
end Go.Proofs.YtkeccgkicffieaaGreatDoor.PTopWider
