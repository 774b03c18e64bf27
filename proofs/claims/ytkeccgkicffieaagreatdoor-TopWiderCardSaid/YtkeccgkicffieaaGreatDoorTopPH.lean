/- The walk of TopWider: it is true. Conditions: the table of bits stands in memory; what is handed in are bytes and small numbers. -/
import Derived.Test.YtkeccgkicffieaaGreatDoorTopPG
import Derived.Test.YtkeccgkicffieaaGreatDoorTopPC
import Derived.Test.YtkeccgkicffieaaGreatDoorTopT
namespace Go.Proofs.YtkeccgkicffieaaGreatDoor.PTopWider
open Go.RowKit Go.Proofs.YtkeccgkicffieaaGreatDoorW.PrintWords Go.Proofs.YtkeccgkicffieaaGreatDoorW.PrintLast Go.Proofs.YtkeccgkicffieaaGreatDoorW.PrintMore
attribute [local go_sem] max2_int min2_int max_two min_two max_three min_three max_four min_four
set_option linter.unusedVariables false
set_option linter.unusedSimpArgs false
attribute [local go_sem] run_store_float
set_option maxRecDepth 100000
theorem config_is (q0 q1 q2 q3 q4 : Int) (q5 : Nat) (h0 : 0 ≤ q0 ∧ q0 < 256) (h1 : 0 ≤ q1 ∧ q1 < 256) (h2 : 0 ≤ q2 ∧ q2 < 256) (h3 : 0 ≤ q3 ∧ q3 < 65536) (h4 : 0 ≤ q4 ∧ q4 < 65536) : stanzahand03_Config.f q0 q1 q2 q3 q4 q5 = some (1 + q0, 1 + q1 % 64, q2 % 2, q3, q4, q5) := by
 have e1 : Int.tmod q1 64 = q1 % 64 := Int.tmod_eq_emod_of_nonneg h1.1
 have e2 : Int.tmod q2 2 = q2 % 2 := Int.tmod_eq_emod_of_nonneg h2.1
 unfold stanzahand03_Config.f
 rw [e1, e2]
 have w0 : wrap64 q0 = q0 := w64 (by omega) (by omega)
 have w1 : wrap64 (q1 % 64) = q1 % 64 := w64 (by omega) (by omega)
 have w3 : wrap64 q3 = q3 := w64 (by omega) (by omega)
 have w4 : wrap64 q4 = q4 := w64 (by omega) (by omega)
 have w5 : wrap64 (1 + q0) = 1 + q0 := w64 (by omega) (by omega)
 have w6 : wrap64 (1 + q1 % 64) = 1 + q1 % 64 := w64 (by omega) (by omega)
 rw [w0, w1, w3, w4, w5, w6]
theorem check_is (W q1 q3 q4 : Int) (q5 : Nat) (h0 : 1 ≤ W ∧ W < 1000) (h1 : 1 ≤ q1 ∧ q1 ≤ 64) (h3 : 0 ≤ q3 ∧ q3 < 65536) (h4 : 0 ≤ q4 ∧ q4 < 65536) : span_Check.f W q1 0 q3 q4 q5 = some true := by
 unfold span_Check.f
 rw [if_pos (by omega), if_pos (by omega), if_pos (by omega), if_pos (by omega), if_pos (by omega), if_pos (by omega), if_pos (by omega), if_pos (by omega), decide_eq_true (by omega)]
set_option maxHeartbeats 16000000 in
theorem topwider_calls (As : Option Addr) (cs : Nat) (sl : List Int) (q0 q1 q2 q3 q4 : Int) (q5 : Nat) (m : Int) (w : World) (hC : Kd.C (Kd.int .u8) w As sl.length sl) (hc : sl.length ≤ cs) (hs : ∀ x ∈ sl, 0 ≤ x ∧ x < 256)
  (h0 : 0 ≤ q0 ∧ q0 < 256) (h1 : 0 ≤ q1 ∧ q1 < 256) (h2 : 0 ≤ q2 ∧ q2 < 256) (h3 : 0 ≤ q3 ∧ q3 < 65536) (h4 : 0 ≤ q4 ∧ q4 < 65536) (hm : 0 ≤ m ∧ m < 256) (hD : IsDb w) :
  Calls Tryz.prog 3 #[.slice As sl.length cs, .agg #[.int .u8 q0, .int .u8 q1, .int .u8 q2, .int .u16 q3, .int .u16 q4, .float .f64 q5], .int .u8 m] w fun e w' => e = .returned (.bool true) ∧ Below w.heap.size w w' := by
 have HD := Aside0.mk hD
 have HC := Aside0.mk (And.intro hC (And.intro hc hs))
 have HQ := Aside0.mk (And.intro h0 (And.intro h1 (And.intro h2 (And.intro h3 (And.intro h4 hm)))))
 clear hD hC hc hs h0 h1 h2 h3 h4 hm
 have bw := below_alloc (Below.refl w.heap.size w) (.cells #[.int .u8 q0, .int .u8 q1, .int .u8 q2, .int .u16 q3, .int .u16 q4, .float .f64 q5] 26)
 have kw := blk_new w (.cells #[.int .u8 q0, .int .u8 q1, .int .u8 q2, .int .u16 q3, .int .u16 q4, .float .f64 q5] 26)
 go_enter Tryz.func3, Tryz.ntmps3
 go_wp2_with fail
 refine (awake_calls _ (HD.out.on bw)).mono ?_
 rintro e w1 ⟨rfl, hb1⟩
 have kw := blk_below kw hb1
 have bw := below_step bw hb1
 by_cases hl : sl.length ≤ 200
 rotate_left
 ·have g1 : decide ((sl.length : Int) > 200) = true := by simp; omega
  have g2 : decide (200 < (sl.length : Int)) = true := by simp; omega
  go_wp2_with fail
  go_ret
  exact ⟨rfl, bw⟩
 ·have g1 : decide ((sl.length : Int) > 200) = false := by simp; omega
  have g2 : decide (200 < (sl.length : Int)) = false := by simp; omega
  go_wp2_with fail
  clear g1 g2
  refine (plain_calls w1).mono ?_
  rintro e w2 ⟨A1, c1, A2, c2, A3, c3, rfl, i1, l1, i2, l2, i3, l3, hb2⟩
  go_wp2_with fail
  refine (newP_calls A1 A2 A3 c1 c2 c3 w2 i1 l1 i2 l2 i3 l3).mono ?_
  rintro e w3 ⟨g, rfl, hg, hB, hb3⟩
  have kw := blk_below (blk_below kw hb2) hb3
  have bw := below_step (below_step bw hb2) hb3
  clear i1 l1 i2 l2 i3 l3 hb2 hb3 hb1 hg
  have KW := Aside0.mk (blk_alloc kw (.cells #[.int .i64 0, .int .i64 0] 31))
  have KF := Aside0.mk (blk_new w3 (.cells #[.int .i64 0, .int .i64 0] 31))
  have HB := Aside0.mk (hB.on (below_alloc (Below.refl w3.heap.size w3) (.cells #[.int .i64 0, .int .i64 0] 31)))
  have BW := Aside0.mk (below_alloc bw (.cells #[.int .i64 0, .int .i64 0] 31))
  have z0 := blk_cell KW.out 0
  have z1 := blk_cell KW.out 1
  have z2 := blk_cell KW.out 2
  have z3 := blk_cell KW.out 3
  have z4 := blk_cell KW.out 4
  have z5 := blk_cell KW.out 5
  clear hB bw kw
  go_wp2_with fail
  obtain ⟨f, hf⟩ : ∃ f, Aside0 (w3.heap.size = f) := ⟨_, ⟨rfl⟩⟩
  rw [hf.out] at KF ⊢
  clear z0 z1 z2 z3 z4 z5
  generalize w3.alloc (.cells #[.int .i64 0, .int .i64 0] 31) = w4 at KW KF HB BW ⊢
  refine (stanzahand03_Config.calls q0 q1 q2 q3 q4 q5 _ _ _ _ _ _ w4 (config_is q0 q1 q2 q3 q4 q5 HQ.out.1 HQ.out.2.1 HQ.out.2.2.1 HQ.out.2.2.2.1 HQ.out.2.2.2.2.1)).mono ?_
  rintro e w5 ⟨rfl, hb5⟩
  have kc := blk_new w5 (.cells #[.int .i64 (1 + q0), .int .i64 (1 + q1 % 64), .int .u8 (q2 % 2), .int .i64 q3, .int .i64 q4, .float .f64 q5] 40)
  have bc := below_step hb5 (below_alloc (Below.refl w5.heap.size w5) (.cells #[.int .i64 (1 + q0), .int .i64 (1 + q1 % 64), .int .u8 (q2 % 2), .int .i64 q3, .int .i64 q4, .float .f64 q5] 40))
  have z2 := blk_cell kc 2
  have zf := blk_frozen kc 2
  go_upto_region 8 with fail
  have kc := blk_new w5 (.cells #[.int .i64 (1 + q0), .int .i64 (1 + q1 % 64), .int .u8 0, .int .i64 q3, .int .i64 q4, .float .f64 q5] 40)
  have bc := below_step hb5 (below_alloc (Below.refl w5.heap.size w5) (.cells #[.int .i64 (1 + q0), .int .i64 (1 + q1 % 64), .int .u8 0, .int .i64 q3, .int .i64 q4, .float .f64 q5] 40))
  obtain ⟨c, hcc⟩ : ∃ c, Aside0 (w5.heap.size = c) := ⟨_, ⟨rfl⟩⟩
  have lc : w4.heap.size ≤ c := by rw [← hcc.out]; exact below_size hb5
  rw [hcc.out] at kc ⊢
  generalize w5.alloc (.cells #[.int .i64 (1 + q0), .int .i64 (1 + q1 % 64), .int .u8 0, .int .i64 q3, .int .i64 q4, .float .f64 q5] 40) = w6 at kc bc ⊢
  have bd := below_alloc (Below.refl w6.heap.size w6) (.cells #[.int .i64 (1 + q0), .int .i64 (1 + q1 % 64), .int .u8 0, .int .i64 q3, .int .i64 q4, .float .f64 q5] 40)
  have kd := blk_new w6 (.cells #[.int .i64 (1 + q0), .int .i64 (1 + q1 % 64), .int .u8 0, .int .i64 q3, .int .i64 q4, .float .f64 q5] 40)
  have y0 := blk_cell kc 0
  have y1 := blk_cell kc 1
  have y2 := blk_cell kc 2
  have y3 := blk_cell kc 3
  have y4 := blk_cell kc 4
  have y5 := blk_cell kc 5
  have x0 := blk_cell kd 0
  have xf := blk_frozen kd 0
  have e1 : Int.tmod m 20 = m % 20 := Int.tmod_eq_emod_of_nonneg HQ.out.2.2.2.2.2.1
  have e2 : wrap64 (m % 20) = m % 20 := w64 (by omega) (by omega)
  have e3 : wrap64 (1 + q0 + m % 20) = 1 + q0 + m % 20 := by have := HQ.out; exact w64 (by omega) (by omega)
  go_upto_region 10 with fail
  clear z2 zf y0 y1 y2 y3 y4 y5 x0 xf e1 e2 e3 bd kd
  obtain ⟨d, hdd⟩ : ∃ d, Aside0 (w6.heap.size = d) := ⟨_, ⟨rfl⟩⟩
  have kd := blk_new w6 (.cells #[.int .i64 (1 + q0 + m % 20), .int .i64 (1 + q1 % 64), .int .u8 0, .int .i64 q3, .int .i64 q4, .float .f64 q5] 40)
  have bd := below_alloc (Below.refl w6.heap.size w6) (.cells #[.int .i64 (1 + q0 + m % 20), .int .i64 (1 + q1 % 64), .int .u8 0, .int .i64 q3, .int .i64 q4, .float .f64 q5] 40)
  have kc := blk_alloc kc (.cells #[.int .i64 (1 + q0 + m % 20), .int .i64 (1 + q1 % 64), .int .u8 0, .int .i64 q3, .int .i64 q4, .float .f64 q5] 40)
  have b7 := below_step bc bd
  rw [hdd.out] at kd ⊢
  clear bd
  generalize w6.alloc (.cells #[.int .i64 (1 + q0 + m % 20), .int .i64 (1 + q1 % 64), .int .u8 0, .int .i64 q3, .int .i64 q4, .float .f64 q5] 40) = w7 at kd kc b7 ⊢
  have KD := Aside0.mk kd
  have KC := Aside0.mk kc
  have KF := Aside0.mk (blk_below KF.out b7)
  have HB := Aside0.mk (HB.out.on b7)
  have BW := Aside0.mk (below_step BW.out b7)
  clear b7 bc kd kc hb5 lc hcc hdd
  obtain ⟨text, kt, ht, hl2, hA⟩ := letters_text sl HC.out.2.2 hl
  obtain ⟨ka, hall⟩ := all_text text (by omega) hA
  have hcl : ((sg 0 text).map (clus (tabF xsC))).length = text.length := by rw [List.length_map, sg_length]
  obtain ⟨ls, ls', rows, rows', kk, r1, r2, r3, r4, r5, r6, r7⟩ := wider_ev (plain_text text (by omega) hA) (first_text text) (bytes_text text) (1 + q0) (1 + q0 + m % 20) (1 + q1 % 64) q3 q4 q5 (by have := HQ.out; omega) (by have := HQ.out; omega)
  have RR := Aside0.mk (And.intro r1 (And.intro r2 (And.intro r3 (And.intro r4 (And.intro r5 (And.intro r6 r7))))))
  have HT := Aside0.mk (And.intro hall (And.intro (show text.length ≤ 200 by omega) hA))
  clear r1 r2 r3 r4 r5 r6 r7 hall hl2 hA hcl
  go_wp2_with fail
  refine (stanzatop_letters.calls kt As cs sl sgT text w7 (Kd.C_below HC.out.1 BW.out) HC.out.2.1 ht).mono ?_
  rintro e w8 ⟨v8, rfl, h8, hb8⟩
  obtain ⟨A8, c8, rfl⟩ := Kd.R_slice h8
  have C8 := Aside0.mk (Kd.R_reads' h8).2
  have KD := Aside0.mk (blk_below KD.out hb8)
  have KC := Aside0.mk (blk_below KC.out hb8)
  have KF := Aside0.mk (blk_below KF.out hb8)
  have HB := Aside0.mk (HB.out.on hb8)
  have BW := Aside0.mk (below_step BW.out hb8)
  clear h8 hb8 ht
  have y0 := blk_cell KC.out 0
  have y1 := blk_cell KC.out 1
  have y2 := blk_cell KC.out 2
  have y3 := blk_cell KC.out 3
  have y4 := blk_cell KC.out 4
  have y5 := blk_cell KC.out 5
  go_wp2_with fail
  clear y0 y1 y2 y3 y4 y5
  have hq := HQ.out
  refine (lay_calls g machM machP (tabF zs256) (tabF xsB) (tabF xsC) ka kk kk A8 c8 text (sg 0 text) (1 + q0) (1 + q1 % 64) 0 q3 q4 q5 ls false rows w8 C8.out.2 C8.out.1 (by have := HT.out.2.1; omega) HT.out.1 (fun x hx => (HT.out.2.2 x hx).low) HB.out good_M good_P (HD.out.on BW.out) (fits_text text HT.out.2.1 HT.out.2.2) (check_is _ _ _ _ _ (by omega) (by omega) hq.2.2.2.1 hq.2.2.2.2.1) RR.out.1 RR.out.2.1).mono ?_
  rintro e w9 ⟨v9, rfl, h9, hb9⟩
  obtain ⟨A9, c9, rfl⟩ := Kd.R_slice h9
  have ba := below_alloc hb9 (.cells #[.slice A9 rows.length c9, .bool false] 45)
  have KL := Aside0.mk (blk_new w9 (.cells #[.slice A9 rows.length c9, .bool false] 45))
  have KD := Aside0.mk (blk_below KD.out ba)
  have KF := Aside0.mk (blk_below KF.out ba)
  have HB := Aside0.mk (HB.out.on ba)
  have BW := Aside0.mk (below_step BW.out ba)
  have C8 := Aside0.mk (And.intro C8.out.1 (Kd.C_below C8.out.2 ba))
  have C9 := Aside0.mk (Kd.C_below (Kd.R_reads' h9).2.2 (below_alloc (Below.refl w9.heap.size w9) (.cells #[.slice A9 rows.length c9, .bool false] 45)))
  clear h9 hb9 ba KC
  have y0 := blk_cell KD.out 0
  have y1 := blk_cell KD.out 1
  have y2 := blk_cell KD.out 2
  have y3 := blk_cell KD.out 3
  have y4 := blk_cell KD.out 4
  have y5 := blk_cell KD.out 5
  go_wp2_with fail
  clear y0 y1 y2 y3 y4 y5
  obtain ⟨x9, hx9⟩ : ∃ x9, Aside0 (w9.heap.size = x9) := ⟨_, ⟨rfl⟩⟩
  rw [hx9.out] at KL ⊢
  generalize w9.alloc (.cells #[.slice A9 rows.length c9, .bool false] 45) = w10 at KL KD KF HB BW C8 C9 ⊢
  clear hx9
  refine (lay_calls g machM machP (tabF zs256) (tabF xsB) (tabF xsC) ka kk kk A8 c8 text (sg 0 text) (1 + q0 + m % 20) (1 + q1 % 64) 0 q3 q4 q5 ls' false rows' w10 C8.out.2 C8.out.1 (by have := HT.out.2.1; omega) HT.out.1 (fun x hx => (HT.out.2.2 x hx).low) HB.out good_M good_P (HD.out.on BW.out) (fits_text text HT.out.2.1 HT.out.2.2) (check_is _ _ _ _ _ (by omega) (by omega) hq.2.2.2.1 hq.2.2.2.2.1) RR.out.2.2.1 RR.out.2.2.2.1).mono ?_
  rintro e w11 ⟨v11, rfl, h11, hb11⟩
  obtain ⟨A11, c11, rfl⟩ := Kd.R_slice h11
  have ba := below_alloc hb11 (.cells #[.slice A11 rows'.length c11, .bool false] 45)
  have KM := Aside0.mk (blk_new w11 (.cells #[.slice A11 rows'.length c11, .bool false] 45))
  have KL := Aside0.mk (blk_below KL.out ba)
  have KF := Aside0.mk (blk_below KF.out ba)
  have BW := Aside0.mk (below_step BW.out ba)
  have C9 := Aside0.mk (Kd.C_below C9.out ba)
  have C11 := Aside0.mk (Kd.C_below (Kd.R_reads' h11).2.2 (below_alloc (Below.refl w11.heap.size w11) (.cells #[.slice A11 rows'.length c11, .bool false] 45)))
  clear h11 hb11 ba KD HB C8
  have y0 := blk_cell KF.out 0
  have y1 := blk_cell KL.out 0
  have y2 := blk_cell KM.out 0
  have g1 : decide ((rows'.length : Int) > (rows.length : Int)) = false := by have := RR.out.2.2.2.2.1; simp; omega
  have g2 : decide (rows.length < rows'.length) = false := by have := RR.out.2.2.2.2.1; simp; omega
  have g3 : ¬ rows.length < rows'.length := by have := RR.out.2.2.2.2.1; omega
  go_wp2_with fail
  clear y0 y1 y2 g1 g2 g3
  obtain ⟨x11, hx11⟩ : ∃ x11, Aside0 (w11.heap.size = x11) := ⟨_, ⟨rfl⟩⟩
  rw [hx11.out] at KM ⊢
  generalize w11.alloc (.cells #[.slice A11 rows'.length c11, .bool false] 45) = w12 at KM KL KF BW C9 C11 ⊢
  clear hx11 KF
  go_loopg [77] rows'.length (fun kq v77 w' => ∃ x : Int, v77 = .int .i64 x ∧ Aside0 (0 ≤ x ∧ x + kq = rows'.length) ∧ Aside0 (Below w12.heap.size w12 w'))
  case atStart => exact ⟨0, rfl, ⟨by omega⟩, ⟨Below.refl w12.heap.size w12⟩⟩
  case round =>
   obtain ⟨x, rfl, HK, HB⟩ := hrel
   have hk := HK.out
   cases gk with
   | zero =>
    go_wp2
    go_ret
    exact ⟨rfl, below_step BW.out HB.out⟩
   | succ k1 =>
    have hx : x < rows'.length := by omega
    have hx' : x < rows.length := by have := RR.out.2.2.2.2.1; omega
    obtain ⟨ad, ea, u0, u1, u2, u3⟩ := at_T50 (Kd.C_below C9.out HB.out) x hk.1 hx'
    obtain ⟨ad', ea', v0, v1, v2, v3⟩ := at_T50 (Kd.C_below C11.out HB.out) x hk.1 hx
    subst ea
    subst ea'
    have y1 := blk_cell (blk_below KL.out HB.out) 0
    have y2 := blk_cell (blk_below KM.out HB.out) 0
    have hle := RR.out.2.2.2.2.2.2 x.toNat (by omega)
    rw [Int.toNat_of_nonneg hk.1] at hle
    have g1 : decide ((rd_T50 rows' x).f1 < (rd_T50 rows x).f1) = false := by simp; omega
    have hil : wrap64 (x + 1) = x + 1 := by have := RR.out; exact w64 (by omega) (by omega)
    clear u0 u2 u3 v0 v2 v3
    go_wp2_with fail
    go_quiet (fail)
    go_wp2_with fail
    go_roundg k1
    case measure => omega
    case rel => exact ⟨x + 1, by first | rfl | (rw [hil]), ⟨by omega⟩, ⟨pw_below_drewN HB.out _⟩⟩
end Go.Proofs.YtkeccgkicffieaaGreatDoor.PTopWider
