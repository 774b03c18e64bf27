/- The walk of auto's Make. Conditions: the arguments' own, as stated. -/
import Derived.Test.YtkeccgkicffieaaGreatDoorTopT
import Derived.Test.YtkeccgkicffieaaGreatDoorTopAL
namespace Go.Proofs.YtkeccgkicffieaaGreatDoor.PTopWider
open Go.RowKit Go.Proofs.YtkeccgkicffieaaGreatDoorW.PrintWords Go.Proofs.YtkeccgkicffieaaGreatDoorW.PrintLast Go.Proofs.YtkeccgkicffieaaGreatDoorW.PrintMore
set_option linter.unusedVariables false
set_option linter.unusedSimpArgs false
set_option maxHeartbeats 40000000 in
set_option maxRecDepth 100000 in
theorem automake_calls (rb N : Nat) (A : Option Addr) (c : Nat) (Xs : List EX) (cs : List (Cl 3)) (w : World) (hN : 1 ≤ N ∧ N ≤ 24) (hl : Xs.length ≤ 24) (hv : (vsOf Xs).length < 64) (hC : Kd.C (kcl 3) w A Xs.length cs) (hX : ExOk w rb Xs cs) (fuel : Nat) (T : List Int) (res : List (List Int) × List Int) (hT : (List.range N).map (tF (firstF (marksOf 0 Xs)) (vsOf Xs)) = T) (hTr : ∀ t ∈ T, 0 ≤ t ∧ t < 18446744073709551616) (hF1 : Go.bits .or .u64 (firstF (marksOf 0 Xs)) 0 = firstF (marksOf 0 Xs)) (hres : loopF T (marksOf 0 Xs) fuel 0 [0] [] [] = some res) :
  Calls Tryz.prog 37 #[.slice A Xs.length c, .int .i64 (N : Int)] w fun e w' => AutoE w res e w' := by
 have hX := Aside0.mk hX
 have hC := Aside0.mk hC
 have n1 : decide ((N : Int) < 1) = false := by simp; omega
 have n2 : decide ((24 : Int) < (N : Int)) = false := by simp; omega
 have n3 : decide ((24 : Int) < (Xs.length : Int)) = false := by simp; omega
 have n1b : decide (N < 1) = false := by simp; omega
 have n2b : decide (24 < N) = false := by simp; omega
 have n3b : decide (24 < Xs.length) = false := by simp; omega
 go_enter Tryz.func37, Tryz.ntmps37
 have z1 : (w.alloc (.cells #[.slice none 0 0, .slice none 0 0] 94)).heap.size = w.heap.size + 1 := by simp
 have B2 := below_alloc (below_alloc (Below.refl w.heap.size w) (.cells #[.slice none 0 0, .slice none 0 0] 94)) (.cells #[.slice none 0 0, .slice none 0 0, .bool false] 189)
 have K4 := blk_alloc (blk_new w (.cells #[.slice none 0 0, .slice none 0 0] 94)) (.cells #[.slice none 0 0, .slice none 0 0, .bool false] 189)
 have KM := blk_new (w.alloc (.cells #[.slice none 0 0, .slice none 0 0] 94)) (.cells #[.slice none 0 0, .slice none 0 0, .bool false] 189)
 rw [z1] at KM
 have M0 : IsMk ((w.alloc (.cells #[.slice none 0 0, .slice none 0 0] 94)).alloc (.cells #[.slice none 0 0, .slice none 0 0, .bool false] 189)) (w.heap.size + 1) w.heap.size [] := ⟨none, 0, none, 0, KM, Own1.nil _ _ _ _, Own1.nil _ _ _ _, by omega⟩
 have KK := Aside0.mk (And.intro K4 (And.intro M0 B2))
 clear z1 B2 K4 KM M0
 go_wp2_with fail
 go_loopg [7, 46] Xs.length (fun kq v7 v46 w' => ∃ i : Nat, v46 = .int .i64 (i : Int) ∧ Aside0 (i + kq = Xs.length) ∧ Aside0 (IsMk w' (w.heap.size + 1) w.heap.size (vsOf (Xs.take i))) ∧ Aside0 (Own1 (kcl 9) 195 w.heap.size w' v7 ((marksOf 0 (Xs.take i)).map partC)) ∧ Aside0 (w'.heap[w.heap.size]? = some (.cells #[.slice none 0 0, .slice none 0 0] 94 (0, 0))) ∧ Aside0 (Below w.heap.size w w'))
 case atStart => exact ⟨0, rfl, ⟨by omega⟩, ⟨KK.out.2.1⟩, ⟨Own1.nil _ _ _ _⟩, ⟨KK.out.1⟩, ⟨KK.out.2.2⟩⟩
 case round =>
  obtain ⟨i, rfl, HI, HM, H7, H4, HO⟩ := hrel
  have hi := HI.out
  obtain ⟨A7, c7, e7⟩ := Kd.R_slice H7.out
  rw [show ((marksOf 0 (Xs.take i)).map partC).length = i by rw [List.length_map, marksOf_len, List.length_take]; omega] at e7
  subst e7
  cases gk with
  | zero =>
   have hlt : decide ((i : Int) < (Xs.length : Int)) = false := by simp; omega
   have hltn : decide (i < Xs.length) = false := by simp; omega
   have hltp : ¬ (i < Xs.length) := by omega
   have hiL : Aside0 (i = Xs.length) := ⟨by omega⟩
   clear hi
   obtain ⟨w1, hw1⟩ : ∃ w1, w1 = wr := ⟨_, rfl⟩
   subst hw1
   have hTk : Xs.take i = Xs := by rw [hiL.out, List.take_length]
   rw [hTk] at HM H7
   obtain ⟨S, hSe⟩ : ∃ S, Aside0 (vsOf Xs = S) := ⟨_, ⟨rfl⟩⟩
   obtain ⟨Ps, hPe⟩ : ∃ Ps, Aside0 (marksOf 0 Xs = Ps) := ⟨_, ⟨rfl⟩⟩
   have hPl : Aside0 (Ps.length = i) := ⟨by rw [← hPe.out, marksOf_len, hiL.out]⟩
   rw [hSe.out] at HM
   rw [hPe.out] at H7
   have HF0 := Aside0.mk hres
   have HT0 := Aside0.mk (And.intro hT (And.intro hTr hF1))
   clear hT hTr hF1 hres
   rw [hPe.out] at HF0
   rw [hPe.out, hSe.out] at HT0
   have hSl : Aside0 (S.length < 64) := ⟨by rw [← hSe.out]; exact hv⟩
   have hil : i ≤ 24 := by rw [hiL.out]; exact hl
   obtain ⟨AM, cM, BM, dM, hKM, hM0, hM1, _⟩ := HM.out
   have u2 : w1.cell? ⟨w.heap.size + 1, 2, none⟩ = some (.bool false) := blk_cell hKM 2
   have HK := Aside0.mk (And.intro hKM (And.intro hM0 hM1))
   clear hKM hM0 hM1 hTk HM
   have kz := blk_new w1 (.cells #[.int .u64 0, .int .u64 0, .int .u64 0, .int .u64 0] 193)
   have bz := below_alloc (Below.refl w1.heap.size w1) (.cells #[.int .u64 0, .int .u64 0, .int .u64 0, .int .u64 0] 193)
   have KZ := Aside0.mk (And.intro kz bz)
   clear kz bz
   go_wp2_with fail
   clear hltp hltn hlt u2
   go_loopg [64] i (fun kq v64 w' => ∃ j : Nat, v64 = .int .i64 (j : Int) ∧ Aside0 (j + kq = i) ∧ Aside0 (w'.heap[w1.heap.size]? = some (.cells #[.int .u64 (firstF (Ps.take j)), .int .u64 0, .int .u64 0, .int .u64 0] 193 (0, 0))) ∧ Aside0 (Below w1.heap.size w1 w'))
   case atStart => exact ⟨0, rfl, ⟨by omega⟩, ⟨KZ.out.1⟩, ⟨KZ.out.2⟩⟩
   case round =>
    obtain ⟨j, rfl, HJ, HF, HW⟩ := hrel
    have hj := HJ.out
    cases gk with
    | zero =>
     have hltn : decide (j < i) = false := by simp; omega
     have hltz : decide ((j : Int) < (i : Int)) = false := by simp; omega
     have hltp : ¬ (j < i) := by omega
     have hF : firstF (Ps.take j) = firstF Ps := by rw [show j = Ps.length by have := hPl.out; omega, List.take_length]
     rw [hF] at HF
     obtain ⟨w2, hw2⟩ : ∃ w2, w2 = wr := ⟨_, rfl⟩
     subst hw2
     obtain ⟨F, hFe⟩ : ∃ F, Aside0 (firstF Ps = F) := ⟨_, ⟨rfl⟩⟩
     rw [hFe.out] at HF
     rw [hFe.out] at HT0
     have W2 : Aside0 (Kd.C (Kd.int .u32) w2 AM S.length S ∧ Kd.C (kcl 4) w2 BM S.length (List.replicate S.length (setC 0)) ∧ Kd.C (kcl 9) w2 A7 i (Ps.map partC)) :=
      ⟨⟨Kd.C_below HK.out.2.1.reads.2.2 HW.out, by have h := HK.out.2.2.reads.2.2; rw [List.length_replicate] at h; exact Kd.C_below h HW.out, by have h := H7.out.reads.2.2; rw [List.length_map, hPl.out] at h; exact Kd.C_below h HW.out⟩⟩
     have K2 := Aside0.mk (And.intro (blk_below HK.out.1 HW.out) (And.intro (blk_below H4.out HW.out) HF.out))
     have BW2 := Aside0.mk (HO.out.trans (HW.out.mono (by have := HO.out.size; omega)))
     have m0 : ∀ w : World, (Instr.makeMap 198 none).run Tryz.prog w = .ok (.map (some w.heap.size)) (w.alloc (.map #[] 0)) := fun w => run_makeMap_plain (w := w) 198
     clear hF hj
     have zz1 : (w2.alloc (.cells #[.slice none 0 0, .slice none 0 0] 94)).heap.size = w2.heap.size + 1 := by simp
     have zz2 : ((w2.alloc (.cells #[.slice none 0 0, .slice none 0 0] 94)).alloc (.cells #[.int .u64 0, .int .u64 0, .int .u64 0, .int .u64 0] 193)).heap.size = w2.heap.size + 1 + 1 := by simp
     have kA := blk_alloc (blk_alloc (blk_new w2 (.cells #[.slice none 0 0, .slice none 0 0] 94)) (.cells #[.int .u64 0, .int .u64 0, .int .u64 0, .int .u64 0] 193)) (.map #[] 0)
     have kM := blk_new ((w2.alloc (.cells #[.slice none 0 0, .slice none 0 0] 94)).alloc (.cells #[.int .u64 0, .int .u64 0, .int .u64 0, .int .u64 0] 193)) (.map #[] 0)
     rw [zz2] at kM
     have oL := own_lit1 (w2.alloc (.cells #[.slice none 0 0, .slice none 0 0] 94)) (setC 0) 193
     rw [zz1] at oL
     have bA := below_alloc (below_alloc (below_alloc (Below.refl w2.heap.size w2) (.cells #[.slice none 0 0, .slice none 0 0] 94)) (.cells #[.int .u64 0, .int .u64 0, .int .u64 0, .int .u64 0] 193)) (.map #[] 0)
     have kM2 : SeenIs (((w2.alloc (.cells #[.slice none 0 0, .slice none 0 0] 94)).alloc (.cells #[.int .u64 0, .int .u64 0, .int .u64 0, .int .u64 0] 193)).alloc (.map #[] 0)) (w2.heap.size + 1 + 1) [] := kM
     have hput : (Instr.mapUpdate 198 (.map (some (w2.heap.size + 1 + 1))) (.agg #[.int .u64 0, .int .u64 0, .int .u64 0, .int .u64 0]) (.int .i64 0)).run Tryz.prog (((w2.alloc (.cells #[.slice none 0 0, .slice none 0 0] 94)).alloc (.cells #[.int .u64 0, .int .u64 0, .int .u64 0, .int .u64 0] 193)).alloc (.map #[] 0)) = .ok () (putMap (((w2.alloc (.cells #[.slice none 0 0, .slice none 0 0] 94)).alloc (.cells #[.int .u64 0, .int .u64 0, .int .u64 0, .int .u64 0] 193)).alloc (.map #[] 0)) (w2.heap.size + 1 + 1) (.map (seenEs [0]) 1)) := seen_put _ _ [] 0 kM2 (by simp) (by decide) (by simp) (by simp)
     have sA : Aside0 ((putMap (((w2.alloc (.cells #[.slice none 0 0, .slice none 0 0] 94)).alloc (.cells #[.int .u64 0, .int .u64 0, .int .u64 0, .int .u64 0] 193)).alloc (.map #[] 0)) (w2.heap.size + 1 + 1) (.map (seenEs [0]) 1)).heap[w2.heap.size]? = some (.cells #[.slice none 0 0, .slice none 0 0] 94) ∧ SeenIs (putMap (((w2.alloc (.cells #[.slice none 0 0, .slice none 0 0] 94)).alloc (.cells #[.int .u64 0, .int .u64 0, .int .u64 0, .int .u64 0] 193)).alloc (.map #[] 0)) (w2.heap.size + 1 + 1) (.map (seenEs [0]) 1)) (w2.heap.size + 1 + 1) [0] ∧ Own1 (kcl 4) 193 w2.heap.size (putMap (((w2.alloc (.cells #[.slice none 0 0, .slice none 0 0] 94)).alloc (.cells #[.int .u64 0, .int .u64 0, .int .u64 0, .int .u64 0] 193)).alloc (.map #[] 0)) (w2.heap.size + 1 + 1) (.map (seenEs [0]) 1)) (.slice (some ⟨w2.heap.size + 1, 0, none⟩) 1 1) [setC 0] ∧ Below w2.heap.size w2 (putMap (((w2.alloc (.cells #[.slice none 0 0, .slice none 0 0] 94)).alloc (.cells #[.int .u64 0, .int .u64 0, .int .u64 0, .int .u64 0] 193)).alloc (.map #[] 0)) (w2.heap.size + 1 + 1) (.map (seenEs [0]) 1))) :=
      ⟨⟨(putMap_far (by omega)).trans kA, putMap_at kM, ((oL.same (Same.alloc 193 _ (.map #[] 0))).same (Same.putMap kM)).lower (by omega), below_putMap bA (by omega)⟩⟩
     clear zz1 zz2 kA kM oL bA kM2
     go_wp2_with fail
     clear hput
     generalize putMap (((w2.alloc (.cells #[.slice none 0 0, .slice none 0 0] 94)).alloc (.cells #[.int .u64 0, .int .u64 0, .int .u64 0, .int .u64 0] 193)).alloc (.map #[] 0)) (w2.heap.size + 1 + 1) (.map (seenEs [0]) 1) = w3 at sA ⊢
     obtain ⟨g, hg⟩ : ∃ g, Aside0 (w2.heap.size = g) := ⟨_, ⟨rfl⟩⟩
     rw [hg.out] at sA ⊢
     have A3 : Aside0 (AutoAt g w2 w3 (.slice (some ⟨g + 1, 0, none⟩) 1 1) (.slice none 0 0) (.slice none 0 0) [0] [] []) := ⟨⟨sA.out.2.2.1, sA.out.2.1, sA.out.1, ⟨[], Own1.nil _ _ _ _, rfl, fun i hi => absurd hi (by simp)⟩, Own1.nil _ _ _ _, sA.out.2.2.2⟩⟩
     have SO : Aside0 (StsOk [0]) := ⟨by intro s hs; simp at hs; subst hs; omega, by simp⟩
     go_loopg [14, 16] fuel (fun kq v14 v16 w' => ∃ (k : Nat) (sts : List Int) (nx : List (List Int)) (os : List Int) (vN vO : Value), v16 = .int .i64 (k : Int) ∧ Aside0 (loopF T Ps kq k sts nx os = some res) ∧ Aside0 (StsOk sts) ∧ Aside0 (AutoAt g w2 w' v14 vN vO sts nx os) ∧ Aside0 (nx.length = k ∧ os.length = k))
     case atStart => exact ⟨0, [0], [], [], _, _, rfl, HF0, SO, A3, ⟨rfl, rfl⟩⟩
     case round =>
      obtain ⟨k, sts, nx, os, vN, vO, rfl, HR, HS, HA, HKL⟩ := hrel
      obtain ⟨A14, c14, e14⟩ := Kd.R_slice HA.out.st
      rw [List.length_map] at e14
      subst e14
      have hr := HR.out
      cases gk with
      | zero => exact absurd hr (by simp [loopF])
      | succ k3 =>
       unfold loopF at hr
       by_cases hks : k < sts.length
       ·rw [if_pos hks] at hr
        have hkn : decide (k < sts.length) = true := by simp; omega
        have hkz : decide ((k : Int) < (sts.length : Int)) = true := by simp; omega
        obtain ⟨w5, hw5⟩ : ∃ w5, w5 = wr := ⟨_, rfl⟩
        subst hw5
        cases hrow : rowA T sts [] with
        | none => rw [hrow] at hr; cases hr
        | some q =>
         obtain ⟨sts2, row⟩ := q
         rw [hrow] at hr
         have HR2 : Aside0 (rowA T sts [] = some (sts2, row) ∧ loopF T Ps k3 (k + 1) sts2 (nx ++ [row]) (os ++ [bitsG (sts.getD k 0) Ps 0 0]) = some res) := ⟨⟨hrow, hr⟩⟩
         clear hr hrow HR
         obtain ⟨ad14, had, hcl⟩ := cl_at HA.out.st.reads.2.2 (k : Int) (by omega) (by rw [List.length_map]; omega)
         cases had
         rw [Int.toNat_natCast, show (sts.map setC).getD k (zcl 4) = setC (sts.getD k 0) by simp [List.getD, List.getElem?_eq_getElem hks]] at hcl
         obtain ⟨s, hs⟩ : ∃ s, Aside0 (sts.getD k 0 = s) := ⟨_, ⟨rfl⟩⟩
         rw [hs.out] at hcl HR2
         have c0 : w5.cell? (ad14.add (k * 4)) = some (.int .u64 s) := hcl 0 _ rfl
         have c1 : w5.cell? ⟨(ad14.add (k * 4)).block, (ad14.add (k * 4)).off + 1, none⟩ = some (.int .u64 0) := by rw [← add_next ad14 (k * 4) 1 (by decide)]; exact hcl 1 _ rfl
         have c2 : w5.cell? ⟨(ad14.add (k * 4)).block, (ad14.add (k * 4)).off + 2, none⟩ = some (.int .u64 0) := by rw [← add_next ad14 (k * 4) 2 (by decide)]; exact hcl 2 _ rfl
         have c3 : w5.cell? ⟨(ad14.add (k * 4)).block, (ad14.add (k * 4)).off + 3, none⟩ = some (.int .u64 0) := by rw [← add_next ad14 (k * 4) 3 (by decide)]; exact hcl 3 _ rfl
         have hlow : Below w2.heap.size w2 w5 := by rw [hg.out]; exact HA.out.low
         have P5 := Aside0.mk (And.intro (blk_below K2.out.1 hlow) (blk_below K2.out.2.2 hlow))
         have W5 : Aside0 (Kd.C (Kd.int .u32) w5 AM S.length S ∧ Kd.C (kcl 4) w5 BM S.length (List.replicate S.length (setC 0)) ∧ Kd.C (kcl 9) w5 A7 i (Ps.map partC)) := ⟨⟨Kd.C_below W2.out.1 hlow, Kd.C_below W2.out.2.1 hlow, Kd.C_below W2.out.2.2 hlow⟩⟩
         have z1 : (w5.alloc (.cells #[.int .u64 s, .int .u64 0, .int .u64 0, .int .u64 0] 193)).heap.size = w5.heap.size + 1 := by simp
         have KS := blk_alloc (blk_new w5 (.cells #[.int .u64 s, .int .u64 0, .int .u64 0, .int .u64 0] 193)) (.cells #[.int .u64 F, .int .u64 0, .int .u64 0, .int .u64 0] 193)
         have KF := blk_new (w5.alloc (.cells #[.int .u64 s, .int .u64 0, .int .u64 0, .int .u64 0] 193)) (.cells #[.int .u64 F, .int .u64 0, .int .u64 0, .int .u64 0] 193)
         rw [z1] at KF
         have b5 := below_alloc (below_alloc (Below.refl w5.heap.size w5) (.cells #[.int .u64 s, .int .u64 0, .int .u64 0, .int .u64 0] 193)) (.cells #[.int .u64 F, .int .u64 0, .int .u64 0, .int .u64 0] 193)
         have j0 : (w5.alloc (.cells #[.int .u64 s, .int .u64 0, .int .u64 0, .int .u64 0] 193)).cell? ⟨w1.heap.size, 0, none⟩ = some (.int .u64 F) := blk_cell (blk_alloc P5.out.2 _) 0
         have j1 : (w5.alloc (.cells #[.int .u64 s, .int .u64 0, .int .u64 0, .int .u64 0] 193)).cell? ⟨w1.heap.size, 1, none⟩ = some (.int .u64 0) := blk_cell (blk_alloc P5.out.2 _) 1
         have j2 : (w5.alloc (.cells #[.int .u64 s, .int .u64 0, .int .u64 0, .int .u64 0] 193)).cell? ⟨w1.heap.size, 2, none⟩ = some (.int .u64 0) := blk_cell (blk_alloc P5.out.2 _) 2
         have j3 : (w5.alloc (.cells #[.int .u64 s, .int .u64 0, .int .u64 0, .int .u64 0] 193)).cell? ⟨w1.heap.size, 3, none⟩ = some (.int .u64 0) := blk_cell (blk_alloc P5.out.2 _) 3
         have j4 : ((w5.alloc (.cells #[.int .u64 s, .int .u64 0, .int .u64 0, .int .u64 0] 193)).alloc (.cells #[.int .u64 F, .int .u64 0, .int .u64 0, .int .u64 0] 193)).cell? ⟨w.heap.size + 1, 1, none⟩ = some (.slice BM S.length dM) := blk_cell (blk_alloc (blk_alloc P5.out.1 _) _) 1
         have KK5 := Aside0.mk (And.intro KS (And.intro KF b5))
         clear z1 KS KF b5 hcl hlow
         go_wp2_with fail
         clear c0 c1 c2 c3 j0 j1 j2 j3 j4
         go_loopg [94] S.length (fun kq v94 w' => ∃ j4 : Nat, v94 = .int .i64 (j4 : Int) ∧ Aside0 (j4 + kq = S.length) ∧ Aside0 (w'.heap[w5.heap.size]? = some (.cells #[.int .u64 s, .int .u64 0, .int .u64 0, .int .u64 0] 193) ∧ w'.heap[w5.heap.size + 1]? = some (.cells #[.int .u64 F, .int .u64 0, .int .u64 0, .int .u64 0] 193) ∧ Below w5.heap.size w5 w'))
         case atStart => exact ⟨0, rfl, ⟨by omega⟩, KK5⟩
         case round =>
          obtain ⟨j4, rfl, HJ4, HB4⟩ := hrel
          have hj4 := HJ4.out
          cases gk with
          | zero =>
           have hltn : decide (j4 < S.length) = false := by simp; omega
           have hltz : decide ((j4 : Int) < (S.length : Int)) = false := by simp; omega
           have hltp : ¬ (j4 < S.length) := by omega
           clear hj4
           obtain ⟨w7, hw7⟩ : ∃ w7, w7 = wr := ⟨_, rfl⟩
           subst hw7
           go_wp2_with fail
           clear hltn hltz hltp
           obtain ⟨bt, hbt⟩ : ∃ bt, Aside0 (bitsG s Ps 0 0 = bt) := ⟨_, ⟨rfl⟩⟩
           rw [hbt.out] at HR2
           go_loopg [18, 112] i (fun kq v18 v112 w' => ∃ (j5 : Nat) (b : Int), v18 = .int .u32 b ∧ v112 = .int .i64 (j5 : Int) ∧ Aside0 (j5 + kq = i) ∧ Aside0 (bitsG s (Ps.drop j5) j5 b = bt) ∧ Aside0 (Below w7.heap.size w7 w'))
           case atStart => exact ⟨0, 0, rfl, rfl, ⟨by omega⟩, ⟨by rw [List.drop_zero]; exact hbt.out⟩, ⟨Below.refl _ _⟩⟩
           case round =>
            obtain ⟨j5, b, rfl, rfl, HJ5, HBT, HB5⟩ := hrel
            have hj5 := HJ5.out
            cases gk with
            | zero =>
             have hltn : decide (j5 < i) = false := by simp; omega
             have hltz : decide ((j5 : Int) < (i : Int)) = false := by simp; omega
             have hltp : ¬ (j5 < i) := by omega
             have hbb : b = bt := by have h := HBT.out; rwa [show Ps.drop j5 = [] from List.drop_eq_nil_of_le (by have := hPl.out; omega)] at h
             subst hbb
             clear hj5 HBT
             obtain ⟨w9, hw9⟩ : ∃ w9, w9 = wr := ⟨_, rfl⟩
             subst hw9
             have B59 : Aside0 (Below w5.heap.size w5 w9) := ⟨HB4.out.2.2.trans (HB5.out.mono (by have := HB4.out.2.2.size; omega))⟩
             have A9 : Aside0 (w9.heap[w5.heap.size + 1]? = some (.cells #[.int .u64 F, .int .u64 0, .int .u64 0, .int .u64 0] 193)) := ⟨blk_below HB4.out.2.1 HB5.out⟩
             have hg9 : g ≤ w9.heap.size := by have := B59.out.size; have := blk_lt HA.out.out; omega
             go_wp2_with (at_make; refine Kd.R_make (Kd.int .i64) (w0 := w9) g 3 rfl (N := 131) rfl 83 (.tmp 130) (.tmp 130) rfl (N : Int) rfl rfl Tryz.underlying83 (.int .i64 0) 8 info3 rfl (by decide) (by decide) 0 (ok := fun _ => True) (okp := fun _ => True) ?hz (fun _ _ => trivial) trivial (by omega) (by omega) (Below.refl _ _) hg9 ?_; (case hz => rfl); intro v23 w10 hr10 hb10 hg10 hat10)
             have hb10 : Below w9.heap.size w9 w10 := ⟨hg10.os, hg10.tape, hg10.output, hg10.size, fun i hi => hg10.block i hi (by simp)⟩
             have hb510 := B59.out.trans (hb10.mono (by have := B59.out.size; omega))
             obtain ⟨b23, c23, e23, b23a, b23b, _⟩ := Kd.R_form hr10 (by simp; omega)
             rw [List.length_replicate, Int.toNat_natCast] at e23
             subst e23
             obtain ⟨bb, hbb1, hbb2⟩ := hat10
             have hb23 : w9.heap.size ≤ b23 := by simp [Value.ownBlock] at hbb1; omega
             clear hg10 hbb1 hbb2
             have A10 := Aside0.mk (AutoMid.of HA.out hb510 b23)
             have R10 : Aside0 (Own1 (Kd.int .i64) 3 g w10 (.slice (some ⟨b23, 0, none⟩) N c23) (([] : List Int) ++ List.replicate (N - 0) 0)) := ⟨by rw [Int.toNat_natCast] at hr10; exact Own1.flat (flatInt .i64) hr10⟩
             have F10 : Aside0 (w10.heap[w5.heap.size + 1]? = some (.cells #[.int .u64 F, .int .u64 0, .int .u64 0, .int .u64 0] 193)) := ⟨blk_below A9.out hb10⟩
             have N10 : Aside0 ((Value.slice (some ad14) sts.length c14).ownBlock ≠ some (w5.heap.size + 1)) := ⟨fun he => by have := Kd.R_lt HA.out.st _ he; omega⟩
             have T10 : Aside0 (∀ t, t ≠ 193 → t ≠ 3 → Same t w5 w10) := ⟨fun t _ _ => Same.of_low hb510⟩
             have RW : Aside0 (rowA (T.drop 0) sts [] = some (sts2, row)) := ⟨HR2.out.1⟩
             go_loopg [14, 133] N (fun kq v14 v133 w' => ∃ (ci : Nat) (sx rx : List Int), v133 = .int .i64 (ci : Int) ∧ Aside0 (ci + kq = N) ∧ Aside0 (rowA (T.drop ci) sx rx = some (sts2, row)) ∧ Aside0 (rx.length = ci) ∧ Aside0 (StsOk sx) ∧ Aside0 (AutoMid g w2 w5 w' v14 sx b23) ∧ Aside0 (Own1 (Kd.int .i64) 3 g w' (.slice (some ⟨b23, 0, none⟩) N c23) (rx ++ List.replicate (N - ci) 0)) ∧ Aside0 (w'.heap[w5.heap.size + 1]? = some (.cells #[.int .u64 F, .int .u64 0, .int .u64 0, .int .u64 0] 193)) ∧ Aside0 (v14.ownBlock ≠ some (w5.heap.size + 1)) ∧ Aside0 (∀ t, t ≠ 193 → t ≠ 3 → Same t w5 w') ∧ Aside0 (b23 < w'.heap.size))
             case atStart => exact ⟨0, sts, [], rfl, ⟨by omega⟩, RW, ⟨rfl⟩, HS, A10, R10, F10, N10, T10, ⟨b23b⟩⟩
             case round =>
              obtain ⟨ci, sx, rx, rfl, HC, HRW, HRL, HSX, HAX, HRX, HFX, HNX, HTX, HBX⟩ := hrel
              have hci := HC.out
              cases gk with
              | zero =>
               have hltn : decide (ci < N) = false := by simp; omega
               have hltp : ¬ (ci < N) := by omega
               have hltz : decide ((ci : Int) < (N : Int)) = false := by simp; omega
               have hTl : T.length = N := by rw [← HT0.out.1]; simp
               have hrw := HRW.out
               rw [List.drop_eq_nil_of_le (by omega)] at hrw
               simp only [rowA, Option.some.injEq, Prod.mk.injEq] at hrw
               obtain ⟨hsx, hrx⟩ := hrw
               subst hsx
               subst hrx
               have hRX := HRX.out
               rw [show N - ci = 0 by omega, List.replicate_zero, List.append_nil] at hRX
               obtain ⟨vs, hvs, hnx, hos, hout⟩ := auto_mid_end HA.out HAX.out HTX.out (by have := B59.out.size; omega)
               have hvl := hnx.1
               have hkl := HKL.out
               have hst := HS.out.2.2
               have kb59 : k < 300 := by omega
               have bd := below_drew1 (Below.refl wr.heap.size wr)
               have Q3 := Aside0.mk (And.intro (HAX.out.below bd) (And.intro (hnx.same (Same.of_low bd)) (And.intro (hRX.same (Same.of_low bd)) (blk_below hout bd))))
               have F0 := FourK.start (d := kcl 1) (d' := Kd.int .u32) (w0 := wr.drew) (hvs.same (Same.of_low bd)) (hos.same (Same.of_low bd)) (Below.refl g _) (Below.refl _ _)
               have hg3 : g ≤ wr.drew.heap.size := by have := blk_lt hout; have := bd.size; omega
               have hlN : N = rx.length := by have := HRL.out; omega
               clear hvs hnx hos hRX bd
               go_upto_region 59 with fail
               refine start_ (n := 14) (S := fun w' => w'.heap[g]? = some (.cells #[vN, vO] 94 (0, 0))) (ds := [11, 13]) #[false, false, false, false, false, false, false, false, false, false, false, false, false, false] (by kernel_rfl) rfl rfl ?hS0 (fun hHeld => ?_)
               case hS0 => exact Q3.out.2.2.2
               generalize wr.drew = w3 at hHeld F0 Q3 hg3 ⊢
               refine pu 0 (some 184) ?_
               refine pu 2 (some 186) ?_
               refine pu 5 (some 189) ?_
               refine pu 7 (some 191) ?_
               refine take_ (i := 1) (N := some 185) (v := ?_) (a' := ?_) #[true, true, true, false, false, true, false, true, false, false, false, false, false, false] rfl rfl (by kernel_rfl) (fun _ _ _ h => h) (Or.inl ⟨by rfl, ?_⟩) hHeld ?_ ?_
               rotate_left
               ·intro w' s_
                have k0 : w'.cell? ⟨g, 0, none⟩ = some vN := blk_cell s_ 0
                go_simp
                try (with_reducible rfl)
               rotate_left
               ·simp only [Act.put, List.setIfInBounds_toArray, List.set_cons_zero, List.set_cons_succ, i64_w, i32_w]
                rfl
               refine take_ (i := 6) (N := some 190) (v := ?_) (a' := ?_) #[true, true, true, false, false, true, true, true, false, false, false, false, false, false] rfl rfl (by kernel_rfl) (fun _ _ _ h => h) (Or.inl ⟨by rfl, ?_⟩) hHeld ?_ ?_
               rotate_left
               ·intro w' s_
                have k0 : w'.cell? ⟨g, 1, none⟩ = some vO := blk_cell s_ 1
                go_simp
                try (with_reducible rfl)
               rotate_left
               ·simp only [Act.put, List.setIfInBounds_toArray, List.set_cons_zero, List.set_cons_succ, i64_w, i32_w]
                rfl
               refine two_ (i := 3) (j := 8) (Ni := some 187) (Nj := some 192) #[true, true, true, true, false, true, true, true, false, false, false, false, false, false] #[true, true, true, false, false, true, true, true, true, false, false, false, false, false] rfl rfl rfl rfl (by kernel_rfl) (by decide) (by decide) (fun K hK => ?_) (fun K hK => ?_)
               ·refine Kd.R_lit_step (kcl 1) (w0 := w3) g 83 (by rfl) (N := 187) rfl (xs := [(rowC (some ⟨b23, 0, none⟩) N c23)]) (inner := [.slice (some ⟨b23, 0, none⟩) N c23]) (ok := fun _ => True) (okp := fun _ => True) ?hrun ?hrep (fun _ hk => hk) trivial F0.low (Nat.le_trans hg3 F0.low.size) (by simp) ?_
                case hrun => first | (go_simp; done) | (go_simp; rfl)
                case hrep => exact (Reps.one (show Kd.M (kcl 1) _ _ _ (rowC (some ⟨b23, 0, none⟩) N c23) [.slice (some ⟨b23, 0, none⟩) N c23] from rfl) (Reps.none _ _))
                intro v1 x1 hr_ hb_ hg_ hat_
                have F1 := F0.lit (flatCl 1) hr_ hb_ hg_ hat_
                clear hr_ hb_ hg_ hat_
                refine hK.out _ _ (F1.blk Q3.out.2.2.2 (by decide) (by decide)) (fun hHeld => ?_)
                clear hK K
                refine nrm 187 ?_
                refine two_ (i := 4) (j := 8) (Ni := some 188) (Nj := some 192) #[true, true, true, true, true, true, true, true, false, false, false, false, false, false] #[true, true, true, true, false, true, true, true, true, false, false, false, false, false] rfl rfl rfl rfl (by kernel_rfl) (by decide) (by decide) (fun K hK => ?_) (fun K hK => ?_)
                ·obtain ⟨A_, c_, e_⟩ := Kd.R_slice F1.ra
                 have hc_ := F1.ra
                 rw [e_] at hc_
                 refine Kd.R_append_rows_step (kcl 1) (w0 := w3) g (by rfl) (.tmp 185) (.tmp 187) 91 83 (.slice none 0 0) 24 rfl Tryz.underlying91 info83v rfl (by decide) (by decide) _ _ _ A_ 1 c_ (fun _ => True) (fun _ => False) rfl (by first | exact e_ | rfl) (F1.ru.mono (fun _ _ => trivial)) (Kd.R_reads' hc_).2.2 (fun _ _ hk => hk) (fun _ hk => hk.elim) (fun _ _ => trivial) F1.low (Nat.le_trans hg3 F1.low.size) ?hl ?_
                 case hl => omega
                 intro v2 x2 hr_ hb_ hg_ hat_
                 have F2 := F1.grow (flatCl 1) (by decide) hr_ hb_ hg_ hat_
                 clear hr_ hb_ hg_ hat_ hc_
                 refine hK.out _ _ (F2.blk Q3.out.2.2.2 (by decide) (by decide)) (fun hHeld => ?_)
                 clear hK K
                 refine nrm 188 ?_
                 refine pu 10 (some 194) ?_
                 refine on 8 (some 192) fun K hK => ?_
                 refine Kd.R_lit_step (Kd.int .u32) (w0 := w3) g 82 (by rfl) (N := 192) rfl (xs := [b]) (inner := [.int .u32 b]) (ok := fun _ => True) (okp := fun _ => True) ?hrun ?hrep (fun _ hk => hk) trivial F2.low (Nat.le_trans hg3 F2.low.size) (by simp) ?_
                 case hrun => first | (go_simp; done) | (go_simp; rfl)
                 case hrep => exact (Reps.one (show Kd.M (Kd.int .u32) _ _ _ b [.int .u32 b] from rfl) (Reps.none _ _))
                 intro v3 x3 hr_ hb_ hg_ hat_
                 have F3 := (F2.swap.lit (flatInt .u32) hr_ hb_ hg_ hat_).swap
                 clear hr_ hb_ hg_ hat_
                 refine hK.out _ _ (F3.blk Q3.out.2.2.2 (by decide) (by decide)) (fun hHeld => ?_)
                 clear hK K
                 refine nrm 192 ?_
                 refine on 9 (some 193) fun K hK => ?_
                 obtain ⟨A_, c_, e_⟩ := Kd.R_slice F3.rb
                 have hc_ := F3.rb
                 rw [e_] at hc_
                 refine Kd.R_append_rows_step (Kd.int .u32) (w0 := w3) g (by rfl) (.tmp 190) (.tmp 192) 92 82 (.int .u32 0) 4 rfl Tryz.underlying92 info82 rfl (by decide) (by decide) _ _ _ A_ 1 c_ (fun _ => True) (fun _ => False) rfl (by first | exact e_ | rfl) (F3.rv.mono (fun _ _ => trivial)) (Kd.R_reads' hc_).2.2 (fun _ _ hk => hk) (fun _ hk => hk.elim) (fun _ _ => trivial) F3.low (Nat.le_trans hg3 F3.low.size) ?hl ?_
                 case hl => omega
                 intro v4 x4 hr_ hb_ hg_ hat_
                 have F4 := (F3.swap.grow (flatInt .u32) (by decide) hr_ hb_ hg_ hat_).swap
                 clear hr_ hb_ hg_ hat_ hc_
                 refine hK.out _ _ (F4.blk Q3.out.2.2.2 (by decide) (by decide)) (fun hHeld => ?_)
                 clear hK K
                 refine nrm 193 ?_
                 refine la 11 none fun K hK => ?_
                 obtain ⟨Au, cu, eu⟩ := Kd.R_slice F4.ru
                 obtain ⟨Av, cv, ev⟩ := Kd.R_slice F4.rv
                 rw [List.length_append, List.length_singleton, hvl, hkl.1] at eu
                 rw [List.length_append, List.length_singleton, hkl.2] at ev
                 subst eu
                 subst ev
                 have kk := F4.blk Q3.out.2.2.2 (by decide) (by decide)
                 have g0 := blk_cell kk 0
                 have gf0 := blk_frozen kk 0
                 have g1 := blk_cell kk 1
                 have gf1 := blk_frozen kk 1
                 refine skip_ (w1 := ?_) (by rfl) rfl ?_ ?_
                 rotate_left
                 ·go_simp
                  rfl
                 refine hK.out _ _ ?_
                 clear hK K
                 refine pu 12 (some 195) ?_
                 refine la 13 none fun K hK => ?_
                 refine skip_ (w1 := ?_) (by rfl) rfl ?_ ?_
                 rotate_left
                 ·go_simp
                  rfl
                 refine hK.out _ _ ?_
                 clear hK K
                 refine done_ (by kernel_rfl) ?_
                 have Z := auto_end b Q3.out.1 Q3.out.2.1 Q3.out.2.2.1 hlN Q3.out.2.2.2 F4
                 have Z3 := Aside0.mk Z
                 clear Z kk g0 gf0 g1 gf1 hvl hkl hst hlN kb59 F4
                 generalize ((x4.setCell ⟨g, 0, none⟩ (.slice Au (k + 1) cu)).setCell ⟨g, 1, none⟩ (.slice Av (k + 1) cv)) = z at Z3 ⊢
                 go_wp2
                 go_roundg k3
                 case measure => omega
                 case rel => exact ⟨k + 1, sx, nx ++ [rx], os ++ [b], _, _, by first | (rw [w64s k (by have := HS.out.2.2; omega)]) | (simp; done), ⟨HR2.out.2⟩, HSX, Z3, ⟨by rw [List.length_append, HKL.out.1]; rfl, by rw [List.length_append, HKL.out.2]; rfl⟩⟩
                ·refine Kd.R_lit_step (Kd.int .u32) (w0 := w3) g 82 (by rfl) (N := 192) rfl (xs := [b]) (inner := [.int .u32 b]) (ok := fun _ => True) (okp := fun _ => True) ?hrun ?hrep (fun _ hk => hk) trivial F1.low (Nat.le_trans hg3 F1.low.size) (by simp) ?_
                 case hrun => first | (go_simp; done) | (go_simp; rfl)
                 case hrep => exact (Reps.one (show Kd.M (Kd.int .u32) _ _ _ b [.int .u32 b] from rfl) (Reps.none _ _))
                 intro v2 x2 hr_ hb_ hg_ hat_
                 have F2 := (F1.swap.lit (flatInt .u32) hr_ hb_ hg_ hat_).swap
                 clear hr_ hb_ hg_ hat_
                 refine hK.out _ _ (F2.blk Q3.out.2.2.2 (by decide) (by decide)) (fun hHeld => ?_)
                 clear hK K
                 refine nrm 192 ?_
                 refine on 4 (some 188) fun K hK => ?_
                 obtain ⟨A_, c_, e_⟩ := Kd.R_slice F2.ra
                 have hc_ := F2.ra
                 rw [e_] at hc_
                 refine Kd.R_append_rows_step (kcl 1) (w0 := w3) g (by rfl) (.tmp 185) (.tmp 187) 91 83 (.slice none 0 0) 24 rfl Tryz.underlying91 info83v rfl (by decide) (by decide) _ _ _ A_ 1 c_ (fun _ => True) (fun _ => False) rfl (by first | exact e_ | rfl) (F2.ru.mono (fun _ _ => trivial)) (Kd.R_reads' hc_).2.2 (fun _ _ hk => hk) (fun _ hk => hk.elim) (fun _ _ => trivial) F2.low (Nat.le_trans hg3 F2.low.size) ?hl ?_
                 case hl => omega
                 intro v3 x3 hr_ hb_ hg_ hat_
                 have F3 := F2.grow (flatCl 1) (by decide) hr_ hb_ hg_ hat_
                 clear hr_ hb_ hg_ hat_ hc_
                 refine hK.out _ _ (F3.blk Q3.out.2.2.2 (by decide) (by decide)) (fun hHeld => ?_)
                 clear hK K
                 refine nrm 188 ?_
                 refine pu 10 (some 194) ?_
                 refine on 9 (some 193) fun K hK => ?_
                 obtain ⟨A_, c_, e_⟩ := Kd.R_slice F3.rb
                 have hc_ := F3.rb
                 rw [e_] at hc_
                 refine Kd.R_append_rows_step (Kd.int .u32) (w0 := w3) g (by rfl) (.tmp 190) (.tmp 192) 92 82 (.int .u32 0) 4 rfl Tryz.underlying92 info82 rfl (by decide) (by decide) _ _ _ A_ 1 c_ (fun _ => True) (fun _ => False) rfl (by first | exact e_ | rfl) (F3.rv.mono (fun _ _ => trivial)) (Kd.R_reads' hc_).2.2 (fun _ _ hk => hk) (fun _ hk => hk.elim) (fun _ _ => trivial) F3.low (Nat.le_trans hg3 F3.low.size) ?hl ?_
                 case hl => omega
                 intro v4 x4 hr_ hb_ hg_ hat_
                 have F4 := (F3.swap.grow (flatInt .u32) (by decide) hr_ hb_ hg_ hat_).swap
                 clear hr_ hb_ hg_ hat_ hc_
                 refine hK.out _ _ (F4.blk Q3.out.2.2.2 (by decide) (by decide)) (fun hHeld => ?_)
                 clear hK K
                 refine nrm 193 ?_
                 refine la 11 none fun K hK => ?_
                 obtain ⟨Au, cu, eu⟩ := Kd.R_slice F4.ru
                 obtain ⟨Av, cv, ev⟩ := Kd.R_slice F4.rv
                 rw [List.length_append, List.length_singleton, hvl, hkl.1] at eu
                 rw [List.length_append, List.length_singleton, hkl.2] at ev
                 subst eu
                 subst ev
                 have kk := F4.blk Q3.out.2.2.2 (by decide) (by decide)
                 have g0 := blk_cell kk 0
                 have gf0 := blk_frozen kk 0
                 have g1 := blk_cell kk 1
                 have gf1 := blk_frozen kk 1
                 refine skip_ (w1 := ?_) (by rfl) rfl ?_ ?_
                 rotate_left
                 ·go_simp
                  rfl
                 refine hK.out _ _ ?_
                 clear hK K
                 refine pu 12 (some 195) ?_
                 refine la 13 none fun K hK => ?_
                 refine skip_ (w1 := ?_) (by rfl) rfl ?_ ?_
                 rotate_left
                 ·go_simp
                  rfl
                 refine hK.out _ _ ?_
                 clear hK K
                 refine done_ (by kernel_rfl) ?_
                 have Z := auto_end b Q3.out.1 Q3.out.2.1 Q3.out.2.2.1 hlN Q3.out.2.2.2 F4
                 have Z3 := Aside0.mk Z
                 clear Z kk g0 gf0 g1 gf1 hvl hkl hst hlN kb59 F4
                 generalize ((x4.setCell ⟨g, 0, none⟩ (.slice Au (k + 1) cu)).setCell ⟨g, 1, none⟩ (.slice Av (k + 1) cv)) = z at Z3 ⊢
                 go_wp2
                 go_roundg k3
                 case measure => omega
                 case rel => exact ⟨k + 1, sx, nx ++ [rx], os ++ [b], _, _, by first | (rw [w64s k (by have := HS.out.2.2; omega)]) | (simp; done), ⟨HR2.out.2⟩, HSX, Z3, ⟨by rw [List.length_append, HKL.out.1]; rfl, by rw [List.length_append, HKL.out.2]; rfl⟩⟩
               ·refine Kd.R_lit_step (Kd.int .u32) (w0 := w3) g 82 (by rfl) (N := 192) rfl (xs := [b]) (inner := [.int .u32 b]) (ok := fun _ => True) (okp := fun _ => True) ?hrun ?hrep (fun _ hk => hk) trivial F0.low (Nat.le_trans hg3 F0.low.size) (by simp) ?_
                case hrun => first | (go_simp; done) | (go_simp; rfl)
                case hrep => exact (Reps.one (show Kd.M (Kd.int .u32) _ _ _ b [.int .u32 b] from rfl) (Reps.none _ _))
                intro v1 x1 hr_ hb_ hg_ hat_
                have F1 := (F0.swap.lit (flatInt .u32) hr_ hb_ hg_ hat_).swap
                clear hr_ hb_ hg_ hat_
                refine hK.out _ _ (F1.blk Q3.out.2.2.2 (by decide) (by decide)) (fun hHeld => ?_)
                clear hK K
                refine nrm 192 ?_
                refine on 3 (some 187) fun K hK => ?_
                refine Kd.R_lit_step (kcl 1) (w0 := w3) g 83 (by rfl) (N := 187) rfl (xs := [(rowC (some ⟨b23, 0, none⟩) N c23)]) (inner := [.slice (some ⟨b23, 0, none⟩) N c23]) (ok := fun _ => True) (okp := fun _ => True) ?hrun ?hrep (fun _ hk => hk) trivial F1.low (Nat.le_trans hg3 F1.low.size) (by simp) ?_
                case hrun => first | (go_simp; done) | (go_simp; rfl)
                case hrep => exact (Reps.one (show Kd.M (kcl 1) _ _ _ (rowC (some ⟨b23, 0, none⟩) N c23) [.slice (some ⟨b23, 0, none⟩) N c23] from rfl) (Reps.none _ _))
                intro v2 x2 hr_ hb_ hg_ hat_
                have F2 := F1.lit (flatCl 1) hr_ hb_ hg_ hat_
                clear hr_ hb_ hg_ hat_
                refine hK.out _ _ (F2.blk Q3.out.2.2.2 (by decide) (by decide)) (fun hHeld => ?_)
                clear hK K
                refine nrm 187 ?_
                refine on 4 (some 188) fun K hK => ?_
                obtain ⟨A_, c_, e_⟩ := Kd.R_slice F2.ra
                have hc_ := F2.ra
                rw [e_] at hc_
                refine Kd.R_append_rows_step (kcl 1) (w0 := w3) g (by rfl) (.tmp 185) (.tmp 187) 91 83 (.slice none 0 0) 24 rfl Tryz.underlying91 info83v rfl (by decide) (by decide) _ _ _ A_ 1 c_ (fun _ => True) (fun _ => False) rfl (by first | exact e_ | rfl) (F2.ru.mono (fun _ _ => trivial)) (Kd.R_reads' hc_).2.2 (fun _ _ hk => hk) (fun _ hk => hk.elim) (fun _ _ => trivial) F2.low (Nat.le_trans hg3 F2.low.size) ?hl ?_
                case hl => omega
                intro v3 x3 hr_ hb_ hg_ hat_
                have F3 := F2.grow (flatCl 1) (by decide) hr_ hb_ hg_ hat_
                clear hr_ hb_ hg_ hat_ hc_
                refine hK.out _ _ (F3.blk Q3.out.2.2.2 (by decide) (by decide)) (fun hHeld => ?_)
                clear hK K
                refine nrm 188 ?_
                refine pu 10 (some 194) ?_
                refine on 9 (some 193) fun K hK => ?_
                obtain ⟨A_, c_, e_⟩ := Kd.R_slice F3.rb
                have hc_ := F3.rb
                rw [e_] at hc_
                refine Kd.R_append_rows_step (Kd.int .u32) (w0 := w3) g (by rfl) (.tmp 190) (.tmp 192) 92 82 (.int .u32 0) 4 rfl Tryz.underlying92 info82 rfl (by decide) (by decide) _ _ _ A_ 1 c_ (fun _ => True) (fun _ => False) rfl (by first | exact e_ | rfl) (F3.rv.mono (fun _ _ => trivial)) (Kd.R_reads' hc_).2.2 (fun _ _ hk => hk) (fun _ hk => hk.elim) (fun _ _ => trivial) F3.low (Nat.le_trans hg3 F3.low.size) ?hl ?_
                case hl => omega
                intro v4 x4 hr_ hb_ hg_ hat_
                have F4 := (F3.swap.grow (flatInt .u32) (by decide) hr_ hb_ hg_ hat_).swap
                clear hr_ hb_ hg_ hat_ hc_
                refine hK.out _ _ (F4.blk Q3.out.2.2.2 (by decide) (by decide)) (fun hHeld => ?_)
                clear hK K
                refine nrm 193 ?_
                refine la 11 none fun K hK => ?_
                obtain ⟨Au, cu, eu⟩ := Kd.R_slice F4.ru
                obtain ⟨Av, cv, ev⟩ := Kd.R_slice F4.rv
                rw [List.length_append, List.length_singleton, hvl, hkl.1] at eu
                rw [List.length_append, List.length_singleton, hkl.2] at ev
                subst eu
                subst ev
                have kk := F4.blk Q3.out.2.2.2 (by decide) (by decide)
                have g0 := blk_cell kk 0
                have gf0 := blk_frozen kk 0
                have g1 := blk_cell kk 1
                have gf1 := blk_frozen kk 1
                refine skip_ (w1 := ?_) (by rfl) rfl ?_ ?_
                rotate_left
                ·go_simp
                 rfl
                refine hK.out _ _ ?_
                clear hK K
                refine pu 12 (some 195) ?_
                refine la 13 none fun K hK => ?_
                refine skip_ (w1 := ?_) (by rfl) rfl ?_ ?_
                rotate_left
                ·go_simp
                 rfl
                refine hK.out _ _ ?_
                clear hK K
                refine done_ (by kernel_rfl) ?_
                have Z := auto_end b Q3.out.1 Q3.out.2.1 Q3.out.2.2.1 hlN Q3.out.2.2.2 F4
                have Z3 := Aside0.mk Z
                clear Z kk g0 gf0 g1 gf1 hvl hkl hst hlN kb59 F4
                generalize ((x4.setCell ⟨g, 0, none⟩ (.slice Au (k + 1) cu)).setCell ⟨g, 1, none⟩ (.slice Av (k + 1) cv)) = z at Z3 ⊢
                go_wp2
                go_roundg k3
                case measure => omega
                case rel => exact ⟨k + 1, sx, nx ++ [rx], os ++ [b], _, _, by first | (rw [w64s k (by have := HS.out.2.2; omega)]) | (simp; done), ⟨HR2.out.2⟩, HSX, Z3, ⟨by rw [List.length_append, HKL.out.1]; rfl, by rw [List.length_append, HKL.out.2]; rfl⟩⟩
              | succ k6 =>
               have hltn : decide (ci < N) = true := by simp; omega
               have hltp : ci < N := by omega
               have hltz : decide ((ci : Int) < (N : Int)) = true := by simp; omega
               have hTl : T.length = N := by rw [← HT0.out.1]; simp
               have hTe : T.drop ci = tF F S ci :: T.drop (ci + 1) := by
                rw [List.drop_eq_getElem_cons (show ci < T.length by omega)]
                congr 1
                have h := HT0.out.1
                subst h
                simp
               have hrw := HRW.out
               rw [hTe] at hrw
               obtain ⟨tc, htc⟩ : ∃ tc, Aside0 (tF F S ci = tc) := ⟨_, ⟨rfl⟩⟩
               rw [htc.out] at hrw hTe
               have HRT := Aside0.mk (And.intro hrw (HT0.out.2.1 tc (List.mem_of_mem_drop (i := ci) (by rw [hTe]; exact List.mem_cons_self))))
               clear hrw hTe hTl HRW
               obtain ⟨w11, hw11⟩ : ∃ w11, w11 = wr := ⟨_, rfl⟩
               subst hw11
               have PM11 := (HTX.out 189 (by decide) (by decide) _ _ _ P5.out.1).trans P5.out.1
               have S82 := Aside0.mk (HK.out.2.1.same ((Same.of_low HW.out).trans ((Same.of_low (show Below w2.heap.size w2 w5 by rw [hg.out]; exact HA.out.low)).trans (HTX.out 82 (by decide) (by decide)))))
               have m0c : (w11.alloc (.cells #[.int .u64 0, .int .u64 0, .int .u64 0, .int .u64 0] 193)).cell? ⟨w.heap.size + 1, 0, none⟩ = some (.slice AM S.length cM) := blk_cell (blk_alloc PM11 _) 0
               have kz0 := blk_new w11 (.cells #[.int .u64 0, .int .u64 0, .int .u64 0, .int .u64 0] 193)
               have bz0 := below_alloc (Below.refl w11.heap.size w11) (.cells #[.int .u64 0, .int .u64 0, .int .u64 0, .int .u64 0] 193)
               have KZ11 : Aside0 ((w11.alloc (.cells #[.int .u64 0, .int .u64 0, .int .u64 0, .int .u64 0] 193)).heap[w11.heap.size]? = some (.cells #[.int .u64 0, .int .u64 0, .int .u64 0, .int .u64 0] 193) ∧ Below w11.heap.size w11 (w11.alloc (.cells #[.int .u64 0, .int .u64 0, .int .u64 0, .int .u64 0] 193))) := ⟨⟨kz0, bz0⟩⟩
               clear kz0 bz0 PM11
               go_wp2_with fail
               have hltp2 := hltp
               clear hltn hltz m0c
               go_loopg [141] S.length (fun kq v141 w' => ∃ (j7 : Nat) (t : Int), v141 = .int .i64 (j7 : Int) ∧ Aside0 (j7 + kq = S.length) ∧ Aside0 (tG F ci (S.drop j7) j7 t = tc) ∧ Aside0 (w'.heap[w11.heap.size]? = some (.cells #[.int .u64 t, .int .u64 0, .int .u64 0, .int .u64 0] 193 (0, 0)) ∧ Below w11.heap.size w11 w'))
               case atStart => exact ⟨0, 0, rfl, ⟨by omega⟩, ⟨by rw [List.drop_zero]; exact htc.out⟩, KZ11⟩
               case round =>
                obtain ⟨j7, t, rfl, HJ7, HT7, HB7⟩ := hrel
                have hj7 := HJ7.out
                cases gk with
                | zero =>
                 have hltn : decide (j7 < S.length) = false := by simp; omega
                 have hltp : ¬ (j7 < S.length) := by omega
                 have hltz : decide ((j7 : Int) < (S.length : Int)) = false := by simp; omega
                 have htt : t = tc := by have h := HT7.out; rwa [List.drop_eq_nil_of_le (by omega)] at h
                 subst htt
                 have A15 := Aside0.mk (HAX.out.below HB7.out.2)
                 have y0 : wr.cell? ⟨w11.heap.size, 0, none⟩ = some (.int .u64 t) := blk_cell HB7.out.1 0
                 have y1 : wr.cell? ⟨w11.heap.size, 1, none⟩ = some (.int .u64 0) := blk_cell HB7.out.1 1
                 have y2 : wr.cell? ⟨w11.heap.size, 2, none⟩ = some (.int .u64 0) := blk_cell HB7.out.1 2
                 have y3 : wr.cell? ⟨w11.heap.size, 3, none⟩ = some (.int .u64 0) := blk_cell HB7.out.1 3
                 obtain ⟨cE, _, hME, hccE, hfE⟩ := Kd.R_elem (HRX.out.same (Same.of_low HB7.out.2)) (0 : Int) (ci : Int) (by omega) (by omega)
                 have hME : cE = [.int .i64 ((rx ++ List.replicate (N - ci) 0).getD (ci : Int).toNat 0)] := hME
                 subst hME
                 have eE : (ci : Int).toNat * (Kd.int .i64).sz + 0 = ci := by rw [Int.toNat_natCast]; exact Nat.mul_one ci
                 have n0 := hccE 0 _ rfl
                 rw [eE] at n0
                 have n1 := hfE 0
                 rw [eE] at n1
                 clear hccE hfE
                 by_cases hin : t ∈ sx
                 ·have hidx : sx[sx.idxOf t]? = some t := by
                   rw [List.getElem?_eq_getElem (List.idxOf_lt_length_of_mem hin), List.getElem_idxOf]
                  have hlk : (Instr.lookup 198 (.map (some (g + 1 + 1))) (.agg #[.int .u64 t, .int .u64 0, .int .u64 0, .int .u64 0]) true).run Tryz.prog wr = .ok (.tuple #[.int .i64 ((sx.idxOf t : Nat) : Int), .bool true]) wr := seen_yes wr (g + 1 + 1) sx t (sx.idxOf t) A15.out.seen HSX.out.1 HRT.out.2 HSX.out.2.1 hidx
                  go_wp2_with fail
                  have hrt := HRT.out.1
                  simp only [rowA, if_pos hin] at hrt
                  have Z := auto_store A15.out (HRX.out.same (Same.of_low HB7.out.2)) HRL.out hltp2 (fun t' h1 h2 => (HTX.out t' h1 h2).trans (Same.of_low HB7.out.2)) (blk_below HFX.out HB7.out.2) ((sx.idxOf t : Nat) : Int)
                  have Z4 := Aside0.mk Z.1
                  have Z5 := Aside0.mk Z.2.1
                  have Z6 := Aside0.mk Z.2.2.1
                  have Z7 := Aside0.mk Z.2.2.2
                  have HRU := Aside0.mk hrt
                  clear Z hrt hlk n0 n1
                  go_roundg k6
                  case measure => omega
                  case rel => exact ⟨ci + 1, sx, rx ++ [((sx.idxOf t : Nat) : Int)], by first | (rw [w64s ci (by omega)]) | (simp; done), ⟨by omega⟩, HRU, ⟨by rw [List.length_append, HRL.out]; rfl⟩, HSX, Z4, Z5, Z7, HNX, Z6, ⟨by have := HBX.out; have := HB7.out.2.size; simp; omega⟩⟩
                 ·have hlk : (Instr.lookup 198 (.map (some (g + 1 + 1))) (.agg #[.int .u64 t, .int .u64 0, .int .u64 0, .int .u64 0]) true).run Tryz.prog wr = .ok (.tuple #[.int .i64 0, .bool false]) wr := seen_no wr (g + 1 + 1) sx t A15.out.seen HSX.out.1 HRT.out.2 HSX.out.2.1 hin
                  have hrt := HRT.out.1
                  simp only [rowA, if_neg hin] at hrt
                  have hls : sx.length < 300 := by
                   by_cases h : sx.length < 300
                   ·exact h
                   ·rw [if_neg h] at hrt
                    cases hrt
                  rw [if_pos hls] at hrt
                  have HRU := Aside0.mk hrt
                  clear hrt
                  have q1 : decide ((300 : Int) ≤ (sx.length : Int)) = false := by simp; omega
                  have q2 : decide (300 ≤ sx.length) = false := by simp; omega
                  have q3 : ¬ (300 ≤ sx.length) := by omega
                  obtain ⟨A14, c14b, e14⟩ := Kd.R_slice A15.out.st
                  rw [List.length_map] at e14
                  subst e14
                  have hput : (Instr.mapUpdate 198 (.map (some (g + 1 + 1))) (.agg #[.int .u64 t, .int .u64 0, .int .u64 0, .int .u64 0]) (.int .i64 (sx.length : Int))).run Tryz.prog wr = .ok () (putMap wr (g + 1 + 1) (.map (seenEs (sx ++ [t])) (sx ++ [t]).length)) := seen_put wr (g + 1 + 1) sx t A15.out.seen HSX.out.1 HRT.out.2 HSX.out.2.1 hin
                  have hz15 : w11.heap.size ≠ g + 1 + 1 := fun he => by have h := HB7.out.1; have h2 := A15.out.seen; rw [SeenIs, ← he, h] at h2; cases h2
                  have pz := (putMap_far (o := .map (seenEs (sx ++ [t])) (sx ++ [t]).length) hz15).trans HB7.out.1
                  have pA := A15.out.st.same (Same.putMap (o := .map (seenEs (sx ++ [t])) (sx ++ [t]).length) A15.out.seen)
                  have pB := below_putMap (o := .map (seenEs (sx ++ [t])) (sx ++ [t]).length) A15.out.low (show g ≤ g + 1 + 1 by omega)
                  have pC : g ≤ (putMap wr (g + 1 + 1) (.map (seenEs (sx ++ [t])) (sx ++ [t]).length)).heap.size := by rw [putMap_size]; have := blk_lt A15.out.seen; omega
                  have pF := (putMap_far (o := .map (seenEs (sx ++ [t])) (sx ++ [t]).length) (show w5.heap.size + 1 ≠ g + 1 + 1 from fun he => by have h := blk_below HFX.out HB7.out.2; have h2 := A15.out.seen; rw [SeenIs, ← he, h] at h2; cases h2)).trans (blk_below HFX.out HB7.out.2)
                  have p3 := Same.putMap (t := 3) (o := .map (seenEs (sx ++ [t])) (sx ++ [t]).length) A15.out.seen
                  have pT : ∀ t', t' ≠ 193 → t' ≠ 3 → Same t' w5 (putMap wr (g + 1 + 1) (.map (seenEs (sx ++ [t])) (sx ++ [t]).length)) := fun t' h1 h2 => ((HTX.out t' h1 h2).trans (Same.of_low HB7.out.2)).trans (Same.putMap A15.out.seen)
                  have pL : b23 < (putMap wr (g + 1 + 1) (.map (seenEs (sx ++ [t])) (sx ++ [t]).length)).heap.size := by rw [putMap_size]; have := HBX.out; have := HB7.out.2.size; omega
                  have hP := Aside0.mk (fun {x5 v5 : _} {ok : Nat → Prop} (hr : (kcl 4).R 193 x5 g ok v5 ((sx ++ [t]).map setC)) (hb : Below g w2 x5) hg => A15.out.put t hr hb hg)
                  have PQ := Aside0.mk (And.intro pA (And.intro pB (And.intro pC (And.intro pF (And.intro p3 (And.intro pT pL))))))
                  clear pA pB pC pF p3 pT pL hz15
                  generalize hWm : putMap wr (g + 1 + 1) (.map (seenEs (sx ++ [t])) (sx ++ [t]).length) = wm at hput pz PQ hP
                  have z0 : wm.cell? ⟨w11.heap.size, 0, none⟩ = some (.int .u64 t) := blk_cell pz 0
                  have z1 : wm.cell? ⟨w11.heap.size, 1, none⟩ = some (.int .u64 0) := blk_cell pz 1
                  have z2 : wm.cell? ⟨w11.heap.size, 2, none⟩ = some (.int .u64 0) := blk_cell pz 2
                  have z3 : wm.cell? ⟨w11.heap.size, 3, none⟩ = some (.int .u64 0) := blk_cell pz 3
                  clear hWm n0 n1 pz
                  go_wp2_with (at_builtin; go_loud (refine Kd.R_append (kcl 4) (w0 := w2) g rfl (.tmp 175) (.tmp 177) 187 193 (.agg #[.int .u64 0, .int .u64 0, .int .u64 0, .int .u64 0]) 32 rfl Tryz.underlying187 info193 rfl (by decide) (by decide) (.slice A14 sx.length c14b) (sx.map setC) (setC t) [.int .u64 t, .int .u64 0, .int .u64 0, .int .u64 0] (fun _ => True) (fun _ => False) rfl rfl rfl (fun _ hk => hk.elim) (fun _ _ => trivial) PQ.out.1.loose PQ.out.2.1 PQ.out.2.2.1 ?hl2 ?_; (case hl2 => simp; omega); intro v5 x5 hr5 hb5 hg5 hat5; have M5 := Aside0.mk (hP.out (by rw [List.map_append]; exact hr5) hb5 hg5); have R5 := Aside0.mk (((HRX.out.same (Same.of_low HB7.out.2)).same PQ.out.2.2.2.2.1).same (Same.grown PQ.out.1 hg5 (by decide))); have F5 := Aside0.mk ((hg5.block _ (blk_lt PQ.out.2.2.2.1) (fun he => HNX.out he.symm)).trans PQ.out.2.2.2.1); have T5 : Aside0 (∀ t', t' ≠ 193 → t' ≠ 3 → Same t' w5 x5) := ⟨fun t' h1 h2 => (PQ.out.2.2.2.2.2.1 t' h1 h2).trans (Same.grown PQ.out.1 hg5 h1)⟩; have L5 : Aside0 (b23 < x5.heap.size) := ⟨by have := hg5.size; have := PQ.out.2.2.2.2.2.2; omega⟩; have N5 : Aside0 (v5.ownBlock ≠ some (w5.heap.size + 1)) := ⟨fun he => by (rcases hat5 with h | ⟨q, hq, hle⟩); (rw [h] at he; exact HNX.out he); (rw [hq] at he; injection he with he; have := blk_lt PQ.out.2.2.2.1; omega)⟩; obtain ⟨cE, _, hME, hccE, hfE⟩ := Kd.R_elem R5.out (0 : Int) (ci : Int) (by omega) (by omega); have hME : cE = [.int .i64 ((rx ++ List.replicate (N - ci) 0).getD (ci : Int).toNat 0)] := hME; subst hME; have n0 := hccE 0 _ rfl; rw [eE] at n0; have n1 := hfE 0; rw [eE] at n1; clear hccE hfE hr5 hb5 hg5 hat5 z0 z1 z2 z3 hput hlk y0 y1 y2 y3))
                  have Z := auto_store M5.out R5.out HRL.out hltp2 T5.out F5.out (sx.length : Int)
                  have Z4 := Aside0.mk Z.1
                  have Z5 := Aside0.mk Z.2.1
                  have Z6 := Aside0.mk Z.2.2.1
                  have Z7 := Aside0.mk Z.2.2.2
                  have SX := Aside0.mk (HSX.out.snoc HRT.out.2 hin hls)
                  clear Z n0 n1
                  go_roundg k6
                  case measure => omega
                  case rel => exact ⟨ci + 1, sx ++ [t], rx ++ [(sx.length : Int)], by first | (rw [w64s ci (by omega)]) | (simp; done), ⟨by omega⟩, HRU, ⟨by rw [List.length_append, HRL.out]; rfl⟩, SX, Z4, Z5, Z7, N5, Z6, ⟨by have := L5.out; simp; omega⟩⟩
                | succ k7 =>
                 have hltn : decide (j7 < S.length) = true := by simp; omega
                 have hltp : j7 < S.length := by omega
                 have hltz : decide ((j7 : Int) < (S.length : Int)) = true := by simp; omega
                 have hS7 : j7 < 64 := by have := hSl.out; omega
                 obtain ⟨adS, cS, hadS, _, hKS, hcS⟩ := Kd.C_get (S82.out.same (Same.of_low HB7.out.2)).reads.2.2 (0 : Int) (j7 : Int) (by omega) (by omega)
                 have hdr : S.drop j7 = S.getD j7 0 :: S.drop (j7 + 1) := by
                  rw [List.drop_eq_getElem_cons hltp]
                  simp [List.getD, List.getElem?_eq_getElem hltp]
                 have ht7 := HT7.out
                 rw [hdr] at ht7
                 have hKS : cS = [.int .u32 (S.getD (j7 : Int).toNat 0)] := hKS
                 rw [Int.toNat_natCast] at hKS hcS
                 obtain ⟨x, hx⟩ : ∃ x, Aside0 (S.getD j7 0 = x) := ⟨_, ⟨rfl⟩⟩
                 rw [hx.out] at ht7 hKS
                 subst hKS
                 simp only [tG] at ht7
                 have HT8 := Aside0.mk ht7
                 clear ht7 hdr HT7
                 subst hadS
                 have cx : wr.cell? (adS.add j7) = some (.int .u32 x) := by have := hcS 0 _ rfl; rwa [show j7 * (Kd.int .u32).sz + 0 = j7 from Nat.mul_one j7] at this
                 have KF7 := blk_below HFX.out HB7.out.2
                 have y0 : wr.cell? ⟨w5.heap.size + 1, 0, none⟩ = some (.int .u64 F) := blk_cell KF7 0
                 have y1 : wr.cell? ⟨w5.heap.size + 1, 1, none⟩ = some (.int .u64 0) := blk_cell KF7 1
                 have y2 : wr.cell? ⟨w5.heap.size + 1, 2, none⟩ = some (.int .u64 0) := blk_cell KF7 2
                 have y3 : wr.cell? ⟨w5.heap.size + 1, 3, none⟩ = some (.int .u64 0) := blk_cell KF7 3
                 clear hcS KF7
                 go_wp2_with fail
                 refine (has_calls F (j7 : Int) wr (by omega) (by omega)).mono ?_
                 rintro e w12 ⟨rfl, hb12⟩
                 have hs11 := HB7.out.2.size
                 have HB12 : Aside0 (w12.heap[w11.heap.size]? = some (.cells #[.int .u64 t, .int .u64 0, .int .u64 0, .int .u64 0] 193 (0, 0)) ∧ Below w11.heap.size w11 w12) := ⟨⟨blk_below HB7.out.1 hb12, HB7.out.2.trans (hb12.mono hs11)⟩⟩
                 clear y0 y1 y2 y3 cx hb12 HB7 hs11
                 cases hh : (Go.bits .and .u64 (F / 2 ^ (j7 : Int).toNat) 1 == 1) with
                 | false =>
                  have hh2 : hasF F j7 = false := hh
                  rw [hh2] at HT8
                  go_wp2
                  go_roundg k7
                  case measure => omega
                  case rel => exact ⟨j7 + 1, t, by first | (rw [w64s j7 (by omega)]) | (simp; done), ⟨by omega⟩, ⟨by simpa using HT8.out⟩, HB12⟩
                 | true =>
                  have hh2 : hasF F j7 = true := hh
                  rw [hh2] at HT8
                  have hci24 : ci < 24 := by omega
                  cases hh3 : (Go.bits .and .u32 (x / 2 ^ ci) 1 == 1) with
                  | false =>
                   rw [hh3] at HT8
                   go_wp2_with fail
                   go_roundg k7
                   case measure => omega
                   case rel => exact ⟨j7 + 1, t, by first | (rw [w64s j7 (by omega)]) | (simp; done), ⟨by omega⟩, ⟨by simpa using HT8.out⟩, HB12⟩
                  | true =>
                   rw [hh3] at HT8
                   go_wp2_with fail
                   refine (add_calls w11.heap.size 0 t (j7 : Int) w12 (by omega) (by omega) (blk_cell HB12.out.1 0) (blk_frozen HB12.out.1 0) (blk_lt HB12.out.1)).mono ?_
                   rintro e w13 ⟨rfl, w14, hb14, rfl⟩
                   have k25 := blk_set (blk_below HB12.out.1 hb14) 0 (.int .u64 (addF t (j7 : Int)))
                   simp only [List.setIfInBounds_toArray, List.set_cons_zero, List.set_cons_succ] at k25
                   have HB15 := Aside0.mk (And.intro k25 ((HB12.out.2.trans (hb14.mono HB12.out.2.size)).setCell (p := ⟨w11.heap.size, 0, none⟩) (by simp) (.int .u64 (addF t (j7 : Int)))))
                   clear k25 hb14 HB12
                   generalize w14.setCell ⟨w11.heap.size, 0, none⟩ (.int .u64 (addF t (j7 : Int))) = z at HB15 ⊢
                   go_wp2
                   go_roundg k7
                   case measure => omega
                   case rel => exact ⟨j7 + 1, addF t (j7 : Int), by first | (rw [w64s j7 (by omega)]) | (simp; done), ⟨by omega⟩, ⟨by simpa using HT8.out⟩, HB15⟩
            | succ k5 =>
             have hltn : decide (j5 < i) = true := by simp; omega
             have hltp : j5 < i := by omega
             have hltz : decide ((j5 : Int) < (i : Int)) = true := by simp; omega
             have hj24 : j5 < 24 := by omega
             have hlow5 := HB4.out.2.2.trans (HB5.out.mono (by have := HB4.out.2.2.size; omega))
             obtain ⟨ad7, had, hcl⟩ := cl_at (Kd.C_below W5.out.2.2 hlow5) (j5 : Int) (by omega) (by omega)
             rw [Int.toNat_natCast, show (Ps.map partC).getD j5 (zcl 9) = partC (Ps.getD j5 0) by simp [List.getD, List.getElem?_eq_getElem (show j5 < Ps.length by have := hPl.out; omega)]] at hcl
             have hdr : Ps.drop j5 = Ps.getD j5 0 :: Ps.drop (j5 + 1) := by
              rw [List.drop_eq_getElem_cons (show j5 < Ps.length by have := hPl.out; omega)]
              simp [List.getD, List.getElem?_eq_getElem (show j5 < Ps.length by have := hPl.out; omega)]
             have hbt5 := HBT.out
             rw [hdr] at hbt5
             obtain ⟨m, hm⟩ : ∃ m, Aside0 (Ps.getD j5 0 = m) := ⟨_, ⟨rfl⟩⟩
             rw [hm.out] at hcl hbt5
             simp only [bitsG] at hbt5
             have HB5T := Aside0.mk hbt5
             clear hdr hbt5 HBT
             subst had
             have q0 : wr.cell? (ad7.add (j5 * 9)) = some (.bool false) := hcl 0 _ rfl
             have q1 : wr.cell? ⟨(ad7.add (j5 * 9)).block, (ad7.add (j5 * 9)).off + 1, none⟩ = some (.int .u64 m) := by rw [← add_next ad7 (j5 * 9) 1 (by decide)]; exact hcl 1 _ rfl
             have q2 : wr.cell? ⟨(ad7.add (j5 * 9)).block, (ad7.add (j5 * 9)).off + 2, none⟩ = some (.int .u64 0) := by rw [← add_next ad7 (j5 * 9) 2 (by decide)]; exact hcl 2 _ rfl
             have q3 : wr.cell? ⟨(ad7.add (j5 * 9)).block, (ad7.add (j5 * 9)).off + 3, none⟩ = some (.int .u64 0) := by rw [← add_next ad7 (j5 * 9) 3 (by decide)]; exact hcl 3 _ rfl
             have q4 : wr.cell? ⟨(ad7.add (j5 * 9)).block, (ad7.add (j5 * 9)).off + 4, none⟩ = some (.int .u64 0) := by rw [← add_next ad7 (j5 * 9) 4 (by decide)]; exact hcl 4 _ rfl
             have q5 : wr.cell? ⟨(ad7.add (j5 * 9)).block, (ad7.add (j5 * 9)).off + 5, none⟩ = some (.int .u64 m) := by rw [← add_next ad7 (j5 * 9) 5 (by decide)]; exact hcl 5 _ rfl
             have q6 : wr.cell? ⟨(ad7.add (j5 * 9)).block, (ad7.add (j5 * 9)).off + 6, none⟩ = some (.int .u64 0) := by rw [← add_next ad7 (j5 * 9) 6 (by decide)]; exact hcl 6 _ rfl
             have q7 : wr.cell? ⟨(ad7.add (j5 * 9)).block, (ad7.add (j5 * 9)).off + 7, none⟩ = some (.int .u64 0) := by rw [← add_next ad7 (j5 * 9) 7 (by decide)]; exact hcl 7 _ rfl
             have q8 : wr.cell? ⟨(ad7.add (j5 * 9)).block, (ad7.add (j5 * 9)).off + 8, none⟩ = some (.int .u64 0) := by rw [← add_next ad7 (j5 * 9) 8 (by decide)]; exact hcl 8 _ rfl
             have k0 := blk_new wr (.cells #[.bool false, .int .u64 0, .int .u64 0, .int .u64 0, .int .u64 0, .int .u64 0, .int .u64 0, .int .u64 0, .int .u64 0] 195)
             have d0 : (wr.alloc (.cells #[.bool false, .int .u64 0, .int .u64 0, .int .u64 0, .int .u64 0, .int .u64 0, .int .u64 0, .int .u64 0, .int .u64 0] 195)).cell? ⟨wr.heap.size, 0, none⟩ = some (.bool false) := blk_cell k0 0
             have df0 : (wr.alloc (.cells #[.bool false, .int .u64 0, .int .u64 0, .int .u64 0, .int .u64 0, .int .u64 0, .int .u64 0, .int .u64 0, .int .u64 0] 195)).frozen? ⟨wr.heap.size, 0, none⟩ = false := blk_frozen k0 0
             have d1 : (wr.alloc (.cells #[.bool false, .int .u64 0, .int .u64 0, .int .u64 0, .int .u64 0, .int .u64 0, .int .u64 0, .int .u64 0, .int .u64 0] 195)).cell? ⟨wr.heap.size, 1, none⟩ = some (.int .u64 0) := blk_cell k0 1
             have df1 : (wr.alloc (.cells #[.bool false, .int .u64 0, .int .u64 0, .int .u64 0, .int .u64 0, .int .u64 0, .int .u64 0, .int .u64 0, .int .u64 0] 195)).frozen? ⟨wr.heap.size, 1, none⟩ = false := blk_frozen k0 1
             have d2 : (wr.alloc (.cells #[.bool false, .int .u64 0, .int .u64 0, .int .u64 0, .int .u64 0, .int .u64 0, .int .u64 0, .int .u64 0, .int .u64 0] 195)).cell? ⟨wr.heap.size, 2, none⟩ = some (.int .u64 0) := blk_cell k0 2
             have df2 : (wr.alloc (.cells #[.bool false, .int .u64 0, .int .u64 0, .int .u64 0, .int .u64 0, .int .u64 0, .int .u64 0, .int .u64 0, .int .u64 0] 195)).frozen? ⟨wr.heap.size, 2, none⟩ = false := blk_frozen k0 2
             have d3 : (wr.alloc (.cells #[.bool false, .int .u64 0, .int .u64 0, .int .u64 0, .int .u64 0, .int .u64 0, .int .u64 0, .int .u64 0, .int .u64 0] 195)).cell? ⟨wr.heap.size, 3, none⟩ = some (.int .u64 0) := blk_cell k0 3
             have df3 : (wr.alloc (.cells #[.bool false, .int .u64 0, .int .u64 0, .int .u64 0, .int .u64 0, .int .u64 0, .int .u64 0, .int .u64 0, .int .u64 0] 195)).frozen? ⟨wr.heap.size, 3, none⟩ = false := blk_frozen k0 3
             have d4 : (wr.alloc (.cells #[.bool false, .int .u64 0, .int .u64 0, .int .u64 0, .int .u64 0, .int .u64 0, .int .u64 0, .int .u64 0, .int .u64 0] 195)).cell? ⟨wr.heap.size, 4, none⟩ = some (.int .u64 0) := blk_cell k0 4
             have df4 : (wr.alloc (.cells #[.bool false, .int .u64 0, .int .u64 0, .int .u64 0, .int .u64 0, .int .u64 0, .int .u64 0, .int .u64 0, .int .u64 0] 195)).frozen? ⟨wr.heap.size, 4, none⟩ = false := blk_frozen k0 4
             have d5 : (wr.alloc (.cells #[.bool false, .int .u64 0, .int .u64 0, .int .u64 0, .int .u64 0, .int .u64 0, .int .u64 0, .int .u64 0, .int .u64 0] 195)).cell? ⟨wr.heap.size, 5, none⟩ = some (.int .u64 0) := blk_cell k0 5
             have df5 : (wr.alloc (.cells #[.bool false, .int .u64 0, .int .u64 0, .int .u64 0, .int .u64 0, .int .u64 0, .int .u64 0, .int .u64 0, .int .u64 0] 195)).frozen? ⟨wr.heap.size, 5, none⟩ = false := blk_frozen k0 5
             have d6 : (wr.alloc (.cells #[.bool false, .int .u64 0, .int .u64 0, .int .u64 0, .int .u64 0, .int .u64 0, .int .u64 0, .int .u64 0, .int .u64 0] 195)).cell? ⟨wr.heap.size, 6, none⟩ = some (.int .u64 0) := blk_cell k0 6
             have df6 : (wr.alloc (.cells #[.bool false, .int .u64 0, .int .u64 0, .int .u64 0, .int .u64 0, .int .u64 0, .int .u64 0, .int .u64 0, .int .u64 0] 195)).frozen? ⟨wr.heap.size, 6, none⟩ = false := blk_frozen k0 6
             have d7 : (wr.alloc (.cells #[.bool false, .int .u64 0, .int .u64 0, .int .u64 0, .int .u64 0, .int .u64 0, .int .u64 0, .int .u64 0, .int .u64 0] 195)).cell? ⟨wr.heap.size, 7, none⟩ = some (.int .u64 0) := blk_cell k0 7
             have df7 : (wr.alloc (.cells #[.bool false, .int .u64 0, .int .u64 0, .int .u64 0, .int .u64 0, .int .u64 0, .int .u64 0, .int .u64 0, .int .u64 0] 195)).frozen? ⟨wr.heap.size, 7, none⟩ = false := blk_frozen k0 7
             have d8 : (wr.alloc (.cells #[.bool false, .int .u64 0, .int .u64 0, .int .u64 0, .int .u64 0, .int .u64 0, .int .u64 0, .int .u64 0, .int .u64 0] 195)).cell? ⟨wr.heap.size, 8, none⟩ = some (.int .u64 0) := blk_cell k0 8
             have df8 : (wr.alloc (.cells #[.bool false, .int .u64 0, .int .u64 0, .int .u64 0, .int .u64 0, .int .u64 0, .int .u64 0, .int .u64 0, .int .u64 0] 195)).frozen? ⟨wr.heap.size, 8, none⟩ = false := blk_frozen k0 8
             have k1 := blk_new wr (.cells #[.bool false, .int .u64 m, .int .u64 0, .int .u64 0, .int .u64 0, .int .u64 m, .int .u64 0, .int .u64 0, .int .u64 0] 195)
             have g0 : (wr.alloc (.cells #[.bool false, .int .u64 m, .int .u64 0, .int .u64 0, .int .u64 0, .int .u64 m, .int .u64 0, .int .u64 0, .int .u64 0] 195)).cell? ⟨wr.heap.size, 0, none⟩ = some (.bool false) := blk_cell k1 0
             have g1 : (wr.alloc (.cells #[.bool false, .int .u64 m, .int .u64 0, .int .u64 0, .int .u64 0, .int .u64 m, .int .u64 0, .int .u64 0, .int .u64 0] 195)).cell? ⟨wr.heap.size, 1, none⟩ = some (.int .u64 m) := blk_cell k1 1
             have g2 : (wr.alloc (.cells #[.bool false, .int .u64 m, .int .u64 0, .int .u64 0, .int .u64 0, .int .u64 m, .int .u64 0, .int .u64 0, .int .u64 0] 195)).cell? ⟨wr.heap.size, 2, none⟩ = some (.int .u64 0) := blk_cell k1 2
             have g3 : (wr.alloc (.cells #[.bool false, .int .u64 m, .int .u64 0, .int .u64 0, .int .u64 0, .int .u64 m, .int .u64 0, .int .u64 0, .int .u64 0] 195)).cell? ⟨wr.heap.size, 3, none⟩ = some (.int .u64 0) := blk_cell k1 3
             have g4 : (wr.alloc (.cells #[.bool false, .int .u64 m, .int .u64 0, .int .u64 0, .int .u64 0, .int .u64 m, .int .u64 0, .int .u64 0, .int .u64 0] 195)).cell? ⟨wr.heap.size, 4, none⟩ = some (.int .u64 0) := blk_cell k1 4
             have g5 : (wr.alloc (.cells #[.bool false, .int .u64 m, .int .u64 0, .int .u64 0, .int .u64 0, .int .u64 m, .int .u64 0, .int .u64 0, .int .u64 0] 195)).cell? ⟨wr.heap.size, 5, none⟩ = some (.int .u64 m) := blk_cell k1 5
             have g6 : (wr.alloc (.cells #[.bool false, .int .u64 m, .int .u64 0, .int .u64 0, .int .u64 0, .int .u64 m, .int .u64 0, .int .u64 0, .int .u64 0] 195)).cell? ⟨wr.heap.size, 6, none⟩ = some (.int .u64 0) := blk_cell k1 6
             have g7 : (wr.alloc (.cells #[.bool false, .int .u64 m, .int .u64 0, .int .u64 0, .int .u64 0, .int .u64 m, .int .u64 0, .int .u64 0, .int .u64 0] 195)).cell? ⟨wr.heap.size, 7, none⟩ = some (.int .u64 0) := blk_cell k1 7
             have g8 : (wr.alloc (.cells #[.bool false, .int .u64 m, .int .u64 0, .int .u64 0, .int .u64 0, .int .u64 m, .int .u64 0, .int .u64 0, .int .u64 0] 195)).cell? ⟨wr.heap.size, 8, none⟩ = some (.int .u64 0) := blk_cell k1 8
             clear k0 k1
             clear hcl
             have y0 : (wr.alloc (.cells #[.bool false, .int .u64 m, .int .u64 0, .int .u64 0, .int .u64 0, .int .u64 m, .int .u64 0, .int .u64 0, .int .u64 0] 195)).cell? ⟨w5.heap.size, 0, none⟩ = some (.int .u64 s) := blk_cell (blk_alloc (blk_below HB4.out.1 HB5.out) _) 0
             have y1 : (wr.alloc (.cells #[.bool false, .int .u64 m, .int .u64 0, .int .u64 0, .int .u64 0, .int .u64 m, .int .u64 0, .int .u64 0, .int .u64 0] 195)).cell? ⟨w5.heap.size, 1, none⟩ = some (.int .u64 0) := blk_cell (blk_alloc (blk_below HB4.out.1 HB5.out) _) 1
             have y2 : (wr.alloc (.cells #[.bool false, .int .u64 m, .int .u64 0, .int .u64 0, .int .u64 0, .int .u64 m, .int .u64 0, .int .u64 0, .int .u64 0] 195)).cell? ⟨w5.heap.size, 2, none⟩ = some (.int .u64 0) := blk_cell (blk_alloc (blk_below HB4.out.1 HB5.out) _) 2
             have y3 : (wr.alloc (.cells #[.bool false, .int .u64 m, .int .u64 0, .int .u64 0, .int .u64 0, .int .u64 m, .int .u64 0, .int .u64 0, .int .u64 0] 195)).cell? ⟨w5.heap.size, 3, none⟩ = some (.int .u64 0) := blk_cell (blk_alloc (blk_below HB4.out.1 HB5.out) _) 3
             have hb8 := below_alloc (Below.refl wr.heap.size wr) (.cells #[.bool false, .int .u64 m, .int .u64 0, .int .u64 0, .int .u64 0, .int .u64 m, .int .u64 0, .int .u64 0, .int .u64 0] 195)
             go_wp2_with fail
             clear q0 q1 q2 q3 q4 q5 q6 q7 q8 d0 d1 d2 d3 d4 d5 d6 d7 d8 df0 df1 df2 df3 df4 df5 df6 df7 df8 g0 g1 g2 g3 g4 g5 g6 g7 g8 y0 y1 y2 y3
             refine (meets_calls s m _).mono ?_
             rintro e w8 ⟨rfl, hb8b⟩
             have HB8 : Aside0 (Below w7.heap.size w7 w8) := ⟨HB5.out.trans ((hb8.trans (hb8b.mono (by have := hb8.size; omega))).mono (by have := HB5.out.size; omega))⟩
             clear hb8 hb8b
             cases hh : (Go.bits .and .u64 s m != 0) with
             | false =>
              rw [hh] at HB5T
              go_wp2
              go_roundg k5
              case measure => omega
              case rel => exact ⟨j5 + 1, b, rfl, by first | (rw [w64s j5 (by omega)]) | (simp; done), ⟨by omega⟩, ⟨by simpa using HB5T.out⟩, HB8⟩
             | true =>
              rw [hh] at HB5T
              go_wp2
              go_roundg k5
              case measure => omega
              case rel => exact ⟨j5 + 1, Go.bits .or .u32 b ((2 : Int) ^ j5 % 4294967296), rfl, by first | (rw [w64s j5 (by omega)]) | (simp; done), ⟨by omega⟩, ⟨by simpa using HB5T.out⟩, HB8⟩
          | succ k4 =>
           have hltn : decide (j4 < S.length) = true := by simp; omega
           have hltp : j4 < S.length := by omega
           have hSn : j4 < 1000 := by have := hSl.out; omega
           have hltz : decide ((j4 : Int) < (S.length : Int)) = true := by simp; omega
           have y0 : wr.cell? ⟨w5.heap.size, 0, none⟩ = some (.int .u64 s) := blk_cell HB4.out.1 0
           have y1 : wr.cell? ⟨w5.heap.size, 1, none⟩ = some (.int .u64 0) := blk_cell HB4.out.1 1
           have y2 : wr.cell? ⟨w5.heap.size, 2, none⟩ = some (.int .u64 0) := blk_cell HB4.out.1 2
           have y3 : wr.cell? ⟨w5.heap.size, 3, none⟩ = some (.int .u64 0) := blk_cell HB4.out.1 3
           go_wp2_with fail
           refine (has_calls s (j4 : Int) wr (by omega) (by have := hSl.out; omega)).mono ?_
           rintro e w6 ⟨rfl, hb6⟩
           have HB6 : Aside0 (w6.heap[w5.heap.size]? = some (.cells #[.int .u64 s, .int .u64 0, .int .u64 0, .int .u64 0] 193) ∧ w6.heap[w5.heap.size + 1]? = some (.cells #[.int .u64 F, .int .u64 0, .int .u64 0, .int .u64 0] 193) ∧ Below w5.heap.size w5 w6) := ⟨⟨blk_below HB4.out.1 hb6, blk_below HB4.out.2.1 hb6, HB4.out.2.2.trans (hb6.mono (by have := HB4.out.2.2.size; omega))⟩⟩
           clear y0 y1 y2 y3 hb6 HB4
           cases hh : (Go.bits .and .u64 (s / 2 ^ (j4 : Int).toNat) 1 == 1) with
           | false =>
            go_wp2
            go_roundg k4
            case measure => omega
            case rel => exact ⟨j4 + 1, by first | (rw [w64s j4 (by omega)]) | (simp; done), ⟨by omega⟩, HB6⟩
           | true =>
            obtain ⟨adb, hadb, hcb⟩ := cl_at (Kd.C_below W5.out.2.1 HB6.out.2.2) (j4 : Int) (by omega) (by omega)
            rw [Int.toNat_natCast, show (List.replicate S.length (setC 0)).getD j4 (zcl 4) = setC 0 by simp [List.getD, hltp]] at hcb
            subst hadb
            have bm0 : w6.cell? (adb.add (j4 * 4)) = some (.int .u64 0) := hcb 0 _ rfl
            have bm1 : w6.cell? ⟨(adb.add (j4 * 4)).block, (adb.add (j4 * 4)).off + 1, none⟩ = some (.int .u64 0) := by rw [← add_next adb (j4 * 4) 1 (by decide)]; exact hcb 1 _ rfl
            have bm2 : w6.cell? ⟨(adb.add (j4 * 4)).block, (adb.add (j4 * 4)).off + 2, none⟩ = some (.int .u64 0) := by rw [← add_next adb (j4 * 4) 2 (by decide)]; exact hcb 2 _ rfl
            have bm3 : w6.cell? ⟨(adb.add (j4 * 4)).block, (adb.add (j4 * 4)).off + 3, none⟩ = some (.int .u64 0) := by rw [← add_next adb (j4 * 4) 3 (by decide)]; exact hcb 3 _ rfl
            have PM := blk_below P5.out.1 HB6.out.2.2
            go_upto_region 31 with fail
            have hsz6 : w5.heap.size + 1 < w6.heap.size := blk_lt HB6.out.2.1
            refine st 10 w6 [9] fun hHeld => ?_
            generalize w6.drew = w7 at hHeld ⊢
            refine pu 1 (some 101) ?_
            refine pu 2 (some 102) ?_
            refine pu 3 (some 103) ?_
            refine pu 5 (some 105) ?_
            refine take_ (i := 0) (N := some 100) (v := ?_) (a' := ?_) #[true, true, true, true, false, true, false, false, false, false] rfl rfl (by kernel_rfl) (fun _ _ _ h => h) (Or.inl ⟨by rfl, ?_⟩) hHeld ?_ ?_
            rotate_left
            ·intro w' s_
             have k0 : w'.cell? ⟨w5.heap.size + 1, 0, none⟩ = some (.int .u64 F) := blk_cell (blk_below HB6.out.2.1 s_) 0
             have k1 : w'.cell? ⟨w5.heap.size + 1, 1, none⟩ = some (.int .u64 0) := blk_cell (blk_below HB6.out.2.1 s_) 1
             have k2 : w'.cell? ⟨w5.heap.size + 1, 2, none⟩ = some (.int .u64 0) := blk_cell (blk_below HB6.out.2.1 s_) 2
             have k3 : w'.cell? ⟨w5.heap.size + 1, 3, none⟩ = some (.int .u64 0) := blk_cell (blk_below HB6.out.2.1 s_) 3
             go_simp
             try (with_reducible rfl)
            rotate_left
            ·simp only [Act.put, List.setIfInBounds_toArray, List.set_cons_zero, List.set_cons_succ, i64_w, i32_w]
             rfl
            refine take_ (i := 4) (N := some 104) (v := ?_) (a' := ?_) #[true, true, true, true, true, true, false, false, false, false] rfl rfl (by kernel_rfl) (fun _ _ _ h => h) (Or.inl ⟨by rfl, ?_⟩) hHeld ?_ ?_
            rotate_left
            ·intro w' s_
             have k0 : w'.cell? ⟨w.heap.size + 1, 1, none⟩ = some (.slice (some adb) S.length dM) := blk_cell (blk_below PM s_) 1
             go_simp
             try (with_reducible rfl)
            rotate_left
            ·simp only [Act.put, List.setIfInBounds_toArray, List.set_cons_zero, List.set_cons_succ, i64_w, i32_w]
             rfl
            refine pu 6 (some 106) ?_
            refine take_ (i := 7) (N := some 107) (v := ?_) (a' := ?_) #[true, true, true, true, true, true, true, true, false, false] rfl rfl (by kernel_rfl) (fun _ _ _ h => h) (Or.inl ⟨by rfl, ?_⟩) hHeld ?_ ?_
            rotate_left
            ·intro w' s_
             have k0 := pw_cell_below s_ bm0
             have k1 := pw_cell_below s_ bm1
             have k2 := pw_cell_below s_ bm2
             have k3 := pw_cell_below s_ bm3
             go_simp
             try (with_reducible rfl)
            rotate_left
            ·simp only [Act.put, List.setIfInBounds_toArray, List.set_cons_zero, List.set_cons_succ, i64_w, i32_w]
             rfl
            refine on 8 (some 108) fun K hK => ?_
            refine gs Tryz.func63 #[.agg #[.int .u64 F, .int .u64 0, .int .u64 0, .int .u64 0], .agg #[.int .u64 0, .int .u64 0, .int .u64 0, .int .u64 0]] ?_
            with_reducible refine (or_callsr F 0 F _ HT0.out.2.2).mono ?_
            rintro e w_ ⟨rfl, hb_⟩
            refine ⟨_, rfl, ?_⟩
            refine hK.out _ _ (below_step hHeld hb_) (fun hHeld => ?_)
            clear hK K
            refine nrm 108 ?_
            refine la 9 none fun K hK => ?_
            have kk19 := blk_below HB6.out.2.1 hHeld
            have tt0 : w_.cell? ⟨w5.heap.size + 1, 0, none⟩ = some (.int .u64 F) := blk_cell kk19 0
            have ttf0 : w_.frozen? ⟨w5.heap.size + 1, 0, none⟩ = false := blk_frozen kk19 0
            have tt1 : w_.cell? ⟨w5.heap.size + 1, 1, none⟩ = some (.int .u64 0) := blk_cell kk19 1
            have ttf1 : w_.frozen? ⟨w5.heap.size + 1, 1, none⟩ = false := blk_frozen kk19 1
            have tt2 : w_.cell? ⟨w5.heap.size + 1, 2, none⟩ = some (.int .u64 0) := blk_cell kk19 2
            have ttf2 : w_.frozen? ⟨w5.heap.size + 1, 2, none⟩ = false := blk_frozen kk19 2
            have tt3 : w_.cell? ⟨w5.heap.size + 1, 3, none⟩ = some (.int .u64 0) := blk_cell kk19 3
            have ttf3 : w_.frozen? ⟨w5.heap.size + 1, 3, none⟩ = false := blk_frozen kk19 3
            refine skip_ (w1 := ?_) (by rfl) rfl ?_ ?_
            rotate_left
            ·go_simp
             rfl
            refine hK.out _ _ ?_
            clear hK K
            refine done_ (by kernel_rfl) ?_
            have kz : KB w_ ((((w_.setCell ⟨w5.heap.size + 1, 0, none⟩ (.int .u64 F)).setCell ⟨w5.heap.size + 1, 1, none⟩ (.int .u64 0)).setCell ⟨w5.heap.size + 1, 2, none⟩ (.int .u64 0)).setCell ⟨w5.heap.size + 1, 3, none⟩ (.int .u64 0)) (w5.heap.size + 1) := (kb_set (kb_set (kb_set (kb_set (kb_refl _ _) 0 (.int .u64 F)) 1 (.int .u64 0)) 2 (.int .u64 0)) 3 (.int .u64 0))
            have k19 := (blk_set (blk_set (blk_set (blk_set kk19 0 (.int .u64 F)) 1 (.int .u64 0)) 2 (.int .u64 0)) 3 (.int .u64 0))
            simp only [List.setIfInBounds_toArray, List.set_cons_zero, List.set_cons_succ] at k19
            have R9 : Aside0 (((((w_.setCell ⟨w5.heap.size + 1, 0, none⟩ (.int .u64 F)).setCell ⟨w5.heap.size + 1, 1, none⟩ (.int .u64 0)).setCell ⟨w5.heap.size + 1, 2, none⟩ (.int .u64 0)).setCell ⟨w5.heap.size + 1, 3, none⟩ (.int .u64 0)).heap[w5.heap.size]? = some (.cells #[.int .u64 s, .int .u64 0, .int .u64 0, .int .u64 0] 193) ∧ ((((w_.setCell ⟨w5.heap.size + 1, 0, none⟩ (.int .u64 F)).setCell ⟨w5.heap.size + 1, 1, none⟩ (.int .u64 0)).setCell ⟨w5.heap.size + 1, 2, none⟩ (.int .u64 0)).setCell ⟨w5.heap.size + 1, 3, none⟩ (.int .u64 0)).heap[w5.heap.size + 1]? = some (.cells #[.int .u64 F, .int .u64 0, .int .u64 0, .int .u64 0] 193) ∧ Below w5.heap.size w5 ((((w_.setCell ⟨w5.heap.size + 1, 0, none⟩ (.int .u64 F)).setCell ⟨w5.heap.size + 1, 1, none⟩ (.int .u64 0)).setCell ⟨w5.heap.size + 1, 2, none⟩ (.int .u64 0)).setCell ⟨w5.heap.size + 1, 3, none⟩ (.int .u64 0))) :=
             ⟨⟨kb_blk kz (blk_below HB6.out.1 hHeld) (by omega), k19, (HB6.out.2.2.trans (hHeld.mono (by omega))).trans (kb_low kz (by omega) (by have := hHeld.size; omega))⟩⟩
            generalize ((((w_.setCell ⟨w5.heap.size + 1, 0, none⟩ (.int .u64 F)).setCell ⟨w5.heap.size + 1, 1, none⟩ (.int .u64 0)).setCell ⟨w5.heap.size + 1, 2, none⟩ (.int .u64 0)).setCell ⟨w5.heap.size + 1, 3, none⟩ (.int .u64 0)) = z at R9 ⊢
            clear kz k19 tt0 tt1 tt2 tt3 ttf0 ttf1 ttf2 ttf3
            go_wp2
            go_roundg k4
            case measure => omega
            case rel => exact ⟨j4 + 1, by first | (rw [w64s j4 (by omega)]) | (simp; done), ⟨by omega⟩, R9⟩
       ·rw [if_neg hks] at hr
        have hres : (nx, os) = res := by simpa using hr
        clear hr HR
        have hkn : decide (k < sts.length) = false := by simp; omega
        have hkz : decide ((k : Int) < (sts.length : Int)) = false := by simp; omega
        obtain ⟨vs, hvs, hnx⟩ := HA.out.next
        obtain ⟨AN, cN, eN⟩ := Kd.R_slice hvs
        obtain ⟨AO, cO, eO⟩ := Kd.R_slice HA.out.outs
        have hq := HA.out.out
        rw [hnx.1] at eN
        subst eN eO
        have K4 := blk_below K2.out.2.1 (by rw [hg.out]; exact HA.out.low)
        have NX := Aside0.mk (And.intro hvs hnx)
        clear hvs hnx
        have y0 : wr.cell? ⟨g, 0, none⟩ = some (.slice AN nx.length cN) := blk_cell hq 0
        have y1 : wr.cell? ⟨g, 1, none⟩ = some (.slice AO os.length cO) := blk_cell hq 1
        have x0 : wr.cell? ⟨w.heap.size, 0, none⟩ = some (.slice none 0 0) := blk_cell K4 0
        have x1 : wr.cell? ⟨w.heap.size, 1, none⟩ = some (.slice none 0 0) := blk_cell K4 1
        have f0 := blk_frozen K4 0
        have f1 := blk_frozen K4 1
        go_wp2
        have hgw : w.heap.size < g := by have := BW2.out.size; have := blk_lt K2.out.2.1; rw [hg.out] at this; exact this
        have kz : KB wr ((wr.setCell ⟨w.heap.size, 0, none⟩ (.slice AN nx.length cN)).setCell ⟨w.heap.size, 1, none⟩ (.slice AO os.length cO)) (w.heap.size) := (kb_set (kb_set (kb_refl _ _) 0 _) 1 _)
        have k4z : ((wr.setCell ⟨w.heap.size, 0, none⟩ (.slice AN nx.length cN)).setCell ⟨w.heap.size, 1, none⟩ (.slice AO os.length cO)).heap[w.heap.size]? = some (.cells #[.slice AN nx.length cN, .slice AO os.length cO] 94 (0, 0)) := blk_set (blk_set K4 0 _) 1 _
        have c94 : Same 83 wr ((wr.setCell ⟨w.heap.size, 0, none⟩ (.slice AN nx.length cN)).setCell ⟨w.heap.size, 1, none⟩ (.slice AO os.length cO)) := Same.kb kz K4 (by decide)
        have c3 : Same 3 wr ((wr.setCell ⟨w.heap.size, 0, none⟩ (.slice AN nx.length cN)).setCell ⟨w.heap.size, 1, none⟩ (.slice AO os.length cO)) := Same.kb kz K4 (by decide)
        have c82 : Same 82 wr ((wr.setCell ⟨w.heap.size, 0, none⟩ (.slice AN nx.length cN)).setCell ⟨w.heap.size, 1, none⟩ (.slice AO os.length cO)) := Same.kb kz K4 (by decide)
        have hvz := (NX.out.1.same c94)
        have hnz : NextOk ((wr.setCell ⟨w.heap.size, 0, none⟩ (.slice AN nx.length cN)).setCell ⟨w.heap.size, 1, none⟩ (.slice AO os.length cO)) g nx vs := ⟨NX.out.2.1, fun i hi => by obtain ⟨A1, c1, e1, e2⟩ := NX.out.2.2 i hi; exact ⟨A1, c1, e1, e2.same c3⟩⟩
        have hoz := HA.out.outs.same c82
        have bz : Below w.heap.size w ((wr.setCell ⟨w.heap.size, 0, none⟩ (.slice AN nx.length cN)).setCell ⟨w.heap.size, 1, none⟩ (.slice AO os.length cO)) := (BW2.out.trans (HA.out.low.mono (by omega))).trans (kb_low kz (Nat.le_refl _) (by have := HA.out.low.size; have := BW2.out.size; omega))
        generalize ((wr.setCell ⟨w.heap.size, 0, none⟩ (.slice AN nx.length cN)).setCell ⟨w.heap.size, 1, none⟩ (.slice AO os.length cO)) = z at kz k4z c94 c3 c82 hvz hnz hoz bz ⊢
        have e1 : (loadVar 94 ⟨w.heap.size, 0, none⟩).run Tryz.prog z = .ok (.agg #[.slice AN nx.length cN, .slice AO os.length cO]) z := run_loadVar_row z w.heap.size 94 94 _ (0, 0) _ k4z Tryz.underlying94 rfl (by kernel_rfl)
        refine bodyPost_ret (v := .tuple #[.agg #[.slice AN nx.length cN, .slice AO os.length cO], .int .i64 0]) ?_ rfl ?_
        ·rw [results_cell_tmp (p := 4) (u := 5) (ty := 94) rfl]
         show (((asAddr (.pointer (some ⟨w.heap.size, 0, none⟩))).run Tryz.prog z).andThen fun a w₁ => ((loadVar 94 a).run Tryz.prog w₁).andThen fun v w₂ => Result.ok (Value.tuple #[v, .int .i64 0]) w₂) = _
         simp [asAddr, Result.andThen, e1]
        ·rw [← hres]
         have hvl := hvz.reads
         have hol := hoz.reads
         have hvn := hnz.1
         exact ⟨AN, cN, AO, cO, rfl, by have := hvl.2.1; show nx.length ≤ cN; omega, next_reads (by have h := hvl.2.2; rw [hvn] at h; exact h) hnz, hol.2.1, hol.2.2, bz⟩
    | succ k2 =>
     have hltn : decide (j < i) = true := by simp; omega
     have hltp : j < i := by omega
     have hltz : decide ((j : Int) < (i : Int)) = true := by simp; omega
     obtain ⟨ad2, had, hcl⟩ := cl_at (Kd.C_below H7.out.reads.2.2 HW.out) (j : Int) (by omega) (by have := hPl.out; rw [List.length_map]; omega)
     cases had
     rw [Int.toNat_natCast, show (Ps.map partC).getD j (zcl 9) = partC (Ps.getD j 0) by simp [List.getD, List.getElem?_eq_getElem (show j < Ps.length by have := hPl.out; omega)]] at hcl
     have hsn := take_snoc Ps j 0 (by have := hPl.out; omega)
     obtain ⟨m, hm⟩ : ∃ m, Aside0 (Ps.getD j 0 = m) := ⟨_, ⟨rfl⟩⟩
     rw [hm.out] at hcl hsn
     obtain ⟨f, hf⟩ : ∃ f, Aside0 (firstF (Ps.take j) = f) := ⟨_, ⟨rfl⟩⟩
     rw [hf.out] at HF
     have hfn : Aside0 (firstF (Ps.take (j + 1)) = Go.bits .or .u64 f m) := ⟨by rw [hsn, ← hf.out]; simp [firstF, List.foldl_append]⟩
     clear hsn
     have q0 : wr.cell? (ad2.add (j * 9)) = some (.bool false) := hcl 0 _ rfl
     have q1 : wr.cell? ⟨(ad2.add (j * 9)).block, (ad2.add (j * 9)).off + 1, none⟩ = some (.int .u64 m) := by rw [← add_next ad2 (j * 9) 1 (by decide)]; exact hcl 1 _ rfl
     have q2 : wr.cell? ⟨(ad2.add (j * 9)).block, (ad2.add (j * 9)).off + 2, none⟩ = some (.int .u64 0) := by rw [← add_next ad2 (j * 9) 2 (by decide)]; exact hcl 2 _ rfl
     have q3 : wr.cell? ⟨(ad2.add (j * 9)).block, (ad2.add (j * 9)).off + 3, none⟩ = some (.int .u64 0) := by rw [← add_next ad2 (j * 9) 3 (by decide)]; exact hcl 3 _ rfl
     have q4 : wr.cell? ⟨(ad2.add (j * 9)).block, (ad2.add (j * 9)).off + 4, none⟩ = some (.int .u64 0) := by rw [← add_next ad2 (j * 9) 4 (by decide)]; exact hcl 4 _ rfl
     have q5 : wr.cell? ⟨(ad2.add (j * 9)).block, (ad2.add (j * 9)).off + 5, none⟩ = some (.int .u64 m) := by rw [← add_next ad2 (j * 9) 5 (by decide)]; exact hcl 5 _ rfl
     have q6 : wr.cell? ⟨(ad2.add (j * 9)).block, (ad2.add (j * 9)).off + 6, none⟩ = some (.int .u64 0) := by rw [← add_next ad2 (j * 9) 6 (by decide)]; exact hcl 6 _ rfl
     have q7 : wr.cell? ⟨(ad2.add (j * 9)).block, (ad2.add (j * 9)).off + 7, none⟩ = some (.int .u64 0) := by rw [← add_next ad2 (j * 9) 7 (by decide)]; exact hcl 7 _ rfl
     have q8 : wr.cell? ⟨(ad2.add (j * 9)).block, (ad2.add (j * 9)).off + 8, none⟩ = some (.int .u64 0) := by rw [← add_next ad2 (j * 9) 8 (by decide)]; exact hcl 8 _ rfl
     have k0 := blk_new wr (.cells #[.bool false, .int .u64 0, .int .u64 0, .int .u64 0, .int .u64 0, .int .u64 0, .int .u64 0, .int .u64 0, .int .u64 0] 195)
     have d0 : (wr.alloc (.cells #[.bool false, .int .u64 0, .int .u64 0, .int .u64 0, .int .u64 0, .int .u64 0, .int .u64 0, .int .u64 0, .int .u64 0] 195)).cell? ⟨wr.heap.size, 0, none⟩ = some (.bool false) := blk_cell k0 0
     have df0 : (wr.alloc (.cells #[.bool false, .int .u64 0, .int .u64 0, .int .u64 0, .int .u64 0, .int .u64 0, .int .u64 0, .int .u64 0, .int .u64 0] 195)).frozen? ⟨wr.heap.size, 0, none⟩ = false := blk_frozen k0 0
     have d1 : (wr.alloc (.cells #[.bool false, .int .u64 0, .int .u64 0, .int .u64 0, .int .u64 0, .int .u64 0, .int .u64 0, .int .u64 0, .int .u64 0] 195)).cell? ⟨wr.heap.size, 1, none⟩ = some (.int .u64 0) := blk_cell k0 1
     have df1 : (wr.alloc (.cells #[.bool false, .int .u64 0, .int .u64 0, .int .u64 0, .int .u64 0, .int .u64 0, .int .u64 0, .int .u64 0, .int .u64 0] 195)).frozen? ⟨wr.heap.size, 1, none⟩ = false := blk_frozen k0 1
     have d2 : (wr.alloc (.cells #[.bool false, .int .u64 0, .int .u64 0, .int .u64 0, .int .u64 0, .int .u64 0, .int .u64 0, .int .u64 0, .int .u64 0] 195)).cell? ⟨wr.heap.size, 2, none⟩ = some (.int .u64 0) := blk_cell k0 2
     have df2 : (wr.alloc (.cells #[.bool false, .int .u64 0, .int .u64 0, .int .u64 0, .int .u64 0, .int .u64 0, .int .u64 0, .int .u64 0, .int .u64 0] 195)).frozen? ⟨wr.heap.size, 2, none⟩ = false := blk_frozen k0 2
     have d3 : (wr.alloc (.cells #[.bool false, .int .u64 0, .int .u64 0, .int .u64 0, .int .u64 0, .int .u64 0, .int .u64 0, .int .u64 0, .int .u64 0] 195)).cell? ⟨wr.heap.size, 3, none⟩ = some (.int .u64 0) := blk_cell k0 3
     have df3 : (wr.alloc (.cells #[.bool false, .int .u64 0, .int .u64 0, .int .u64 0, .int .u64 0, .int .u64 0, .int .u64 0, .int .u64 0, .int .u64 0] 195)).frozen? ⟨wr.heap.size, 3, none⟩ = false := blk_frozen k0 3
     have d4 : (wr.alloc (.cells #[.bool false, .int .u64 0, .int .u64 0, .int .u64 0, .int .u64 0, .int .u64 0, .int .u64 0, .int .u64 0, .int .u64 0] 195)).cell? ⟨wr.heap.size, 4, none⟩ = some (.int .u64 0) := blk_cell k0 4
     have df4 : (wr.alloc (.cells #[.bool false, .int .u64 0, .int .u64 0, .int .u64 0, .int .u64 0, .int .u64 0, .int .u64 0, .int .u64 0, .int .u64 0] 195)).frozen? ⟨wr.heap.size, 4, none⟩ = false := blk_frozen k0 4
     have d5 : (wr.alloc (.cells #[.bool false, .int .u64 0, .int .u64 0, .int .u64 0, .int .u64 0, .int .u64 0, .int .u64 0, .int .u64 0, .int .u64 0] 195)).cell? ⟨wr.heap.size, 5, none⟩ = some (.int .u64 0) := blk_cell k0 5
     have df5 : (wr.alloc (.cells #[.bool false, .int .u64 0, .int .u64 0, .int .u64 0, .int .u64 0, .int .u64 0, .int .u64 0, .int .u64 0, .int .u64 0] 195)).frozen? ⟨wr.heap.size, 5, none⟩ = false := blk_frozen k0 5
     have d6 : (wr.alloc (.cells #[.bool false, .int .u64 0, .int .u64 0, .int .u64 0, .int .u64 0, .int .u64 0, .int .u64 0, .int .u64 0, .int .u64 0] 195)).cell? ⟨wr.heap.size, 6, none⟩ = some (.int .u64 0) := blk_cell k0 6
     have df6 : (wr.alloc (.cells #[.bool false, .int .u64 0, .int .u64 0, .int .u64 0, .int .u64 0, .int .u64 0, .int .u64 0, .int .u64 0, .int .u64 0] 195)).frozen? ⟨wr.heap.size, 6, none⟩ = false := blk_frozen k0 6
     have d7 : (wr.alloc (.cells #[.bool false, .int .u64 0, .int .u64 0, .int .u64 0, .int .u64 0, .int .u64 0, .int .u64 0, .int .u64 0, .int .u64 0] 195)).cell? ⟨wr.heap.size, 7, none⟩ = some (.int .u64 0) := blk_cell k0 7
     have df7 : (wr.alloc (.cells #[.bool false, .int .u64 0, .int .u64 0, .int .u64 0, .int .u64 0, .int .u64 0, .int .u64 0, .int .u64 0, .int .u64 0] 195)).frozen? ⟨wr.heap.size, 7, none⟩ = false := blk_frozen k0 7
     have d8 : (wr.alloc (.cells #[.bool false, .int .u64 0, .int .u64 0, .int .u64 0, .int .u64 0, .int .u64 0, .int .u64 0, .int .u64 0, .int .u64 0] 195)).cell? ⟨wr.heap.size, 8, none⟩ = some (.int .u64 0) := blk_cell k0 8
     have df8 : (wr.alloc (.cells #[.bool false, .int .u64 0, .int .u64 0, .int .u64 0, .int .u64 0, .int .u64 0, .int .u64 0, .int .u64 0, .int .u64 0] 195)).frozen? ⟨wr.heap.size, 8, none⟩ = false := blk_frozen k0 8
     have k1 := blk_new wr (.cells #[.bool false, .int .u64 m, .int .u64 0, .int .u64 0, .int .u64 0, .int .u64 m, .int .u64 0, .int .u64 0, .int .u64 0] 195)
     have g0 : (wr.alloc (.cells #[.bool false, .int .u64 m, .int .u64 0, .int .u64 0, .int .u64 0, .int .u64 m, .int .u64 0, .int .u64 0, .int .u64 0] 195)).cell? ⟨wr.heap.size, 0, none⟩ = some (.bool false) := blk_cell k1 0
     have g1 : (wr.alloc (.cells #[.bool false, .int .u64 m, .int .u64 0, .int .u64 0, .int .u64 0, .int .u64 m, .int .u64 0, .int .u64 0, .int .u64 0] 195)).cell? ⟨wr.heap.size, 1, none⟩ = some (.int .u64 m) := blk_cell k1 1
     have g2 : (wr.alloc (.cells #[.bool false, .int .u64 m, .int .u64 0, .int .u64 0, .int .u64 0, .int .u64 m, .int .u64 0, .int .u64 0, .int .u64 0] 195)).cell? ⟨wr.heap.size, 2, none⟩ = some (.int .u64 0) := blk_cell k1 2
     have g3 : (wr.alloc (.cells #[.bool false, .int .u64 m, .int .u64 0, .int .u64 0, .int .u64 0, .int .u64 m, .int .u64 0, .int .u64 0, .int .u64 0] 195)).cell? ⟨wr.heap.size, 3, none⟩ = some (.int .u64 0) := blk_cell k1 3
     have g4 : (wr.alloc (.cells #[.bool false, .int .u64 m, .int .u64 0, .int .u64 0, .int .u64 0, .int .u64 m, .int .u64 0, .int .u64 0, .int .u64 0] 195)).cell? ⟨wr.heap.size, 4, none⟩ = some (.int .u64 0) := blk_cell k1 4
     have g5 : (wr.alloc (.cells #[.bool false, .int .u64 m, .int .u64 0, .int .u64 0, .int .u64 0, .int .u64 m, .int .u64 0, .int .u64 0, .int .u64 0] 195)).cell? ⟨wr.heap.size, 5, none⟩ = some (.int .u64 m) := blk_cell k1 5
     have g6 : (wr.alloc (.cells #[.bool false, .int .u64 m, .int .u64 0, .int .u64 0, .int .u64 0, .int .u64 m, .int .u64 0, .int .u64 0, .int .u64 0] 195)).cell? ⟨wr.heap.size, 6, none⟩ = some (.int .u64 0) := blk_cell k1 6
     have g7 : (wr.alloc (.cells #[.bool false, .int .u64 m, .int .u64 0, .int .u64 0, .int .u64 0, .int .u64 m, .int .u64 0, .int .u64 0, .int .u64 0] 195)).cell? ⟨wr.heap.size, 7, none⟩ = some (.int .u64 0) := blk_cell k1 7
     have g8 : (wr.alloc (.cells #[.bool false, .int .u64 m, .int .u64 0, .int .u64 0, .int .u64 0, .int .u64 m, .int .u64 0, .int .u64 0, .int .u64 0] 195)).cell? ⟨wr.heap.size, 8, none⟩ = some (.int .u64 0) := blk_cell k1 8
     have k10 := blk_alloc HF.out (.cells #[.bool false, .int .u64 m, .int .u64 0, .int .u64 0, .int .u64 0, .int .u64 m, .int .u64 0, .int .u64 0, .int .u64 0] 195)
     have h0 : (wr.alloc (.cells #[.bool false, .int .u64 m, .int .u64 0, .int .u64 0, .int .u64 0, .int .u64 m, .int .u64 0, .int .u64 0, .int .u64 0] 195)).cell? ⟨w1.heap.size, 0, none⟩ = some (.int .u64 f) := blk_cell k10 0
     have h1 : (wr.alloc (.cells #[.bool false, .int .u64 m, .int .u64 0, .int .u64 0, .int .u64 0, .int .u64 m, .int .u64 0, .int .u64 0, .int .u64 0] 195)).cell? ⟨w1.heap.size, 1, none⟩ = some (.int .u64 0) := blk_cell k10 1
     have h2 : (wr.alloc (.cells #[.bool false, .int .u64 m, .int .u64 0, .int .u64 0, .int .u64 0, .int .u64 m, .int .u64 0, .int .u64 0, .int .u64 0] 195)).cell? ⟨w1.heap.size, 2, none⟩ = some (.int .u64 0) := blk_cell k10 2
     have h3 : (wr.alloc (.cells #[.bool false, .int .u64 m, .int .u64 0, .int .u64 0, .int .u64 0, .int .u64 m, .int .u64 0, .int .u64 0, .int .u64 0] 195)).cell? ⟨w1.heap.size, 3, none⟩ = some (.int .u64 0) := blk_cell k10 3
     clear k0 k1 k10
     clear hcl
     go_wp2_with fail
     obtain ⟨r, hr⟩ : ∃ r, Aside0 (Go.bits .or .u64 f m = r) := ⟨_, ⟨rfl⟩⟩
     refine (or_callsr f m r _ hr.out).mono ?_
     rintro e w4 ⟨rfl, hb4⟩
     have hbA := below_step (below_alloc (Below.refl wr.heap.size wr) (.cells #[.bool false, .int .u64 m, .int .u64 0, .int .u64 0, .int .u64 0, .int .u64 m, .int .u64 0, .int .u64 0, .int .u64 0] 195)) (hb4.mono (Nat.le_refl _))
     have k10 := blk_below (blk_alloc HF.out (.cells #[.bool false, .int .u64 m, .int .u64 0, .int .u64 0, .int .u64 0, .int .u64 m, .int .u64 0, .int .u64 0, .int .u64 0] 195)) hb4
     have t0 : w4.cell? ⟨w1.heap.size, 0, none⟩ = some (.int .u64 f) := blk_cell k10 0
     have tf0 : w4.frozen? ⟨w1.heap.size, 0, none⟩ = false := blk_frozen k10 0
     have t1 : w4.cell? ⟨w1.heap.size, 1, none⟩ = some (.int .u64 0) := blk_cell k10 1
     have tf1 : w4.frozen? ⟨w1.heap.size, 1, none⟩ = false := blk_frozen k10 1
     have t2 : w4.cell? ⟨w1.heap.size, 2, none⟩ = some (.int .u64 0) := blk_cell k10 2
     have tf2 : w4.frozen? ⟨w1.heap.size, 2, none⟩ = false := blk_frozen k10 2
     have t3 : w4.cell? ⟨w1.heap.size, 3, none⟩ = some (.int .u64 0) := blk_cell k10 3
     have tf3 : w4.frozen? ⟨w1.heap.size, 3, none⟩ = false := blk_frozen k10 3
     clear q0 q1 q2 q3 q4 q5 q6 q7 q8 d0 d1 d2 d3 d4 d5 d6 d7 d8 df0 df1 df2 df3 df4 df5 df6 df7 df8 g0 g1 g2 g3 g4 g5 g6 g7 g8 h0 h1 h2 h3
     go_wp2_with fail
     have k10z := (blk_set (blk_set (blk_set (blk_set k10 0 (.int .u64 r)) 1 (.int .u64 0)) 2 (.int .u64 0)) 3 (.int .u64 0))
     simp only [List.setIfInBounds_toArray, List.set_cons_zero, List.set_cons_succ] at k10z
     have bz := Below.setCell (Below.setCell (Below.setCell (Below.setCell (HW.out.trans (hbA.mono (by have := HW.out.size; omega))) (p := ⟨w1.heap.size, 0, none⟩) (by simp) (.int .u64 r)) (p := ⟨w1.heap.size, 1, none⟩) (by simp) (.int .u64 0)) (p := ⟨w1.heap.size, 2, none⟩) (by simp) (.int .u64 0)) (p := ⟨w1.heap.size, 3, none⟩) (by simp) (.int .u64 0)
     have hfr : Aside0 (firstF (Ps.take (j + 1)) = r) := ⟨hfn.out.trans hr.out⟩
     go_roundg k2
     case measure => omega
     case rel => exact ⟨j + 1, by simp, ⟨by omega⟩, ⟨by rw [hfr.out]; exact k10z⟩, ⟨bz⟩⟩
  | succ k1 =>
   have hlt : decide ((i : Int) < (Xs.length : Int)) = true := by simp; omega
   have hltn : decide (i < Xs.length) = true := by simp; omega
   have hltp : i < Xs.length := by omega
   obtain ⟨AX, nX, cX, heX, hEX⟩ := hX.out.2 i hltp
   obtain ⟨ad, had, hcl⟩ := cl_at (Kd.C_below hC.out HO.out) (i : Int) (by omega) (by omega)
   cases had
   rw [Int.toNat_natCast, heX] at hcl
   have hsn := take_snoc Xs i (.one 0) hltp
   obtain ⟨X, hXe⟩ : ∃ X, Aside0 (Xs.getD i (.one 0) = X) := ⟨_, ⟨rfl⟩⟩
   rw [hXe.out] at hcl hEX hsn
   have HSN := Aside0.mk hsn
   clear hsn heX
   have c0 : wr.cell? (ad.add (i * 3)) = some (.int .u8 X.op) := hcl 0 _ rfl
   have c1 : wr.cell? ⟨(ad.add (i * 3)).block, (ad.add (i * 3)).off + 1, none⟩ = some (.int .u32 X.set) := by rw [← add_next ad (i * 3) 1 (by decide)]; exact hcl 1 _ rfl
   have c2 : wr.cell? ⟨(ad.add (i * 3)).block, (ad.add (i * 3)).off + 2, none⟩ = some (.slice AX nX cX) := by rw [← add_next ad (i * 3) 2 (by decide)]; exact hcl 2 _ rfl
   have k0 := blk_new wr (.cells #[.int .u8 0, .int .u32 0, .slice none 0 0] 140)
   have d0 : (wr.alloc (.cells #[.int .u8 0, .int .u32 0, .slice none 0 0] 140)).cell? ⟨wr.heap.size, 0, none⟩ = some (.int .u8 0) := blk_cell k0 0
   have df0 : (wr.alloc (.cells #[.int .u8 0, .int .u32 0, .slice none 0 0] 140)).frozen? ⟨wr.heap.size, 0, none⟩ = false := blk_frozen k0 0
   have d1 : (wr.alloc (.cells #[.int .u8 0, .int .u32 0, .slice none 0 0] 140)).cell? ⟨wr.heap.size, 1, none⟩ = some (.int .u32 0) := blk_cell k0 1
   have df1 : (wr.alloc (.cells #[.int .u8 0, .int .u32 0, .slice none 0 0] 140)).frozen? ⟨wr.heap.size, 1, none⟩ = false := blk_frozen k0 1
   have d2 : (wr.alloc (.cells #[.int .u8 0, .int .u32 0, .slice none 0 0] 140)).cell? ⟨wr.heap.size, 2, none⟩ = some (.slice none 0 0) := blk_cell k0 2
   have df2 : (wr.alloc (.cells #[.int .u8 0, .int .u32 0, .slice none 0 0] 140)).frozen? ⟨wr.heap.size, 2, none⟩ = false := blk_frozen k0 2
   clear hcl k0
   go_wp2_with fail
   have hbx := below_alloc (Below.refl wr.heap.size wr) (.cells #[.int .u8 X.op, .int .u32 X.set, .slice AX nX cX] 140)
   have hsl : (vsOf (Xs.take i)).length + X.vs.length < 64 := by
    have h1 := vsOf_take Xs (i + 1)
    rw [HSN.out, vsOf_snoc, List.length_append] at h1
    omega
   refine (ofx_calls (w.heap.size + 1) w.heap.size rb (vsOf (Xs.take i)) X (.slice AX nX cX) _ hsl (HM.out.same (Same.of_low hbx) (Same.of_low hbx) (Same.of_low hbx)) (hEX.same ((Same.of_low HO.out).trans (Same.of_low hbx)))).mono ?_
   rintro e w5 ⟨rfl, hM5, hB5, hT5⟩
   have s195 : Same 195 wr w5 := (Same.of_low hbx).trans (hT5 195 (by decide) (by decide) (by decide))
   have s94 : Same 94 wr w5 := (Same.of_low hbx).trans (hT5 94 (by decide) (by decide) (by decide))
   have o7 := H7.out.same s195
   have k4 := (s94 _ _ _ H4.out).trans H4.out
   have hO5 := (HO.out.trans (hbx.mono (by have := HO.out.size; omega))).trans hB5
   have hmk := marksOf_snoc 0 (Xs.take i) X
   rw [← HSN.out, Nat.zero_add] at hmk
   have hvk := vsOf_snoc (Xs.take i) X
   rw [← HSN.out] at hvk
   rw [← hvk] at hM5
   have Q5 := Aside0.mk (And.intro hM5 (And.intro o7 (And.intro k4 hO5)))
   have hml : (marksOf 0 (Xs.take i)).length ≤ 24 := by rw [marksOf_len, List.length_take]; omega
   obtain ⟨m, hm⟩ : ∃ m, Aside0 (X.mark (vsOf (Xs.take i)).length = m) := ⟨_, ⟨rfl⟩⟩
   rw [hm.out] at hmk ⊢
   have HMK := Aside0.mk hmk
   have hbw5 := hO5.size
   clear hbx hsl hM5 o7 k4 hO5 hmk hvk s195 s94 hT5 hB5 HM H7 H4 HO hEX c0 c1 c2 d0 d1 d2 df0 df1 df2
   go_wp2_with (at_builtin; go_loud (refine Kd.R_append (kcl 9) (w0 := w5) w.heap.size rfl (.tmp 50) (.tmp 54) 190 195 (.agg #[.bool false, .int .u64 0, .int .u64 0, .int .u64 0, .int .u64 0, .int .u64 0, .int .u64 0, .int .u64 0, .int .u64 0]) 72 rfl Tryz.underlying190 info195 rfl (by decide) (by decide) (.slice A7 i c7) ((marksOf 0 (Xs.take i)).map partC) (partC m) [.bool false, .int .u64 m, .int .u64 0, .int .u64 0, .int .u64 0, .int .u64 m, .int .u64 0, .int .u64 0, .int .u64 0] (fun _ => True) (fun _ => False) rfl rfl rfl (fun _ hk => hk.elim) (fun _ _ => trivial) Q5.out.2.1.loose (Below.refl _ _) hbw5 ?hl2 ?_; (case hl2 => simp; omega); intro v6 w6 hr6 hb6 hg6 hat6; have s189 := Same.grown (t := 189) Q5.out.2.1 hg6 (by decide); have s82 := Same.grown (t := 82) Q5.out.2.1 hg6 (by decide); have s193 := Same.grown (t := 193) Q5.out.2.1 hg6 (by decide); have s94 := Same.grown (t := 94) Q5.out.2.1 hg6 (by decide); have R1 := Aside0.mk (Q5.out.1.same s189 s82 s193); have R2 := Aside0.mk (Own1.flat (flatCl 9) hr6); have R3 := Aside0.mk ((s94 _ _ _ Q5.out.2.2.1).trans Q5.out.2.2.1); have R4 := Aside0.mk (Q5.out.2.2.2.trans hb6); clear hr6 hb6 hg6 hat6 s189 s82 s193 s94 Q5))
   go_wp2
   go_roundg k1
   case measure => omega
   case rel =>
    rw [show (marksOf 0 (Xs.take i)).map partC ++ [partC m] = (marksOf 0 (Xs.take (i + 1))).map partC by rw [HMK.out, List.map_append]; rfl] at R2
    exact ⟨i + 1, by simp, ⟨by omega⟩, R1, R2, R3, R4⟩
end Go.Proofs.YtkeccgkicffieaaGreatDoor.PTopWider
