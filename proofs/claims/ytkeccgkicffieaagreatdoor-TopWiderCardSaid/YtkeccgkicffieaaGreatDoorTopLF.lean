/- The walk of prop's Make. Conditions: the ranges lie in memory as stated, all below 256. -/
import Derived.Test.YtkeccgkicffieaaGreatDoorTopT
import Derived.Test.YtkeccgkicffieaaGreatDoorTopLE
import Derived.Test.YtkeccgkicffieaaGreatDoorTopU
namespace Go.Proofs.YtkeccgkicffieaaGreatDoor.PTopWider
open Go.RowKit Go.Proofs.YtkeccgkicffieaaGreatDoorW.PrintWords Go.Proofs.YtkeccgkicffieaaGreatDoorW.PrintLast Go.Proofs.YtkeccgkicffieaaGreatDoorW.PrintMore
attribute [local go_sem] max2_o min2_o max_two min_two
set_option linter.unusedVariables false
set_option linter.unusedSimpArgs false
theorem rowsP_all (f : Nat) : ∀ (l : List S69) (xs ys : List Int), rowsP f l xs = some ys → ∀ s ∈ l, 0 ≤ s.f0 ∧ s.f0 ≤ 255 ∧ 0 ≤ s.f1 ∧ s.f1 ≤ 255 ∧ 0 ≤ s.f2 ∧ s.f2 < 256
 | [], _, _, _, s, hs => absurd hs (by simp)
 | x :: r, xs, ys, h, s, hs => by
  unfold rowsP at h
  by_cases hc : 0 ≤ x.f0 ∧ x.f0 ≤ 255 ∧ 0 ≤ x.f1 ∧ x.f1 ≤ 255 ∧ 0 ≤ x.f2 ∧ x.f2 < 256
  ·rw [if_pos hc] at h
   cases hf : fillF f x.f0 x.f1 x.f2 xs with
   | none => rw [hf] at h; cases h
   | some zs =>
    rw [hf] at h
    rcases List.mem_cons.1 hs with rfl | hs
    ·exact hc
    ·exact rowsP_all f r zs ys h s hs
  ·rw [if_neg hc] at h
   cases h
set_option maxHeartbeats 40000000 in
set_option maxRecDepth 100000 in
theorem propmake_calls (fu c : Nat) (A : Option Addr) (l : List S69) (most : Int) (xs0 : List Int) (w : World) (hC : Kd.C k69 w A l.length l) (hc : l.length ≤ c) (hlen : l.length ≤ 100) (hchk : prop_Check.f fu l most = some true) (hxs : rowsP fu l zs256 = some xs0) (hl256 : xs0.length = 256) (hrange : ∀ x ∈ xs0, 0 ≤ x ∧ x < 256)
  (hcase : xs0 = zs256 ∨ ((∀ w, (Op.equalIn 10000 105 (.agg (bB xs0)) (.agg (bB zs256))).run Tryz.prog w = .ok false w) ∧ (∀ w e, (Instr.checkKey e 10000 105 (.agg (bB xs0))).run Tryz.prog w = .ok () w) ∧ Instr.fill (fun i => some (i * 256, 256)) ((Array.range 256).map (z105.cells[· % z105.cells.size]!)) [(0, .agg (bB xs0))] = some (bB xs0))) :
  Calls Tryz.prog 13 #[.slice A l.length c, .int .i64 most] w fun e w' => PropE w (tabF xs0) e w' := by
 have HCH := Aside0.mk (prop_Check.calls fu A c l most true w hC hc hchk)
 have HC := Aside0.mk hC
 have HX := Aside0.mk (And.intro hxs (And.intro hl256 (And.intro hrange hcase)))
 have HAL := Aside0.mk (rowsP_all fu l zs256 xs0 hxs)
 have HQ := Aside0.mk eqz
 obtain ⟨g, hg⟩ : ∃ g, Aside0 (w.heap.size = g) := ⟨_, ⟨rfl⟩⟩
 have m0 : ∀ w : World, (Instr.makeMap 102 none).run Tryz.prog w = .ok (.map (some w.heap.size)) (w.alloc (.map #[] 0)) := fun w => run_makeMap_plain (w := w) 102
 clear hC hc hchk hxs hl256 hrange hcase
 go_enter Tryz.func13, Tryz.ntmps13
 go_wp2_with fail
 refine HCH.out.mono ?_
 rintro e w1 ⟨rfl, hb1⟩
 rw [hg.out] at hb1
 have hgw : g ≤ w1.heap.size := by have := hb1.size; have := hg.out; omega
 go_upto_region 4 with (at_make; refine Kd.R_make (kcl 256) (w0 := w) g 105 rfl (N := 21) rfl 98 (.const (.int .i64 1)) (.const (.int .i64 1)) rfl (1 : Int) rfl rfl Tryz.underlying98 z105 256 info105 size105 (by decide) (by decide) (blkC zs256 zs_len) (ok := fun _ => True) (okp := fun _ => True) ?hz (fun _ _ => trivial) trivial (by omega) (by omega) hb1 hgw ?_; (case hz => rfl); intro v21 w2 hr2 hb2 hg2 hat2; obtain ⟨b6, c6, e6, b6a, b6b, _⟩ := Kd.R_form hr2 (by simp); subst e6)
 have R2 := Aside0.mk (Own1.flat (flatCl 256) hr2)
 have hg2s : g ≤ w2.heap.size := by have := hg2.size; omega
 have ba := below_alloc (Below.refl w2.heap.size w2) (.cells (Tryz.zeroCells101.setIfInBounds 4352 (.slice (some ⟨b6, 0, none⟩) 1 c6)) 101)
 have ba2 := below_alloc ba (.map #[] 0)
 have kT := blk_alloc (blk_new w2 (.cells (Tryz.zeroCells101.setIfInBounds 4352 (.slice (some ⟨b6, 0, none⟩) 1 c6)) 101)) (.map #[] 0)
 have kM := blk_new (w2.alloc (.cells (Tryz.zeroCells101.setIfInBounds 4352 (.slice (some ⟨b6, 0, none⟩) 1 c6)) 101)) (.map #[] 0)
 have zz : (w2.alloc (.cells (Tryz.zeroCells101.setIfInBounds 4352 (.slice (some ⟨b6, 0, none⟩) 1 c6)) 101)).heap.size = w2.heap.size + 1 := by simp
 rw [zz] at kM
 have Q2 := Aside0.mk (And.intro kT (And.intro kM (And.intro (R2.out.below ba2) (hb2.trans (ba2.mono hg2s)))))
 clear hr2 hb2 hg2 hat2 ba ba2 kT kM zz
 go_wp2_with fail
 generalize (w2.alloc (.cells (Tryz.zeroCells101.setIfInBounds 4352 (.slice (some ⟨b6, 0, none⟩) 1 c6)) 101)).alloc (.map #[] 0) = w3 at Q2 ⊢
 obtain ⟨gt, hgt⟩ : ∃ gt, Aside0 (w2.heap.size = gt) := ⟨_, ⟨rfl⟩⟩
 rw [hgt.out] at Q2 ⊢
 go_loopg [8, 25] 4352 (fun kq v8 v25 w' => ∃ (i k : Nat), v8 = .int .i64 (k : Int) ∧ v25 = .int .i64 (i : Int) ∧ Aside0 (i + kq = 4352) ∧ Aside0 (k ≤ l.length) ∧ Aside0 (Below g w w') ∧ Aside0 ((i = 0 ∧ k = 0 ∧ w'.heap[gt]? = some (.cells (Tryz.zeroCells101.setIfInBounds 4352 (.slice (some ⟨b6, 0, none⟩) 1 c6)) 101) ∧ w'.heap[gt + 1]? = some (.map #[] 0) ∧ Own1 (kcl 256) 105 g w' (.slice (some ⟨b6, 0, none⟩) 1 c6) [blkC zs256 zs_len]) ∨ (1 ≤ i ∧ TabB w' g gt (tabF xs0))))
 case atStart => exact ⟨0, 0, rfl, rfl, ⟨by omega⟩, ⟨by omega⟩, ⟨Q2.out.2.2.2⟩, ⟨.inl ⟨rfl, rfl, Q2.out.1, Q2.out.2.1, Q2.out.2.2.1⟩⟩⟩
 case round =>
  obtain ⟨i, k, rfl, rfl, HI, HK, HB, HD⟩ := hrel
  have hi := HI.out
  cases gk with
  | zero =>
   have hltn : decide (i < 4352) = false := by simp; omega
   have hltz : decide ((i : Int) < 4352) = false := by simp; omega
   have hltp : ¬ (i < 4352) := by omega
   have hT : TabB wr g gt (tabF xs0) := by
    rcases HD.out with ⟨h, _⟩ | ⟨_, h⟩
    ·omega
    ·exact h
   have HT := Aside0.mk hT
   clear hT
   go_wp2
   go_ret2
   exact ⟨gt, rfl, by have := hgt.out; have := hg.out; omega, HT.out.tab, by rw [hg.out]; exact HB.out⟩
  | succ k1 =>
   have hltn : decide (i < 4352) = true := by simp; omega
   have hltz : decide ((i : Int) < 4352) = true := by simp; omega
   have hltp : i < 4352 := by omega
   rcases HD.out with ⟨h0, h0k, hT, hM, hO⟩ | ⟨h1, hT⟩
   ·subst h0
    subst h0k
    have QT := Aside0.mk (And.intro hT (And.intro hM hO))
    clear hT hM hO HD
    have kb := blk_new wr (.cells Tryz.zeroCells105 105)
    have ba := below_alloc (Below.refl wr.heap.size wr) (.cells Tryz.zeroCells105 105)
    have hgr : g ≤ wr.heap.size := by have := HB.out.size; have := hg.out; omega
    have kb' : (wr.alloc (.cells Tryz.zeroCells105 105)).heap[wr.heap.size]? = some (.cells (bB zs256) 105 (0, 0)) := by rw [← zc105]; exact kb
    have Q6 := Aside0.mk (And.intro kb' (And.intro (HB.out.trans (ba.mono hgr)) (And.intro (blk_below QT.out.1 ba) (And.intro (blk_below QT.out.2.1 ba) (QT.out.2.2.below ba)))))
    clear kb kb' ba
    go_wp2_with fail
    generalize wr.alloc (.cells Tryz.zeroCells105 105) = w6 at Q6 ⊢
    obtain ⟨bb, hbb⟩ : ∃ bb, Aside0 (wr.heap.size = bb) := ⟨_, ⟨rfl⟩⟩
    rw [hbb.out] at Q6 ⊢
    clear hltn hltz hltp
    refine wp_loop_rounds 1 ?_
    rw [rounds_succ]
    have hex : (l.length = 0 ∨ 0 < l.length) := by omega
    rcases hex with hl0 | hl0
    ·have hkn : decide (0 < l.length) = false := decide_eq_false (by omega)
     have hkz : decide ((0 : Int) < (l.length : Int)) = false := decide_eq_false (by omega)
     have hkp : ¬ (0 < l.length) := by omega
     have hln : l = [] := List.eq_nil_of_length_eq_zero hl0
     have hx0 : zs256 = xs0 := by have h := HX.out.1; rw [hln] at h; simpa [rowsP] using h
     subst hx0
     have TT := Aside0.mk (tabB_one Q6.out.2.2.1 Q6.out.2.2.2.2)
     have hq := eqz'
     replace hln := Aside0.mk hln
     clear hl0
     go_wp2_with fail
     refine wp_loop_rounds 1 ?_
     rw [rounds_succ]
     go_wp2_with fail
     refine wp_load105 (.tmp 12) bb zs256 rfl rfl zs_len Q6.out.1 ?_
     go_wp2_with fail
     clear hq hkn hkz hkp
     go_roundg k1
     case measure => omega
     case rel => exact ⟨0 + 1, 0, rfl, by first | rfl | (simp; done), ⟨by omega⟩, ⟨by omega⟩, ⟨Q6.out.2.1⟩, ⟨.inr ⟨by omega, TT.out⟩⟩⟩
    ·have hkn : decide (0 < l.length) = true := by simp; omega
     have hkz : decide ((0 : Int) < (l.length : Int)) = true := by simp; omega
     obtain ⟨adl, eL, y0, y1, y2⟩ := at_T69 (C_low Q6.out.2.1 hg.out HC.out) 0 (by omega) (by omega)
     subst eL
     have hr := HAL.out (rd_T69 l 0) (getD_mem _ _ _ (by omega))
     have hdn : decide ((rd_T69 l 0).f1 < 0) = false := by simp; omega
     have hz0 : adl.add ((0 : Int).toNat * 3) = adl := by obtain ⟨b, o, p⟩ := adl; rfl
     rw [hz0] at y0 y1 y2
     clear hr
     generalize (rd_T69 l 0).f1 = hi1 at y1 hdn
     go_wp2_with fail
     clear hkn hkz hdn y0 y1 y2
     have hgb : g ≤ bb := by have := hbb.out; omega
     have hgtb : gt < bb := by have := blk_lt QT.out.1; have := hbb.out; omega
     have hgmb : gt + 1 < bb := by have := blk_lt QT.out.2.1; have := hbb.out; omega
     have hb6b : b6 < bb := by have := Kd.R_lt QT.out.2.2 b6 rfl; have := hbb.out; omega
     go_loopg [13] l.length (fun kq v13 w' => ∃ (n : Nat) (xs : List Int), v13 = .int .i64 (n : Int) ∧ Aside0 (n + kq = l.length) ∧ Aside0 (rowsP fu (l.drop n) xs = some xs0 ∧ xs.length = 256) ∧ Aside0 (w'.heap[bb]? = some (.cells (bB xs) 105 (0, 0)) ∧ KB w6 w' bb))
     case atStart => exact ⟨0, zs256, rfl, ⟨by omega⟩, ⟨by rw [List.drop_zero]; exact HX.out.1, zs_len⟩, ⟨Q6.out.1, kb_refl _ _⟩⟩
     case round =>
      obtain ⟨n, xs, rfl, HN, HP, HW⟩ := hrel
      have hn := HN.out
      have hbb6 : g ≤ w6.heap.size := by have := blk_lt Q6.out.1; omega
      cases gk with
      | zero =>
       have hkn : decide (n < l.length) = false := by simp; omega
       have hkz : decide ((n : Int) < (l.length : Int)) = false := by simp; omega
       have hkp : ¬ (n < l.length) := by omega
       have hxx := HP.out.1
       rw [List.drop_eq_nil_of_le (by omega)] at hxx
       have hxx : xs = xs0 := by simpa [rowsP] using hxx
       subst hxx
       go_wp2_with fail
       refine wp_load105 (.tmp 12) bb xs rfl rfl HP.out.2 HW.out.1 ?_
       have kT := kb_blk HW.out.2 Q6.out.2.2.1 (by omega)
       have kM := kb_blk HW.out.2 Q6.out.2.2.2.1 (by omega)
       have kO : Own1 (kcl 256) 105 g wr (.slice (some ⟨b6, 0, none⟩) 1 c6) [blkC zs256 zs_len] := Kd.R_step Q6.out.2.2.2.2 (fun j hj hlt => HW.out.2.k.2 j hlt (fun he => by have hj : b6 = j := (by simpa [Value.ownBlock] using hj); omega) (by simp))
       have kL := Q6.out.2.1.trans (kb_low HW.out.2 hgb hbb6)
       have KK := Aside0.mk (And.intro kT (And.intro kM (And.intro kO kL)))
       clear kT kM kO kL
       rcases HX.out.2.2.2 with hz | ⟨hne, hck, hfl⟩
       ·subst hz
        have hq := eqz'
        have TT := Aside0.mk (tabB_one KK.out.1 KK.out.2.2.1)
        go_wp2_with fail
        clear hq hkn hkz hkp
        go_roundg k1
        case measure => omega
        case rel => exact ⟨0 + 1, 0, rfl, by first | rfl | (simp; done), ⟨by omega⟩, ⟨by omega⟩, ⟨KK.out.2.2.2⟩, ⟨.inr ⟨by omega, TT.out⟩⟩⟩
       ·have hq : ∀ w : World, (Op.equalIn 10000 105 (.agg (bB xs)) (.agg Tryz.zeroCells105)).run Tryz.prog w = .ok false w := fun w => by rw [zc105]; exact hne w
        have HCK := Aside0.mk (And.intro hck hfl)
        clear hne hck hfl
        go_wp2_with fail
        clear hq
        refine wp_load105 (.tmp 12) bb xs rfl rfl HP.out.2 HW.out.1 ?_
        have hlk := look0 wr (gt + 1) (.agg (bB xs)) KK.out.2.1 (fun e => HCK.out.1 wr e)
        have y4 : wr.cell? ⟨gt, 4352, none⟩ = some (.slice (some ⟨b6, 0, none⟩) 1 c6) := (blk_cell KK.out.1 4352).trans (by rw [Array.getElem?_setIfInBounds_self]; simp [z101_size])
        go_upto_region 24 with fail
        have bd := below_drew1 (Below.refl wr.heap.size wr)
        have hgwr : g ≤ wr.heap.size := by have := blk_lt HW.out.1; omega
        have DD := Aside0.mk (And.intro (blk_below KK.out.1 bd) (And.intro (blk_below HW.out.1 bd) (And.intro (blk_below KK.out.2.1 bd) (And.intro (KK.out.2.2.1.below bd) (KK.out.2.2.2.trans (bd.mono hgwr))))))
        have hgd : g ≤ wr.drew.heap.size := by have := bd.size; omega
        clear bd
        refine start_ (n := 11) (S := fun w' => w'.heap[gt]? = some (.cells (Tryz.zeroCells101.setIfInBounds 4352 (.slice (some ⟨b6, 0, none⟩) 1 c6)) 101 (0, 0)) ∧ w'.heap[bb]? = some (.cells (bB xs) 105 (0, 0))) (ds := [10]) #[false, false, false, false, false, false, false, false, false, false, false] (by kernel_rfl) rfl rfl ⟨DD.out.1, DD.out.2.1⟩ (fun hHeld => ?_)
        generalize wr.drew = w8 at hHeld DD hgd ⊢
        refine take_ (i := 5) (N := some 114) (v := .agg (bB xs)) (a' := ?_) #[false, false, false, false, false, true, false, false, false, false, false] rfl rfl (by kernel_rfl) (fun _ _ _ h => h) (yieldsIf_load_mid (by rfl) 105 (.tmp 12) rfl bb 0 rfl (xs.map (Value.int .u8)) _ (fun w' hs' j v hj => by rw [Nat.zero_add]; exact (blk_cell hs'.2 j).trans (by simpa [bB] using hj)) Tryz.underlying105 rfl (by rw [List.length_map, HP.out.2]; kernel_rfl)) hHeld ?_ ?_
        rotate_left
        ·simp only [Act.put, List.setIfInBounds_toArray, List.set_cons_zero, List.set_cons_succ, i64_w, i32_w]
         rfl
        refine pu 0 (some 109) ?_
        refine pu 1 (some 110) ?_
        refine pu 2 (some 111) ?_
        refine pu 3 (some 112) ?_
        refine take_ (i := 4) (N := some 113) (v := ?_) (a' := ?_) #[true, true, true, true, true, true, false, false, false, false, false] rfl rfl (by kernel_rfl) (fun _ _ _ h => h) (Or.inl ⟨by rfl, ?_⟩) hHeld ?_ ?_
        rotate_left
        ·intro w' s_
         have k0 : w'.cell? ⟨gt, 4352, none⟩ = some (.slice (some ⟨b6, 0, none⟩) 1 c6) := (blk_cell s_.1 4352).trans (by rw [Array.getElem?_setIfInBounds_self]; simp [z101_size])
         go_simp
         try (with_reducible rfl)
        rotate_left
        ·simp only [Act.put, List.setIfInBounds_toArray, List.set_cons_zero, List.set_cons_succ, i64_w, i32_w]
         rfl
        refine on 6 (some 115) fun K hK => ?_
        refine Kd.R_lit_step (kcl 256) (w0 := w) g 105 (by rfl) (N := 115) rfl (xs := [blkC xs HP.out.2]) (inner := xs.map (Value.int .u8)) (ok := fun _ => True) (okp := fun _ => True) ?hrun ?hrep (fun _ hk => hk) trivial DD.out.2.2.2.2 hgd (by simp) ?_
        case hrun => exact lit105 w8 xs (.tmp 114) _ _ rfl rfl HCK.out.2
        case hrep => exact reps_cl _ _ _ (blkC xs HP.out.2)
        intro v1 x1 hr_ hb_ hg_ hat_
        have hl_ : Below w8.heap.size w8 x1 := ⟨hg_.os, hg_.tape, hg_.output, hg_.size, fun i hi => hg_.block i hi (by simp)⟩
        have D1 := And.intro (blk_below DD.out.1 hl_) (And.intro (blk_below DD.out.2.1 hl_) (And.intro (blk_below DD.out.2.2.1 hl_) (And.intro (DD.out.2.2.2.1.below hl_) (And.intro (Own1.flat (flatCl 256) hr_) hb_))))
        have hgx : g ≤ x1.heap.size := by have := hl_.size; omega
        clear hr_ hb_ hg_ hl_
        refine hK.out _ _ ⟨D1.1, D1.2.1⟩ (fun hHeld => ?_)
        clear hK K
        refine nrm 115 ?_
        refine on 7 (some 116) fun K hK => ?_
        obtain ⟨A_, c_, e_⟩ := Kd.R_slice D1.2.2.2.2.1
        have hc_ := D1.2.2.2.2.1
        rw [e_] at hc_
        refine Kd.R_append_rows_step (kcl 256) (w0 := w) g (by rfl) (.tmp 113) (.tmp 115) 98 105 z105 256 rfl Tryz.underlying98 info105 size105 (by decide) (by decide) (.slice (some ⟨b6, 0, none⟩) 1 c6) _ _ A_ 1 c_ (fun _ => True) (fun _ => False) rfl (by first | exact e_ | rfl) (D1.2.2.2.1.mono (fun _ _ => trivial)) (Kd.R_reads' hc_).2.2 (fun _ _ hk => hk) (fun _ hk => hk.elim) (fun _ _ => trivial) D1.2.2.2.2.2 hgx ?hl ?_
        case hl => simp
        intro v2 x2 hr_ hb_ hg_ hat2_
        have D2 := And.intro ((hg_.block gt (blk_lt D1.1) (fun he => by have he : gt = b6 := (by simpa [Value.ownBlock] using he); have h1 := D1.1; obtain ⟨inner, ho⟩ := Kd.R_own D1.2.2.2.1; obtain ⟨cc, hcc⟩ := own_typed ho b6 rfl; rw [he, hcc] at h1; injection h1 with h1; injection h1 with _ h1 _; cases h1)).trans D1.1) (And.intro ((hg_.block bb (blk_lt D1.2.1) (fun he => by have he : bb = b6 := (by simpa [Value.ownBlock] using he); omega)).trans D1.2.1) (And.intro ((hg_.block (gt + 1) (blk_lt D1.2.2.1) (fun he => by have he : gt + 1 = b6 := (by simpa [Value.ownBlock] using he); have h1 := D1.2.2.1; obtain ⟨inner, ho⟩ := Kd.R_own D1.2.2.2.1; obtain ⟨cc, hcc⟩ := own_typed ho b6 rfl; rw [he, hcc] at h1; cases h1)).trans D1.2.2.1) (And.intro (Own1.flat (flatCl 256) hr_) hb_)))
        clear hr_ hb_ hg_ hc_
        refine hK.out _ _ ⟨D2.1, D2.2.1⟩ (fun hHeld => ?_)
        clear hK K
        refine nrm 116 ?_
        refine pu 8 (some 117) ?_
        refine pu 9 (some 118) ?_
        refine la 10 none fun K hK => ?_
        obtain ⟨Av, cv, ev⟩ := Kd.R_slice D2.2.2.2.1
        rw [show ([blkC zs256 zs_len] ++ [blkC xs HP.out.2]).length = 2 from rfl] at ev
        subst ev
        have g0 : x2.cell? ⟨gt, 4352, none⟩ = some (.slice (some ⟨b6, 0, none⟩) 1 c6) := (blk_cell D2.1 4352).trans (by rw [Array.getElem?_setIfInBounds_self]; simp [z101_size])
        have gf0 := blk_frozen D2.1 4352
        refine skip_ (w1 := ?_) (by rfl) rfl ?_ ?_
        rotate_left
        ·go_simp
         rfl
        refine hK.out _ _ ?_
        clear hK K
        refine done_ (by kernel_rfl) ?_
        have zT := blk_set D2.1 4352 (.slice Av 2 cv)
        have kz : KB x2 (x2.setCell ⟨gt, 4352, none⟩ (.slice Av 2 cv)) gt := kb_set (kb_refl _ _) 4352 _
        have zB := kb_blk kz D2.2.1 (by omega)
        have zM := kb_blk kz D2.2.2.1 (by omega)
        have zO := D2.2.2.2.1.same (Same.kb kz D2.1 (by decide))
        have hggt : g ≤ gt := by have := hgt.out; omega
        have zL := D2.2.2.2.2.trans (kb_low kz hggt (by have := blk_lt D2.1; omega))
        have ZZ := Aside0.mk (And.intro zT (And.intro zB (And.intro zM (And.intro zO zL))))
        clear zT kz zB zM zO zL D2 D1 g0 gf0 hlk y4
        generalize x2.setCell ⟨gt, 4352, none⟩ (.slice Av 2 cv) = z at ZZ ⊢
        go_wp2_with fail
        refine wp_load105 (.tmp 12) bb xs rfl rfl HP.out.2 ZZ.out.2.1 ?_
        have hput := put0 z (gt + 1) (.agg (bB xs)) (.int .i64 1) ZZ.out.2.2.1 (fun e => HCK.out.1 z e)
        have pT := (putMap_far (o := .map #[{ key := .agg (bB xs), val := .int .i64 1, born := 0 }] 1) (show gt ≠ gt + 1 by omega)).trans ZZ.out.1
        have pO := ZZ.out.2.2.2.1.same (Same.putMap (o := .map #[{ key := .agg (bB xs), val := .int .i64 1, born := 0 }] 1) ZZ.out.2.2.1)
        have pL := below_putMap (o := .map #[{ key := .agg (bB xs), val := .int .i64 1, born := 0 }] 1) ZZ.out.2.2.2.2 (show g ≤ gt + 1 by omega)
        have PP := Aside0.mk (And.intro pT (And.intro pO pL))
        clear pT pO pL
        generalize putMap z (gt + 1) (.map #[{ key := .agg (bB xs), val := .int .i64 1, born := 0 }] 1) = z2 at hput PP
        have u0 : z2.cell? ⟨gt, 0, none⟩ = some (.int .i64 0) := (blk_cell PP.out.1 0).trans (by rw [Array.getElem?_setIfInBounds_ne (by omega), Array.getElem?_setIfInBounds_ne (by omega)]; exact z101_at 0 (by omega))
        have uf := blk_frozen PP.out.1 0
        go_wp2_with fail
        have kz3 : KB z2 (z2.setCell ⟨gt, 0, none⟩ (.int .i64 1)) gt := kb_set (kb_refl _ _) 0 _
        have TT := Aside0.mk (tabB_two HP.out.2 HX.out.2.2.1 (blk_set PP.out.1 0 (.int .i64 1)) (PP.out.2.1.same (Same.kb kz3 PP.out.1 (by decide))))
        have TL := Aside0.mk (PP.out.2.2.trans (kb_low kz3 hggt (by have := blk_lt PP.out.1; omega)))
        clear u0 uf hput kz3 hkn hkz hkp
        generalize z2.setCell ⟨gt, 0, none⟩ (.int .i64 1) = z3 at TT TL ⊢
        go_roundg k1
        case measure => omega
        case rel => exact ⟨0 + 1, 0, rfl, by first | rfl | (simp; done), ⟨by omega⟩, ⟨by omega⟩, ⟨TL.out⟩, ⟨.inr ⟨by omega, TT.out⟩⟩⟩
      | succ k2 =>
       have hkp : n < l.length := by omega
       have hkn : decide (n < l.length) = true := by simp; omega
       have hkz : decide ((n : Int) < (l.length : Int)) = true := by simp; omega
       have hp := HP.out.1
       have hdr : l.drop n = rd_T69 l n :: l.drop (n + 1) := by
        rw [List.drop_eq_getElem_cons hkp]
        simp [rd_T69, List.getD, List.getElem?_eq_getElem hkp]
       rw [hdr] at hp
       have hr := HAL.out (rd_T69 l n) (getD_mem _ _ _ (by omega))
       unfold rowsP at hp
       rw [if_pos hr] at hp
       have bW := Q6.out.2.1.trans (kb_low HW.out.2 hgb hbb6)
       obtain ⟨adn, eN, y0, y1, y2⟩ := at_T69 (C_low bW hg.out HC.out) (n : Int) (by omega) (by omega)
       injection eN with eN
       subst eN
       generalize hse : rd_T69 l n = s at hp hr y0 y1 y2 hdr
       obtain ⟨lo, hi2, tv⟩ := s
       have HSE := Aside0.mk hse
       clear hse
       simp only at hp hr y0 y1 y2
       rw [Int.toNat_natCast] at y0 y1 y2
       cases hf : fillF fu lo hi2 tv xs with
       | none => rw [hf] at hp; cases hp
       | some ys =>
        rw [hf] at hp
        have HF := Aside0.mk (And.intro hf hp)
        obtain ⟨r0, r1, r2, r3, r4, r5⟩ := hr
        have hdl : decide (lo ≤ 255) = true := by simp; omega
        have hmx : mx lo 0 = lo := by unfold mx; split <;> omega
        have HKX := Aside0.mk (And.intro HP.out.2 HW.out)
        clear hf hp hdr
        go_wp2_with fail
        clear hkn hkz hdl hmx y0 y1 y2
        go_loopg [14] (hi2 + 1 - lo).toNat (fun kq v14 w' => ∃ (r : Int) (zs : List Int), v14 = .int .i32 r ∧ Aside0 (lo ≤ r ∧ (hi2 + 1 - r).toNat = kq) ∧ Aside0 ((∃ f, fillF f r hi2 tv zs = some ys) ∧ zs.length = 256) ∧ Aside0 (w'.heap[bb]? = some (.cells (bB zs) 105 (0, 0)) ∧ KB w6 w' bb))
        case atStart => exact ⟨lo, xs, rfl, ⟨by omega, rfl⟩, ⟨⟨fu, HF.out.1⟩, HKX.out.1⟩, ⟨HKX.out.2⟩⟩
        case round =>
         obtain ⟨r, zs, rfl, HRR, HZ, HW2⟩ := hrel
         have hrr := HRR.out
         have bW := Q6.out.2.1.trans (kb_low HW2.out.2 hgb hbb6)
         obtain ⟨adn, eN, y0, y1, y2⟩ := at_T69 (C_low bW hg.out HC.out) (n : Int) (by omega) (by omega)
         injection eN with eN
         subst eN
         rw [HSE.out, Int.toNat_natCast] at y1 y2
         simp only at y1 y2
         have hmn : mn hi2 255 = hi2 := by unfold mn; split <;> omega
         cases gk with
         | zero =>
          have hd : decide (r ≤ hi2) = false := by simp; omega
          obtain ⟨f, hf⟩ := HZ.out.1
          cases f with
          | zero => cases hf
          | succ f =>
           unfold fillF at hf
           rw [if_neg (by omega)] at hf
           injection hf with hf
           subst hf
           have HZ2 := HZ.out.2
           clear y0
           go_wp2_with fail
           clear hd hmn y1 y2
           go_roundg k2
           case measure => omega
           case rel => exact ⟨n + 1, zs, by first | (rw [w64s n (by omega)]) | (simp; done), ⟨by omega⟩, ⟨HF.out.2, HZ2⟩, HW2⟩
         | succ k3 =>
          have hrh : r ≤ hi2 := by omega
          have hd : decide (r ≤ hi2) = true := by simp; omega
          have hk : Go.bits .and .i32 r 255 = r := (show Go.bits .and .i32 r 255 = r % 256 from bits_mask .i32 31 (by decide) wraps_i32 8 (by decide) r (by omega) (by omega)).trans (by omega)
          have ht : tv % 256 = tv := by omega
          have hr0 : 0 ≤ r := by omega
          have hr6 : r < 256 := by omega
          have n0 : wr.cell? ⟨bb, r.toNat, none⟩ = some (.int .u8 (rd zs r)) := (blk_cell HW2.out.1 r.toNat).trans (by
           have hlt : r.toNat < zs.length := by have := HZ.out.2; omega
           simp [bB, rd, List.getD, hlt])
          have n1 := blk_frozen HW2.out.1 r.toNat
          obtain ⟨f, hf⟩ := HZ.out.1
          cases f with
          | zero => cases hf
          | succ f =>
           unfold fillF at hf
           rw [if_pos hrh] at hf
           have HFF := Aside0.mk hf
           clear hf y0
           go_wp2_with fail
           have kz := blk_set HW2.out.1 r.toNat (.int .u8 tv)
           rw [bB_set] at kz
           have KZ := Aside0.mk (And.intro kz (kb_set HW2.out.2 r.toNat (.int .u8 tv)))
           clear kz n0 n1 hd hmn y1 y2 hk ht
           go_roundg k3
           case measure => omega
           case rel => exact ⟨r + 1, zs.set r.toNat tv, by first | rfl | (simp; done), ⟨by omega, by omega⟩, ⟨⟨f, HFF.out⟩, by rw [List.length_set]; exact HZ.out.2⟩, KZ⟩
   ·have HT := Aside0.mk hT
    clear hT HD
    go_wp2_with fail
    have kb := blk_new wr (.cells Tryz.zeroCells105 105)
    have ba := below_alloc (Below.refl wr.heap.size wr) (.cells Tryz.zeroCells105 105)
    have hgr : g ≤ wr.heap.size := by have := HB.out.size; have := hg.out; omega
    have Q6 := Aside0.mk (And.intro kb (And.intro (HB.out.trans (ba.mono hgr)) (HT.out.low ba)))
    clear kb ba
    generalize wr.alloc (.cells Tryz.zeroCells105 105) = w6 at Q6 ⊢
    obtain ⟨bb, hbb⟩ : ∃ bb, Aside0 (wr.heap.size = bb) := ⟨_, ⟨rfl⟩⟩
    rw [hbb.out] at Q6 ⊢
    have hki := HK.out
    go_loopg [8] (l.length - k) (fun kq v8 w' => ∃ k' : Nat, v8 = .int .i64 (k' : Int) ∧ Aside0 (k' + kq = l.length) ∧ w' = w6)
    case atStart => exact ⟨k, rfl, ⟨by omega⟩, rfl⟩
    case round =>
     obtain ⟨k', rfl, HK', rfl⟩ := hrel
     have hk' := HK'.out
     cases gk with
     | zero =>
      have hkn : decide (k' < l.length) = false := by simp; omega
      have hkz : decide ((k' : Int) < (l.length : Int)) = false := by simp; omega
      have hkp : ¬ (k' < l.length) := by omega
      have hq := eqz'
      go_wp2_with fail
      refine wp_loop_rounds 1 ?_
      rw [rounds_succ]
      go_wp2_with fail
      refine wp_load105 (.tmp 12) bb zs256 rfl rfl zs_len (by rw [← zc105]; exact Q6.out.1) ?_
      go_wp2_with fail
      clear hq hkn hkz hkp
      go_roundg k1
      case measure => omega
      case rel => exact ⟨i + 1, k', rfl, by first | (rw [w64s i (by omega)]) | (simp; done), ⟨by omega⟩, ⟨by omega⟩, ⟨Q6.out.2.1⟩, ⟨.inr ⟨by omega, Q6.out.2.2⟩⟩⟩
     | succ k2 =>
      have hkp : k' < l.length := by omega
      have hkn : decide (k' < l.length) = true := by simp; omega
      have hkz : decide ((k' : Int) < (l.length : Int)) = true := by simp; omega
      obtain ⟨adl, eL, y0, y1, y2⟩ := at_T69 (C_low Q6.out.2.1 hg.out HC.out) (k' : Int) (by omega) (by omega)
      subst eL
      have hr := HAL.out (rd_T69 l k') (getD_mem _ _ _ (by omega))
      have hdn : decide ((rd_T69 l k').f1 < (i : Int) * 256) = true := by simp; omega
      rw [Int.toNat_natCast] at y0 y1 y2
      clear hr
      generalize (rd_T69 l k').f1 = hi1 at y1 hdn
      go_wp2_with fail
      go_roundg k2
      case measure => omega
      case rel => exact ⟨k' + 1, by first | (rw [w64s k' (by omega)]) | (simp; done), ⟨by omega⟩, rfl⟩
end Go.Proofs.YtkeccgkicffieaaGreatDoor.PTopWider
namespace Go.Proofs.YtkeccgkicffieaaGreatDoor.PTopWider
open Go.RowKit Go.Proofs.YtkeccgkicffieaaGreatDoorW.PrintWords Go.Proofs.YtkeccgkicffieaaGreatDoorW.PrintLast Go.Proofs.YtkeccgkicffieaaGreatDoorW.PrintMore
set_option linter.unusedVariables false
def rgB : List S69 := [⟨10, 10, 2⟩, ⟨32, 32, 1⟩]
def rgC : List S69 := [⟨32, 126, 1⟩]
def xsB : List Int := (zs256.set 10 2).set 32 1
def xsC : List Int := List.replicate 32 0 ++ List.replicate 95 1 ++ List.replicate 129 0
set_option maxRecDepth 100000 in
theorem tabB_calls (A : Option Addr) (c : Nat) (w : World) (hC : Kd.C k69 w A rgB.length rgB) (hc : rgB.length ≤ c) :
  Calls Tryz.prog 13 #[.slice A rgB.length c, .int .i64 3] w fun e w' => PropE w (tabF xsB) e w' :=
 propmake_calls 200 c A rgB 3 xsB w hC hc (by decide) (by kernel_rfl) (by kernel_rfl) (by kernel_rfl) (by decide) (.inr ⟨fun w => by kernel_rfl, fun w e => by kernel_rfl, by kernel_rfl⟩)
set_option maxRecDepth 100000 in
theorem tabC_calls (A : Option Addr) (c : Nat) (w : World) (hC : Kd.C k69 w A rgC.length rgC) (hc : rgC.length ≤ c) :
  Calls Tryz.prog 13 #[.slice A rgC.length c, .int .i64 3] w fun e w' => PropE w (tabF xsC) e w' :=
 propmake_calls 200 c A rgC 3 xsC w hC hc (by decide) (by kernel_rfl) (by kernel_rfl) (by kernel_rfl) (by decide) (.inr ⟨fun w => by kernel_rfl, fun w e => by kernel_rfl, by kernel_rfl⟩)
theorem tabM_calls (w : World) : Calls Tryz.prog 13 #[.slice none 0 0, .int .i64 1] w fun e w' => PropE w (tabF zs256) e w' :=
 propmake_calls 200 0 none [] 1 zs256 w ⟨rfl, by simp, fun h => absurd h (by simp)⟩ (by simp) (by simp) (by kernel_rfl) rfl zs_len (fun x hx => by rw [zs256] at hx; rw [List.eq_of_mem_replicate hx]; omega) (.inl rfl)
end Go.Proofs.YtkeccgkicffieaaGreatDoor.PTopWider
