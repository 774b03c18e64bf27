/- The walk of seg.Run: it computes Mach.out. Conditions: the machine lies in memory as IsMach tells, its tables are good, the classes are its own. -/
import Derived.Test.YtkeccgkicffieaaGreatDoorTopT
import Derived.Test.YtkeccgkicffieaaGreatDoorTopM
namespace Go.Proofs.YtkeccgkicffieaaGreatDoor.PTopWider
open Go.RowKit Go.Proofs.YtkeccgkicffieaaGreatDoorW.PrintWords Go.Proofs.YtkeccgkicffieaaGreatDoorW.PrintLast Go.Proofs.YtkeccgkicffieaaGreatDoorW.PrintMore
set_option linter.unusedVariables false
set_option linter.unusedSimpArgs false
theorem info48 : (Tryz.prog.info? 48).map (fun i => (i.zero, i.size, i.bytes)) = some (some (.int .u8 0), 1, 1) := by kernel_rfl
theorem seq_next (M : Mach) (l : List Int) (x : Int) (h0 : 0 ≤ x) (h1 : x < l.length) : M.seq (l.take (x + 1).toNat) = M.seq (l.take x.toNat) ++ [rd M.treat (rd l x)] := by
 obtain ⟨i, rfl⟩ := Int.eq_ofNat_of_zero_le h0
 have hi : i < l.length := by omega
 rw [show ((i : Int) + 1).toNat = i + 1 by omega, Int.toNat_natCast, List.take_succ_eq_append_getElem hi]
 unfold Mach.seq
 rw [List.map_append]
 simp [rd, List.getD_eq_getElem?_getD, List.getElem?_eq_getElem hi]
/-- 0, 1, 2 .. -/
def iota (n : Nat) : List Int := (List.range n).map (fun (i : Nat) => (i : Int))
theorem iota_next (x : Int) (h0 : 0 ≤ x) : iota (x + 1).toNat = iota x.toNat ++ [x] := by
 obtain ⟨i, rfl⟩ := Int.eq_ofNat_of_zero_le h0
 rw [show ((i : Int) + 1).toNat = i + 1 by omega, Int.toNat_natCast]
 simp [iota, List.range_succ]
theorem Own1.low {k : IntKind} {e base : Nat} {W : World} {v : Value} {xs : List Int} (h : Own1 (Kd.int k) e base W v xs) : ∀ b, v.ownBlock = some b → base ≤ b := fun b hb => by
 obtain ⟨inner, ho⟩ := Kd.R_own h
 exact own_base ho b hb
theorem iota_get (n : Nat) (x : Int) (h0 : 0 ≤ x) (h1 : x < n) : rd (iota n) x = x := by
 obtain ⟨i, rfl⟩ := Int.eq_ofNat_of_zero_le h0
 have hi : i < n := by omega
 simp [rd, iota, List.getD_eq_getElem?_getD, hi]
theorem and_low : ∀ p : Fin 16, ∀ q : Fin 16, 0 ≤ Go.bits .and .u32 (p.val : Int) (q.val : Int) ∧ Go.bits .and .u32 (p.val : Int) (q.val : Int) ≤ (p.val : Int) := by decide +kernel
theorem and_in (p q : Int) (hp : 0 ≤ p ∧ p < 16) (hq : 0 ≤ q ∧ q < 16) : 0 ≤ Go.bits .and .u32 p q ∧ Go.bits .and .u32 p q ≤ p := by
 have := and_low ⟨p.toNat, by omega⟩ ⟨q.toNat, by omega⟩
 simpa only [Int.toNat_of_nonneg hp.1, Int.toNat_of_nonneg hq.1] using this
theorem tz_in (x : Int) : 0 ≤ tzOf x ∧ tzOf x ≤ 3 := by
 unfold tzOf
 split
 ·omega
 ·split
  ·omega
  ·split <;> omega
theorem good_fit {M : Mach} (hG : M.Good) (p q : Int) (hm : p ∈ M.lo) (hp : 0 ≤ p ∧ p < 16) (hq : 0 ≤ q ∧ q < 16) (hz : Go.bits .and .u32 p q ≠ 0) : tzOf (Go.bits .and .u32 p q) < (M.does.length : Int) := by
 have h1 := and_in p q hp hq
 rcases hG.does with h | h
 ·have := tz_in (Go.bits .and .u32 p q)
  omega
 ·have h2 := h p hm
  generalize Go.bits .and .u32 p q = x at *
  rcases hL : M.does.length with _ | _ | _ | _ | n
  ·rw [hL] at h2; simp at h2; omega
  ·rw [hL] at h2; simp at h2; have : x = 1 := by omega
   subst this; decide
  ·rw [hL] at h2; simp at h2; have : x = 1 ∨ x = 2 ∨ x = 3 := by omega
   rcases this with rfl | rfl | rfl <;> decide
  ·rw [hL] at h2; simp at h2; have : x = 1 ∨ x = 2 ∨ x = 3 ∨ x = 4 ∨ x = 5 ∨ x = 6 ∨ x = 7 := by omega
   rcases this with rfl | rfl | rfl | rfl | rfl | rfl | rfl <;> decide
  ·have := tz_in x
   omega
theorem IsDb.on {w w1 : World} (h : IsDb w) (hb : Below w.heap.size w w1) : IsDb w1 := fun k hk => pw_cell_below hb (h k hk)
set_option maxHeartbeats 40000000 in
set_option maxRecDepth 100000 in
theorem run_calls (g : Nat) (M : Mach) (A : Option Addr) (c : Nat) (l : List Int) (w : World) (hC : Kd.C (Kd.int .i64) w A l.length l) (hc : l.length ≤ c) (hl : l.length ≤ 1000000) (hM : IsMach w g M) (hG : M.Good) (hD : IsDb w) (hin : ∀ q ∈ l, 0 ≤ q ∧ q < (M.n : Int)) :
  Calls Tryz.prog 28 #[.pointer (some ⟨g, 0, none⟩), .slice A l.length c] w fun e w' => ∃ v, e = .returned v ∧ Kd.R (Kd.int .u8) 48 w' w.heap.size (fun _ => True) v (M.out l) ∧ Below w.heap.size w w' := by
 have HC := Aside0.mk hC
 have HM := Aside0.mk hM
 have HD := Aside0.mk hD
 clear hC hM hD
 have hn : wrap64 ((l.length : Int) + 1) = (l.length : Int) + 1 := by unfold wrap64; omega
 go_enter Tryz.func28, Tryz.ntmps28
 go_wp2_with (at_make; go_loud (refine Kd.R_make (Kd.int .u8) (w0 := w) w.heap.size 48 rfl (N := 18) rfl 72 (.tmp 17) (.tmp 17) rfl ((l.length : Int) + 1) rfl rfl Tryz.underlying72 (.int .u8 0) 1 info48 rfl (by decide) (by decide) 0 (ok := fun _ => True) (okp := fun _ => True) ?hz (fun _ _ => trivial) trivial (by omega) (by omega) (Below.refl _ _) (Nat.le_refl _) ?_; (case hz => rfl); intro v1 w1 hR1 hb1 hg1 hat1; clear hg1 hat1; have hm : ((l.length : Int) + 1).toNat = l.length + 1 := (by omega); rw [hm] at hR1; obtain ⟨go, co, rfl, go0, go1, _⟩ := Kd.R_form hR1 (by rw [List.length_replicate]; omega); rw [List.length_replicate] at hR1 ⊢; obtain ⟨y0, y1⟩ := Kd.R_celln 0 hR1 (l.length : Int) (by omega) (by omega); have HP := Kd.R_putn hR1 (l.length : Int) 2; rw [Int.toNat_natCast] at y0 y1 HP))
 have hb2 : Below w.heap.size w (w1.setCell ⟨go, l.length, none⟩ (.int .u8 2)) := Below.setCell hb1 go0 _
 have go2 : go < (w1.setCell ⟨go, l.length, none⟩ (.int .u8 2)).heap.size := by simpa using go1
 generalize w1.setCell ⟨go, l.length, none⟩ (.int .u8 2) = w2 at HP hb2 go2 ⊢
 clear hR1 y0 y1 hb1 go1
 rw [outAt_first M l] at HP
 have HP := Aside0.mk HP
 go_loopg [6, 7, 8, 28] l.length (fun kq v6 v7 v8 v28 w' => ∃ (x : Int), v8 = .bool false ∧ v28 = .int .i64 x ∧ Aside0 (0 ≤ x ∧ x + kq = l.length) ∧
  Aside0 (Own1 (Kd.int .i64) 3 w2.heap.size w' v6 (iota x.toNat)) ∧ Aside0 (Own1 (Kd.int .i64) 3 w2.heap.size w' v7 (M.seq (l.take x.toNat))) ∧
  Aside0 (Ne2 v6 v7) ∧ Aside0 (Below w2.heap.size w2 w'))
 case atStart => exact ⟨0, rfl, rfl, ⟨by omega⟩, ⟨Own1.nil _ _ _ _⟩, ⟨Own1.nil _ _ _ _⟩, ⟨Ne2.nil _⟩, ⟨Below.refl _ _⟩⟩
 case round =>
  obtain ⟨x, rfl, rfl, HK, H6, H7, HN, HB⟩ := hrel
  have hk := HK.out
  cases gk with
  | zero =>
   have hx : x.toNat = l.length := by omega
   rw [hx] at H6 H7
   rw [List.take_of_length_le (Nat.le_refl _)] at H7
   obtain ⟨A6, c6, e6⟩ := Kd.R_slice H6.out
   obtain ⟨A7, c7, e7⟩ := Kd.R_slice H7.out
   subst e6
   subst e7
   have hls : (M.seq l).length = l.length := by simp [Mach.seq]
   have hli : (iota l.length).length = l.length := by simp [iota]
   rw [hls] at H7 HN ⊢
   rw [hli] at H6 HN ⊢
   obtain ⟨_, _, _, _, _, ⟨Aa, ca, Ba, da, a1, a2, a3, a4, a5, a6⟩, ⟨Ab, cb, Bb, db, b1, b2, b3, b4, b5, b6⟩⟩ := HM.out.on (below_step hb2 HB.out)
   have a4 : wr.cell? ⟨g, 6, none⟩ = _ := a4
   have b4 : wr.cell? ⟨g, 8, none⟩ = _ := b4
   have hsi := seq_in hG l hin
   have C7 := (Kd.R_reads' H7.out).2.2
   have L7 := (Kd.R_reads' H7.out).2.1
   rw [hls] at C7
   have rf := run_f hG.left (M.seq l) hsi (by omega)
   have AA := Aside0.mk (And.intro a2 (And.intro a3 (And.intro a5 a6)))
   have BB := Aside0.mk (And.intro b1 (And.intro b2 (And.intro b3 (And.intro b4 (And.intro b5 b6)))))
   have CC := Aside0.mk (And.intro C7 L7)
   have RF := Aside0.mk rf
   have SI := Aside0.mk hsi
   clear a2 a3 a5 a6 b1 b2 b3 b4 b5 b6 C7 L7 rf hsi
   go_wp2_with fail
   obtain ⟨a2, a3, a5, a6⟩ := AA.out
   obtain ⟨C7, L7⟩ := CC.out
   have hcall := auto_Run.calls _ Aa ca M.ln Ba da M.lo A7 c7 (M.seq l) _ wr a3 a2 a6 a5 (by rw [hls]; exact C7) (by rw [hls]; exact L7) RF.out
   rw [hls] at hcall
   refine hcall.mono ?_
   rintro e w5 ⟨v11, rfl, hR11, hb5⟩
   obtain ⟨A11, c11, e11⟩ := Kd.R_slice hR11
   subst e11
   have hl11 : (runs M.ln 0 (M.seq l)).length = l.length + 1 := by rw [runs_length, hls]
   rw [hl11] at hR11 ⊢
   have R11 := Aside0.mk (Own1.tight hR11)
   have B5 := Aside0.mk hb5
   have H65 := Aside0.mk (H6.out.below hb5)
   have H75 := Aside0.mk (H7.out.below hb5)
   have N711 : Aside0 (Ne2 (.slice A11 (l.length + 1) c11) (.slice A7 l.length c7)) := ⟨fun k hk he => by have h1 := Kd.R_lt H7.out k he; obtain ⟨inner, ho⟩ := Kd.R_own hR11; have := own_base ho k hk; omega⟩
   clear hR11 hb5 hcall a2 a3 a5 a6 C7 L7 AA CC RF H6 H7
   go_wp2_with fail
   refine (slices_Reverse_int_int.calls _ (fun k => (Value.slice A7 l.length c7).ownBlock = some k) _ (M.seq l) _ w2 w5 (below_step HB.out B5.out) H75.out (rev_f (M.seq l) (by omega))).mono ?_
   rintro e w6 ⟨rfl, hR76, hb6, hk6⟩
   have H66 := Aside0.mk (Kd.R_kept H65.out hk6 (fun k hk hs => HN.out k hk hs))
   have R116 := Aside0.mk (Kd.R_kept R11.out hk6 (fun k hk hs => N711.out k hk hs))
   have B6 := Aside0.mk hb6
   have hlr : (M.seq l).reverse.length = l.length := by rw [List.length_reverse, hls]
   have C7 := (Kd.R_reads' hR76).2.2
   have L7 := (Kd.R_reads' hR76).2.1
   rw [hlr] at C7
   have CC := Aside0.mk (And.intro C7 L7)
   have RF := Aside0.mk (run_f hG.right (M.seq l).reverse (fun q hq => SI.out q (List.mem_reverse.mp hq)) (by omega))
   obtain ⟨_, _, _, _, _, _, ⟨Ab, cb, Bb, db, b1, b2, b3, b4, b5, b6⟩⟩ := HM.out.on (below_step hb2 B6.out)
   have b4 : w6.cell? ⟨g, 8, none⟩ = _ := b4
   have BB := Aside0.mk (And.intro b2 (And.intro b3 (And.intro b5 b6)))
   clear hR76 hb6 hk6 C7 L7 b2 b3 b5 b6 H65 R11 H75
   go_wp2_with fail
   obtain ⟨b2, b3, b5, b6⟩ := BB.out
   obtain ⟨C7, L7⟩ := CC.out
   have hcall := auto_Run.calls _ Ab cb M.rn Bb db M.ro A7 c7 (M.seq l).reverse _ w6 b3 b2 b6 b5 (by rw [hlr]; exact C7) (by rw [hlr]; exact L7) RF.out
   rw [hlr] at hcall
   refine hcall.mono ?_
   rintro e w7 ⟨v12, rfl, hR12, hb7⟩
   obtain ⟨A12, c12, e12⟩ := Kd.R_slice hR12
   subst e12
   have hl12 : (runs M.rn 0 (M.seq l).reverse).length = l.length + 1 := by rw [runs_length, hlr]
   rw [hl12] at hR12 ⊢
   have R12 := Aside0.mk (Own1.tight hR12)
   have B7 := Aside0.mk (below_step B6.out hb7)
   have H67 := Aside0.mk (Own1.below H66.out hb7)
   have R117 := Aside0.mk (Own1.below R116.out hb7)
   clear hR12 hb7 hcall b2 b3 b5 b6 C7 L7 CC RF H66 R116
   have O7 := Aside0.mk (Kd.R_below HP.out B7.out)
   have B7w := Aside0.mk (below_step hb2 B7.out)
   have hsz7 : w2.heap.size ≤ w7.heap.size := B7.out.size
   have hszr : w2.heap.size ≤ wr.heap.size := HB.out.size
   have hsz6 : w2.heap.size ≤ w6.heap.size := B6.out.size
   clear HK HB B5 B6 N711 HN HP
   go_upto_region 20 with fail
   go_loopg [13] (l.length + 1) (fun kq v13 w' => ∃ (j : Int), v13 = .int .i64 j ∧ Aside0 (1 ≤ j ∧ j + kq = l.length + 2) ∧
    Aside0 (Kd.R (Kd.int .u8) 48 w' w.heap.size (fun _ => True) (.slice (some ⟨go, 0, none⟩) (l.length + 1) co) (M.outAt l j)) ∧ Aside0 (KeepBut w7 w' go none) ∧ Aside0 (Below w.heap.size w w'))
   case atStart => exact ⟨1, rfl, ⟨by omega⟩, O7, ⟨KeepBut.refl _ _ _⟩, B7w⟩
   case round =>
    obtain ⟨j, rfl, HK2, HO, HK7, HBw⟩ := hrel
    have hk2 := HK2.out
    by_cases hj : j < l.length
    ·cases gk with
     | zero => omega
     | succ k2 =>
      have hS : Kept w7 wr (fun k => k = go) := Kept.of_keep (Kept.refl _ _) HK7.out (.inl rfl)
      have E11 := Kd.R_kept R117.out hS (fun k hk he => by have := R117.out.low k hk; omega)
      have E12 := Kd.R_kept R12.out hS (fun k hk he => by have := R12.out.low k hk; omega)
      have E6 := Kd.R_kept H67.out hS (fun k hk he => by have := H67.out.low k hk; omega)
      obtain ⟨d11, e11, y11⟩ := Kd.at_int (Kd.R_reads' E11).2.2 j (by omega) (by omega)
      obtain ⟨d12, e12, y12⟩ := Kd.at_int (Kd.R_reads' E12).2.2 ((l.length : Int) - j) (by omega) (by omega)
      obtain ⟨d6, e6, y6⟩ := Kd.at_int (Kd.R_reads' E6).2.2 j (by omega) (by omega)
      subst e11 e12 e6
      rw [iota_get l.length j (by omega) hj] at y6
      have ha := runs_in hG.left (M.seq l) 0 (by omega) (by have := hG.left.pos; omega) SI.out (rd (runs M.ln 0 (M.seq l)) j) (getD_mem _ _ _ (by omega))
      have hb := runs_in hG.right (M.seq l).reverse 0 (by omega) (by have := hG.right.pos; omega) (fun q hq => SI.out q (List.mem_reverse.mp hq)) (rd (runs M.rn 0 (M.seq l).reverse) ((l.length : Int) - j)) (getD_mem _ _ _ (by omega))
      have hopp : M.opp l j = if Go.bits .and .u32 (rd M.lo (rd (runs M.ln 0 (M.seq l)) j)) (rd M.ro (rd (runs M.rn 0 (M.seq l).reverse) ((l.length : Int) - j))) = 0 then 1 else rd M.does (tzOf (Go.bits .and .u32 (rd M.lo (rd (runs M.ln 0 (M.seq l)) j)) (rd M.ro (rd (runs M.rn 0 (M.seq l).reverse) ((l.length : Int) - j))))) := rfl
      have HM8 := HM.out.on HBw.out
      have HD8 := HD.out
      obtain ⟨_, _, _, _, ⟨Ad, cd, m7, m8⟩, ⟨_, _, Ba, da, _, _, _, a4, _, a6⟩, ⟨_, _, Bb, db, _, _, _, b4, _, b6⟩⟩ := HM8
      have a4 : wr.cell? ⟨g, 6, none⟩ = _ := a4
      have b4 : wr.cell? ⟨g, 8, none⟩ = _ := b4
      have hll := hG.left.len
      have hlr := hG.right.len
      generalize rd (runs M.ln 0 (M.seq l)) j = sa at y11 ha hopp
      generalize rd (runs M.rn 0 (M.seq l).reverse) ((l.length : Int) - j) = sb at y12 hb hopp
      obtain ⟨dlo, e1, ylo⟩ := Kd.at_int a6 sa ha.1 (by omega)
      obtain ⟨dro, e2, yro⟩ := Kd.at_int b6 sb hb.1 (by omega)
      subst e1 e2
      have plo := hG.left.low (rd M.lo sa) (getD_mem _ _ _ (by omega))
      have pro := hG.right.low (rd M.ro sb) (getD_mem _ _ _ (by omega))
      have hand : 0 ≤ Go.bits .and .u32 (rd M.lo sa) (rd M.ro sb) ∧ Go.bits .and .u32 (rd M.lo sa) (rd M.ro sb) ≤ 15 := by have := and_in _ _ plo pro; omega
      have hfit := good_fit hG (rd M.lo sa) (rd M.ro sb) (getD_mem _ _ _ (by omega)) plo pro
      generalize rd M.lo sa = pa at ylo hand hopp hfit
      generalize rd M.ro sb = pb at yro hand hopp hfit
      have hsub : IntKind.i64.wrap ((l.length : Int) - j) = (l.length : Int) - j := IntWalk.i64_in _ (by omega)
      have hs0 : 0 ≤ (l.length : Int) - j := by omega
      have hs1 : (l.length : Int) - j < (l.length : Int) + 1 := by omega
      have hs2 : j ≤ (l.length : Int) := by omega
      have hj1 : j < (l.length : Int) + 1 := by omega
      have hj0 : 0 ≤ j := by omega
      have ha1 : sa < (M.lo.length : Int) := by omega
      have hb1 : sb < (M.ro.length : Int) := by omega
      have ha0 := ha.1
      have hb0 := hb.1
      generalize hgb : Go.bits .and .u32 pa pb = both at hand hopp hfit
      have HH := Aside0.mk (And.intro m8 (And.intro hopp hfit))
      clear E11 E12 E6 hS a6 b6 m8 hopp hfit ha hb plo pro hll hlr
      have Y6 := Aside0.mk y6
      have M7 := Aside0.mk m7
      clear y6 m7
      have F := Aside0.mk (And.intro a4 (And.intro y11 (And.intro ylo (And.intro b4 (And.intro y12 yro)))))
      clear a4 y11 ylo b4 y12 yro
      go_wp2
      refine st 27 wr [] fun hHeld => ?_
      generalize wr.drew = w8 at hHeld ⊢
      refine pu 0 (some 102) ?_
      refine pu 1 (some 103) ?_
      refine pu 2 (some 104) ?_
      refine pu 3 (some 105) ?_
      refine take_ (i := 4) (N := some 106) (v := ?_) (a' := ?_) #[true, true, true, true, true, false, false, false, false, false, false, false, false, false, false, false, false, false, false, false, false, false, false, false, false, false, false] rfl rfl (by kernel_rfl) (fun _ _ _ h => h) (Or.inl ⟨by rfl, ?_⟩) hHeld ?_ ?_
      rotate_left
      ·intro w' s_
       have k1 := pw_cell_below s_ F.out.1
       go_simp
       try (with_reducible rfl)
      rotate_left
      ·simp only [Act.put, List.setIfInBounds_toArray, List.set_cons_zero, List.set_cons_succ, i64_w, i32_w]
       rfl
      refine pu 5 (some 107) ?_
      refine pu 6 (some 108) ?_
      refine pu 7 (some 109) ?_
      refine take_ (i := 8) (N := some 110) (v := ?_) (a' := ?_) #[true, true, true, true, true, true, true, true, true, false, false, false, false, false, false, false, false, false, false, false, false, false, false, false, false, false, false] rfl rfl (by kernel_rfl) (fun _ _ _ h => h) (Or.inl ⟨by rfl, ?_⟩) hHeld ?_ ?_
      rotate_left
      ·intro w' s_
       have k1 := pw_cell_below s_ F.out.2.1
       go_simp
       try (with_reducible rfl)
      rotate_left
      ·simp only [Act.put, List.setIfInBounds_toArray, List.set_cons_zero, List.set_cons_succ, i64_w, i32_w]
       rfl
      refine pu 9 (some 111) ?_
      refine take_ (i := 10) (N := some 112) (v := ?_) (a' := ?_) #[true, true, true, true, true, true, true, true, true, true, true, false, false, false, false, false, false, false, false, false, false, false, false, false, false, false, false] rfl rfl (by kernel_rfl) (fun _ _ _ h => h) (Or.inl ⟨by rfl, ?_⟩) hHeld ?_ ?_
      rotate_left
      ·intro w' s_
       have k1 := pw_cell_below s_ F.out.2.2.1
       go_simp
       try (with_reducible rfl)
      rotate_left
      ·simp only [Act.put, List.setIfInBounds_toArray, List.set_cons_zero, List.set_cons_succ, i64_w, i32_w]
       rfl
      refine pu 11 (some 113) ?_
      refine pu 12 (some 114) ?_
      refine pu 13 (some 115) ?_
      refine pu 14 (some 116) ?_
      refine take_ (i := 15) (N := some 117) (v := ?_) (a' := ?_) #[true, true, true, true, true, true, true, true, true, true, true, true, true, true, true, true, false, false, false, false, false, false, false, false, false, false, false] rfl rfl (by kernel_rfl) (fun _ _ _ h => h) (Or.inl ⟨by rfl, ?_⟩) hHeld ?_ ?_
      rotate_left
      ·intro w' s_
       have k1 := pw_cell_below s_ F.out.2.2.2.1
       go_simp
       try (with_reducible rfl)
      rotate_left
      ·simp only [Act.put, List.setIfInBounds_toArray, List.set_cons_zero, List.set_cons_succ, i64_w, i32_w]
       rfl
      refine pu 16 (some 118) ?_
      refine pu 17 (some 119) ?_
      refine pu 18 (some 120) ?_
      refine pu 19 (some 121) ?_
      refine pu 20 (some 122) ?_
      refine pu 21 (some 123) ?_
      refine take_ (i := 22) (N := some 124) (v := ?_) (a' := ?_) #[true, true, true, true, true, true, true, true, true, true, true, true, true, true, true, true, true, true, true, true, true, true, true, false, false, false, false] rfl rfl (by kernel_rfl) (fun _ _ _ h => h) (Or.inl ⟨by rfl, ?_⟩) hHeld ?_ ?_
      rotate_left
      ·intro w' s_
       have k1 := pw_cell_below s_ F.out.2.2.2.2.1
       go_simp
       try (with_reducible rfl)
      rotate_left
      ·simp only [Act.put, List.setIfInBounds_toArray, List.set_cons_zero, List.set_cons_succ, i64_w, i32_w]
       rfl
      refine pu 23 (some 125) ?_
      refine take_ (i := 24) (N := some 126) (v := ?_) (a' := ?_) #[true, true, true, true, true, true, true, true, true, true, true, true, true, true, true, true, true, true, true, true, true, true, true, true, true, false, false] rfl rfl (by kernel_rfl) (fun _ _ _ h => h) (Or.inl ⟨by rfl, ?_⟩) hHeld ?_ ?_
      rotate_left
      ·intro w' s_
       have k1 := pw_cell_below s_ F.out.2.2.2.2.2
       go_simp
       try (with_reducible rfl)
      rotate_left
      ·simp only [Act.put, List.setIfInBounds_toArray, List.set_cons_zero, List.set_cons_succ, i64_w, i32_w]
       rfl
      refine pu 25 (some 127) ?_
      refine pu 26 (some 14) ?_
      refine done_ (by kernel_rfl) ?_
      have HO8 := Kd.R_below HO.out hHeld
      have HK8 : KeepBut w7 w8 go none := HK7.out.trans (KeepBut.of_below hHeld go none) (.inl rfl)
      have HB8 := below_step HBw.out hHeld
      obtain ⟨y0, y1⟩ := Kd.R_celln 0 HO8 j (by omega) (by omega)
      have HP1 := Aside0.mk (Kd.R_putn HO8 j 1)
      have KP1 := Aside0.mk (KeepBut.set_ HK8 j.toNat (.int .u8 1))
      have BP1 : Below w.heap.size w (w8.setCell ⟨go, j.toNat, none⟩ (.int .u8 1)) := HB8.setCell go0 _
      have BP1 := Aside0.mk BP1
      have y6 := pw_cell_below hHeld Y6.out
      have hil : wrap64 (j + 1) = j + 1 := by unfold wrap64; omega
      clear HO HK7 HBw HO8 HK8 HB8 hHeld
      by_cases hz : both = 0
      ·subst hz
       have hv : (1 : Int) = M.opp l j := by rw [HH.out.2.1, if_pos rfl]
       have HP2 := HP1.out
       rw [outAt_next M l j 1 hk2.1 hj hv] at HP2
       have HP2 := Aside0.mk HP2
       clear hv
       go_wp2
       go_roundg k2
       case measure => omega
       case rel => exact ⟨j + 1, by first | rfl | (rw [hil]), ⟨by omega⟩, HP2, KP1, BP1⟩
      ·have hz' : (both != 0) = true := by simpa using hz
       have hv := HH.out.2.1
       rw [if_neg hz] at hv
       have htz1 := HH.out.2.2 hz
       have htz0 := (tz_in both).1
       go_wp2
       clear hz' y0 y1 y6
       have hb1 : 1 ≤ both := by omega
       have hb15 : both ≤ 15 := hand.2
       generalize w8.setCell ⟨go, j.toNat, none⟩ (.int .u8 1) = w9 at HP1 KP1 BP1 ⊢
       have hS : Kept w7 w9 (fun k => k = go) := Kept.of_keep (Kept.refl _ _) KP1.out (.inl rfl)
       have E6 := Kd.R_kept H67.out hS (fun k hk he => by have := H67.out.low k hk; omega)
       obtain ⟨d6', e6, y6⟩ := Kd.at_int (Kd.R_reads' E6).2.2 j (by omega) (by omega)
       rw [iota_get l.length j (by omega) hj] at y6
       injection e6 with e6
       subst e6
       obtain ⟨_, _, _, _, ⟨Ad, cd, m7, m8⟩, _⟩ := HM.out.on BP1.out
       generalize htz : tzOf both = tz at htz0 htz1 hv
       obtain ⟨dd, ed, yd⟩ := m8 tz htz0 htz1
       subst ed
       have Y6 := Aside0.mk y6
       have M7 := Aside0.mk m7
       have YD := Aside0.mk yd
       have D9 := Aside0.mk (HD.out.on BP1.out)
       clear y6 m7 yd m8 E6 hS
       refine st 17 w9 [16] fun hHeld => ?_
       generalize w9.drew = w10 at hHeld ⊢
       refine pu 0 (some 136) ?_
       refine pu 1 (some 137) ?_
       refine pu 2 (some 138) ?_
       refine pu 3 (some 139) ?_
       refine take_ (i := 4) (N := some 140) (v := ?_) (a' := ?_) #[true, true, true, true, true, false, false, false, false, false, false, false, false, false, false, false, false] rfl rfl (by kernel_rfl) (fun _ _ _ h => h) (Or.inl ⟨by rfl, ?_⟩) hHeld ?_ ?_
       rotate_left
       ·intro w' s_
        have k1 := pw_cell_below s_ Y6.out
        go_simp
        try (with_reducible rfl)
       rotate_left
       ·simp only [Act.put, List.setIfInBounds_toArray, List.set_cons_zero, List.set_cons_succ, i64_w, i32_w]
        rfl
       refine pu 5 (some 141) ?_
       refine pu 6 (some 142) ?_
       refine pu 7 (some 143) ?_
       refine pu 8 (some 144) ?_
       refine take_ (i := 9) (N := some 145) (v := ?_) (a' := ?_) #[true, true, true, true, true, true, true, true, true, true, false, false, false, false, false, false, false] rfl rfl (by kernel_rfl) (fun _ _ _ h => h) (Or.inl ⟨by rfl, ?_⟩) hHeld ?_ ?_
       rotate_left
       ·intro w' s_
        have k1 := pw_cell_below s_ M7.out
        go_simp
        try (with_reducible rfl)
       rotate_left
       ·simp only [Act.put, List.setIfInBounds_toArray, List.set_cons_zero, List.set_cons_succ, i64_w, i32_w]
        rfl
       refine pu 10 (some 146) ?_
       refine on 11 (some 147) fun K hK => ?_
       refine gs Tryz.func49 #[.int .u32 both] ?_
       with_reducible refine (tz_calls both _ (D9.out.on hHeld) hb1 hb15).mono ?_
       rintro e w_ ⟨rfl, hb_⟩
       refine ⟨_, rfl, ?_⟩
       rw [htz]
       refine hK.out _ _ (below_step hHeld hb_) (fun hHeld => ?_)
       clear hK K
       refine nrm 147 ?_
       refine pu 12 (some 148) ?_
       refine pu 13 (some 149) ?_
       refine take_ (i := 14) (N := some 150) (v := ?_) (a' := ?_) #[true, true, true, true, true, true, true, true, true, true, true, true, true, true, true, false, false] rfl rfl (by kernel_rfl) (fun _ _ _ h => h) (Or.inl ⟨by rfl, ?_⟩) hHeld ?_ ?_
       rotate_left
       ·intro w' s_
        have k1 := pw_cell_below s_ YD.out
        go_simp
        try (with_reducible rfl)
       rotate_left
       ·simp only [Act.put, List.setIfInBounds_toArray, List.set_cons_zero, List.set_cons_succ, i64_w, i32_w]
        rfl
       refine pu 15 (some 151) ?_
       have HPw := Kd.R_below HP1.out hHeld
       obtain ⟨y0, y1⟩ := Kd.R_celln 0 HPw j (by omega) (by omega)
       refine la 16 none fun K hK => ?_
       refine skip_ (w1 := ?_) (by rfl) rfl ?_ ?_
       rotate_left
       ·go_simp
        rfl
       refine hK.out _ _ ?_
       clear hK K
       refine done_ (by kernel_rfl) ?_
       have HP2 := Kd.R_putn HPw j (rd M.does tz)
       rw [List.set_set, outAt_next M l j _ hk2.1 hj hv.symm] at HP2
       have HP2 := Aside0.mk HP2
       have KP2 := Aside0.mk ((KP1.out.trans (KeepBut.of_below hHeld go none) (.inl rfl)).set_ j.toNat (.int .u8 (rd M.does tz)))
       have BP2 := Aside0.mk (Below.setCell (below_step BP1.out hHeld) go0 (.int .u8 (rd M.does tz)) (p := ⟨go, j.toNat, none⟩))
       clear HPw y0 y1
       go_wp2
       go_roundg k2
       case measure => omega
       case rel => exact ⟨j + 1, by first | rfl | (rw [hil]), ⟨by omega⟩, HP2, KP2, BP2⟩
    ·rw [outAt_last M l j (by omega)] at HO
     go_wp2
     go_ret
     exact ⟨_, rfl, HO.out, HBw.out⟩
  | succ k1 =>
   have hx : x < l.length := by omega
   obtain ⟨ad, ea, z0⟩ := Kd.at_int (Kd.C_below HC.out (below_step hb2 HB.out)) x hk.1 hx
   subst ea
   have hq := hin (rd l x) (getD_mem _ _ _ (by omega))
   have hsn : M.seq (l.take (x + 1).toNat) = M.seq (l.take x.toNat) ++ [rd M.treat (rd l x)] := seq_next M l x hk.1 hx
   have hin1 : iota (x + 1).toNat = iota x.toNat ++ [x] := iota_next x hk.1
   have hli : (iota x.toNat).length = x.toNat := by simp [iota]
   have hls : (M.seq (l.take x.toNat)).length = x.toNat := by simp [Mach.seq]; omega
   generalize hy : rd l x = y at z0 hq hsn
   obtain ⟨⟨Ac, cc, m0⟩, m1, m2, ⟨At, ct, m3, m4, m5⟩, _⟩ := HM.out.on hb2
   have htl := hG.tlen
   obtain ⟨at_, ea, zt⟩ := Kd.at_int m5 y hq.1 (by omega)
   subst ea
   have N3 := Aside0.mk m3
   have NT := Aside0.mk zt
   have m0 := pw_cell_below HB.out m0
   have m1 := pw_cell_below HB.out m1
   have m2 := pw_cell_below HB.out m2
   have hyt : y < (M.treat.length : Int) := by omega
   clear m3 m4 m5 zt
   go_upto_region 14 with fail
   refine start_ (n := 17) (S := fun w' => Below w2.heap.size w2 w') (ds := []) #[false, false, false, false, false, false, false, false, false, false, false, false, false, false, false, false, false] (by kernel_rfl) rfl rfl (below_drew1 HB.out) (fun hHeld => ?_)
   have F0 := Four.start (w0 := w2) (W := wr.drew) (H6.out.below (below_drew1 (Below.refl _ _))) (H7.out.below (below_drew1 (Below.refl _ _))) HN.out hHeld
   generalize wr.drew = w3 at hHeld F0 ⊢
   refine pu 0 (some 66) ?_
   refine pu 1 (some 67) ?_
   refine pu 4 (some 70) ?_
   refine pu 5 (some 71) ?_
   refine pu 6 (some 72) ?_
   refine pu 7 (some 73) ?_
   refine pu 8 (some 74) ?_
   refine take_ (i := 9) (N := some 75) (v := ?_) (a' := ?_) #[true, true, false, false, true, true, true, true, true, true, false, false, false, false, false, false, false] rfl rfl (by kernel_rfl) (fun _ _ _ h => h) (Or.inl ⟨by rfl, ?_⟩) hHeld ?_ ?_
   rotate_left
   ·intro w' s_
    have k1 := pw_cell_below s_ N3.out
    go_simp
    try (with_reducible rfl)
   rotate_left
   ·simp only [Act.put, List.setIfInBounds_toArray, List.set_cons_zero, List.set_cons_succ, i64_w, i32_w]
    rfl
   refine pu 10 (some 76) ?_
   refine pu 11 (some 77) ?_
   refine take_ (i := 12) (N := some 78) (v := ?_) (a' := ?_) #[true, true, false, false, true, true, true, true, true, true, true, true, true, false, false, false, false] rfl rfl (by kernel_rfl) (fun _ _ _ h => h) (Or.inl ⟨by rfl, ?_⟩) hHeld ?_ ?_
   rotate_left
   ·intro w' s_
    have k1 := pw_cell_below s_ NT.out
    go_simp
    try (with_reducible rfl)
   rotate_left
   ·simp only [Act.put, List.setIfInBounds_toArray, List.set_cons_zero, List.set_cons_succ, i64_w, i32_w]
    rfl
   refine two_ (i := 2) (j := 13) (Ni := some 68) (Nj := some 79) #[true, true, true, false, true, true, true, true, true, true, true, true, true, false, false, false, false] #[true, true, false, false, true, true, true, true, true, true, true, true, true, true, false, false, false] rfl rfl rfl rfl (by kernel_rfl) (by decide) (by decide) (fun K hK => ?_) (fun K hK => ?_)
   ·refine Kd.R_lit_step (Kd.int .i64) (w0 := w2) w2.heap.size 3 (by rfl) (N := 68) rfl (xs := [x]) (inner := [.int .i64 x]) (ok := fun _ => True) (okp := fun _ => True) ?hrun ?hrep (fun _ hk => hk) trivial F0.low F0.low.size (by simp) ?_
    case hrun => first | (go_simp; done) | (go_simp; rfl)
    case hrep => exact (Reps.one (show Kd.M (Kd.int .i64) _ _ _ x [.int .i64 x] from rfl) (Reps.none _ _))
    intro v1 x1 hr_ hb_ hg_ hat_
    have F1 := F0.lit hr_ hb_ hg_ hat_
    clear hr_ hb_ hg_ hat_
    refine hK.out _ _ F1.low (fun hHeld => ?_)
    clear hK K
    refine nrm 68 ?_
    refine two_ (i := 3) (j := 13) (Ni := some 69) (Nj := some 79) #[true, true, true, true, true, true, true, true, true, true, true, true, true, false, false, false, false] #[true, true, true, false, true, true, true, true, true, true, true, true, true, true, false, false, false] rfl rfl rfl rfl (by kernel_rfl) (by decide) (by decide) (fun K hK => ?_) (fun K hK => ?_)
    ·obtain ⟨A_, c_, e_⟩ := Kd.R_slice F1.ra
     have hc_ := F1.ra
     rw [e_] at hc_
     refine Kd.R_append_rows_step (Kd.int .i64) (w0 := w2) w2.heap.size (by rfl) (.tmp 66) (.tmp 68) 83 3 (.int .i64 0) 8 rfl Tryz.underlying83 info3 rfl (by decide) (by decide) _ _ _ A_ 1 c_ (fun _ => True) (fun _ => False) rfl (by first | exact e_ | rfl) (F1.ru.mono (fun _ _ => trivial)) (Kd.R_reads' hc_).2.2 (fun _ _ hk => hk) (fun _ hk => hk.elim) (fun _ _ => trivial) F1.low F1.low.size ?hl ?_
     case hl => omega
     intro v2 x2 hr_ hb_ hg_ hat_
     have F2 := F1.grow hr_ hb_ hg_ hat_
     clear hr_ hb_ hg_ hat_
     refine hK.out _ _ F2.low (fun hHeld => ?_)
     clear hK K
     refine nrm 69 ?_
     refine on 13 (some 79) fun K hK => ?_
     refine Kd.R_lit_step (Kd.int .i64) (w0 := w2) w2.heap.size 3 (by rfl) (N := 79) rfl (xs := [(rd M.treat y)]) (inner := [.int .i64 (rd M.treat y)]) (ok := fun _ => True) (okp := fun _ => True) ?hrun ?hrep (fun _ hk => hk) trivial F2.low F2.low.size (by simp) ?_
     case hrun => first | (go_simp; done) | (go_simp; rfl)
     case hrep => exact (Reps.one (show Kd.M (Kd.int .i64) _ _ _ (rd M.treat y) [.int .i64 (rd M.treat y)] from rfl) (Reps.none _ _))
     intro v3 x3 hr_ hb_ hg_ hat_
     have F3 := (F2.swap.lit hr_ hb_ hg_ hat_).swap
     clear hr_ hb_ hg_ hat_
     refine hK.out _ _ F3.low (fun hHeld => ?_)
     clear hK K
     refine nrm 79 ?_
     refine on 14 (some 80) fun K hK => ?_
     obtain ⟨A_, c_, e_⟩ := Kd.R_slice F3.rb
     have hc_ := F3.rb
     rw [e_] at hc_
     refine Kd.R_append_rows_step (Kd.int .i64) (w0 := w2) w2.heap.size (by rfl) (.tmp 70) (.tmp 79) 83 3 (.int .i64 0) 8 rfl Tryz.underlying83 info3 rfl (by decide) (by decide) _ _ _ A_ 1 c_ (fun _ => True) (fun _ => False) rfl (by first | exact e_ | rfl) (F3.rv.mono (fun _ _ => trivial)) (Kd.R_reads' hc_).2.2 (fun _ _ hk => hk) (fun _ hk => hk.elim) (fun _ _ => trivial) F3.low F3.low.size ?hl ?_
     case hl => omega
     intro v4 x4 hr_ hb_ hg_ hat_
     have F4 := (F3.swap.grow hr_ hb_ hg_ hat_).swap
     clear hr_ hb_ hg_ hat_
     refine hK.out _ _ F4.low (fun hHeld => ?_)
     clear hK K
     refine nrm 80 ?_
     refine pu 15 (some 6) ?_
     refine pu 16 (some 7) ?_
     refine done_ (by kernel_rfl) ?_
     have hil : wrap64 (x + 1) = x + 1 := by unfold wrap64; omega
     have hbt : (Go.bits .and .u32 0 1 == 1) = false := by decide
     rw [hbt]
     go_wp2
     go_roundg k1
     case measure => omega
     case rel => exact ⟨x + 1, rfl, by first | rfl | (rw [hil]), ⟨by omega⟩, ⟨by rw [hin1]; exact F4.ru⟩, ⟨by rw [hsn]; exact F4.rv⟩, ⟨F4.uv⟩, ⟨F4.low⟩⟩
    ·refine Kd.R_lit_step (Kd.int .i64) (w0 := w2) w2.heap.size 3 (by rfl) (N := 79) rfl (xs := [(rd M.treat y)]) (inner := [.int .i64 (rd M.treat y)]) (ok := fun _ => True) (okp := fun _ => True) ?hrun ?hrep (fun _ hk => hk) trivial F1.low F1.low.size (by simp) ?_
     case hrun => first | (go_simp; done) | (go_simp; rfl)
     case hrep => exact (Reps.one (show Kd.M (Kd.int .i64) _ _ _ (rd M.treat y) [.int .i64 (rd M.treat y)] from rfl) (Reps.none _ _))
     intro v2 x2 hr_ hb_ hg_ hat_
     have F2 := (F1.swap.lit hr_ hb_ hg_ hat_).swap
     clear hr_ hb_ hg_ hat_
     refine hK.out _ _ F2.low (fun hHeld => ?_)
     clear hK K
     refine nrm 79 ?_
     refine on 3 (some 69) fun K hK => ?_
     obtain ⟨A_, c_, e_⟩ := Kd.R_slice F2.ra
     have hc_ := F2.ra
     rw [e_] at hc_
     refine Kd.R_append_rows_step (Kd.int .i64) (w0 := w2) w2.heap.size (by rfl) (.tmp 66) (.tmp 68) 83 3 (.int .i64 0) 8 rfl Tryz.underlying83 info3 rfl (by decide) (by decide) _ _ _ A_ 1 c_ (fun _ => True) (fun _ => False) rfl (by first | exact e_ | rfl) (F2.ru.mono (fun _ _ => trivial)) (Kd.R_reads' hc_).2.2 (fun _ _ hk => hk) (fun _ hk => hk.elim) (fun _ _ => trivial) F2.low F2.low.size ?hl ?_
     case hl => omega
     intro v3 x3 hr_ hb_ hg_ hat_
     have F3 := F2.grow hr_ hb_ hg_ hat_
     clear hr_ hb_ hg_ hat_
     refine hK.out _ _ F3.low (fun hHeld => ?_)
     clear hK K
     refine nrm 69 ?_
     refine on 14 (some 80) fun K hK => ?_
     obtain ⟨A_, c_, e_⟩ := Kd.R_slice F3.rb
     have hc_ := F3.rb
     rw [e_] at hc_
     refine Kd.R_append_rows_step (Kd.int .i64) (w0 := w2) w2.heap.size (by rfl) (.tmp 70) (.tmp 79) 83 3 (.int .i64 0) 8 rfl Tryz.underlying83 info3 rfl (by decide) (by decide) _ _ _ A_ 1 c_ (fun _ => True) (fun _ => False) rfl (by first | exact e_ | rfl) (F3.rv.mono (fun _ _ => trivial)) (Kd.R_reads' hc_).2.2 (fun _ _ hk => hk) (fun _ hk => hk.elim) (fun _ _ => trivial) F3.low F3.low.size ?hl ?_
     case hl => omega
     intro v4 x4 hr_ hb_ hg_ hat_
     have F4 := (F3.swap.grow hr_ hb_ hg_ hat_).swap
     clear hr_ hb_ hg_ hat_
     refine hK.out _ _ F4.low (fun hHeld => ?_)
     clear hK K
     refine nrm 80 ?_
     refine pu 15 (some 6) ?_
     refine pu 16 (some 7) ?_
     refine done_ (by kernel_rfl) ?_
     have hil : wrap64 (x + 1) = x + 1 := by unfold wrap64; omega
     have hbt : (Go.bits .and .u32 0 1 == 1) = false := by decide
     rw [hbt]
     go_wp2
     go_roundg k1
     case measure => omega
     case rel => exact ⟨x + 1, rfl, by first | rfl | (rw [hil]), ⟨by omega⟩, ⟨by rw [hin1]; exact F4.ru⟩, ⟨by rw [hsn]; exact F4.rv⟩, ⟨F4.uv⟩, ⟨F4.low⟩⟩
   ·refine Kd.R_lit_step (Kd.int .i64) (w0 := w2) w2.heap.size 3 (by rfl) (N := 79) rfl (xs := [(rd M.treat y)]) (inner := [.int .i64 (rd M.treat y)]) (ok := fun _ => True) (okp := fun _ => True) ?hrun ?hrep (fun _ hk => hk) trivial F0.low F0.low.size (by simp) ?_
    case hrun => first | (go_simp; done) | (go_simp; rfl)
    case hrep => exact (Reps.one (show Kd.M (Kd.int .i64) _ _ _ (rd M.treat y) [.int .i64 (rd M.treat y)] from rfl) (Reps.none _ _))
    intro v1 x1 hr_ hb_ hg_ hat_
    have F1 := (F0.swap.lit hr_ hb_ hg_ hat_).swap
    clear hr_ hb_ hg_ hat_
    refine hK.out _ _ F1.low (fun hHeld => ?_)
    clear hK K
    refine nrm 79 ?_
    refine on 2 (some 68) fun K hK => ?_
    refine Kd.R_lit_step (Kd.int .i64) (w0 := w2) w2.heap.size 3 (by rfl) (N := 68) rfl (xs := [x]) (inner := [.int .i64 x]) (ok := fun _ => True) (okp := fun _ => True) ?hrun ?hrep (fun _ hk => hk) trivial F1.low F1.low.size (by simp) ?_
    case hrun => first | (go_simp; done) | (go_simp; rfl)
    case hrep => exact (Reps.one (show Kd.M (Kd.int .i64) _ _ _ x [.int .i64 x] from rfl) (Reps.none _ _))
    intro v2 x2 hr_ hb_ hg_ hat_
    have F2 := F1.lit hr_ hb_ hg_ hat_
    clear hr_ hb_ hg_ hat_
    refine hK.out _ _ F2.low (fun hHeld => ?_)
    clear hK K
    refine nrm 68 ?_
    refine on 3 (some 69) fun K hK => ?_
    obtain ⟨A_, c_, e_⟩ := Kd.R_slice F2.ra
    have hc_ := F2.ra
    rw [e_] at hc_
    refine Kd.R_append_rows_step (Kd.int .i64) (w0 := w2) w2.heap.size (by rfl) (.tmp 66) (.tmp 68) 83 3 (.int .i64 0) 8 rfl Tryz.underlying83 info3 rfl (by decide) (by decide) _ _ _ A_ 1 c_ (fun _ => True) (fun _ => False) rfl (by first | exact e_ | rfl) (F2.ru.mono (fun _ _ => trivial)) (Kd.R_reads' hc_).2.2 (fun _ _ hk => hk) (fun _ hk => hk.elim) (fun _ _ => trivial) F2.low F2.low.size ?hl ?_
    case hl => omega
    intro v3 x3 hr_ hb_ hg_ hat_
    have F3 := F2.grow hr_ hb_ hg_ hat_
    clear hr_ hb_ hg_ hat_
    refine hK.out _ _ F3.low (fun hHeld => ?_)
    clear hK K
    refine nrm 69 ?_
    refine on 14 (some 80) fun K hK => ?_
    obtain ⟨A_, c_, e_⟩ := Kd.R_slice F3.rb
    have hc_ := F3.rb
    rw [e_] at hc_
    refine Kd.R_append_rows_step (Kd.int .i64) (w0 := w2) w2.heap.size (by rfl) (.tmp 70) (.tmp 79) 83 3 (.int .i64 0) 8 rfl Tryz.underlying83 info3 rfl (by decide) (by decide) _ _ _ A_ 1 c_ (fun _ => True) (fun _ => False) rfl (by first | exact e_ | rfl) (F3.rv.mono (fun _ _ => trivial)) (Kd.R_reads' hc_).2.2 (fun _ _ hk => hk) (fun _ hk => hk.elim) (fun _ _ => trivial) F3.low F3.low.size ?hl ?_
    case hl => omega
    intro v4 x4 hr_ hb_ hg_ hat_
    have F4 := (F3.swap.grow hr_ hb_ hg_ hat_).swap
    clear hr_ hb_ hg_ hat_
    refine hK.out _ _ F4.low (fun hHeld => ?_)
    clear hK K
    refine nrm 80 ?_
    refine pu 15 (some 6) ?_
    refine pu 16 (some 7) ?_
    refine done_ (by kernel_rfl) ?_
    have hil : wrap64 (x + 1) = x + 1 := by unfold wrap64; omega
    have hbt : (Go.bits .and .u32 0 1 == 1) = false := by decide
    rw [hbt]
    go_wp2
    go_roundg k1
    case measure => omega
    case rel => exact ⟨x + 1, rfl, by first | rfl | (rw [hil]), ⟨by omega⟩, ⟨by rw [hin1]; exact F4.ru⟩, ⟨by rw [hsn]; exact F4.rv⟩, ⟨F4.uv⟩, ⟨F4.low⟩⟩
end Go.Proofs.YtkeccgkicffieaaGreatDoor.PTopWider
