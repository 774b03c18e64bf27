/- The walk of items.Make where every mark says that a cluster begins and no point is told. Conditions: the table lies in memory as IsTab tells, no mark within is Keep. -/
import Derived.Test.YtkeccgkicffieaaGreatDoorTopT
import Derived.Test.YtkeccgkicffieaaGreatDoorTopU
namespace Go.Proofs.YtkeccgkicffieaaGreatDoor.PTopWider
open Go.RowKit Go.Proofs.YtkeccgkicffieaaGreatDoorW.PrintWords Go.Proofs.YtkeccgkicffieaaGreatDoorW.PrintLast Go.Proofs.YtkeccgkicffieaaGreatDoorW.PrintMore
set_option linter.unusedVariables false
set_option linter.unusedSimpArgs false
theorem info48v : (Tryz.prog.info? 48).map (fun i => (i.zero, i.size, i.bytes)) = some (some (.int .u8 0), 1, 1) := by kernel_rfl
/-- A row's block is of its elements' type. -/
theorem Own1.ne_blk {α : Type} {d : Kd α} {e base : Nat} {W : World} {v : Value} {xs : List α} (h : Own1 d e base W v xs) {g t : Nat} {cs : Array Value} (hg : W.heap[g]? = some (.cells cs t (0, 0))) (ht : e ≠ t) : v.ownBlock ≠ some g := fun he => by
 obtain ⟨inner, ho⟩ := Kd.R_own h
 obtain ⟨cells, hc⟩ := own_typed ho g he
 rw [hg] at hc
 injection hc with hc
 injection hc with _ hc _
 exact ht hc.symm
theorem Ne2.typed {α β : Type} {d : Kd α} {d' : Kd β} {e e' base base' : Nat} {W : World} {v u : Value} {xs : List α} {ys : List β} (h : Own1 d e base W v xs) (k : Own1 d' e' base' W u ys) (hne : e ≠ e') : Ne2 v u := fun b hb hu => by
 obtain ⟨inner, ho⟩ := Kd.R_own k
 obtain ⟨cells, hc⟩ := own_typed ho b hu
 exact h.ne_blk hc hne hb
theorem Own1.setFar {α : Type} {d : Kd α} {e base : Nat} {W : World} {v : Value} {xs : List α} (h : Own1 d e base W v xs) {g t : Nat} {cs : Array Value} (hg : W.heap[g]? = some (.cells cs t (0, 0))) (ht : e ≠ t) (i : Nat) (u : Value) : Own1 d e base (W.setCell ⟨g, i, none⟩ u) v xs :=
 Kd.R_kept h ((Kept.refl W (fun k => k = g)).setCell (.inl rfl) u) (fun k hk he => h.ne_blk hg ht (by rw [hk, he]))
theorem Own1.lower {α : Type} {d : Kd α} {e base b' : Nat} {W : World} {v : Value} {xs : List α} (h : Own1 d e base W v xs) (hb : b' ≤ base) : Own1 d e b' W v xs := Kd.R_lower h hb
theorem Own1.reads {α : Type} {d : Kd α} {e base : Nat} {W : World} {A : Option Addr} {n c : Nat} {xs : List α} (h : Own1 d e base W (.slice A n c) xs) : n = xs.length ∧ xs.length ≤ c ∧ d.C W A xs.length xs := by
 obtain ⟨h1, h2, h3⟩ := Kd.R_reads' h
 subst h1
 exact ⟨rfl, h2, h3⟩
theorem at_bool_f {w : World} {A : Option Addr} {n : Nat} (h : Kd.C Kd.bool w A n (List.replicate n false)) (i : Int) (h0 : 0 ≤ i) (h1 : i < n) : ∃ ad, A = some ad ∧ w.cell? (ad.add i.toNat) = some (.bool false) := by
 have h2 := Kd.reads_of_C (enc := Value.bool) (d := false) (h1 := fun _ => rfl) h
 obtain ⟨ad, hA, hc⟩ := h2.2.2 (by omega)
 refine ⟨ad, hA, ?_⟩
 rw [hc i.toNat (by omega), List.getD_eq_getElem?_getD, List.getElem?_replicate, if_pos (by omega)]
 rfl
set_option maxHeartbeats 40000000 in
set_option maxRecDepth 100000 in
theorem itemsMake_calls (g : Nat) (f : Int → Int) (A : Option Addr) (c : Nat) (l : List S149) (Am : Option Addr) (cm : Nat) (marks : List Int) (Ab : Option Addr) (cb : Nat) (breaks : List Int) (Ap : Option Addr) (cp : Nat) (w : World)
  (hC : Kd.C k149 w A l.length l) (hc : l.length ≤ c) (hl : l.length ≤ 1000000)
  (hCm : Kd.C (Kd.int .u8) w Am marks.length marks) (hcm : marks.length ≤ cm) (hml : marks.length = l.length + 1) (hne : ∀ i : Int, 1 ≤ i → i < l.length → rd marks i ≠ 0)
  (hCb : Kd.C (Kd.int .u8) w Ab breaks.length breaks) (hcb : breaks.length ≤ cb) (hbl : breaks.length = l.length + 1) (hb0 : 0 < l.length → rd breaks 0 = 0) (hbn : rd breaks l.length = 2)
  (hCp : Kd.C Kd.bool w Ap (l.length + 1) (List.replicate (l.length + 1) false)) (hcp : l.length + 1 ≤ cp)
  (hT : IsTab w g f) (hlen : ∀ s ∈ l, 0 ≤ s.f2 ∧ s.f2 ≤ 4) (hf : ∀ r, 0 ≤ tabOf f r ∧ tabOf f r < 256) :
  Calls Tryz.prog 27 #[.slice A l.length c, .slice Am marks.length cm, .slice Ab breaks.length cb, .slice Ap (l.length + 1) cp, .pointer (some ⟨g, 0, none⟩)] w fun e w' => ∃ v6 v7, e = .returned (.agg #[v6, v7]) ∧ Own1 k130 130 w.heap.size w' v6 (l.map (clus f)) ∧ Own1 (Kd.int .u8) 48 w.heap.size w' v7 breaks ∧ Below w.heap.size w w' := by
 have HC := Aside0.mk hC
 have HCm := Aside0.mk hCm
 have HCb := Aside0.mk hCb
 have HCp := Aside0.mk hCp
 have HT := Aside0.mk hT
 have HL := Aside0.mk (And.intro hne (And.intro hlen hf))
 have HM := Aside0.mk (And.intro hml (And.intro hbl (And.intro hb0 hbn)))
 clear hC hCm hCb hCp hT hne hlen hf hml hbl hb0 hbn
 go_enter Tryz.func27, Tryz.ntmps27
 go_wp2_with fail
 refine (cellsMake_calls g f A c l Am cm marks _ (Kd.C_below HC.out (below_alloc (Below.refl _ _) _)) hc hl (Kd.C_below HCm.out (below_alloc (Below.refl _ _) _)) hcm HM.out.1 HL.out.1 (HT.out.on (below_alloc (Below.refl _ _) _)) HL.out.2.1 HL.out.2.2).mono ?_
 rintro e w1 ⟨v11, v12, rfl, h11, h12, hb1⟩
 obtain ⟨A11, c11, e11⟩ := Kd.R_slice h11
 obtain ⟨A12, c12, e12⟩ := Kd.R_slice h12
 subst e11 e12
 have hl11 : (l.map (clus f)).length = l.length := by simp
 have hl12 : (cnt (l.length + 1)).length = l.length + 1 := cnt_length _
 rw [hl11] at h11 ⊢
 rw [hl12] at h12 ⊢
 have K10 := blk_below (blk_new w (.cells #[.slice none 0 0, .slice none 0 0] 74)) hb1
 have K13 := blk_new w1 (.cells #[.slice A11 l.length c11, .slice none 0 0] 74)
 have hba := below_alloc (Below.refl w1.heap.size w1) (.cells #[.slice A11 l.length c11, .slice none 0 0] 74)
 have K10 := blk_below K10 hba
 have h11 := Aside0.mk ((h11.below hba).lower (b' := w.heap.size) (by simp))
 have h12 := Aside0.mk ((h12.below hba).lower (b' := w.heap.size) (by simp))
 have hbw := Aside0.mk (below_step (below_weaken (below_alloc (Below.refl w.heap.size w) _) (by simp) hb1) hba)
 go_wp2
 have hb13 : w.heap.size ≤ w1.heap.size := by have := hb1.size; simp at this; omega
 have h13 : w.heap.size ≠ w1.heap.size := by have := hb1.size; simp at this; omega
 generalize w1.alloc (.cells #[.slice A11 l.length c11, .slice none 0 0] 74) = w2 at K13 K10 h11 h12 hbw ⊢
 generalize w1.heap.size = b13 at K13 hb13 h13 ⊢
 clear hba hb1
 go_loopg [27] (l.length + 1) (fun kq v27 w' => ∃ (x : Int) (v : Value), v27 = .int .i64 x ∧ Aside0 (0 ≤ x ∧ x + kq = l.length + 1) ∧ Aside0 (w'.heap[b13]? = some (.cells #[.slice A11 l.length c11, v] 74 (0, 0))) ∧ Aside0 (w'.heap[w.heap.size]? = some (.cells #[.slice none 0 0, .slice none 0 0] 74 (0, 0))) ∧
  Aside0 (Own1 k130 130 w.heap.size w' (.slice A11 l.length c11) (l.map (clus f))) ∧ Aside0 (Own1 (Kd.int .i64) 3 w.heap.size w' (.slice A12 (l.length + 1) c12) (cnt (l.length + 1))) ∧ Aside0 (Own1 (Kd.int .u8) 48 w.heap.size w' v (breaks.take x.toNat)) ∧ Aside0 (Below w.heap.size w w'))
 case atStart => exact ⟨0, _, rfl, ⟨by omega⟩, ⟨K13⟩, ⟨K10⟩, h11, h12, ⟨Own1.nil _ _ _ _⟩, hbw⟩
 case round =>
  clear K13 K10 h11 h12 hbw
  obtain ⟨x, v, rfl, HK, K13, K10, H11, H12, HV, HB⟩ := hrel
  have hk := HK.out
  have y0 : wr.cell? ⟨b13, 0, none⟩ = some (.slice A11 l.length c11) := blk_cell K13.out 0
  have y1 : wr.cell? ⟨b13, 1, none⟩ = some v := blk_cell K13.out 1
  cases gk with
  | zero =>
   obtain ⟨A4, c4, e4⟩ := Kd.R_slice HV.out
   generalize (breaks.take x.toNat).length = n4 at e4
   subst e4
   have z0 : wr.cell? ⟨w.heap.size, 0, none⟩ = some (.slice none 0 0) := blk_cell K10.out 0
   have z1 : wr.cell? ⟨w.heap.size, 1, none⟩ = some (.slice none 0 0) := blk_cell K10.out 1
   have z2 := blk_frozen K10.out 0
   have z3 := blk_frozen K10.out 1
   have hbx : breaks.take x.toNat = breaks := List.take_of_length_le (by have := HM.out.2.1; omega)
   have K10f := blk_set (blk_set K10.out 0 (.slice A11 l.length c11)) 1 (.slice A4 n4 c4)
   have F11 := (H11.out.setFar K10.out (by decide) 0 (.slice A11 l.length c11)).setFar (blk_set K10.out 0 (.slice A11 l.length c11)) (by decide) 1 (.slice A4 n4 c4)
   have F48 := (HV.out.setFar K10.out (by decide) 0 (.slice A11 l.length c11)).setFar (blk_set K10.out 0 (.slice A11 l.length c11)) (by decide) 1 (.slice A4 n4 c4)
   have FB := (HB.out.setCell (p := ⟨w.heap.size, 0, none⟩) (Nat.le_refl _) (.slice A11 l.length c11)).setCell (p := ⟨w.heap.size, 1, none⟩) (Nat.le_refl _) (.slice A4 n4 c4)
   have FF := Aside0.mk (And.intro K10f (And.intro F11 (And.intro F48 FB)))
   have HX := Aside0.mk hbx
   clear K10f F11 F48 FB hbx
   go_wp2
   refine bodyPost_ret (results_cell_row rfl _ _ w.heap.size 74 #[.slice A11 l.length c11, .slice A4 n4 c4] (0, 0) _ rfl FF.out.1 Tryz.underlying74 rfl (by kernel_rfl)) rfl ⟨_, _, rfl, FF.out.2.1, ?_, FF.out.2.2.2⟩
   have := FF.out.2.2.1
   rw [HX.out] at this
   exact this
  | succ k1 =>
   have hil : wrap64 (x + 1) = x + 1 := by unfold wrap64; omega
   have hxb : x < (breaks.length : Int) := by have := HM.out.2.1; omega
   have hlb : (breaks.take x.toNat).length = x.toNat := by rw [List.length_take]; omega
   have hlt : ∀ q : Int, (breaks.take x.toNat ++ [q]).length = x.toNat + 1 := fun q => by rw [List.length_append, hlb]; rfl
   obtain ⟨ad, ea, zs⟩ := Kd.at_int H12.out.reads.2.2 x hk.1 (by rw [cnt_length]; omega)
   subst ea
   rw [cnt_get (l.length + 1) x hk.1 (by omega)] at zs
   by_cases h1 : x = l.length
   ·have hb1 : (x == (l.length : Int)) = true := by simpa using h1
    have H1 := Aside0.mk h1
    clear h1
    go_wp2_with (at_builtin; go_loud (refine Kd.R_append (Kd.int .u8) (w0 := w) w.heap.size rfl (.tmp 46) (.tmp 47) 72 48 (.int .u8 0) 1 rfl Tryz.underlying72 info48v rfl (by decide) (by decide) v (breaks.take x.toNat) 2 [.int .u8 2] (fun _ => True) (fun _ => False) rfl rfl rfl (fun _ hk => hk.elim) (fun _ _ => trivial) HV.out.loose HB.out HB.out.size ?hl2 ?_; (case hl2 => rw [hlb]; omega); intro v4 w5 hR4 hb4 hg4 hat4; have KP13 := K13.out; have KP10 := K10.out; have HP11 := H11.out; have HP12 := H12.out; have HPV := HV.out; have H48 := Own1.flat (flatInt .u8) hR4; obtain ⟨A4, c4, e4⟩ := Kd.R_slice H48; rw [hlt] at e4; subst e4; have K13n := blk_grown KP13 hg4 (fun he => (HPV.ne_blk KP13 (by decide)) he.symm); have K10n := blk_grown KP10 hg4 (fun he => (HPV.ne_blk KP10 (by decide)) he.symm); have H11n := HP11.keep hg4 (Ne2.typed HP11 HPV (by decide)); have H12n := HP12.keep hg4 (Ne2.typed HP12 HPV (by decide)); clear y1; have y1 : w5.cell? ⟨b13, 1, none⟩ = some v := blk_cell K13n 1; have y2 := blk_frozen K13n 1))
    have B5 : Aside0 (Below w.heap.size w (w5.setCell ⟨b13, 1, none⟩ (.slice A4 (x.toNat + 1) c4))) := ⟨Below.setCell hb4 hb13 _⟩
    have H48s := Aside0.mk (H48.setFar K13n (by decide) 1 (.slice A4 (x.toNat + 1) c4))
    have H11s := Aside0.mk (H11n.setFar K13n (by decide) 1 (.slice A4 (x.toNat + 1) c4))
    have H12s := Aside0.mk (H12n.setFar K13n (by decide) 1 (.slice A4 (x.toNat + 1) c4))
    have K13s := Aside0.mk (blk_set K13n 1 (.slice A4 (x.toNat + 1) c4))
    have K10s := Aside0.mk (blk_far K10n (p := ⟨b13, 1, none⟩) h13 (.slice A4 (x.toNat + 1) c4))
    have hq : breaks.take (x + 1).toNat = breaks.take x.toNat ++ [2] := by rw [take_next breaks x 0 hk.1 hxb]; rw [show breaks.getD x.toNat 0 = 2 by rw [H1.out]; exact HM.out.2.2.2]
    have HQ := Aside0.mk hq
    clear hR4 hb4 hg4 hat4 K13n K10n H11n H12n H48 hq HPV HP11 HP12 KP13 KP10 y1 y2
    go_wp2
    go_roundg k1
    case measure => omega
    case rel => exact ⟨x + 1, .slice A4 (x.toNat + 1) c4, by first | rfl | (rw [hil]), ⟨by omega⟩, K13s, K10s, H11s, H12s, ⟨by rw [HQ.out]; exact H48s.out⟩, B5⟩
   ·have hb1 : (x == (l.length : Int)) = false := by simpa using h1
    by_cases h2 : x = 0
    ·have hb2 : (x == 0) = true := by simpa using h2
     have H2 := Aside0.mk h2
     clear h2
     go_wp2_with (at_builtin; go_loud (refine Kd.R_append (Kd.int .u8) (w0 := w) w.heap.size rfl (.tmp 60) (.tmp 61) 72 48 (.int .u8 0) 1 rfl Tryz.underlying72 info48v rfl (by decide) (by decide) v (breaks.take x.toNat) 0 [.int .u8 0] (fun _ => True) (fun _ => False) rfl rfl rfl (fun _ hk => hk.elim) (fun _ _ => trivial) HV.out.loose HB.out HB.out.size ?hl2 ?_; (case hl2 => rw [hlb]; omega); intro v4 w5 hR4 hb4 hg4 hat4; have KP13 := K13.out; have KP10 := K10.out; have HP11 := H11.out; have HP12 := H12.out; have HPV := HV.out; have H48 := Own1.flat (flatInt .u8) hR4; obtain ⟨A4, c4, e4⟩ := Kd.R_slice H48; rw [hlt] at e4; subst e4; have K13n := blk_grown KP13 hg4 (fun he => (HPV.ne_blk KP13 (by decide)) he.symm); have K10n := blk_grown KP10 hg4 (fun he => (HPV.ne_blk KP10 (by decide)) he.symm); have H11n := HP11.keep hg4 (Ne2.typed HP11 HPV (by decide)); have H12n := HP12.keep hg4 (Ne2.typed HP12 HPV (by decide)); clear y1; have y1 : w5.cell? ⟨b13, 1, none⟩ = some v := blk_cell K13n 1; have y2 := blk_frozen K13n 1))
     have B5 : Aside0 (Below w.heap.size w (w5.setCell ⟨b13, 1, none⟩ (.slice A4 (x.toNat + 1) c4))) := ⟨Below.setCell hb4 hb13 _⟩
     have H48s := Aside0.mk (H48.setFar K13n (by decide) 1 (.slice A4 (x.toNat + 1) c4))
     have H11s := Aside0.mk (H11n.setFar K13n (by decide) 1 (.slice A4 (x.toNat + 1) c4))
     have H12s := Aside0.mk (H12n.setFar K13n (by decide) 1 (.slice A4 (x.toNat + 1) c4))
     have K13s := Aside0.mk (blk_set K13n 1 (.slice A4 (x.toNat + 1) c4))
     have K10s := Aside0.mk (blk_far K10n (p := ⟨b13, 1, none⟩) h13 (.slice A4 (x.toNat + 1) c4))
     have hq : breaks.take (x + 1).toNat = breaks.take x.toNat ++ [0] := by rw [take_next breaks x 0 hk.1 hxb]; rw [show breaks.getD x.toNat 0 = 0 by rw [H2.out]; exact HM.out.2.2.1 (by omega)]
     have HQ := Aside0.mk hq
     clear hR4 hb4 hg4 hat4 K13n K10n H11n H12n H48 hq HPV HP11 HP12 KP13 KP10 y1 y2
     go_wp2
     go_roundg k1
     case measure => omega
     case rel => exact ⟨x + 1, .slice A4 (x.toNat + 1) c4, by first | rfl | (rw [hil]), ⟨by omega⟩, K13s, K10s, H11s, H12s, ⟨by rw [HQ.out]; exact H48s.out⟩, B5⟩
    ·have hb2 : (x == 0) = false := by simpa using h2
     obtain ⟨ab, eb, zb⟩ := Kd.at_int (Kd.C_below HCb.out HB.out) x hk.1 hxb
     subst eb
     have hge : decide ((breaks.length : Int) ≤ x) = false := by simp; omega
     have ZB := Aside0.mk zb
     by_cases h3 : rd breaks x = 0
     ·have hb3 : (rd breaks x == 0) = true := by simpa using h3
      clear h3
      obtain ⟨ap, ep, zp⟩ := at_bool_f (Kd.C_below HCp.out HB.out) x hk.1 (by omega)
      subst ep
      have hpl : x < (l.length : Int) + 1 := by omega
      go_upto_region 6 with fail
      have HZ := HB
      refine st 10 wr [7, 9] fun hHeld => ?_
      generalize wr.drew = w3 at hHeld ⊢
      refine pu 0 (some 31) ?_
      refine pu 2 (some 33) ?_
      refine pu 3 (some 34) ?_
      refine pu 4 (some 35) ?_
      refine take_ (i := 1) (N := some 32) (v := ?_) (a' := ?_) #[true, true, true, true, true, false, false, false, false, false] rfl rfl (by kernel_rfl) (fun _ _ _ h => h) (Or.inl ⟨by rfl, ?_⟩) hHeld ?_ ?_
      rotate_left
      ·intro w' s_
       have k0 : w'.cell? ⟨b13, 1, none⟩ = some v := blk_cell (blk_below K13.out s_) 1
       go_simp
       try (with_reducible rfl)
      rotate_left
      ·simp only [Act.put, List.setIfInBounds_toArray, List.set_cons_zero, List.set_cons_succ, i64_w, i32_w]
       rfl
      refine ta 5 (some 36) (fun _ s => pw_cell_below s ZB.out) hHeld ?_
      refine on 6 (some 37) fun K hK => ?_
      refine Kd.R_lit_step (Kd.int .u8) (w0 := wr) wr.heap.size 48 (by rfl) (N := 37) rfl (xs := [rd breaks x]) (inner := [.int .u8 (rd breaks x)]) (ok := fun _ => True) (okp := fun _ => True) ?hrun ?hrep (fun _ hk => hk) trivial hHeld hHeld.size (by simp) ?_
      case hrun => first | (go_simp; done) | (go_simp; rfl)
      case hrep => exact (Reps.one (show Kd.M (Kd.int .u8) _ _ _ (rd breaks x) [.int .u8 (rd breaks x)] from rfl) (Reps.none _ _))
      intro v1 x1 hr_ hb_ hg_ hat_
      refine hK.out _ _ hb_ (fun hHeld => ?_)
      clear hK K
      refine nrm 37 ?_
      refine la 7 (some 38) fun K hK => ?_
      obtain ⟨A_, c_, e_⟩ := Kd.R_slice hr_
      have hc_ := hr_
      rw [e_] at hc_
      refine Kd.R_append_rows_step (Kd.int .u8) (w0 := w) w.heap.size (by rfl) (.tmp 32) (.tmp 37) 72 48 (.int .u8 0) 1 rfl Tryz.underlying72 info48v rfl (by decide) (by decide) v _ _ A_ 1 c_ (fun _ => True) (fun _ => False) rfl (by first | exact e_ | rfl) (HV.out.below hHeld).loose (Kd.R_reads' hc_).2.2 (fun _ _ hk => hk) (fun _ hk => hk.elim) (fun _ _ => trivial) (below_step HB.out hHeld) (below_step HB.out hHeld).size ?hl ?_
      case hl => rw [hlb]; simp; omega
      intro v4 w5 hR4 hb4 hg4 hat4
      refine hK.out _ _ ?_
      clear hK K
      refine nrm 38 ?_
      have KP13 := blk_below K13.out (hHeld)
      have KP10 := blk_below K10.out (hHeld)
      have HP11 := H11.out.below (hHeld)
      have HP12 := H12.out.below (hHeld)
      have HPV := HV.out.below (hHeld)
      have H48 := Own1.flat (flatInt .u8) hR4
      obtain ⟨A4, c4, e4⟩ := Kd.R_slice H48
      rw [hlt] at e4
      subst e4
      have K13n := blk_grown KP13 hg4 (fun he => (HPV.ne_blk KP13 (by decide)) he.symm)
      have K10n := blk_grown KP10 hg4 (fun he => (HPV.ne_blk KP10 (by decide)) he.symm)
      have H11n := HP11.keep hg4 (Ne2.typed HP11 HPV (by decide))
      have H12n := HP12.keep hg4 (Ne2.typed HP12 HPV (by decide))
      clear y1
      have y1 : w5.cell? ⟨b13, 1, none⟩ = some v := blk_cell K13n 1
      have y2 := blk_frozen K13n 1
      refine pu 8 (some 39) ?_
      refine la 9 none fun K hK => ?_
      refine skip_ (w1 := ?_) (by rfl) rfl ?_ ?_
      rotate_left
      ·go_simp
       rfl
      refine hK.out _ _ ?_
      clear hK K
      refine done_ (by kernel_rfl) ?_
      have B5 : Aside0 (Below w.heap.size w (w5.setCell ⟨b13, 1, none⟩ (.slice A4 (x.toNat + 1) c4))) := ⟨Below.setCell hb4 hb13 _⟩
      have H48s := Aside0.mk (H48.setFar K13n (by decide) 1 (.slice A4 (x.toNat + 1) c4))
      have H11s := Aside0.mk (H11n.setFar K13n (by decide) 1 (.slice A4 (x.toNat + 1) c4))
      have H12s := Aside0.mk (H12n.setFar K13n (by decide) 1 (.slice A4 (x.toNat + 1) c4))
      have K13s := Aside0.mk (blk_set K13n 1 (.slice A4 (x.toNat + 1) c4))
      have K10s := Aside0.mk (blk_far K10n (p := ⟨b13, 1, none⟩) h13 (.slice A4 (x.toNat + 1) c4))
      have hq : breaks.take (x + 1).toNat = breaks.take x.toNat ++ [(rd breaks x)] := by rw [take_next breaks x 0 hk.1 hxb]; rfl
      have HQ := Aside0.mk hq
      clear hR4 hb4 hg4 hat4 K13n K10n H11n H12n H48 hq HPV HP11 HP12 KP13 KP10 y1 y2
      go_wp2
      go_roundg k1
      case measure => omega
      case rel => exact ⟨x + 1, .slice A4 (x.toNat + 1) c4, by first | rfl | (rw [hil]), ⟨by omega⟩, K13s, K10s, H11s, H12s, ⟨by rw [HQ.out]; exact H48s.out⟩, B5⟩
     ·have hb3 : (rd breaks x == 0) = false := by simpa using h3
      clear h3
      go_upto_region 6 with fail
      have HZ := HB
      refine st 10 wr [7, 9] fun hHeld => ?_
      generalize wr.drew = w3 at hHeld ⊢
      refine pu 0 (some 31) ?_
      refine pu 2 (some 33) ?_
      refine pu 3 (some 34) ?_
      refine pu 4 (some 35) ?_
      refine take_ (i := 1) (N := some 32) (v := ?_) (a' := ?_) #[true, true, true, true, true, false, false, false, false, false] rfl rfl (by kernel_rfl) (fun _ _ _ h => h) (Or.inl ⟨by rfl, ?_⟩) hHeld ?_ ?_
      rotate_left
      ·intro w' s_
       have k0 : w'.cell? ⟨b13, 1, none⟩ = some v := blk_cell (blk_below K13.out s_) 1
       go_simp
       try (with_reducible rfl)
      rotate_left
      ·simp only [Act.put, List.setIfInBounds_toArray, List.set_cons_zero, List.set_cons_succ, i64_w, i32_w]
       rfl
      refine ta 5 (some 36) (fun _ s => pw_cell_below s ZB.out) hHeld ?_
      refine on 6 (some 37) fun K hK => ?_
      refine Kd.R_lit_step (Kd.int .u8) (w0 := wr) wr.heap.size 48 (by rfl) (N := 37) rfl (xs := [rd breaks x]) (inner := [.int .u8 (rd breaks x)]) (ok := fun _ => True) (okp := fun _ => True) ?hrun ?hrep (fun _ hk => hk) trivial hHeld hHeld.size (by simp) ?_
      case hrun => first | (go_simp; done) | (go_simp; rfl)
      case hrep => exact (Reps.one (show Kd.M (Kd.int .u8) _ _ _ (rd breaks x) [.int .u8 (rd breaks x)] from rfl) (Reps.none _ _))
      intro v1 x1 hr_ hb_ hg_ hat_
      refine hK.out _ _ hb_ (fun hHeld => ?_)
      clear hK K
      refine nrm 37 ?_
      refine la 7 (some 38) fun K hK => ?_
      obtain ⟨A_, c_, e_⟩ := Kd.R_slice hr_
      have hc_ := hr_
      rw [e_] at hc_
      refine Kd.R_append_rows_step (Kd.int .u8) (w0 := w) w.heap.size (by rfl) (.tmp 32) (.tmp 37) 72 48 (.int .u8 0) 1 rfl Tryz.underlying72 info48v rfl (by decide) (by decide) v _ _ A_ 1 c_ (fun _ => True) (fun _ => False) rfl (by first | exact e_ | rfl) (HV.out.below hHeld).loose (Kd.R_reads' hc_).2.2 (fun _ _ hk => hk) (fun _ hk => hk.elim) (fun _ _ => trivial) (below_step HB.out hHeld) (below_step HB.out hHeld).size ?hl ?_
      case hl => rw [hlb]; simp; omega
      intro v4 w5 hR4 hb4 hg4 hat4
      refine hK.out _ _ ?_
      clear hK K
      refine nrm 38 ?_
      have KP13 := blk_below K13.out (hHeld)
      have KP10 := blk_below K10.out (hHeld)
      have HP11 := H11.out.below (hHeld)
      have HP12 := H12.out.below (hHeld)
      have HPV := HV.out.below (hHeld)
      have H48 := Own1.flat (flatInt .u8) hR4
      obtain ⟨A4, c4, e4⟩ := Kd.R_slice H48
      rw [hlt] at e4
      subst e4
      have K13n := blk_grown KP13 hg4 (fun he => (HPV.ne_blk KP13 (by decide)) he.symm)
      have K10n := blk_grown KP10 hg4 (fun he => (HPV.ne_blk KP10 (by decide)) he.symm)
      have H11n := HP11.keep hg4 (Ne2.typed HP11 HPV (by decide))
      have H12n := HP12.keep hg4 (Ne2.typed HP12 HPV (by decide))
      clear y1
      have y1 : w5.cell? ⟨b13, 1, none⟩ = some v := blk_cell K13n 1
      have y2 := blk_frozen K13n 1
      refine pu 8 (some 39) ?_
      refine la 9 none fun K hK => ?_
      refine skip_ (w1 := ?_) (by rfl) rfl ?_ ?_
      rotate_left
      ·go_simp
       rfl
      refine hK.out _ _ ?_
      clear hK K
      refine done_ (by kernel_rfl) ?_
      have B5 : Aside0 (Below w.heap.size w (w5.setCell ⟨b13, 1, none⟩ (.slice A4 (x.toNat + 1) c4))) := ⟨Below.setCell hb4 hb13 _⟩
      have H48s := Aside0.mk (H48.setFar K13n (by decide) 1 (.slice A4 (x.toNat + 1) c4))
      have H11s := Aside0.mk (H11n.setFar K13n (by decide) 1 (.slice A4 (x.toNat + 1) c4))
      have H12s := Aside0.mk (H12n.setFar K13n (by decide) 1 (.slice A4 (x.toNat + 1) c4))
      have K13s := Aside0.mk (blk_set K13n 1 (.slice A4 (x.toNat + 1) c4))
      have K10s := Aside0.mk (blk_far K10n (p := ⟨b13, 1, none⟩) h13 (.slice A4 (x.toNat + 1) c4))
      have hq : breaks.take (x + 1).toNat = breaks.take x.toNat ++ [(rd breaks x)] := by rw [take_next breaks x 0 hk.1 hxb]; rfl
      have HQ := Aside0.mk hq
      clear hR4 hb4 hg4 hat4 K13n K10n H11n H12n H48 hq HPV HP11 HP12 KP13 KP10 y1 y2
      go_wp2
      go_roundg k1
      case measure => omega
      case rel => exact ⟨x + 1, .slice A4 (x.toNat + 1) c4, by first | rfl | (rw [hil]), ⟨by omega⟩, K13s, K10s, H11s, H12s, ⟨by rw [HQ.out]; exact H48s.out⟩, B5⟩
end Go.Proofs.YtkeccgkicffieaaGreatDoor.PTopWider
