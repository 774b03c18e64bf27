/- The walks of book.Para and book.Lay. Conditions: the book lies in memory as IsBook tells, its machines are good, the text is short. -/
import Derived.Test.YtkeccgkicffieaaGreatDoorTopT
import Derived.Test.YtkeccgkicffieaaGreatDoorTopV
import Derived.Test.YtkeccgkicffieaaGreatDoorTopN
import Derived.Test.YtkeccgkicffieaaGreatDoorTopH
import Derived.Test.YtkeccgkicffieaaGreatDoorTopB
namespace Go.Proofs.YtkeccgkicffieaaGreatDoor.PTopWider
open Go.RowKit Go.Proofs.YtkeccgkicffieaaGreatDoorW.PrintWords Go.Proofs.YtkeccgkicffieaaGreatDoorW.PrintLast Go.Proofs.YtkeccgkicffieaaGreatDoorW.PrintMore
set_option linter.unusedVariables false
set_option linter.unusedSimpArgs false
/-- A book in memory: two machines, three tables, hyphens without patterns. -/
def IsBook (w : World) (g : Nat) (Mm Mb : Mach) (fm fb fw : Int → Int) : Prop :=
 (∃ gm, w.cell? ⟨g, 0, none⟩ = some (.pointer (some ⟨gm, 0, none⟩)) ∧ IsMach w gm Mm) ∧ (∃ gb, w.cell? ⟨g, 1, none⟩ = some (.pointer (some ⟨gb, 0, none⟩)) ∧ IsMach w gb Mb) ∧
 (∃ g2, w.cell? ⟨g, 2, none⟩ = some (.pointer (some ⟨g2, 0, none⟩)) ∧ IsTab w g2 fm) ∧ (∃ g3, w.cell? ⟨g, 3, none⟩ = some (.pointer (some ⟨g3, 0, none⟩)) ∧ IsTab w g3 fb) ∧
 (∃ g4, w.cell? ⟨g, 4, none⟩ = some (.pointer (some ⟨g4, 0, none⟩)) ∧ IsTab w g4 fw) ∧ (∃ gh, w.cell? ⟨g, 5, none⟩ = some (.pointer (some ⟨gh, 0, none⟩)) ∧ IsHyph w gh)
theorem IsBook.on {w w1 : World} {g : Nat} {Mm Mb : Mach} {fm fb fw : Int → Int} (h : IsBook w g Mm Mb fm fb fw) (hb : Below w.heap.size w w1) : IsBook w1 g Mm Mb fm fb fw := by
 obtain ⟨⟨a, a1, a2⟩, ⟨b, b1, b2⟩, ⟨c, c1, c2⟩, ⟨d, d1, d2⟩, ⟨e, e1, e2⟩, ⟨f, f1, f2⟩⟩ := h
 exact ⟨⟨a, pw_cell_below hb a1, a2.on hb⟩, ⟨b, pw_cell_below hb b1, b2.on hb⟩, ⟨c, pw_cell_below hb c1, c2.on hb⟩, ⟨d, pw_cell_below hb d1, d2.on hb⟩, ⟨e, pw_cell_below hb e1, e2.on hb⟩, ⟨f, pw_cell_below hb f1, f2.on hb⟩⟩
theorem IsTab.bound {w : World} {g : Nat} {f : Int → Int} (h : IsTab w g f) (r : Int) : 0 ≤ tabOf f r ∧ tabOf f r < 256 := by
 unfold tabOf
 split
 ·omega
 ·obtain ⟨b, n, c, h1, h2⟩ := h
  obtain ⟨j, j0, j1, h3, h4⟩ := h2 (r / 256) (by omega) (by omega)
  obtain ⟨f0, f1, _⟩ := h4 (r % 256) (by omega) (by omega)
  have e : r / 256 * 256 + r % 256 = r := by omega
  rw [e] at f0 f1
  exact ⟨f0, f1⟩
theorem out_length (M : Mach) (l : List Int) : (M.out l).length = l.length + 1 := outAt_length _ _ _
theorem out_rd (M : Mach) (l : List Int) (p : Nat) (hp : p < l.length + 1) : rd (M.out l) p = if p = l.length then (2 : Int) else if 1 ≤ p ∧ (p : Int) < l.length then M.opp l p else 0 := by
 have := outAt_get M l l.length p hp
 unfold Mach.out rd
 rw [Int.toNat_natCast, List.getD_eq_getElem?_getD, this]
 rfl
theorem out_ends (M : Mach) (l : List Int) (n : Nat) (h : l.length = n) : Aside0 ((M.out l).length = n + 1 ∧ (0 < n → rd (M.out l) 0 = 0) ∧ rd (M.out l) n = 2) := by
 subst h
 refine ⟨out_length M l, fun h => ?_, ?_⟩
 ·have := out_rd M l 0 (by omega)
  rw [if_neg (by omega), if_neg (by omega)] at this
  exact this
 ·have := out_rd M l l.length (by omega)
  rw [if_pos rfl] at this
  exact this
theorem flat50 : Flat k50 := fun W base ok ok' x cs h => by
 obtain rfl := k50_openM h
 exact k50_mkM _ _ _ _
theorem flatBool : Flat Kd.bool := fun W base ok ok' x cs h => h
/-- What stands of a text. -/
def Fits (Mm Mb : Mach) (fm fb : Int → Int) (r : List S149) : Prop :=
 r.length ≤ 1000000 ∧ (∀ s ∈ r, 0 ≤ s.f2 ∧ s.f2 ≤ 4) ∧ (∀ q ∈ r.map (fun s => tabOf fm s.f0), 0 ≤ q ∧ q < (Mm.n : Int)) ∧ (∀ q ∈ r.map (fun s => tabOf fb s.f0), 0 ≤ q ∧ q < (Mb.n : Int)) ∧
 ∀ i : Int, 1 ≤ i → i < r.length → rd (Mm.out (r.map (fun s => tabOf fm s.f0))) i ≠ 0
set_option maxHeartbeats 40000000 in
set_option maxRecDepth 100000 in
theorem para_calls (g : Nat) (Mm Mb : Mach) (fm fb fw : Int → Int) (k : Nat) (A : Option Addr) (c : Nat) (l : List Int) (r : List S149) (w : World) (hC : Kd.C (Kd.int .u8) w A l.length l) (hc : l.length ≤ c) (hl : l.length ≤ 4096)
  (hall : scal_All.f k l = some r) (ha : ∀ x ∈ l, 0 ≤ x ∧ x < 128) (hB : IsBook w g Mm Mb fm fb fw) (hm : Mm.Good) (hb : Mb.Good) (hD : IsDb w) (hF : Fits Mm Mb fm fb r) :
  Calls Tryz.prog 16 #[.pointer (some ⟨g, 0, none⟩), .slice A l.length c] w fun e w' => ∃ v6 v7, e = .returned (.tuple #[.agg #[v6, v7], .int .i64 0]) ∧ Own1 k130 130 w.heap.size w' v6 (r.map (clus fw)) ∧ Own1 (Kd.int .u8) 48 w.heap.size w' v7 (Mb.out (r.map (fun s => tabOf fb s.f0))) ∧ Below w.heap.size w w' := by
 have HX := Aside0.mk ha
 clear ha
 have HC := Aside0.mk hC
 have HB := Aside0.mk hB
 have HD := Aside0.mk hD
 have HF := Aside0.mk hF
 have HA := Aside0.mk hall
 clear hC hB hD hF hall
 have hbA := below_alloc (Below.refl w.heap.size w) (.cells #[.slice none 0 0, .slice none 0 0] 74)
 have K4 := blk_new w (.cells #[.slice none 0 0, .slice none 0 0] 74)
 go_enter Tryz.func16, Tryz.ntmps16
 go_wp2_with fail
 refine (scal_All.calls k A c l r _ (Kd.C_below HC.out hbA) hc HA.out HX.out).mono ?_
 rintro e w1 ⟨v6, rfl, h6, hb1⟩
 obtain ⟨A6, c6, e6⟩ := Kd.R_slice h6
 subst e6
 have hw1 := below_step hbA hb1
 have K4 := blk_below K4 hb1
 have L6 := (Kd.R_reads' h6).2.1
 have C6 := Aside0.mk (Kd.R_reads' h6).2.2
 have KK := Aside0.mk K4
 have HW := Aside0.mk hw1
 have BK := HB.out.on hw1
 obtain ⟨⟨gm, a1, a2⟩, ⟨gb, b1, b2⟩, ⟨g2, c1, c2⟩, ⟨g3, d1, d2⟩, ⟨g4, e1, e2⟩, ⟨gh, f1, f2⟩⟩ := BK
 have PA := Aside0.mk a1
 have PB := Aside0.mk b1
 have PC := Aside0.mk c1
 have PD := Aside0.mk d1
 have PE := Aside0.mk e1
 have PF := Aside0.mk f1
 have MA := Aside0.mk a2
 have MB := Aside0.mk b2
 have TC := Aside0.mk c2
 have TD := Aside0.mk d2
 have TE := Aside0.mk e2
 have HH := Aside0.mk f2
 have DD := Aside0.mk (HD.out.on hw1)
 have HWF := Aside0.mk e2.bound
 have hrl := HF.out.1
 obtain ⟨cm, hcm⟩ : ∃ cm, r.map (fun s => tabOf fm s.f0) = cm := ⟨_, rfl⟩
 obtain ⟨cb, hcb⟩ : ∃ cb, r.map (fun s => tabOf fb s.f0) = cb := ⟨_, rfl⟩
 have hlm : cm.length = r.length := by rw [← hcm]; simp
 have hlb : cb.length = r.length := by rw [← hcb]; simp
 have hom := out_length Mm cm
 have hob := out_length Mb cb
 have FF := HF.out
 unfold Fits at FF
 rw [hcm, hcb] at FF
 have HQ := Aside0.mk (And.intro hcm hcb)
 have HL := Aside0.mk (And.intro hlm (And.intro hlb (And.intro hom hob)))
 have FF := Aside0.mk FF
 have HG := Aside0.mk (And.intro hm hb)
 clear h6 hb1 K4 hbA hw1 a1 a2 b1 b2 c1 c2 d1 d2 e1 e2 f1 f2 hcm hcb hlm hlb hom hob hm hb HB HF
 go_wp2
 refine st 36 w1 [34] fun hHeld => ?_
 generalize w1.drew = w2 at hHeld ⊢
 refine pu 0 (some 16) ?_
 refine pu 1 (some 17) ?_
 refine pu 2 (some 18) ?_
 refine pu 3 (some 19) ?_
 refine pu 5 (some 21) ?_
 refine pu 6 (some 22) ?_
 refine pu 7 (some 23) ?_
 refine pu 9 (some 25) ?_
 refine pu 12 (some 28) ?_
 refine pu 13 (some 29) ?_
 refine pu 14 (some 30) ?_
 refine pu 16 (some 32) ?_
 refine pu 17 (some 33) ?_
 refine pu 18 (some 34) ?_
 refine pu 20 (some 36) ?_
 refine pu 23 (some 39) ?_
 refine pu 24 (some 40) ?_
 refine pu 25 (some 41) ?_
 refine pu 27 (some 43) ?_
 refine pu 29 (some 45) ?_
 refine pu 30 (some 46) ?_
 refine pu 31 (some 47) ?_
 refine ta 4 (some 20) (fun _ s => pw_cell_below s PA.out) hHeld ?_
 refine ta 8 (some 24) (fun _ s => pw_cell_below s PC.out) hHeld ?_
 refine ta 15 (some 31) (fun _ s => pw_cell_below s PB.out) hHeld ?_
 refine ta 19 (some 35) (fun _ s => pw_cell_below s PD.out) hHeld ?_
 refine ta 26 (some 42) (fun _ s => pw_cell_below s PF.out) hHeld ?_
 refine ta 32 (some 48) (fun _ s => pw_cell_below s PE.out) hHeld ?_
 refine on 10 (some 26) fun K hK => ?_
 refine gs Tryz.func29 #[.pointer (some ⟨g2, 0, none⟩), .slice A6 r.length c6] ?_
 with_reducible refine (each_calls g2 fm A6 c6 r _ (Kd.C_below C6.out hHeld) L6 hrl (TC.out.on hHeld)).mono ?_
 rintro e w_ ⟨v26, rfl, h26, hb_⟩
 refine ⟨_, rfl, ?_⟩
 rw [HQ.out.1] at h26
 obtain ⟨A26, c26, e26⟩ := Kd.R_slice h26
 subst e26
 have H26 := Aside0.mk (Own1.flat (flatInt .i64) h26)
 clear h26
 refine hK.out _ _ (below_step hHeld hb_) (fun hHeld => ?_)
 clear hK K
 refine nrm 26 ?_
 refine on 11 (some 27) fun K hK => ?_
 refine gs Tryz.func28 #[.pointer (some ⟨gm, 0, none⟩), .slice A26 cm.length c26] ?_
 with_reducible refine (run_calls gm Mm A26 c26 cm _ H26.out.reads.2.2 H26.out.reads.2.1 (by rw [HL.out.1]; exact hrl) (MA.out.on hHeld) HG.out.1 (DD.out.on hHeld) FF.out.2.2.1).mono ?_
 rintro e w_ ⟨v27, rfl, h27, hb_⟩
 refine ⟨_, rfl, ?_⟩
 obtain ⟨A27, c27, e27⟩ := Kd.R_slice h27
 subst e27
 have H27 := Aside0.mk (Own1.flat (flatInt .u8) h27)
 clear h27
 refine hK.out _ _ (below_step hHeld hb_) (fun hHeld => ?_)
 clear hK K
 refine nrm 27 ?_
 refine on 21 (some 37) fun K hK => ?_
 refine gs Tryz.func29 #[.pointer (some ⟨g3, 0, none⟩), .slice A6 r.length c6] ?_
 with_reducible refine (each_calls g3 fb A6 c6 r _ (Kd.C_below C6.out hHeld) L6 hrl (TD.out.on hHeld)).mono ?_
 rintro e w_ ⟨v37, rfl, h37, hb_⟩
 refine ⟨_, rfl, ?_⟩
 rw [HQ.out.2] at h37
 obtain ⟨A37, c37, e37⟩ := Kd.R_slice h37
 subst e37
 have H37 := Aside0.mk (Own1.flat (flatInt .i64) h37)
 clear h37
 have H27 := Aside0.mk (H27.out.below hb_)
 refine hK.out _ _ (below_step hHeld hb_) (fun hHeld => ?_)
 clear hK K
 refine nrm 37 ?_
 refine on 22 (some 38) fun K hK => ?_
 refine gs Tryz.func28 #[.pointer (some ⟨gb, 0, none⟩), .slice A37 cb.length c37] ?_
 with_reducible refine (run_calls gb Mb A37 c37 cb _ H37.out.reads.2.2 H37.out.reads.2.1 (by rw [HL.out.2.1]; exact hrl) (MB.out.on hHeld) HG.out.2 (DD.out.on hHeld) FF.out.2.2.2.1).mono ?_
 rintro e w_ ⟨v38, rfl, h38, hb_⟩
 refine ⟨_, rfl, ?_⟩
 obtain ⟨A38, c38, e38⟩ := Kd.R_slice h38
 subst e38
 have H38 := Aside0.mk (Own1.flat (flatInt .u8) h38)
 clear h38
 have H27 := Aside0.mk (H27.out.below hb_)
 refine hK.out _ _ (below_step hHeld hb_) (fun hHeld => ?_)
 clear hK K
 refine nrm 38 ?_
 refine on 28 (some 44) fun K hK => ?_
 refine gs Tryz.func30 #[.pointer (some ⟨gh, 0, none⟩), .slice A6 r.length c6] ?_
 with_reducible refine (points_calls gh A6 c6 r _ (Kd.C_below C6.out hHeld) L6 hrl (HH.out.on hHeld)).mono ?_
 rintro e w_ ⟨v44, rfl, h44, hb_⟩
 refine ⟨_, rfl, ?_⟩
 obtain ⟨A44, c44, e44⟩ := Kd.R_slice h44
 subst e44
 rw [List.length_replicate] at h44 ⊢
 have H44 := Aside0.mk (Own1.flat flatBool h44)
 clear h44
 have H27 := Aside0.mk (H27.out.below hb_)
 have H38 := Aside0.mk (H38.out.below hb_)
 refine hK.out _ _ (below_step hHeld hb_) (fun hHeld => ?_)
 clear hK K
 refine nrm 44 ?_
 refine on 33 (some 49) fun K hK => ?_
 refine gs Tryz.func27 #[.slice A6 r.length c6, .slice A27 (Mm.out cm).length c27, .slice A38 (Mb.out cb).length c38, .slice A44 (r.length + 1) c44, .pointer (some ⟨g4, 0, none⟩)] ?_
 have X1 : Aside0 ((Mm.out cm).length = r.length + 1) := ⟨by rw [HL.out.2.2.1, HL.out.1]⟩
 have X2 : Aside0 ((Mb.out cb).length = r.length + 1 ∧ (0 < r.length → rd (Mb.out cb) 0 = 0) ∧ rd (Mb.out cb) r.length = 2) := out_ends Mb cb r.length HL.out.2.1
 have X3 : Aside0 (r.length + 1 = (List.replicate (r.length + 1) false).length ∧ r.length + 1 ≤ c44 ∧ Kd.C Kd.bool w_ A44 (r.length + 1) (List.replicate (r.length + 1) false)) := by
  have := H44.out.reads
  rw [List.length_replicate] at this
  exact ⟨List.length_replicate.symm, this.2.1, this.2.2⟩
 have HS := Aside0.mk (below_size (below_step HW.out hHeld))
 with_reducible refine (itemsMake_calls g4 fw A6 c6 r A27 c27 (Mm.out cm) A38 c38 (Mb.out cb) A44 c44 _ (Kd.C_below C6.out hHeld) L6 hrl H27.out.reads.2.2 H27.out.reads.2.1 X1.out FF.out.2.2.2.2 H38.out.reads.2.2 H38.out.reads.2.1 X2.out.1 X2.out.2.1 X2.out.2.2 X3.out.2.2 X3.out.2.1 (TE.out.on hHeld) FF.out.2.1 HWF.out).mono ?_
 rintro e w_ ⟨v49, v50, rfl, h49, h50, hb_⟩
 refine ⟨_, rfl, ?_⟩
 obtain ⟨A49, c49, e49⟩ := Kd.R_slice h49
 obtain ⟨A50, c50, e50⟩ := Kd.R_slice h50
 have hl49 : (r.map (clus fw)).length = r.length := List.length_map ..
 rw [hl49] at e49
 generalize (Mb.out cb).length = n50 at e50
 subst e49 e50
 have H49 := Aside0.mk h49
 have H50 := Aside0.mk h50
 clear h49 h50
 refine hK.out _ _ (below_step hHeld hb_) (fun hHeld => ?_)
 clear hK K
 refine nrm 49 ?_
 refine la 34 none fun K hK => ?_
 have K5 := blk_below KK.out hHeld
 have y0 : w_.cell? ⟨w.heap.size, 0, none⟩ = some (Value.slice none 0 0) := blk_cell K5 0
 have y1 : w_.cell? ⟨w.heap.size, 1, none⟩ = some (Value.slice none 0 0) := blk_cell K5 1
 have y2 := blk_frozen K5 0
 have y3 := blk_frozen K5 1
 refine skip_ (w1 := ?_) (by rfl) rfl ?_ ?_
 rotate_left
 ·go_simp
  rfl
 refine hK.out _ _ ?_
 clear hK K
 refine pu 35 (some 5) ?_
 refine done_ (by kernel_rfl) ?_
 have K6 := blk_set (blk_set K5 0 (.slice A49 r.length c49)) 1 (.slice A50 n50 c50)
 have z0 : ((w_.setCell ⟨w.heap.size, 0, none⟩ (.slice A49 r.length c49)).setCell ⟨w.heap.size, 1, none⟩ (.slice A50 n50 c50)).cell? ⟨w.heap.size, 0, none⟩ = some (.slice A49 r.length c49) := blk_cell K6 0
 have z1 : ((w_.setCell ⟨w.heap.size, 0, none⟩ (.slice A49 r.length c49)).setCell ⟨w.heap.size, 1, none⟩ (.slice A50 n50 c50)).cell? ⟨w.heap.size, 1, none⟩ = some (.slice A50 n50 c50) := blk_cell K6 1
 have F49 := ((H49.out.lower HS.out).setFar K5 (by decide) 0 (.slice A49 r.length c49)).setFar (blk_set K5 0 (.slice A49 r.length c49)) (by decide) 1 (.slice A50 n50 c50)
 have F50 := ((H50.out.lower HS.out).setFar K5 (by decide) 0 (.slice A49 r.length c49)).setFar (blk_set K5 0 (.slice A49 r.length c49)) (by decide) 1 (.slice A50 n50 c50)
 have FB := ((below_step HW.out hHeld).setCell (p := ⟨w.heap.size, 0, none⟩) (Nat.le_refl _) (.slice A49 r.length c49)).setCell (p := ⟨w.heap.size, 1, none⟩) (Nat.le_refl _) (.slice A50 n50 c50)
 have FZ := Aside0.mk (And.intro F49 (And.intro F50 FB))
 clear F49 F50 FB y0 y1 y2 y3 K5 K6
 generalize (w_.setCell ⟨w.heap.size, 0, none⟩ (.slice A49 r.length c49)).setCell ⟨w.heap.size, 1, none⟩ (.slice A50 n50 c50) = wz at FZ z0 z1 ⊢
 go_wp2
 refine bodyPost_ret (v := .tuple #[.agg #[.slice A49 r.length c49, .slice A50 n50 c50], .int .i64 0]) (by simp [results, Tryz.results16, go_sem, z0, z1]) rfl ⟨_, _, rfl, FZ.out.1, ?_, FZ.out.2.2⟩
 rw [HQ.out.2]
 exact FZ.out.2.1
set_option maxHeartbeats 40000000 in
set_option maxRecDepth 100000 in
theorem lay_calls (g : Nat) (Mm Mb : Mach) (fm fb fw : Int → Int) (k k2 k3 : Nat) (A : Option Addr) (c : Nat) (l : List Int) (r : List S149) (q0 q1 q2 q3 q4 : Int) (q5 : Nat) (ls : List S127) (loose : Bool) (rows : List S50) (w : World)
  (hC : Kd.C (Kd.int .u8) w A l.length l) (hc : l.length ≤ c) (hl : l.length ≤ 4096)
  (hall : scal_All.f k l = some r) (ha : ∀ x ∈ l, 0 ≤ x ∧ x < 128) (hB : IsBook w g Mm Mb fm fb fw) (hm : Mm.Good) (hb : Mb.Good) (hD : IsDb w) (hF : Fits Mm Mb fm fb r)
  (hck : span_Check.f q0 q1 q2 q3 q4 q5 = some true) (hbr : lines_Break.f k2 (r.map (clus fw)) (Mb.out (r.map (fun s => tabOf fb s.f0))) q0 q1 q2 q3 q4 q5 = some (ls, loose))
  (hro : lines_Rows.f k3 (r.map (clus fw)) (Mb.out (r.map (fun s => tabOf fb s.f0))) ls = some rows) :
  Calls Tryz.prog 9 #[.pointer (some ⟨g, 0, none⟩), .slice A l.length c, .agg #[.int .i64 q0, .int .i64 q1, .int .u8 q2, .int .i64 q3, .int .i64 q4, .float .f64 q5]] w fun e w' => ∃ v, e = .returned (.tuple #[.agg #[v, .bool loose], .int .i64 0]) ∧ Kd.R k50 50 w' w.heap.size (fun _ => True) v rows ∧ Below w.heap.size w w' := by
 have HX := Aside0.mk ha
 clear ha
 have HC := Aside0.mk hC
 have HB := Aside0.mk hB
 have HD := Aside0.mk hD
 have HF := Aside0.mk hF
 have HA := Aside0.mk hall
 obtain ⟨cl, hcl⟩ : ∃ cl, r.map (clus fw) = cl := ⟨_, rfl⟩
 obtain ⟨op, hop⟩ : ∃ op, Mb.out (r.map (fun s => tabOf fb s.f0)) = op := ⟨_, rfl⟩
 rw [hcl, hop] at hbr hro
 have HQ := Aside0.mk (And.intro hcl hop)
 clear hcl hop
 have HK := Aside0.mk (And.intro hck (And.intro hbr hro))
 have HG := Aside0.mk (And.intro hm hb)
 clear hC hB hD hF hall hck hbr hro hm hb
 have hb5 := below_alloc (Below.refl w.heap.size w) (.cells #[.int .i64 q0, .int .i64 q1, .int .u8 q2, .int .i64 q3, .int .i64 q4, .float .f64 q5] 40)
 have K5 := blk_new w (.cells #[.int .i64 q0, .int .i64 q1, .int .u8 q2, .int .i64 q3, .int .i64 q4, .float .f64 q5] 40)
 have hb6 := below_alloc (Below.refl _ (w.alloc (.cells #[.int .i64 q0, .int .i64 q1, .int .u8 q2, .int .i64 q3, .int .i64 q4, .float .f64 q5] 40))) (.cells #[.slice none 0 0, .bool false] 45)
 have K6 := blk_new (w.alloc (.cells #[.int .i64 q0, .int .i64 q1, .int .u8 q2, .int .i64 q3, .int .i64 q4, .float .f64 q5] 40)) (.cells #[.slice none 0 0, .bool false] 45)
 have K5 := Aside0.mk (blk_below K5 hb6)
 have hb0 := Aside0.mk (below_step hb5 hb6)
 have hs6 : (w.alloc (.cells #[.int .i64 q0, .int .i64 q1, .int .u8 q2, .int .i64 q3, .int .i64 q4, .float .f64 q5] 40)).heap.size = w.heap.size + 1 := by simp
 rw [hs6] at K6
 have K6 := Aside0.mk K6
 clear hs6 hb5 hb6
 go_enter Tryz.func9, Tryz.ntmps9
 go_wp2_with fail
 refine (span_Check.calls q0 q1 q2 q3 q4 q5 _ HK.out.1).mono ?_
 rintro e w1 ⟨rfl, hb1⟩
 have hw1 := below_step hb0.out hb1
 have K51 := Aside0.mk (blk_below K5.out hb1)
 have K61 := Aside0.mk (blk_below K6.out hb1)
 have W1 := Aside0.mk hw1
 clear hb1 K5 K6 hb0 hw1
 go_wp2_with fail
 refine (para_calls g Mm Mb fm fb fw k A c l r w1 (Kd.C_below HC.out W1.out) hc hl HA.out HX.out (HB.out.on W1.out) HG.out.1 HG.out.2 (HD.out.on W1.out) HF.out).mono ?_
 rintro e w2 ⟨v6, v7, rfl, h6, h7, hb2⟩
 rw [HQ.out.1] at h6
 rw [HQ.out.2] at h7
 obtain ⟨A6, c6, e6⟩ := Kd.R_slice h6
 obtain ⟨A7, c7, e7⟩ := Kd.R_slice h7
 subst e6 e7
 have hba := below_alloc (Below.refl w2.heap.size w2) (.cells #[.slice A6 cl.length c6, .slice A7 op.length c7] 74)
 have K8 := blk_new w2 (.cells #[.slice A6 cl.length c6, .slice A7 op.length c7] 74)
 have K52 := blk_below K51.out (below_step hb2 hba)
 have K62 := Aside0.mk (blk_below K61.out (below_step hb2 hba))
 have y0 : (w2.alloc (.cells #[.slice A6 cl.length c6, .slice A7 op.length c7] 74)).cell? ⟨w.heap.size, 0, none⟩ = some (.int .i64 q0) := blk_cell K52 0
 have y1 : (w2.alloc (.cells #[.slice A6 cl.length c6, .slice A7 op.length c7] 74)).cell? ⟨w.heap.size, 1, none⟩ = some (.int .i64 q1) := blk_cell K52 1
 have y2 : (w2.alloc (.cells #[.slice A6 cl.length c6, .slice A7 op.length c7] 74)).cell? ⟨w.heap.size, 2, none⟩ = some (.int .u8 q2) := blk_cell K52 2
 have y3 : (w2.alloc (.cells #[.slice A6 cl.length c6, .slice A7 op.length c7] 74)).cell? ⟨w.heap.size, 3, none⟩ = some (.int .i64 q3) := blk_cell K52 3
 have y4 : (w2.alloc (.cells #[.slice A6 cl.length c6, .slice A7 op.length c7] 74)).cell? ⟨w.heap.size, 4, none⟩ = some (.int .i64 q4) := blk_cell K52 4
 have y5 : (w2.alloc (.cells #[.slice A6 cl.length c6, .slice A7 op.length c7] 74)).cell? ⟨w.heap.size, 5, none⟩ = some (.float .f64 q5) := blk_cell K52 5
 have z0 : (w2.alloc (.cells #[.slice A6 cl.length c6, .slice A7 op.length c7] 74)).cell? ⟨w2.heap.size, 0, none⟩ = some (.slice A6 cl.length c6) := blk_cell K8 0
 have z1 : (w2.alloc (.cells #[.slice A6 cl.length c6, .slice A7 op.length c7] 74)).cell? ⟨w2.heap.size, 1, none⟩ = some (.slice A7 op.length c7) := blk_cell K8 1
 have H6 := Aside0.mk (h6.below hba)
 have H7 := Aside0.mk (h7.below hba)
 have W2 := Aside0.mk (below_step W1.out (below_step hb2 hba))
 have K8 := Aside0.mk K8
 clear hba h6 h7 hb2 K51 K61 K52 W1
 go_wp2_with fail
 refine (lines_Break.calls k2 A6 c6 cl A7 c7 op q0 q1 q2 q3 q4 q5 ls loose _ H6.out.reads.2.2 H6.out.reads.2.1 H7.out.reads.2.2 H7.out.reads.2.1 HK.out.2.1).mono ?_
 rintro e w3 ⟨v10, rfl, h10, hb3⟩
 obtain ⟨A10, c10, e10⟩ := Kd.R_slice h10
 subst e10
 have K83 := blk_below K8.out hb3
 have y6 : w3.cell? ⟨w2.heap.size, 0, none⟩ = some (.slice A6 cl.length c6) := blk_cell K83 0
 have y7 : w3.cell? ⟨w2.heap.size, 1, none⟩ = some (.slice A7 op.length c7) := blk_cell K83 1
 have K63 := Aside0.mk (blk_below K62.out hb3)
 have H63 := Aside0.mk (H6.out.below hb3)
 have H73 := Aside0.mk (H7.out.below hb3)
 have W3 := Aside0.mk (below_step W2.out hb3)
 have H10 := Aside0.mk h10
 clear hb3 h10 K83 z0 z1 y0 y1 y2 y3 y4 y5 H6 H7 W2 K62 K8
 go_wp2_with fail
 refine (lines_Rows.calls k3 A6 c6 cl A7 c7 op A10 c10 ls rows w3 H63.out.reads.2.2 H63.out.reads.2.1 H73.out.reads.2.2 H73.out.reads.2.1 (Kd.R_reads' H10.out).2.2 (Kd.R_reads' H10.out).2.1 HK.out.2.2).mono ?_
 rintro e w4 ⟨v34, rfl, h34, hb4⟩
 obtain ⟨A34, c34, e34⟩ := Kd.R_slice h34
 subst e34
 have K64 := blk_below K63.out hb4
 have x0 : w4.cell? ⟨w.heap.size + 1, 0, none⟩ = some (.slice none 0 0) := blk_cell K64 0
 have x1 : w4.cell? ⟨w.heap.size + 1, 1, none⟩ = some (.bool false) := blk_cell K64 1
 have x2 := blk_frozen K64 0
 have x3 := blk_frozen K64 1
 have K65 := blk_set (blk_set K64 0 (.slice A34 rows.length c34)) 1 (.bool loose)
 have HF1 : k50.R 50 ((w4.setCell ⟨w.heap.size + 1, 0, none⟩ (.slice A34 rows.length c34)).setCell ⟨w.heap.size + 1, 1, none⟩ (.bool loose)) w.heap.size (fun _ => True) (.slice A34 rows.length c34) rows :=
  (((Own1.lower (Own1.flat flat50 h34) (below_size W3.out)).setFar K64 (by decide) 0 (.slice A34 rows.length c34)).setFar (blk_set K64 0 (.slice A34 rows.length c34)) (by decide) 1 (.bool loose)).loose
 have HF2 := ((below_step W3.out hb4).setCell (p := ⟨w.heap.size + 1, 0, none⟩) (Nat.le_succ _) (.slice A34 rows.length c34)).setCell (p := ⟨w.heap.size + 1, 1, none⟩) (Nat.le_succ _) (.bool loose)
 have FZ := Aside0.mk (And.intro HF1 (And.intro HF2 K65))
 clear HF1 HF2 K65 K64 h34 hb4 y6 y7 H63 H73 H10 W3 K63
 go_wp2
 generalize (w4.setCell ⟨w.heap.size + 1, 0, none⟩ (.slice A34 rows.length c34)).setCell ⟨w.heap.size + 1, 1, none⟩ (.bool loose) = wz at FZ ⊢
 have u0 : wz.cell? ⟨w.heap.size + 1, 0, none⟩ = some (.slice A34 rows.length c34) := blk_cell FZ.out.2.2 0
 have u1 : wz.cell? ⟨w.heap.size + 1, 1, none⟩ = some (.bool loose) := blk_cell FZ.out.2.2 1
 refine bodyPost_ret (v := .tuple #[.agg #[.slice A34 rows.length c34, .bool loose], .int .i64 0]) (by simp [results, Tryz.results9, go_sem, u0, u1]) rfl ⟨_, rfl, FZ.out.1, FZ.out.2.1⟩
end Go.Proofs.YtkeccgkicffieaaGreatDoor.PTopWider
