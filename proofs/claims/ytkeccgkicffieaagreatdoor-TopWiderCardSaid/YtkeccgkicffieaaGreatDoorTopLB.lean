/- The walk of seg's Make. Conditions: the rules lie in memory as RulesIs tells; what the automata come to is given. -/
import Derived.Test.YtkeccgkicffieaaGreatDoorTopT
import Derived.Test.YtkeccgkicffieaaGreatDoorTopLA
namespace Go.Proofs.YtkeccgkicffieaaGreatDoor.PTopWider
open Go.RowKit Go.Proofs.YtkeccgkicffieaaGreatDoorW.PrintWords Go.Proofs.YtkeccgkicffieaaGreatDoorW.PrintLast Go.Proofs.YtkeccgkicffieaaGreatDoorW.PrintMore
set_option linter.unusedVariables false
set_option linter.unusedSimpArgs false
/-- What auto's Make comes to, of some expressions over N classes. -/
def autoF (fu N : Nat) (Xs : List EX) : Option (List (List Int) × List Int) :=
 if 1 ≤ N ∧ N ≤ 24 ∧ Xs.length ≤ 24 ∧ (vsOf Xs).length < 64 ∧ ((List.range N).map (tF (firstF (marksOf 0 Xs)) (vsOf Xs))).all (fun t => decide (0 ≤ t) && decide (t < 18446744073709551616)) = true ∧ Go.bits .or .u64 (firstF (marksOf 0 Xs)) 0 = firstF (marksOf 0 Xs) then
  loopF ((List.range N).map (tF (firstF (marksOf 0 Xs)) (vsOf Xs))) (marksOf 0 Xs) fu 0 [0] [] []
 else none
theorem autoF_calls (fu rb N : Nat) (A : Option Addr) (c : Nat) (Xs : List EX) (cs : List (Cl 3)) (w : World) (res : List (List Int) × List Int) (h : autoF fu N Xs = some res) (hC : Kd.C (kcl 3) w A Xs.length cs) (hX : ExOk w rb Xs cs) :
  Calls Tryz.prog 37 #[.slice A Xs.length c, .int .i64 (N : Int)] w fun e w' => AutoE w res e w' := by
 unfold autoF at h
 by_cases hc : 1 ≤ N ∧ N ≤ 24 ∧ Xs.length ≤ 24 ∧ (vsOf Xs).length < 64 ∧ ((List.range N).map (tF (firstF (marksOf 0 Xs)) (vsOf Xs))).all (fun t => decide (0 ≤ t) && decide (t < 18446744073709551616)) = true ∧ Go.bits .or .u64 (firstF (marksOf 0 Xs)) 0 = firstF (marksOf 0 Xs)
 ·rw [if_pos hc] at h
  obtain ⟨h1, h2, h3, h4, h5, h6⟩ := hc
  exact automake_calls rb N A c Xs cs w ⟨h1, h2⟩ h3 h4 hC hX fu _ res rfl (fun t ht => by have := List.all_eq_true.1 h5 t ht; simpa using this) h6 h
 ·rw [if_neg hc] at h
  cases h
/-- What seg's Make comes to. -/
def SegE (w : World) (l r : List (List Int) × List Int) (vC vT vL : Value) (e : Ending) (w' : World) : Prop :=
 ∃ gm A c B d A2 c2 B2 d2, e = .returned (.tuple #[.pointer (some ⟨gm, 0, none⟩), .int .i64 0]) ∧ w.heap.size ≤ gm ∧ w'.heap[gm]? = some (.cells #[vC, .int .u32 0, .int .u32 0, vT, vL, .slice A l.1.length c, .slice B l.2.length d, .slice A2 r.1.length c2, .slice B2 r.2.length d2] 96 (0, 0)) ∧ AutOwn w' w.heap.size l A c B d ∧ AutOwn w' w.heap.size r A2 c2 B2 d2 ∧ Below w.heap.size w w'
set_option maxHeartbeats 40000000 in
set_option maxRecDepth 100000 in
theorem segmake_calls (fu b0 n : Nat) (rs : List RX) (AC AT AL : Option Addr) (cC cT cL : Nat) (cs : List (Cl 7)) (la lb ra rb : List (List Int) × List Int) (w : World) (hn : 1 ≤ n) (hrl : rs.length ≤ 24) (hL : Kd.C (kcl 7) w AL rs.length cs) (hrs : RsOk w b0 rs cs)
  (h1 : autoF fu n (rs.map RX.l) = some la) (h2 : autoF fu n (rs.map RX.r) = some ra) (h3 : leastF fu la.1 la.2 = some lb) (h4 : leastF fu ra.1 ra.2 = some rb) :
  Calls Tryz.prog 20 #[.agg #[.slice AC n cC, .int .u32 0, .int .u32 0, .slice AT n cT, .slice AL rs.length cL]] w fun e w' => SegE w lb rb (.slice AC n cC) (.slice AT n cT) (.slice AL rs.length cL) e w' := by
 have HA := Aside0.mk (And.intro h1 (And.intro h2 (And.intro h3 h4)))
 have HL := Aside0.mk hL
 have HRS := Aside0.mk hrs
 obtain ⟨g, hg⟩ : ∃ g, Aside0 (w.heap.size = g) := ⟨_, ⟨rfl⟩⟩
 have b0x := blk_new w (.cells #[.slice AC n cC, .int .u32 0, .int .u32 0, .slice AT n cT, .slice AL rs.length cL] 86)
 have b1x := below_alloc (Below.refl w.heap.size w) (.cells #[.slice AC n cC, .int .u32 0, .int .u32 0, .slice AT n cT, .slice AL rs.length cL] 86)
 have l0 := blk_cell b0x 0
 have l4 := blk_cell b0x 4
 rw [hg.out] at b0x b1x
 have Q0 := Aside0.mk (And.intro b0x b1x)
 have hn0 : decide ((n : Int) = 0) = false := by simp; omega
 have hn0b : ((n : Int) == 0) = false := by simp; omega
 have hn0d : ¬ (n = 0) := by omega
 clear b0x b1x h1 h2 h3 h4 hrs hL
 go_enter Tryz.func20, Tryz.ntmps20
 go_wp2_with fail
 rw [hg.out] at l0 l4 ⊢
 generalize w.alloc (.cells #[.slice AC n cC, .int .u32 0, .int .u32 0, .slice AT n cT, .slice AL rs.length cL] 86) = w1 at Q0 l0 l4 ⊢
 go_loopg [4, 5, 19] rs.length (fun kq v4 v5 v19 w' => ∃ (i : Nat) (cl cr : List (Cl 3)), v19 = .int .i64 (i : Int) ∧ Aside0 (i + kq = rs.length) ∧ Aside0 (cl.length = i ∧ cr.length = i) ∧ Aside0 (Own1 (kcl 3) 140 g w' v4 cl ∧ Own1 (kcl 3) 140 g w' v5 cr ∧ Ne2 v4 v5) ∧ Aside0 (ExOk w b0 ((rs.take i).map RX.l) cl) ∧ Aside0 (ExSep w' g ((rs.take i).map RX.r) cr v4 v5) ∧ Aside0 (w'.heap[g]? = some (.cells #[.slice AC n cC, .int .u32 0, .int .u32 0, .slice AT n cT, .slice AL rs.length cL] 86) ∧ Below g w w'))
 case atStart => exact ⟨0, [], [], rfl, ⟨by omega⟩, ⟨rfl, rfl⟩, ⟨Own1.nil _ _ _ _, Own1.nil _ _ _ _, Ne2.nil _⟩, ⟨rfl, fun i hi => absurd hi (by simp)⟩, ⟨rfl, fun i hi => absurd hi (by simp)⟩, Q0⟩
 case round =>
  obtain ⟨i, cl, cr, rfl, HI, HLN, HO, HEL, HER, HB⟩ := hrel
  have hi := HI.out
  cases gk with
  | zero =>
   have hltn : decide (i < rs.length) = false := by simp; omega
   have hltz : decide ((i : Int) < (rs.length : Int)) = false := by simp; omega
   have hltp : ¬ (i < rs.length) := by omega
   have htk : rs.take i = rs := by rw [show i = rs.length by omega, List.take_length]
   have hl4 : cl.length = rs.length := by have := HLN.out.1; omega
   have hl5 : cr.length = rs.length := by have := HLN.out.2; omega
   rw [htk] at HEL HER
   obtain ⟨A4, c4, e4⟩ := Kd.R_slice HO.out.1
   obtain ⟨A5, c5, e5⟩ := Kd.R_slice HO.out.2.1
   rw [hl4] at e4
   rw [hl5] at e5
   subst e4
   subst e5
   obtain ⟨w3, hw3⟩ : ∃ w3, w3 = wr := ⟨_, rfl⟩
   subst hw3
   have hC4 := (Own1.reads HO.out.1).2.2
   have hC5 := (Own1.reads HO.out.2.1).2.2
   rw [hl4] at hC4
   rw [hl5] at hC5
   have c1 := autoF_calls fu b0 n A4 c4 (rs.map RX.l) cl w3 la HA.out.1 (by rw [List.length_map]; exact hC4) (HEL.out.low (by rw [hg.out]; exact HB.out.2))
   rw [List.length_map] at c1
   have C1 := Aside0.mk c1
   have D5 := Aside0.mk hC5
   have k0 := blk_cell HB.out.1 0
   clear c1 hC4 hC5 hl4 hl5 htk HEL hi
   go_wp2_with fail
   refine C1.out.mono ?_
   rintro e w4 ⟨A, c, B, d, rfl, p1, p2, p3, p4, hb4⟩
   have ba := below_alloc (Below.refl w4.heap.size w4) (.cells #[.slice A la.1.length c, .slice B la.2.length d] 94)
   have P5 := Aside0.mk (And.intro p1 (And.intro (Kd.C_below p2 ba) (And.intro p3 (Kd.C_below p4 ba))))
   have K5 := Aside0.mk (And.intro (blk_below (blk_below HB.out.1 hb4) ba) (And.intro (blk_new w4 (.cells #[.slice A la.1.length c, .slice B la.2.length d] 94)) ((HB.out.2.trans (hb4.mono (Nat.le_of_lt (blk_lt HB.out.1)))).trans (ba.mono (Nat.le_of_lt (blk_lt (blk_below HB.out.1 hb4)))))))
   have E5 := Aside0.mk ((HER.out.low hb4).low ba)
   have D5b := Aside0.mk (Kd.C_below (Kd.C_below D5.out hb4) ba)
   have kz := blk_new w4 (.cells #[.slice none 0 0, .slice none 0 0] 94)
   have d0 : (w4.alloc (.cells #[.slice none 0 0, .slice none 0 0] 94)).cell? ⟨w4.heap.size, 0, none⟩ = some (.slice none 0 0) := blk_cell kz 0
   have df0 : (w4.alloc (.cells #[.slice none 0 0, .slice none 0 0] 94)).frozen? ⟨w4.heap.size, 0, none⟩ = false := blk_frozen kz 0
   have d1 : (w4.alloc (.cells #[.slice none 0 0, .slice none 0 0] 94)).cell? ⟨w4.heap.size, 1, none⟩ = some (.slice none 0 0) := blk_cell kz 1
   have df1 : (w4.alloc (.cells #[.slice none 0 0, .slice none 0 0] 94)).frozen? ⟨w4.heap.size, 1, none⟩ = false := blk_frozen kz 1
   clear p1 p2 p3 p4 ba hb4 k0 kz C1 D5 HER
   go_upto_region 12 with fail
   clear d0 d1 df0 df1
   generalize w4.alloc (.cells #[.slice A la.1.length c, .slice B la.2.length d] 94) = w5 at P5 K5 E5 D5b ⊢
   have c2 := autoF_calls fu g n A5 c5 (rs.map RX.r) cr w5 ra HA.out.2.1 (by rw [List.length_map]; exact D5b.out) E5.out.ok
   rw [List.length_map] at c2
   have C2 := Aside0.mk c2
   have k0 := blk_cell K5.out.1 0
   clear c2 D5b E5
   go_wp2_with fail
   refine C2.out.mono ?_
   rintro e w6 ⟨A', c', B', d', rfl, p1, p2, p3, p4, hb6⟩
   have hg5 : g ≤ w5.heap.size := Nat.le_of_lt (blk_lt K5.out.1)
   have hg6 : g ≤ w6.heap.size := by have := hb6.size; omega
   have ba := below_alloc (Below.refl w6.heap.size w6) (.cells #[.slice A' ra.1.length c', .slice B' ra.2.length d'] 94)
   have P7 := Aside0.mk (And.intro p1 (And.intro (Kd.C_below p2 ba) (And.intro p3 (Kd.C_below p4 ba))))
   have S7 := Aside0.mk (And.intro P5.out.1 (And.intro (Kd.C_below (Kd.C_below P5.out.2.1 hb6) ba) (And.intro P5.out.2.2.1 (Kd.C_below (Kd.C_below P5.out.2.2.2 hb6) ba))))
   have K7 := Aside0.mk (And.intro (blk_below (blk_below K5.out.1 hb6) ba) (And.intro (blk_below (blk_below K5.out.2.1 hb6) ba) (And.intro (blk_new w6 (.cells #[.slice A' ra.1.length c', .slice B' ra.2.length d'] 94)) ((K5.out.2.2.trans (hb6.mono hg5)).trans (ba.mono hg6)))))
   have kz := blk_new w6 (.cells #[.slice none 0 0, .slice none 0 0] 94)
   have d0 : (w6.alloc (.cells #[.slice none 0 0, .slice none 0 0] 94)).cell? ⟨w6.heap.size, 0, none⟩ = some (.slice none 0 0) := blk_cell kz 0
   have df0 : (w6.alloc (.cells #[.slice none 0 0, .slice none 0 0] 94)).frozen? ⟨w6.heap.size, 0, none⟩ = false := blk_frozen kz 0
   have d1 : (w6.alloc (.cells #[.slice none 0 0, .slice none 0 0] 94)).cell? ⟨w6.heap.size, 1, none⟩ = some (.slice none 0 0) := blk_cell kz 1
   have df1 : (w6.alloc (.cells #[.slice none 0 0, .slice none 0 0] 94)).frozen? ⟨w6.heap.size, 1, none⟩ = false := blk_frozen kz 1
   clear p1 p2 p3 p4 ba hb6 k0 kz C2 P5 K5 hg5
   go_upto_region 15 with fail
   clear d0 d1 df0 df1
   generalize w6.alloc (.cells #[.slice A' ra.1.length c', .slice B' ra.2.length d'] 94) = w7 at P7 S7 K7 ⊢
   have hg7 : g ≤ w7.heap.size := Nat.le_of_lt (blk_lt K7.out.1)
   have ba := below_alloc (Below.refl w7.heap.size w7) (.cells #[.slice AC n cC, .int .u32 0, .int .u32 0, .slice AT n cT, .slice AL rs.length cL, .slice none 0 0, .slice none 0 0, .slice none 0 0, .slice none 0 0] 96)
   have P8 := Aside0.mk (And.intro P7.out.1 (And.intro (Kd.C_below P7.out.2.1 ba) (And.intro P7.out.2.2.1 (Kd.C_below P7.out.2.2.2 ba))))
   have S8 := Aside0.mk (And.intro S7.out.1 (And.intro (Kd.C_below S7.out.2.1 ba) (And.intro S7.out.2.2.1 (Kd.C_below S7.out.2.2.2 ba))))
   have K8 := Aside0.mk (And.intro (blk_below K7.out.2.1 ba) (And.intro (blk_below K7.out.2.2.1 ba) (And.intro (blk_new w7 (.cells #[.slice AC n cC, .int .u32 0, .int .u32 0, .slice AT n cT, .slice AL rs.length cL, .slice none 0 0, .slice none 0 0, .slice none 0 0, .slice none 0 0] 96)) (K7.out.2.2.2.trans (ba.mono hg7)))))
   have y0 := blk_cell K7.out.1 0
   have y1 := blk_cell K7.out.1 1
   have y2 := blk_cell K7.out.1 2
   have y3 := blk_cell K7.out.1 3
   have y4 := blk_cell K7.out.1 4
   have BA7 := Aside0.mk ba
   clear ba S7
   go_upto_region 16 with fail
   clear y0 y1 y2 y3 y4
   generalize w7.alloc (.cells #[.slice AC n cC, .int .u32 0, .int .u32 0, .slice AT n cT, .slice AL rs.length cL, .slice none 0 0, .slice none 0 0, .slice none 0 0, .slice none 0 0] 96) = w8 at P8 S8 K8 BA7 ⊢
   have C3 := Aside0.mk (leastmake_calls fu c d A B la.1 la.2 lb w8 S8.out.1 S8.out.2.1 S8.out.2.2.1 S8.out.2.2.2 HA.out.2.2.1)
   have y0 := blk_cell K8.out.1 0
   have y1 := blk_cell K8.out.1 1
   go_wp2_with fail
   refine C3.out.mono ?_
   rintro e w9 ⟨A9, c9, B9, d9, rfl, own9, hb9⟩
   have hg8 : g ≤ w8.heap.size := by have := blk_lt K8.out.2.2.1; omega
   have km := blk_below K8.out.2.2.1 hb9
   have t0 : w9.cell? ⟨w7.heap.size, 0, none⟩ = some (.slice AC n cC) := blk_cell km 0
   have tf0 : w9.frozen? ⟨w7.heap.size, 0, none⟩ = false := blk_frozen km 0
   have t1 : w9.cell? ⟨w7.heap.size, 1, none⟩ = some (.int .u32 0) := blk_cell km 1
   have tf1 : w9.frozen? ⟨w7.heap.size, 1, none⟩ = false := blk_frozen km 1
   have t2 : w9.cell? ⟨w7.heap.size, 2, none⟩ = some (.int .u32 0) := blk_cell km 2
   have tf2 : w9.frozen? ⟨w7.heap.size, 2, none⟩ = false := blk_frozen km 2
   have t3 : w9.cell? ⟨w7.heap.size, 3, none⟩ = some (.slice AT n cT) := blk_cell km 3
   have tf3 : w9.frozen? ⟨w7.heap.size, 3, none⟩ = false := blk_frozen km 3
   have t4 : w9.cell? ⟨w7.heap.size, 4, none⟩ = some (.slice AL rs.length cL) := blk_cell km 4
   have tf4 : w9.frozen? ⟨w7.heap.size, 4, none⟩ = false := blk_frozen km 4
   have t5 : w9.cell? ⟨w7.heap.size, 5, none⟩ = some (.slice none 0 0) := blk_cell km 5
   have tf5 : w9.frozen? ⟨w7.heap.size, 5, none⟩ = false := blk_frozen km 5
   have t6 : w9.cell? ⟨w7.heap.size, 6, none⟩ = some (.slice none 0 0) := blk_cell km 6
   have tf6 : w9.frozen? ⟨w7.heap.size, 6, none⟩ = false := blk_frozen km 6
   have t7 : w9.cell? ⟨w7.heap.size, 7, none⟩ = some (.slice none 0 0) := blk_cell km 7
   have tf7 : w9.frozen? ⟨w7.heap.size, 7, none⟩ = false := blk_frozen km 7
   have t8 : w9.cell? ⟨w7.heap.size, 8, none⟩ = some (.slice none 0 0) := blk_cell km 8
   have tf8 : w9.frozen? ⟨w7.heap.size, 8, none⟩ = false := blk_frozen km 8
   have kzz : KB w9 ((w9.setCell ⟨w7.heap.size, 5, none⟩ (.slice A9 lb.1.length c9)).setCell ⟨w7.heap.size, 6, none⟩ (.slice B9 lb.2.length d9)) w7.heap.size := kb_set (kb_set (kb_refl _ _) 5 _) 6 _
   have km2 := blk_set (blk_set km 5 (.slice A9 lb.1.length c9)) 6 (.slice B9 lb.2.length d9)
   simp only [List.setIfInBounds_toArray, List.set_cons_zero, List.set_cons_succ] at km2
   have hg9 : g ≤ w9.heap.size := by have := hb9.size; omega
   have K10 := Aside0.mk (And.intro (kb_blk kzz (blk_below K8.out.2.1 hb9) (fun he => by have h := blk_below K8.out.2.1 hb9; rw [he, km] at h; injection h with h; injection h with _ h _; cases h)) (And.intro km2 ((K8.out.2.2.2.trans (hb9.mono hg8)).trans (kb_low kzz hg7 (by omega)))))
   have O10 := Aside0.mk (((own9.same (Same.kb kzz km (by decide)) (Same.kb kzz km (by decide)) (Same.kb kzz km (by decide)))).lower hg8)
   have P9 := Aside0.mk hb9
   clear own9 km2 kzz hb9 y0 y1 C3 km
   go_upto_region 17 with fail
   clear t0 t1 t2 t3 t4 t5 t6 t7 t8 tf0 tf1 tf2 tf3 tf4 tf5 tf6 tf7 tf8
   have L10 := Aside0.mk ((BA7.out.trans (P9.out.mono (by have := BA7.out.size; omega))).trans (kb_low (kb_set (kb_set (kb_refl w9 w7.heap.size) 5 (.slice A9 lb.1.length c9)) 6 (.slice B9 lb.2.length d9)) (Nat.le_refl _) (by have := BA7.out.size; have := P9.out.size; omega)))
   generalize (w9.setCell ⟨w7.heap.size, 5, none⟩ (.slice A9 lb.1.length c9)).setCell ⟨w7.heap.size, 6, none⟩ (.slice B9 lb.2.length d9) = z10 at K10 O10 L10 ⊢
   have C4 := Aside0.mk (leastmake_calls fu c' d' A' B' ra.1 ra.2 rb z10 P7.out.1 (Kd.C_below P7.out.2.1 L10.out) P7.out.2.2.1 (Kd.C_below P7.out.2.2.2 L10.out) HA.out.2.2.2)
   have y0 := blk_cell K10.out.1 0
   have y1 := blk_cell K10.out.1 1
   go_wp2_with fail
   refine C4.out.mono ?_
   rintro e w11 ⟨A11, c11, B11, d11, rfl, own11, hb11⟩
   have hg10 : g ≤ z10.heap.size := by have := blk_lt K10.out.2.1; omega
   have km := blk_below K10.out.2.1 hb11
   have t0 : w11.cell? ⟨w7.heap.size, 0, none⟩ = some (.slice AC n cC) := blk_cell km 0
   have tf0 : w11.frozen? ⟨w7.heap.size, 0, none⟩ = false := blk_frozen km 0
   have t1 : w11.cell? ⟨w7.heap.size, 1, none⟩ = some (.int .u32 0) := blk_cell km 1
   have tf1 : w11.frozen? ⟨w7.heap.size, 1, none⟩ = false := blk_frozen km 1
   have t2 : w11.cell? ⟨w7.heap.size, 2, none⟩ = some (.int .u32 0) := blk_cell km 2
   have tf2 : w11.frozen? ⟨w7.heap.size, 2, none⟩ = false := blk_frozen km 2
   have t3 : w11.cell? ⟨w7.heap.size, 3, none⟩ = some (.slice AT n cT) := blk_cell km 3
   have tf3 : w11.frozen? ⟨w7.heap.size, 3, none⟩ = false := blk_frozen km 3
   have t4 : w11.cell? ⟨w7.heap.size, 4, none⟩ = some (.slice AL rs.length cL) := blk_cell km 4
   have tf4 : w11.frozen? ⟨w7.heap.size, 4, none⟩ = false := blk_frozen km 4
   have t5 : w11.cell? ⟨w7.heap.size, 5, none⟩ = some (.slice A9 lb.1.length c9) := blk_cell km 5
   have tf5 : w11.frozen? ⟨w7.heap.size, 5, none⟩ = false := blk_frozen km 5
   have t6 : w11.cell? ⟨w7.heap.size, 6, none⟩ = some (.slice B9 lb.2.length d9) := blk_cell km 6
   have tf6 : w11.frozen? ⟨w7.heap.size, 6, none⟩ = false := blk_frozen km 6
   have t7 : w11.cell? ⟨w7.heap.size, 7, none⟩ = some (.slice none 0 0) := blk_cell km 7
   have tf7 : w11.frozen? ⟨w7.heap.size, 7, none⟩ = false := blk_frozen km 7
   have t8 : w11.cell? ⟨w7.heap.size, 8, none⟩ = some (.slice none 0 0) := blk_cell km 8
   have tf8 : w11.frozen? ⟨w7.heap.size, 8, none⟩ = false := blk_frozen km 8
   have kzz : KB w11 ((w11.setCell ⟨w7.heap.size, 7, none⟩ (.slice A11 rb.1.length c11)).setCell ⟨w7.heap.size, 8, none⟩ (.slice B11 rb.2.length d11)) w7.heap.size := kb_set (kb_set (kb_refl _ _) 7 _) 8 _
   have km2 := blk_set (blk_set km 7 (.slice A11 rb.1.length c11)) 8 (.slice B11 rb.2.length d11)
   simp only [List.setIfInBounds_toArray, List.set_cons_zero, List.set_cons_succ] at km2
   have s1 := (own11.same (Same.kb kzz km (by decide)) (Same.kb kzz km (by decide)) (Same.kb kzz km (by decide))).lower hg10
   have s2 := (O10.out.same (Same.of_low hb11) (Same.of_low hb11) (Same.of_low hb11)).same (Same.kb kzz km (by decide)) (Same.kb kzz km (by decide)) (Same.kb kzz km (by decide))
   have s3 := (K10.out.2.2.trans (hb11.mono hg10)).trans (kb_low kzz hg7 (by have := hb11.size; omega))
   have RR := Aside0.mk (And.intro km2 (And.intro s2 (And.intro s1 s3)))
   clear km2 s1 s2 s3 kzz km own11 hb11 y0 y1 C4
   go_wp2_with fail
   clear t0 t1 t2 t3 t4 t5 t6 t7 t8 tf0 tf1 tf2 tf3 tf4 tf5 tf6 tf7 tf8
   go_ret2
   unfold SegE
   rw [hg.out]
   exact ⟨w7.heap.size, A9, c9, B9, d9, A11, c11, B11, d11, rfl, hg7, RR.out.1, RR.out.2.1, RR.out.2.2.1, RR.out.2.2.2⟩
  | succ k1 =>
   have hltn : decide (i < rs.length) = true := by simp; omega
   have hltz : decide ((i : Int) < (rs.length : Int)) = true := by simp; omega
   have hltp : i < rs.length := by omega
   obtain ⟨AX, nX, cX, AY, nY, cY, hc7, hEX, hEY⟩ := HRS.out.get i hltp
   obtain ⟨adL, had, hcl⟩ := cl_at (C_low HB.out.2 hg.out HL.out) (i : Int) (by omega) (by omega)
   subst had
   rw [Int.toNat_natCast, hc7] at hcl
   have hsn := take_snoc rs i ⟨0, .one 0, .one 0⟩ hltp
   obtain ⟨r, hr⟩ : ∃ r, Aside0 (rs.getD i ⟨0, .one 0, .one 0⟩ = r) := ⟨_, ⟨rfl⟩⟩
   rw [hr.out] at hcl hEX hEY hsn
   have HSN := Aside0.mk hsn
   have HEX := Aside0.mk hEX
   have HEY := Aside0.mk hEY
   have q0 : wr.cell? (adL.add (i * 7)) = some (.int .u8 r.does) := hcl 0 _ rfl
   have q1 : wr.cell? ⟨(adL.add (i * 7)).block, (adL.add (i * 7)).off + 1, none⟩ = some (.int .u8 r.l.op) := by rw [← add_next adL (i * 7) 1 (by decide)]; exact hcl 1 _ rfl
   have q2 : wr.cell? ⟨(adL.add (i * 7)).block, (adL.add (i * 7)).off + 2, none⟩ = some (.int .u32 r.l.set) := by rw [← add_next adL (i * 7) 2 (by decide)]; exact hcl 2 _ rfl
   have q3 : wr.cell? ⟨(adL.add (i * 7)).block, (adL.add (i * 7)).off + 3, none⟩ = some (.slice AX nX cX) := by rw [← add_next adL (i * 7) 3 (by decide)]; exact hcl 3 _ rfl
   have q4 : wr.cell? ⟨(adL.add (i * 7)).block, (adL.add (i * 7)).off + 4, none⟩ = some (.int .u8 r.r.op) := by rw [← add_next adL (i * 7) 4 (by decide)]; exact hcl 4 _ rfl
   have q5 : wr.cell? ⟨(adL.add (i * 7)).block, (adL.add (i * 7)).off + 5, none⟩ = some (.int .u32 r.r.set) := by rw [← add_next adL (i * 7) 5 (by decide)]; exact hcl 5 _ rfl
   have q6 : wr.cell? ⟨(adL.add (i * 7)).block, (adL.add (i * 7)).off + 6, none⟩ = some (.slice AY nY cY) := by rw [← add_next adL (i * 7) 6 (by decide)]; exact hcl 6 _ rfl
   have k0 := blk_new wr (.cells #[.int .u8 0, .int .u8 0, .int .u32 0, .slice none 0 0, .int .u8 0, .int .u32 0, .slice none 0 0] 142)
   have d0 : (wr.alloc (.cells #[.int .u8 0, .int .u8 0, .int .u32 0, .slice none 0 0, .int .u8 0, .int .u32 0, .slice none 0 0] 142)).cell? ⟨wr.heap.size, 0, none⟩ = some (.int .u8 0) := blk_cell k0 0
   have df0 : (wr.alloc (.cells #[.int .u8 0, .int .u8 0, .int .u32 0, .slice none 0 0, .int .u8 0, .int .u32 0, .slice none 0 0] 142)).frozen? ⟨wr.heap.size, 0, none⟩ = false := blk_frozen k0 0
   have d1 : (wr.alloc (.cells #[.int .u8 0, .int .u8 0, .int .u32 0, .slice none 0 0, .int .u8 0, .int .u32 0, .slice none 0 0] 142)).cell? ⟨wr.heap.size, 1, none⟩ = some (.int .u8 0) := blk_cell k0 1
   have df1 : (wr.alloc (.cells #[.int .u8 0, .int .u8 0, .int .u32 0, .slice none 0 0, .int .u8 0, .int .u32 0, .slice none 0 0] 142)).frozen? ⟨wr.heap.size, 1, none⟩ = false := blk_frozen k0 1
   have d2 : (wr.alloc (.cells #[.int .u8 0, .int .u8 0, .int .u32 0, .slice none 0 0, .int .u8 0, .int .u32 0, .slice none 0 0] 142)).cell? ⟨wr.heap.size, 2, none⟩ = some (.int .u32 0) := blk_cell k0 2
   have df2 : (wr.alloc (.cells #[.int .u8 0, .int .u8 0, .int .u32 0, .slice none 0 0, .int .u8 0, .int .u32 0, .slice none 0 0] 142)).frozen? ⟨wr.heap.size, 2, none⟩ = false := blk_frozen k0 2
   have d3 : (wr.alloc (.cells #[.int .u8 0, .int .u8 0, .int .u32 0, .slice none 0 0, .int .u8 0, .int .u32 0, .slice none 0 0] 142)).cell? ⟨wr.heap.size, 3, none⟩ = some (.slice none 0 0) := blk_cell k0 3
   have df3 : (wr.alloc (.cells #[.int .u8 0, .int .u8 0, .int .u32 0, .slice none 0 0, .int .u8 0, .int .u32 0, .slice none 0 0] 142)).frozen? ⟨wr.heap.size, 3, none⟩ = false := blk_frozen k0 3
   have d4 : (wr.alloc (.cells #[.int .u8 0, .int .u8 0, .int .u32 0, .slice none 0 0, .int .u8 0, .int .u32 0, .slice none 0 0] 142)).cell? ⟨wr.heap.size, 4, none⟩ = some (.int .u8 0) := blk_cell k0 4
   have df4 : (wr.alloc (.cells #[.int .u8 0, .int .u8 0, .int .u32 0, .slice none 0 0, .int .u8 0, .int .u32 0, .slice none 0 0] 142)).frozen? ⟨wr.heap.size, 4, none⟩ = false := blk_frozen k0 4
   have d5 : (wr.alloc (.cells #[.int .u8 0, .int .u8 0, .int .u32 0, .slice none 0 0, .int .u8 0, .int .u32 0, .slice none 0 0] 142)).cell? ⟨wr.heap.size, 5, none⟩ = some (.int .u32 0) := blk_cell k0 5
   have df5 : (wr.alloc (.cells #[.int .u8 0, .int .u8 0, .int .u32 0, .slice none 0 0, .int .u8 0, .int .u32 0, .slice none 0 0] 142)).frozen? ⟨wr.heap.size, 5, none⟩ = false := blk_frozen k0 5
   have d6 : (wr.alloc (.cells #[.int .u8 0, .int .u8 0, .int .u32 0, .slice none 0 0, .int .u8 0, .int .u32 0, .slice none 0 0] 142)).cell? ⟨wr.heap.size, 6, none⟩ = some (.slice none 0 0) := blk_cell k0 6
   have df6 : (wr.alloc (.cells #[.int .u8 0, .int .u8 0, .int .u32 0, .slice none 0 0, .int .u8 0, .int .u32 0, .slice none 0 0] 142)).frozen? ⟨wr.heap.size, 6, none⟩ = false := blk_frozen k0 6
   clear k0
   have F0 : SegAt g wr.heap.size w (wr.alloc (.cells #[.int .u8 r.does, .int .u8 r.l.op, .int .u32 r.l.set, .slice AX nX cX, .int .u8 r.r.op, .int .u32 r.r.set, .slice AY nY cY] 142)).drew #[.slice AC n cC, .int .u32 0, .int .u32 0, .slice AT n cT, .slice (some adL) rs.length cL] #[.int .u8 r.does, .int .u8 r.l.op, .int .u32 r.l.set, .slice AX nX cX, .int .u8 r.r.op, .int .u32 r.r.set, .slice AY nY cY] u4 cl u5 cr (.slice none 0 0) [] (.slice none 0 0) [] ((rs.take i).map RX.r) cr := by
    have bz := below_drew1 (below_alloc (Below.refl wr.heap.size wr) (.cells #[.int .u8 r.does, .int .u8 r.l.op, .int .u32 r.l.set, .slice AX nX cX, .int .u8 r.r.op, .int .u32 r.r.set, .slice AY nY cY] 142))
    exact ⟨HO.out.1.below bz, HO.out.2.1.below bz, Own1.nil _ _ _ _, Own1.nil _ _ _ _, HO.out.2.2, (Ne2.nil _).symm, (Ne2.nil _).symm, (Ne2.nil _).symm, (Ne2.nil _).symm, Ne2.nil _, HER.out.low bz, blk_below HB.out.1 bz, blk_below (blk_new wr (.cells #[.int .u8 r.does, .int .u8 r.l.op, .int .u32 r.l.set, .slice AX nX cX, .int .u8 r.r.op, .int .u32 r.r.set, .slice AY nY cY] 142)) (below_drew1 (Below.refl _ _)), HB.out.2.trans (bz.mono (Nat.le_of_lt (blk_lt HB.out.1)))⟩
   have FQ := Aside0.mk F0
   have hl1 : cl.length ≤ 24 := by have := HLN.out.1; omega
   have hl2 : cr.length ≤ 24 := by have := HLN.out.2; omega
   clear hcl hsn hEX hEY hc7 F0
   go_upto_region 7 with fail
   refine start_ (n := 13) (S := fun w' => w'.heap[wr.heap.size]? = some (.cells #[.int .u8 r.does, .int .u8 r.l.op, .int .u32 r.l.set, .slice AX nX cX, .int .u8 r.r.op, .int .u32 r.r.set, .slice AY nY cY] 142 (0, 0))) (ds := []) #[false, false, false, false, false, false, false, false, false, false, false, false, false] (by kernel_rfl) rfl rfl ?hS0 (fun hHeld => ?_)
   case hS0 => exact FQ.out.xb
   have F0 := FQ.out
   clear FQ
   generalize (wr.alloc (.cells #[.int .u8 r.does, .int .u8 r.l.op, .int .u32 r.l.set, .slice AX nX cX, .int .u8 r.r.op, .int .u32 r.r.set, .slice AY nY cY] 142)).drew = w3 at hHeld F0 ⊢
   refine pu 0 (some 23) ?_
   refine pu 1 (some 24) ?_
   refine pu 5 (some 28) ?_
   refine pu 6 (some 29) ?_
   refine take_ (i := 2) (N := some 25) (v := ?_) (a' := ?_) #[true, true, true, false, false, true, true, false, false, false, false, false, false] rfl rfl (by kernel_rfl) (fun _ _ _ h => h) (Or.inl ⟨by rfl, ?_⟩) hHeld ?_ ?_
   rotate_left
   ·intro w' s_
    have k1 : w'.cell? ⟨wr.heap.size, 1, none⟩ = some (.int .u8 r.l.op) := blk_cell s_ 1
    have k2 : w'.cell? ⟨wr.heap.size, 2, none⟩ = some (.int .u32 r.l.set) := blk_cell s_ 2
    have k3 : w'.cell? ⟨wr.heap.size, 3, none⟩ = some (.slice AX nX cX) := blk_cell s_ 3
    go_simp
    try (with_reducible rfl)
   rotate_left
   ·simp only [Act.put, List.setIfInBounds_toArray, List.set_cons_zero, List.set_cons_succ, i64_w, i32_w]
    rfl
   refine take_ (i := 7) (N := some 30) (v := ?_) (a' := ?_) #[true, true, true, false, false, true, true, true, false, false, false, false, false] rfl rfl (by kernel_rfl) (fun _ _ _ h => h) (Or.inl ⟨by rfl, ?_⟩) hHeld ?_ ?_
   rotate_left
   ·intro w' s_
    have k4 : w'.cell? ⟨wr.heap.size, 4, none⟩ = some (.int .u8 r.r.op) := blk_cell s_ 4
    have k5 : w'.cell? ⟨wr.heap.size, 5, none⟩ = some (.int .u32 r.r.set) := blk_cell s_ 5
    have k6 : w'.cell? ⟨wr.heap.size, 6, none⟩ = some (.slice AY nY cY) := blk_cell s_ 6
    go_simp
    try (with_reducible rfl)
   rotate_left
   ·simp only [Act.put, List.setIfInBounds_toArray, List.set_cons_zero, List.set_cons_succ, i64_w, i32_w]
    rfl
   refine on 3 (some 26) fun K hK => ?_
   refine Kd.R_lit_step (kcl 3) (w0 := w) g 140 (by rfl) (N := 26) rfl (xs := [xcl r.l AX nX cX]) (inner := [.int .u8 r.l.op, .int .u32 r.l.set, .slice AX nX cX]) (ok := fun _ => True) (okp := fun _ => True) ?hrun ?hrep (fun _ hk => hk) trivial F0.low F0.gle (by simp) ?_
   case hrun => first | (go_simp; done) | (go_simp; rfl)
   case hrep => exact reps_cl _ _ _ (xcl r.l AX nX cX)
   intro v1 x1 hr_ hb_ hg_ hat_
   have F1 := F0.lit hr_ hb_ hg_ hat_
   clear hr_ hb_ hg_ hat_
   refine hK.out _ _ F1.xb (fun hHeld => ?_)
   clear hK K
   refine nrm 26 ?_
   refine on 4 (some 27) fun K hK => ?_
   obtain ⟨A_, c_, e_⟩ := Kd.R_slice F1.ra
   have hc_ := F1.ra
   rw [e_] at hc_
   refine Kd.R_append_rows_step (kcl 3) (w0 := w) g (by rfl) (.tmp 23) (.tmp 26) 137 140 (.agg #[.int .u8 0, .int .u32 0, .slice none 0 0]) 32 rfl Tryz.underlying137 info140 rfl (by decide) (by decide) _ _ _ A_ 1 c_ (fun _ => True) (fun _ => False) rfl (by first | exact e_ | rfl) (F1.ru.mono (fun _ _ => trivial)) (Kd.R_reads' hc_).2.2 (fun _ _ hk => hk) (fun _ hk => hk.elim) (fun _ _ => trivial) F1.low F1.gle ?hl ?_
   case hl => omega
   intro v2 x2 hr_ hb_ hg_ hat_
   have F2 := F1.grow hr_ hb_ hg_ hat_
   clear hr_ hb_ hg_ hat_ hc_
   refine hK.out _ _ F2.xb (fun hHeld => ?_)
   clear hK K
   refine nrm 27 ?_
   refine on 8 (some 31) fun K hK => ?_
   refine gs Tryz.func36 #[.agg #[.int .u8 r.r.op, .int .u32 r.r.set, .slice AY nY cY]] ?_
   with_reducible refine (turnx_calls b0 r.r (.slice AY nY cY) _ (HEY.out.same (Same.of_low (by rw [hg.out]; exact F2.low)))).mono ?_
   rintro e w_ ⟨vk, rfl, hb_, hx_⟩
   refine ⟨_, rfl, ?_⟩
   obtain ⟨AZ, nZ, cZ, eZ⟩ := hx_.slice
   subst eZ
   have F3 := F2.kid hb_ hx_
   refine hK.out _ _ F3.xb (fun hHeld => ?_)
   clear hK K
   refine nrm 31 ?_
   refine on 9 (some 32) fun K hK => ?_
   refine Kd.R_lit_step (kcl 3) (w0 := w) g 140 (by rfl) (N := 32) rfl (xs := [xcl r.r AZ nZ cZ]) (inner := [.int .u8 r.r.op, .int .u32 r.r.set, .slice AZ nZ cZ]) (ok := fun _ => True) (okp := fun _ => True) ?hrun ?hrep (fun _ hk => hk) trivial F3.low F3.gle (by simp) ?_
   case hrun => first | (go_simp; done) | (go_simp; rfl)
   case hrep => exact reps_cl _ _ _ (xcl r.r AZ nZ cZ)
   intro v4 x4 hr_ hb_ hg_ hat_
   have F4 := (F3.swap.lit hr_ hb_ hg_ hat_).swap
   clear hr_ hb_ hg_ hat_
   refine hK.out _ _ F4.xb (fun hHeld => ?_)
   clear hK K
   refine nrm 32 ?_
   refine on 10 (some 33) fun K hK => ?_
   obtain ⟨A_, c_, e_⟩ := Kd.R_slice F4.rb
   have hc_ := F4.rb
   rw [e_] at hc_
   refine Kd.R_append_rows_step (kcl 3) (w0 := w) g (by rfl) (.tmp 28) (.tmp 32) 137 140 (.agg #[.int .u8 0, .int .u32 0, .slice none 0 0]) 32 rfl Tryz.underlying137 info140 rfl (by decide) (by decide) _ _ _ A_ 1 c_ (fun _ => True) (fun _ => False) rfl (by first | exact e_ | rfl) (F4.rv.mono (fun _ _ => trivial)) (Kd.R_reads' hc_).2.2 (fun _ _ hk => hk) (fun _ hk => hk.elim) (fun _ _ => trivial) F4.low F4.gle ?hl ?_
   case hl => omega
   intro v5 x5 hr_ hb_ hg_ hat_
   have F5 := (F4.swap.grow hr_ hb_ hg_ hat_).swap
   clear hr_ hb_ hg_ hat_ hc_
   refine hK.out _ _ F5.xb (fun hHeld => ?_)
   clear hK K
   refine nrm 33 ?_
   refine pu 11 (some 4) ?_
   refine pu 12 (some 5) ?_
   refine done_ (by kernel_rfl) ?_
   have F6 := Aside0.mk F5
   clear F5 F4 F3 F2 F1 F0 hb_ hx_
   go_wp2_with fail
   go_roundg k1
   case measure => omega
   case rel => exact ⟨i + 1, cl ++ [xcl r.l AX nX cX], cr ++ [xcl r.r AZ nZ cZ], by first | (rw [w64s i (by omega)]) | (simp; done), ⟨by omega⟩, ⟨by rw [List.length_append, HLN.out.1]; rfl, by rw [List.length_append, HLN.out.2]; rfl⟩, ⟨F6.out.ru, F6.out.rv, F6.out.uv⟩, ⟨by rw [HSN.out, List.map_append]; exact HEL.out.snoc HEX.out⟩, ⟨by rw [HSN.out, List.map_append]; exact F6.out.ex⟩, ⟨F6.out.bx, F6.out.low⟩⟩
/-- A machine of rules and two automata. -/
def machOf (n : Nat) (rs : List RX) (l r : List (List Int) × List Int) : Mach := ⟨n, cnt n, rs.map RX.does, l.1, l.2, r.1, r.2⟩
def ReadE (w : World) (M : Mach) (e : Ending) (w' : World) : Prop :=
 ∃ gm, e = .returned (.tuple #[.pointer (some ⟨gm, 0, none⟩), .agg #[.int .i64 0, .int .i64 0]]) ∧ w.heap.size ≤ gm ∧ IsMach w' gm M ∧ Below w.heap.size w w'
theorem seg_mach {w w' : World} {b0 n gm : Nat} {rs : List RX} {l r : List (List Int) × List Int} {AC AT AL : Option Addr} {cC cT cL c d c2 d2 base : Nat} {A B A2 B2 : Option Addr} {cs : List (Cl 7)}
  (hT : Own1 (Kd.int .i64) 3 b0 w (.slice AT n cT) (cnt n)) (hL : Kd.C (kcl 7) w AL rs.length cs) (hrs : RsOk w b0 rs cs) (hb : Below w.heap.size w w')
  (hm : w'.heap[gm]? = some (.cells #[.slice AC n cC, .int .u32 0, .int .u32 0, .slice AT n cT, .slice AL rs.length cL, .slice A l.1.length c, .slice B l.2.length d, .slice A2 r.1.length c2, .slice B2 r.2.length d2] 96 (0, 0)))
  (hl : AutOwn w' base l A c B d) (hr : AutOwn w' base r A2 c2 B2 d2) : IsMach w' gm (machOf n rs l r) := by
 have t := Own1.reads hT
 rw [cnt_length] at t
 refine ⟨⟨AC, cC, blk_cell hm 0⟩, blk_cell hm 1, blk_cell hm 2, ⟨AT, cT, ?_, ?_, ?_⟩, ⟨AL, cL, ?_, fun i i0 i1 => ?_⟩, ?_, ?_⟩
 ·have h := blk_cell hm 3
  simpa [machOf, cnt_length] using h
 ·simpa [machOf, cnt_length] using t.2.1
 ·have h := Kd.C_below t.2.2 hb
  simpa [machOf, cnt_length] using h
 ·have h := blk_cell hm 4
  simpa [machOf] using h
 ·have i2 : i < rs.length := by simpa [machOf] using i1
  obtain ⟨ad, ha, hc⟩ := cl_at (Kd.C_below hL hb) i i0 i2
  refine ⟨ad, ha, ?_⟩
  obtain ⟨AX, nX, cX, AY, nY, cY, hc7, _, _⟩ := hrs.get i.toNat (by omega)
  rw [hc7] at hc
  have h0 := hc 0 _ rfl
  have e1 : rd (machOf n rs l r).does i = (rs.getD i.toNat ⟨0, .one 0, .one 0⟩).does := by
   have hlt : i.toNat < rs.length := by omega
   simp [machOf, rd, List.getD, hlt]
  rw [e1]
  exact h0
 ·have h := hl.reads
  exact ⟨A, c, B, d, blk_cell hm 5, h.1, h.2.1, blk_cell hm 6, h.2.2.1, h.2.2.2⟩
 ·have h := hr.reads
  exact ⟨A2, c2, B2, d2, blk_cell hm 7, h.1, h.2.1, blk_cell hm 8, h.2.2.1, h.2.2.2⟩
set_option maxHeartbeats 40000000 in
set_option maxRecDepth 100000 in
theorem read_calls (fu N f n : Nat) (s : ByteArray) (rs : List RX) (la lb ra rb : List (List Int) × List Int) (w : World) (hs : s.size ≤ 4096) (hF : allF s N f 0 0 0 #[] 0 [] = some (n, rs)) (hn : 1 ≤ n) (hrl : rs.length ≤ 24)
  (h1 : autoF fu n (rs.map RX.l) = some la) (h2 : autoF fu n (rs.map RX.r) = some ra) (h3 : leastF fu la.1 la.2 = some lb) (h4 : leastF fu ra.1 ra.2 = some rb) :
  Calls Tryz.prog 11 #[.string s] w fun e w' => ReadE w (machOf n rs lb rb) e w' := by
 have HA := Aside0.mk (And.intro h1 (And.intro h2 (And.intro h3 h4)))
 obtain ⟨g, hg⟩ : ∃ g, Aside0 (w.heap.size = g) := ⟨_, ⟨rfl⟩⟩
 have b0x := blk_new w (.cells #[.int .i64 0, .int .i64 0] 31)
 have b1x := below_alloc (Below.refl w.heap.size w) (.cells #[.int .i64 0, .int .i64 0] 31)
 rw [hg.out] at b0x b1x
 have Q0 := Aside0.mk (And.intro b0x b1x)
 have HP := Aside0.mk (parse_calls s N f n rs (w.alloc (.cells #[.int .i64 0, .int .i64 0] 31)) hs hF)
 clear b0x b1x h1 h2 h3 h4 hF
 go_enter Tryz.func11, Tryz.ntmps11
 go_wp2_with fail
 refine HP.out.mono ?_
 rintro e w1 ⟨vC, vT, vL, rfl, ⟨⟨ns, hns, hC⟩, hT, cs, hL, hrs⟩, hb1⟩
 obtain ⟨AC, cC, eC⟩ := Kd.R_slice hC
 obtain ⟨AT, cT, eT⟩ := Kd.R_slice hT
 obtain ⟨AL, cL, eL⟩ := Kd.R_slice hL
 have hcl := hrs.len
 rw [hns] at eC
 rw [cnt_length] at eT
 rw [hcl] at eL
 subst eC
 subst eT
 subst eL
 have hLC := (Own1.reads hL).2.2
 rw [hcl] at hLC
 have hgs := Q0.out.2.size
 have hg0 : g ≤ (w.alloc (.cells #[.int .i64 0, .int .i64 0] 31)).heap.size := by have := hg.out; omega
 have Q1 := Aside0.mk (And.intro (blk_below Q0.out.1 hb1) (Q0.out.2.trans (hb1.mono hg0)))
 have R1 := Aside0.mk (And.intro hT (And.intro hLC hrs))
 clear hC hT hL hrs hns hcl hLC hb1 HP Q0 hgs hg0
 rw [hg.out]
 have bz := below_alloc (below_alloc (Below.refl w1.heap.size w1) (.cells #[.slice AC n cC, .int .u32 0, .int .u32 0, .slice AT n cT, .slice AL rs.length cL] 86)) (.cells #[.int .i64 0, .int .i64 0] 31)
 have C2 := Aside0.mk (segmake_calls fu (w.alloc (.cells #[.int .i64 0, .int .i64 0] 31)).heap.size n rs AC AT AL cC cT cL cs la lb ra rb ((w1.alloc (.cells #[.slice AC n cC, .int .u32 0, .int .u32 0, .slice AT n cT, .slice AL rs.length cL] 86)).alloc (.cells #[.int .i64 0, .int .i64 0] 31)) hn hrl (Kd.C_below R1.out.2.1 bz) (RsOk.same (Same.of_low bz) R1.out.2.2) HA.out.1 HA.out.2.1 HA.out.2.2.1 HA.out.2.2.2)
 have BZ := Aside0.mk bz
 clear bz
 go_wp2_with fail
 refine C2.out.mono ?_
 rintro e w3 ⟨gm, A, c, B, d, A2, c2, B2, d2, rfl, hgm, hm, ol, orr, hb3⟩
 have b13 := BZ.out.trans (hb3.mono (by have := BZ.out.size; omega))
 have hgw1 : g < w1.heap.size := blk_lt Q1.out.1
 have km := blk_below Q1.out.1 b13
 have x0 := blk_cell km 0
 have x1 := blk_cell km 1
 have f0 := blk_frozen km 0
 have f1 := blk_frozen km 1
 have MM := seg_mach R1.out.1 R1.out.2.1 R1.out.2.2 b13 hm ol orr
 have kz : KB w3 ((w3.setCell ⟨g, 0, none⟩ (.int .i64 0)).setCell ⟨g, 1, none⟩ (.int .i64 0)) g := kb_set (kb_set (kb_refl _ _) 0 _) 1 _
 have k4z : ((w3.setCell ⟨g, 0, none⟩ (.int .i64 0)).setCell ⟨g, 1, none⟩ (.int .i64 0)).heap[g]? = some (.cells #[.int .i64 0, .int .i64 0] 31) := blk_set (blk_set km 0 _) 1 _
 have bl : Below w3.heap.size w3 ((w3.setCell ⟨g, 0, none⟩ (.int .i64 0)).setCell ⟨g, 1, none⟩ (.int .i64 0)) := ⟨kz.os, kz.tape, kz.out, kz.k.1, fun j hj => by
  by_cases hjg : j = g
  ·subst hjg
   exact k4z.trans km.symm
  ·exact kz.k.2 j hj hjg (by simp)⟩
 have lw := (Q1.out.2.trans (b13.mono (by omega))).trans (bl.mono (show g ≤ w3.heap.size by have := b13.size; omega))
 have hgg : g ≤ gm := by have := BZ.out.size; omega
 have RR := Aside0.mk (And.intro (MM.on bl) (And.intro lw k4z))
 clear MM kz k4z bl lw b13 hm ol orr hb3 km C2
 go_wp2_with fail
 refine bodyPost_ret (results_tc rfl _ _ g 31 #[.int .i64 0, .int .i64 0] (0, 0) _ rfl RR.out.2.2 Tryz.underlying31 rfl (by kernel_rfl)) rfl ?_
 exact ⟨gm, rfl, by rw [hg.out]; exact hgg, RR.out.1, by rw [hg.out]; exact RR.out.2.1⟩
end Go.Proofs.YtkeccgkicffieaaGreatDoor.PTopWider
