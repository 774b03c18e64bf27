/- The walks of the rules' parser: fresh, class. Conditions: the parser lies in memory as Full tells, what stands next is right. -/
import Derived.Test.YtkeccgkicffieaaGreatDoorTopT
import Derived.Test.YtkeccgkicffieaaGreatDoorTopRD
import Derived.WideMake
namespace Go.Proofs.YtkeccgkicffieaaGreatDoor.PTopWider
open Go.RowKit Go.Proofs.YtkeccgkicffieaaGreatDoorW.PrintWords Go.Proofs.YtkeccgkicffieaaGreatDoorW.PrintLast Go.Proofs.YtkeccgkicffieaaGreatDoorW.PrintMore
set_option linter.unusedVariables false
set_option linter.unusedSimpArgs false
/-- A map's new entries. -/
def putMap (w : World) (r : Nat) (o : Obj) : World := { w with heap := w.heap.setIfInBounds r o }
theorem putMap_at {w : World} {r : Nat} {o o' : Obj} (h : w.heap[r]? = some o') : (putMap w r o).heap[r]? = some o := by
 have := blk_lt h
 simp [putMap, this]
theorem putMap_far {w : World} {r g : Nat} {o : Obj} (h : g ≠ r) : (putMap w r o).heap[g]? = w.heap[g]? := by
 simp [putMap, Array.getElem?_setIfInBounds, h.symm]
theorem putMap_size (w : World) (r : Nat) (o : Obj) : (putMap w r o).heap.size = w.heap.size := by simp [putMap]
theorem Same.putMap {t : Nat} {w : World} {r clock : Nat} {es : Array MapEntry} {o : Obj} (h : w.heap[r]? = some (.map es clock)) : Same t w (putMap w r o) := fun g cs fr hc => putMap_far (fun he => by subst he; rw [h] at hc; cases hc)
theorem SameMaps.putMap {mb : Nat} {w : World} {o : Obj} : SameMaps mb w (putMap w mb o) := fun g es c hn hc => putMap_far hn
theorem below_putMap {B : Nat} {w0 w : World} {r : Nat} {o : Obj} (h : Below B w0 w) (hr : B ≤ r) : Below B w0 (putMap w r o) :=
 ⟨h.os, h.tape, h.output, by rw [putMap_size]; exact h.size, fun i hi => (putMap_far (by omega)).trans (h.block i hi)⟩
theorem mapUpdate_new {P : Program} {w : World} (mty kt et : TypeId) (r clock : Nat) (es : Array MapEntry) (s : ByteArray) (val : Value) (hm : P.underlying mty = some (.map kt et)) (hk : P.underlying kt = some .string) (hb : w.heap[r]? = some (.map es clock))
  (hf : Instr.findNow .string (.string s) es.toList 0 = some none) :
  (Instr.mapUpdate mty (.map (some r)) (.string s) val).run P w = .ok () (putMap w r (.map (es.push { key := .string s, val := val, born := clock }) (clock + 1))) := by
 have hc : (Instr.checkKey false 10000 kt (.string s)).run P w = .ok () w := MapKept.run_checkKey (k := .string s) hk (by simp [MapKept.IsKey]) false 9999
 simp [Instr.mapUpdate, run_underlying hm, MapKept.run_getObj_map hb, hc, MapKept.run_findKey hk hf, MapKept.run_setObj_map _ hb, Result.andThen, putMap]
set_option maxHeartbeats 40000000 in
set_option maxRecDepth 100000 in
theorem fresh_calls (gp : Nat) (P : Ps) (n n2 : Nat) (k pl j c j2 : Int) (clock : Nat) (es : Array MapEntry) (w : World) (hk : 0 ≤ k) (hs : P.s.size ≤ 1000000) (hj : 0 ≤ j) (hj2 : j ≤ j2 ∧ j2 ≤ (P.s.size : Int)) (hP : IsPar w gp P k pl) (hF : hereF P.s n k = some (j, c)) (hl : letterB c = true) (hW : wordF P.s n2 j = some j2)
  (hm : MapOk w P es clock) (hg : P.mb ≠ gp) (name : ByteArray) (hn : P.s.extract j.toNat j2.toNat = name) (hf : Instr.findNow .string (.string name) es.toList 0 = some none) :
  Calls Tryz.prog 86 #[.pointer (some ⟨gp, 0, none⟩)] w fun e w' => ParE (.string name) gp P w pl j2 e w' := by
 have hw := pword_calls gp P n n2 k pl j c j2 w hk hs hj hj2 hP hF hl hW
 rw [hn] at hw
 have HW := Aside0.mk hw
 have HM := Aside0.mk hm
 clear hw hP hF hl hW hm
 go_enter Tryz.func86, Tryz.ntmps86
 go_wp2_with fail
 refine HW.out.mono ?_
 rintro e w1 ⟨rfl, hQ, hB⟩
 have y7 := hQ.c7
 have hlk := lookup_str_none (P := Tryz.prog) (w := w1) (z := .int .u32 0) Tryz.underlying132 Tryz.underlying9 (MapOk.keep HM.out hB hg) hf rfl
 have QQ := Aside0.mk (And.intro hQ hB)
 clear hQ hB hf
 go_wp2
 go_ret
 exact ⟨rfl, QQ.out⟩
/-- What class comes to: the place behind, how many classes, the map of names. -/
def classF (s : ByteArray) (N : Nat) : Nat → Int → Nat → Array MapEntry → Nat → Option (Int × Nat × Array MapEntry × Nat)
 | 0, _, _, _, _ => none
 | f + 1, k, n, es, clock =>
  match hereF s N k with
  | none => none
  | some (j, c) =>
   if c = 59 then some (j + 1, n, es, clock) else if letterB c = true then
    match wordF s N j with
    | none => none
    | some j2 =>
     match Instr.findNow .string (.string (s.extract j.toNat j2.toNat)) es.toList 0 with
     | some none => if n < 24 ∧ j ≤ j2 ∧ j2 ≤ (s.size : Int) then classF s N f j2 (n + 1) (es.push { key := .string (s.extract j.toNat j2.toNat), val := .int .u32 (IntKind.u32.wrap (2 ^ n)), born := clock }) (clock + 1) else none
     | _ => none
   else none
def ClassE (gp base : Nat) (P : Ps) (w : World) (k pl : Int) (n : Nat) (rs : List RX) (es : Array MapEntry) (clock : Nat) (e : Ending) (w' : World) : Prop :=
 e = .returned (.tuple #[]) ∧ ∃ vC vT, Full w' gp base ⟨P.s, vC, vT, P.vL, P.mb⟩ k pl n rs es clock ∧ Below base w w' ∧ SameMaps P.mb w w'
theorem grown_map {w w1 : World} {α : Type} {d : Kd α} {e base : Nat} {v : Value} {xs : List α} (h : Own1 d e base w v xs) (hg : w.grownBy w1 v.ownBlock) {r clock : Nat} {es : Array MapEntry} (hm : w.heap[r]? = some (.map es clock)) : w1.heap[r]? = some (.map es clock) :=
 (hg.block r (blk_lt hm) (fun he => by
  obtain ⟨inner, ho⟩ := Kd.R_own h
  obtain ⟨cells, h2⟩ := own_typed ho r he.symm
  rw [h2] at hm
  cases hm)).trans hm
theorem info9 : (Tryz.prog.info? 9).map (fun i => (i.zero, i.size, i.bytes)) = some (some (.string ⟨#[]⟩), 1, 16) := by kernel_rfl
theorem flatStr : Flat Kd.string := fun W base ok ok' x cs h => h
set_option maxHeartbeats 40000000 in
set_option maxRecDepth 100000 in
theorem class_calls (gp base : Nat) (P : Ps) (N f : Nat) (k pl k2 : Int) (n n2 : Nat) (rs : List RX) (es es2 : Array MapEntry) (clock clock2 : Nat) (w : World) (hk : 0 ≤ k) (hs : P.s.size ≤ 4096) (hF : Full w gp base P k pl n rs es clock) (hks : k ≤ (P.s.size : Int)) (hC : classF P.s N f k n es clock = some (k2, n2, es2, clock2)) (hbw : base ≤ w.heap.size) :
  Calls Tryz.prog 55 #[.pointer (some ⟨gp, 0, none⟩)] w fun e w' => ClassE gp base P w k2 pl n2 rs es2 clock2 e w' := by
 obtain ⟨s, vC, vT, vL, mb⟩ := P
 simp only at hs hks hC
 have HF := Aside0.mk hF
 have HC := Aside0.mk hC
 clear hF hC
 go_enter Tryz.func55, Tryz.ntmps55
 go_wp2
 go_loopg [] f (fun kq w' => ∃ (x : Int) (m : Nat) (ex : Array MapEntry) (cx : Nat) (uC uT : Value), Aside0 (0 ≤ x ∧ x ≤ (s.size : Int)) ∧ Aside0 (classF s N kq x m ex cx = some (k2, n2, es2, clock2)) ∧ Aside0 (Full w' gp base ⟨s, uC, uT, vL, mb⟩ x pl m rs ex cx) ∧ Aside0 (Below base w w' ∧ SameMaps mb w w'))
 case atStart => exact ⟨k, n, es, clock, vC, vT, ⟨by omega⟩, HC, HF, ⟨Below.refl _ _, SameMaps.refl _ _⟩⟩
 case round =>
  clear HF HC
  obtain ⟨x, m, ex, cx, uC, uT, HX, HR, HQ, HB⟩ := hrel
  have hx := HX.out
  cases gk with
  | zero => exact absurd HR.out (by simp [classF])
  | succ k1 =>
   have hr := HR.out
   unfold classF at hr
   cases hh : hereF s N x with
   | none => rw [hh] at hr; cases hr
   | some jc =>
    obtain ⟨j, c⟩ := jc
    rw [hh] at hr
    simp only at hr
    have hge := hereF_ge _ _ _ _ _ hh
    have HH := Aside0.mk (And.intro hh (hereF_again _ _ _ _ _ hh))
    clear hh
    by_cases h1 : c = 59
    ·rw [if_pos h1] at hr
     subst h1
     injection hr with hr
     injection hr with r1 hr
     injection hr with r2 hr
     injection hr with r3 r4
     subst r1 r2 r3 r4
     go_wp2_with fail
     refine (sign_yes gp ⟨s, uC, uT, vL, mb⟩ N x pl j 59 wr hx.1 (by simp only; omega) ⟨by omega, by omega⟩ HQ.out.1 HH.out.1).mono ?_
     rintro e w1 ⟨rfl, hQ1, hB1⟩
     have hFF := HQ.out.keep hB1 hQ1
     have hBB := And.intro (HB.out.1.trans (kb_low hB1 HQ.out.2.2.2.1 (by have := HB.out.1.size; omega))) (HB.out.2.trans (SameMaps.kb hB1 HQ.out.1))
     go_wp2
     refine bodyPost_ret (v := .tuple #[]) (by simp [results, Tryz.results55, go_sem]) rfl ⟨rfl, uC, uT, hFF, hBB⟩
    ·rw [if_neg h1] at hr
     by_cases h2 : letterB c = true
     ·rw [if_pos h2] at hr
      cases hw : wordF s N j with
      | none => rw [hw] at hr; cases hr
      | some j2 =>
       rw [hw] at hr
       simp only at hr
       cases hf : Instr.findNow .string (.string (s.extract j.toNat j2.toNat)) ex.toList 0 with
       | none => rw [hf] at hr; cases hr
       | some q =>
        cases q with
        | some q => rw [hf] at hr; cases hr
        | none =>
         rw [hf] at hr
         simp only at hr
         by_cases h3 : m < 24 ∧ j ≤ j2 ∧ j2 ≤ (s.size : Int)
         ·rw [if_pos h3] at hr
          have HR2 := Aside0.mk hr
          have HW := Aside0.mk (And.intro hw hf)
          have H2 := Aside0.mk h2
          clear hr hw hf h2
          generalize hnm : s.extract j.toNat j2.toNat = name at HR2 HW
          go_wp2_with fail
          refine (sign_no gp ⟨s, uC, uT, vL, mb⟩ N x pl j 59 c wr hx.1 (by simp only; omega) HQ.out.1 HH.out.1 h1).mono ?_
          rintro e w1 ⟨rfl, hQ1, hB1⟩
          have F1 := Aside0.mk (HQ.out.keep hB1 hQ1)
          have B1 := Aside0.mk (And.intro (HB.out.1.trans (kb_low hB1 HQ.out.2.2.2.1 (by have := HB.out.1.size; omega))) (HB.out.2.trans (SameMaps.kb hB1 HQ.out.1)))
          clear hQ1 hB1 HQ HB
          go_wp2_with fail
          refine (here_calls gp ⟨s, uC, uT, vL, mb⟩ 1 j pl j c w1 (by omega) (by simp only; omega) F1.out.1 HH.out.2).mono ?_
          rintro e w2 ⟨rfl, hQ2, hB2⟩
          have F2 := Aside0.mk (F1.out.keep hB2 hQ2)
          have B2 := Aside0.mk (And.intro (B1.out.1.trans (kb_low hB2 F1.out.2.2.2.1 (by have := B1.out.1.size; omega))) (B1.out.2.trans (SameMaps.kb hB2 F1.out.1)))
          have y1 := hQ2.c1
          clear hQ2 hB2 F1 B1
          go_wp2_with fail
          refine (fresh_calls gp ⟨s, uC, uT, vL, mb⟩ 1 N j pl j c j2 cx ex w2 (by omega) (by simp only; omega) (by omega) h3.2 F2.out.1 HH.out.2 H2.out HW.out.1 F2.out.2.1 F2.out.2.2.1 name hnm HW.out.2).mono ?_
          rintro e w3 ⟨rfl, hQ3, hB3⟩
          have F3 := Aside0.mk (F2.out.keep hB3 hQ3)
          have B3 := Aside0.mk (And.intro (B2.out.1.trans (kb_low hB3 F2.out.2.2.2.1 (by have := B2.out.1.size; omega))) (B2.out.2.trans (SameMaps.kb hB3 F2.out.1)))
          clear hQ3 hB3 F2 B2 y1
          obtain ⟨f1, f2, f3, f4, f5, ⟨ns, f6, f7⟩, f8, cs, f9, f10⟩ := F3.out
          obtain ⟨AC, cC, eC⟩ := Kd.R_slice f7
          obtain ⟨AT, cT, eT⟩ := Kd.R_slice f8
          rw [f6] at eC
          rw [cnt_length] at eT
          have eC : uC = _ := eC
          have eT : uT = _ := eT
          subst eC eT
          have y2 := f1.c2
          have hm24 : decide ((24 : Int) ≤ (m : Int)) = false := by simp; omega
          have V1 := Aside0.mk (And.intro f1 (And.intro f2 (And.intro f3 (And.intro f4 (And.intro f5 f6)))))
          have V2 := Aside0.mk (And.intro f7 (And.intro f8 (And.intro f9 f10)))
          clear f1 f2 f3 f4 f5 f6 f7 f8 f9 f10 F3
          go_wp2
          clear y2
          refine st 13 w3 [12] fun hHeld => ?_
          generalize w3.drew = w4 at hHeld ⊢
          refine pu 0 (some 25) ?_
          refine pu 1 (some 26) ?_
          refine pu 2 (some 27) ?_
          refine pu 4 (some 29) ?_
          refine pu 5 (some 30) ?_
          refine pu 6 (some 31) ?_
          refine pu 7 (some 32) ?_
          refine pu 8 (some 33) ?_
          refine ta 3 (some 28) (fun _ s => pw_cell_below s V1.out.1.c7) hHeld ?_
          refine ta 9 (some 34) (fun _ s => pw_cell_below s V1.out.1.c2) hHeld ?_
          refine pu 10 (some 35) ?_
          refine pu 11 (some 36) ?_
          refine la 12 none fun K hK => ?_
          have hmu := mapUpdate_new (P := Tryz.prog) 132 9 82 mb cx ex name (.int .u32 (IntKind.u32.wrap (2 ^ m))) Tryz.underlying132 Tryz.underlying9 (blk_below V1.out.2.1 hHeld) HW.out.2
          refine skip_ (w1 := ?_) (by rfl) rfl ?_ ?_
          rotate_left
          ·go_simp
           rfl
          refine hK.out _ _ ?_
          clear hK K
          refine done_ (by kernel_rfl) ?_
          have p1 : IsPar _ gp _ j2 pl := (putMap_far (w := w4) (o := .map (ex.push { key := .string name, val := .int .u32 (IntKind.u32.wrap (2 ^ m)), born := cx }) (cx + 1)) (fun he => V1.out.2.2.1 he.symm)).trans (blk_below V1.out.1 hHeld)
          have p2 := putMap_at (o := .map (ex.push { key := .string name, val := .int .u32 (IntKind.u32.wrap (2 ^ m)), born := cx }) (cx + 1)) (blk_below V1.out.2.1 hHeld)
          have s9 := Same.putMap (t := 9) (o := .map (ex.push { key := .string name, val := .int .u32 (IntKind.u32.wrap (2 ^ m)), born := cx }) (cx + 1)) (blk_below V1.out.2.1 hHeld)
          have s3 := Same.putMap (t := 3) (o := .map (ex.push { key := .string name, val := .int .u32 (IntKind.u32.wrap (2 ^ m)), born := cx }) (cx + 1)) (blk_below V1.out.2.1 hHeld)
          have s142 := Same.putMap (t := 142) (o := .map (ex.push { key := .string name, val := .int .u32 (IntKind.u32.wrap (2 ^ m)), born := cx }) (cx + 1)) (blk_below V1.out.2.1 hHeld)
          have s140 := Same.putMap (t := 140) (o := .map (ex.push { key := .string name, val := .int .u32 (IntKind.u32.wrap (2 ^ m)), born := cx }) (cx + 1)) (blk_below V1.out.2.1 hHeld)
          have U1 := Aside0.mk (And.intro p1 p2)
          have U2 := Aside0.mk (And.intro ((V2.out.1.below hHeld).same s9) (And.intro ((V2.out.2.1.below hHeld).same s3) (And.intro ((V2.out.2.2.1.below hHeld).same s142) (RsOk.same s140 (RsOk.same (Same.below hHeld) V2.out.2.2.2)))))
          have UB := Aside0.mk (below_putMap (o := .map (ex.push { key := .string name, val := .int .u32 (IntKind.u32.wrap (2 ^ m)), born := cx }) (cx + 1)) (B3.out.1.trans ⟨hHeld.os, hHeld.tape, hHeld.output, hHeld.size, fun i hi => hHeld.block i (by have := B3.out.1.size; omega)⟩) V1.out.2.2.2.2.1)
          have UM := Aside0.mk ((B3.out.2.trans (SameMaps.below hHeld)).trans (SameMaps.putMap (mb := mb) (o := .map (ex.push { key := .string name, val := .int .u32 (IntKind.u32.wrap (2 ^ m)), born := cx }) (cx + 1))))
          have UN := Aside0.mk V1.out.2.2
          clear p1 p2 s9 s3 s142 s140 hHeld V1 V2 B3 hmu
          generalize putMap w4 mb (.map (ex.push { key := .string name, val := .int .u32 (IntKind.u32.wrap (2 ^ m)), born := cx }) (cx + 1)) = w5 at U1 U2 UB UM ⊢
          go_wp2
          refine st 18 w5 [13, 17] fun hHeld => ?_
          generalize w5.drew = w6 at hHeld ⊢
          refine pu 0 (some 37) ?_
          refine pu 1 (some 38) ?_
          refine pu 2 (some 39) ?_
          refine pu 3 (some 40) ?_
          refine pu 4 (some 41) ?_
          refine pu 6 (some 43) ?_
          refine pu 7 (some 44) ?_
          refine pu 8 (some 45) ?_
          refine pu 9 (some 46) ?_
          refine ta 5 (some 42) (fun _ s => pw_cell_below s U1.out.1.c5) hHeld ?_
          refine ta 10 (some 47) (fun _ s => pw_cell_below s U1.out.1.c2) hHeld ?_
          refine pu 11 (some 48) ?_
          refine on 12 (some 49) fun K hK => ?_
          refine Kd.R_lit_step (Kd.int .i64) (w0 := w5) w5.heap.size 3 (by rfl) (N := 49) rfl (xs := [(m : Int)]) (inner := [.int .i64 (m : Int)]) (ok := fun _ => True) (okp := fun _ => True) ?hrun ?hrep (fun _ hk => hk) trivial hHeld hHeld.size (by simp) ?_
          case hrun => first | (go_simp; done) | (go_simp; rfl)
          case hrep => exact (Reps.one (show Kd.M (Kd.int .i64) _ _ _ (m : Int) [.int .i64 (m : Int)] from rfl) (Reps.none _ _))
          intro v1 x1 hr_ hb_ hg_ hat_
          refine hK.out _ _ hb_ (fun hHeld => ?_)
          clear hK K
          refine nrm 49 ?_
          refine la 13 (some 50) fun K hK => ?_
          obtain ⟨A_, c_, e_⟩ := Kd.R_slice hr_
          have hc_ := hr_
          rw [e_] at hc_
          refine Kd.R_append_rows_step (Kd.int .i64) (w0 := w5) base (by rfl) (.tmp 42) (.tmp 49) 83 3 (.int .i64 0) 8 rfl Tryz.underlying83 info3 rfl (by decide) (by decide) _ _ _ A_ 1 c_ (fun _ => True) (fun _ => False) rfl (by first | exact e_ | rfl) (U2.out.2.1.below hHeld).loose (Kd.R_reads' hc_).2.2 (fun p cs hk => hk) (fun _ hk => hk.elim) (fun _ _ => trivial) ?hbb ?hbz ?hl ?_
          case hbb => exact ⟨hHeld.os, hHeld.tape, hHeld.output, hHeld.size, fun i hi => hHeld.block i (by have := UB.out.size; omega)⟩
          case hbz => have := hHeld.size; have := UB.out.size; omega
          case hl => rw [cnt_length]; omega
          intro v4 x4 hr4 hb4 hg4 hat4
          refine hK.out _ _ ?_
          clear hK K
          refine nrm 50 ?_
          obtain ⟨gl, cl, e4, gl0, gl1, _⟩ := Kd.R_form hr4 (by simp)
          rw [show (cnt m ++ [(m : Int)]).length = m + 1 by rw [List.length_append, cnt_length]; rfl] at e4
          subst e4
          have hN := Same.grown (t := 134) (U2.out.2.1.below hHeld) hg4 (by decide)
          have hP8 := (hN gp _ _ (blk_below U1.out.1 hHeld)).trans (blk_below U1.out.1 hHeld)
          have hP8 : IsPar x4 gp ⟨s, .slice AC m cC, .slice AT m cT, vL, mb⟩ j2 pl := hP8
          have y1 := hP8.c5
          have y2 := blk_frozen hP8 5
          refine pu 14 (some 51) ?_
          refine pu 15 (some 52) ?_
          refine pu 16 (some 53) ?_
          refine la 17 none fun K hK => ?_
          refine skip_ (w1 := ?_) (by rfl) rfl ?_ ?_
          rotate_left
          ·go_simp
           rfl
          refine hK.out _ _ ?_
          clear hK K
          refine done_ (by kernel_rfl) ?_
          have hBx := U2.out.2.1.below hHeld
          have t9 := ((Same.below hHeld).trans (Same.grown (t := 9) hBx hg4 (by decide))).trans (Same.set hP8 (by decide) 5 (.slice (some ⟨gl, 0, none⟩) (m + 1) cl))
          have t142 := ((Same.below hHeld).trans (Same.grown (t := 142) hBx hg4 (by decide))).trans (Same.set hP8 (by decide) 5 (.slice (some ⟨gl, 0, none⟩) (m + 1) cl))
          have t140 := ((Same.below hHeld).trans (Same.grown (t := 140) hBx hg4 (by decide))).trans (Same.set hP8 (by decide) 5 (.slice (some ⟨gl, 0, none⟩) (m + 1) cl))
          have t3 := Same.set (t := 3) hP8 (by decide) 5 (.slice (some ⟨gl, 0, none⟩) (m + 1) cl)
          have p1 : IsPar (x4.setCell ⟨gp, 5, none⟩ (.slice (some ⟨gl, 0, none⟩) (m + 1) cl)) gp ⟨s, .slice AC m cC, .slice (some ⟨gl, 0, none⟩) (m + 1) cl, vL, mb⟩ j2 pl := blk_set hP8 5 (.slice (some ⟨gl, 0, none⟩) (m + 1) cl)
          have p2 : (x4.setCell ⟨gp, 5, none⟩ (.slice (some ⟨gl, 0, none⟩) (m + 1) cl)).heap[mb]? = _ := (Below.heap_setCell _ _ _ _ (by exact UN.out.1)).trans (grown_map hBx hg4 (blk_below U1.out.2 hHeld))
          have T1 := Aside0.mk (And.intro p1 p2)
          have T2 := Aside0.mk (And.intro (U2.out.1.same t9) (And.intro ((Own1.flat (flatInt .i64) hr4).same t3) (And.intro (U2.out.2.2.1.same t142) (RsOk.same t140 U2.out.2.2.2))))
          have TM := Aside0.mk (((UM.out.trans (SameMaps.below hHeld)).trans (SameMaps.grown hBx hg4)).trans (SameMaps.set hP8 5 (.slice (some ⟨gl, 0, none⟩) (m + 1) cl)))
          have TB := Aside0.mk ((UB.out.trans hb4).setCell (p := ⟨gp, 5, none⟩) UN.out.2.1 (.slice (some ⟨gl, 0, none⟩) (m + 1) cl))
          clear hBx t9 t142 t140 t3 p1 p2 y1 y2 hP8 hN hr4 hb4 hg4 hat4 hr_ hb_ hg_ hat_ hHeld e_ hc_ U1 U2 UB UM
          generalize x4.setCell ⟨gp, 5, none⟩ (.slice (some ⟨gl, 0, none⟩) (m + 1) cl) = w7 at T1 T2 TB TM ⊢
          have y1 := T1.out.1.c2
          have hbw7 : base ≤ w7.heap.size := by have := TB.out.size; omega
          have hns : ns.length = m := UN.out.2.2.2
          go_wp2_with (at_builtin; go_loud (refine Kd.R_append Kd.string (w0 := w7) base rfl (.tmp 59) (.tmp 61) 81 9 (.string ⟨#[]⟩) 16 rfl Tryz.underlying81 info9 rfl (by decide) (by decide) (.slice AC m cC) ns name [.string name] (fun _ => True) (fun _ => False) rfl rfl rfl (fun _ hk => hk.elim) (fun _ _ => trivial) T2.out.1.loose (Below.refl _ _) hbw7 ?hl2 ?_; (case hl2 => rw [hns]; omega); intro v4 x4 hr4 hb4 hg4 hat4; obtain ⟨gn, cn, e4, gn0, gn1, _⟩ := Kd.R_form hr4 (by simp); rw [show (ns ++ [name]).length = m + 1 by rw [List.length_append, hns]; rfl] at e4; subst e4; have hN := Same.grown (t := 134) T2.out.1 hg4 (by decide); have hP8 : IsPar x4 gp ⟨s, .slice AC m cC, .slice (some ⟨gl, 0, none⟩) (m + 1) cl, vL, mb⟩ j2 pl := (hN gp _ _ T1.out.1).trans T1.out.1; clear y1; have y1 := hP8.c2; have y2 := blk_frozen hP8 2))
          have hBx := T2.out.1
          have t3 := (Same.grown (t := 3) hBx hg4 (by decide)).trans (Same.set hP8 (by decide) 2 (.slice (some ⟨gn, 0, none⟩) (m + 1) cn))
          have t142 := (Same.grown (t := 142) hBx hg4 (by decide)).trans (Same.set hP8 (by decide) 2 (.slice (some ⟨gn, 0, none⟩) (m + 1) cn))
          have t140 := (Same.grown (t := 140) hBx hg4 (by decide)).trans (Same.set hP8 (by decide) 2 (.slice (some ⟨gn, 0, none⟩) (m + 1) cn))
          have t9 := Same.set (t := 9) hP8 (by decide) 2 (.slice (some ⟨gn, 0, none⟩) (m + 1) cn)
          have p1 : IsPar (x4.setCell ⟨gp, 2, none⟩ (.slice (some ⟨gn, 0, none⟩) (m + 1) cn)) gp ⟨s, .slice (some ⟨gn, 0, none⟩) (m + 1) cn, .slice (some ⟨gl, 0, none⟩) (m + 1) cl, vL, mb⟩ j2 pl := blk_set hP8 2 (.slice (some ⟨gn, 0, none⟩) (m + 1) cn)
          have p2 : (x4.setCell ⟨gp, 2, none⟩ (.slice (some ⟨gn, 0, none⟩) (m + 1) cn)).heap[mb]? = _ := (Below.heap_setCell _ _ _ _ (by exact UN.out.1)).trans (grown_map hBx hg4 T1.out.2)
          have hcm : cnt m ++ [(m : Int)] = cnt (m + 1) := by simp [cnt, List.range_succ]
          have c3 := T2.out.2.1.same t3
          rw [hcm] at c3
          have FF : Full (x4.setCell ⟨gp, 2, none⟩ (.slice (some ⟨gn, 0, none⟩) (m + 1) cn)) gp base ⟨s, .slice (some ⟨gn, 0, none⟩) (m + 1) cn, .slice (some ⟨gl, 0, none⟩) (m + 1) cl, vL, mb⟩ j2 pl (m + 1) rs (ex.push { key := .string name, val := .int .u32 (IntKind.u32.wrap (2 ^ m)), born := cx }) (cx + 1) :=
           ⟨p1, p2, UN.out.1, UN.out.2.1, UN.out.2.2.1, ⟨ns ++ [name], by rw [List.length_append, hns]; rfl, (Own1.flat flatStr hr4).same t9⟩, c3, cs, T2.out.2.2.1.same t142, RsOk.same t140 T2.out.2.2.2⟩
          have FB := Aside0.mk (And.intro ((TB.out.trans hb4).setCell (p := ⟨gp, 2, none⟩) UN.out.2.1 (.slice (some ⟨gn, 0, none⟩) (m + 1) cn)) ((TM.out.trans (SameMaps.grown hBx hg4)).trans (SameMaps.set hP8 2 (.slice (some ⟨gn, 0, none⟩) (m + 1) cn))))
          have FF := Aside0.mk FF
          have HX2 : Aside0 (0 ≤ j2 ∧ j2 ≤ (s.size : Int)) := ⟨by omega⟩
          clear hBx t9 t142 t140 t3 p1 p2 y1 y2 hP8 hN hr4 hb4 hg4 hat4 T1 T2 TB TM c3 hcm
          go_wp2
          go_roundg k1
          case measure => omega
          case rel => exact ⟨j2, m + 1, _, cx + 1, _, _, HX2, HR2, FF, FB⟩
         ·rw [if_neg h3] at hr; cases hr
     ·rw [if_neg h2] at hr; cases hr
end Go.Proofs.YtkeccgkicffieaaGreatDoor.PTopWider
