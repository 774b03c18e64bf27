/- The walk of the rules' parser: all. Conditions: the parser lies in memory as Full tells, what stands next is right. -/
import Derived.Test.YtkeccgkicffieaaGreatDoorTopRE
namespace Go.Proofs.YtkeccgkicffieaaGreatDoor.PTopWider
open Go.RowKit Go.Proofs.YtkeccgkicffieaaGreatDoorW.PrintWords Go.Proofs.YtkeccgkicffieaaGreatDoorW.PrintLast Go.Proofs.YtkeccgkicffieaaGreatDoorW.PrintMore
set_option linter.unusedVariables false
set_option linter.unusedSimpArgs false
theorem hereF_in (s : ByteArray) : ∀ (n : Nat) (k j c : Int), hereF s n k = some (j, c) → c ≠ 0 → j < (s.size : Int)
 | 0, k, j, c, h, _ => by simp [hereF] at h
 | n + 1, k, j, c, h, hc => by
  unfold hereF at h
  split at h
  ·split at h
   ·cases h
   ·split at h
    ·exact hereF_in s n _ _ _ h hc
    ·split at h
     ·injection h with h; injection h with ha hb; omega
     ·split at h
      ·injection h with h; injection h with ha hb; omega
      ·cases h
  ·injection h with h; injection h with ha hb; omega
/-- A thing at j, that begins with c: its classes, the place behind. -/
def thingF (s : ByteArray) (N : Nat) (j c : Int) (es : Array MapEntry) (n : Nat) : Option (Int × Int) :=
 if c = 46 then (if n = 1 then some (1, j + 1) else if n = 3 then some (7, j + 1) else none)
 else if letterB c = true ∧ (n = 1 ∨ n = 3) then
  match wordF s N j with
  | none => none
  | some j2 => if j ≤ j2 ∧ j2 ≤ (s.size : Int) then
    match Instr.findNow .string (.string (s.extract j.toNat j2.toNat)) es.toList 0 with
    | some (some (_, .int .u32 v)) => some (v, j2)
    | _ => none
   else none
 else none
theorem things_of (gp : Nat) (P : Ps) (es : Array MapEntry) (clock : Nat) (N : Nat) (j c pl v j2 : Int) (A : Option Addr) (n q : Nat) (hs : P.s.size ≤ 1000000) (hj : j ≤ 1000000 ∧ 0 ≤ j) (hpl : 0 ≤ pl ∧ pl < 200) (hC : P.vC = .slice A n q) (hg : P.mb ≠ gp) (hF : hereF P.s 1 j = some (j, c)) (hT : thingF P.s N j c es n = some (v, j2)) :
  Things gp P es clock j pl v j2 := by
 intro w hP hM
 unfold thingF at hT
 split at hT
 ·rename_i hc
  subst hc
  split at hT
  ·rename_i hn
   subst hn
   injection hT with hT
   injection hT with h1 h2
   subst h1 h2
   exact thing_dot1 gp P 1 j pl j A q w hj.2 hs hj hpl hC hP hF
  ·split at hT
   ·rename_i hn
    subst hn
    injection hT with hT
    injection hT with h1 h2
    subst h1 h2
    exact thing_dot3 gp P 1 j pl j A q w hj.2 hs hj hpl hC hP hF
   ·cases hT
 ·split at hT
  ·rename_i hl
   split at hT
   ·cases hT
   ·rename_i j2' hW
    split at hT
    ·rename_i hj2
     split at hT
     ·rename_i i v' hf
      injection hT with hT
      injection hT with h1 h2
      subst h1 h2
      rcases hl.2 with hn | hn
      ·subst hn
       exact thing_name1 gp P 1 N j pl j c j2' v' i clock _ es A q w hj.2 hs hj hpl hC hP hF hj2 hl.1 hW rfl hM hg hf
      ·subst hn
       exact thing_name3 gp P 1 N j pl j c j2' v' i clock _ es A q w hj.2 hs hj hpl hC hP hF hj2 hl.1 hW rfl hM hg hf
     ·cases hT
    ·cases hT
  ·cases hT
/-- A row of one thing: its classes, the place of what comes next, and that. -/
def rowF (s : ByteArray) (N : Nat) (k : Int) (es : Array MapEntry) (n : Nat) : Option (Int × Int × Int) :=
 match hereF s N k with
 | none => none
 | some (j, c) =>
  if letterB c = true ∨ c = 46 then
   match thingF s N j c es n with
   | none => none
   | some (v, j2) =>
    match hereF s N j2 with
    | none => none
    | some (j3, d) => if 0 ≤ j2 ∧ (d ≠ 42 ∧ d ≠ 43 ∧ d ≠ 63) ∧ (letterB d = false ∧ (d == 40) = false ∧ (d == 91) = false ∧ (d == 46) = false) then some (v, j3, d) else none
  else none
theorem rows_of (gp : Nat) (P : Ps) (es : Array MapEntry) (clock : Nat) (N : Nat) (k pl v j3 d : Int) (A : Option Addr) (n q : Nat) (hs : P.s.size ≤ 4096) (hk : 0 ≤ k ∧ k ≤ (P.s.size : Int)) (hpl : 0 ≤ pl ∧ pl < 200) (hC : P.vC = .slice A n q) (hg : P.mb ≠ gp) (hR : rowF P.s N k es n = some (v, j3, d)) :
  Rows1 gp P es clock k pl v j3 ∧ hereF P.s 1 j3 = some (j3, d) ∧ 0 ≤ j3 := by
 unfold rowF at hR
 split at hR
 ·cases hR
 ·rename_i j c hF
  split at hR
  ·rename_i hc
   split at hR
   ·cases hR
   ·rename_i v' j2 hT
    split at hR
    ·cases hR
    ·rename_i j3' d' hF2
     split at hR
     ·rename_i hd
      injection hR with hR
      injection hR with h1 hR
      injection hR with h2 h3
      subst h1 h2 h3
      have hge := hereF_ge _ _ _ _ _ hF
      have hge2 := hereF_ge _ _ _ _ _ hF2
      refine ⟨fun w hP hM => ?_, hereF_again _ _ _ _ _ hF2, by omega⟩
      exact row_calls gp P es clock N N k j c pl v' j2 j3' d' w (by omega) hk.1 hd.1 hP hM hg hF hc (things_of gp P es clock N j c pl v' j2 A n q (by omega) (by omega) hpl hC hg (hereF_again _ _ _ _ _ hF) hT) hF2 hd.2.1 hd.2.2
     ·cases hR
  ·cases hR
/-- One row, or two: what it is, how many places it has, the place of what comes next. -/
def eitherF (s : ByteArray) (N : Nat) (k : Int) (es : Array MapEntry) (n : Nat) : Option (EX × Int × Int) :=
 match rowF s N k es n with
 | none => none
 | some (v, j3, d) =>
  if d = 124 then
   match rowF s N (j3 + 1) es n with
   | none => none
   | some (v2, j4, d2) => if d2 ≠ 124 then some (.two v v2, 2, j4) else none
  else some (.one v, 1, j3)
theorem either_of (gp : Nat) (P : Ps) (es : Array MapEntry) (clock : Nat) (N : Nat) (k pl m j : Int) (X : EX) (A : Option Addr) (n q : Nat) (hs : P.s.size ≤ 4096) (hk : 0 ≤ k ∧ k ≤ (P.s.size : Int)) (hpl : 0 ≤ pl ∧ pl + 2 < 200) (hC : P.vC = .slice A n q) (hg : P.mb ≠ gp) (hE : eitherF P.s N k es n = some (X, m, j)) :
  EitC gp P es clock k pl X (pl + m) j ∧ 0 ≤ j := by
 unfold eitherF at hE
 split at hE
 ·cases hE
 ·rename_i v j3 d hR
  obtain ⟨r1, r2, r3⟩ := rows_of gp P es clock N k pl v j3 d A n q hs hk (by omega) hC hg hR
  split at hE
  ·rename_i hd
   split at hE
   ·cases hE
   ·rename_i v2 j4 d2 hR2
    split at hE
    ·rename_i hd2
     injection hE with hE
     injection hE with h1 hE
     injection hE with h2 h3
     subst h1 h2 h3
     rw [hd] at r2
     have hlt := hereF_in _ _ _ _ _ r2 (by decide)
     obtain ⟨q1, q2, q3⟩ := rows_of gp P es clock N (j3 + 1) (pl + 1) v2 j4 d2 A n q hs (by omega) (by omega) hC hg hR2
     refine ⟨fun w hP hM => ?_, q3⟩
     refine (either_two gp P es clock 1 1 k pl v v2 j3 j4 d2 w (by omega) (by omega) q3 hP hM hg r1 r2 q1 q2 hd2).mono ?_
     rintro e w' ⟨gl, cl, rfl, hL, hQ, hB⟩
     exact ⟨_, rfl, ⟨gl, cl, rfl, hL⟩, by rw [show pl + 2 = pl + 1 + 1 by omega]; exact hQ, hB⟩
    ·cases hE
  ·rename_i hd
   injection hE with hE
   injection hE with h1 hE
   injection hE with h2 h3
   subst h1 h2 h3
   refine ⟨fun w hP hM => ?_, r3⟩
   refine (either_one gp P es clock 1 k pl v j3 d w (by omega) r3 hP hM hg r1 r2 hd).mono ?_
   rintro e w' ⟨rfl, hQ, hB⟩
   exact ⟨_, rfl, rfl, hQ, hB⟩
def linesEs : Array MapEntry := #[⟨.string (ByteArray.mk #[99, 108, 97, 115, 115]), .func (.func 55) #[] #[], 0⟩, ⟨.string (ByteArray.mk #[115, 101, 116]), .func (.func 56) #[] #[], 1⟩, ⟨.string (ByteArray.mk #[106, 111, 105, 110]), .func (.func 57) #[] #[], 2⟩, ⟨.string (ByteArray.mk #[116, 114, 101, 97, 116]), .func (.func 58) #[] #[], 3⟩]
def doesEs : Array MapEntry := #[⟨.string (ByteArray.mk #[107, 101, 101, 112]), .int .u8 0, 0⟩, ⟨.string (ByteArray.mk #[109, 97, 121]), .int .u8 1, 1⟩, ⟨.string (ByteArray.mk #[109, 117, 115, 116]), .int .u8 2, 2⟩]
/-- The numbers' words. -/
def doesF (s : ByteArray) : Option Int :=
 if (s == ByteArray.mk #[107, 101, 101, 112]) = true then some 0 else if (s == ByteArray.mk #[109, 97, 121]) = true then some 1 else if (s == ByteArray.mk #[109, 117, 115, 116]) = true then some 2 else none
def isClass (s : ByteArray) : Bool := s == ByteArray.mk #[99, 108, 97, 115, 115]
def isLine (s : ByteArray) : Bool := (s == ByteArray.mk #[115, 101, 116]) || (s == ByteArray.mk #[106, 111, 105, 110]) || (s == ByteArray.mk #[116, 114, 101, 97, 116])
theorem lines_class (s : ByteArray) (h : isClass s = true) : Instr.findNow .string (.string s) linesEs.toList 0 = some (some (0, .func (.func 55) #[] #[])) := by
 unfold isClass at h
 simp [linesEs, Instr.findNow, Instr.sameNow, h]
theorem lines_none (s : ByteArray) (h : isClass s = false) (h2 : isLine s = false) : Instr.findNow .string (.string s) linesEs.toList 0 = some none := by
 unfold isClass at h
 unfold isLine at h2
 simp only [Bool.or_eq_false_iff] at h2
 simp [linesEs, Instr.findNow, Instr.sameNow, h, h2.1.1, h2.1.2, h2.2]
theorem does_some (s : ByteArray) (d : Int) (h : doesF s = some d) : ∃ i, Instr.findNow .string (.string s) doesEs.toList 0 = some (some (i, .int .u8 d)) := by
 unfold doesF at h
 split at h
 ·rename_i h1
  injection h with h
  subst h
  exact ⟨0, by simp [doesEs, Instr.findNow, Instr.sameNow, h1]⟩
 ·rename_i h1
  have h1 := Bool.eq_false_iff.2 h1
  split at h
  ·rename_i h2
   injection h with h
   subst h
   exact ⟨1, by simp [doesEs, Instr.findNow, Instr.sameNow, h1, h2]⟩
  ·rename_i h2
   have h2 := Bool.eq_false_iff.2 h2
   split at h
   ·rename_i h3
    injection h with h
    subst h
    exact ⟨2, by simp [doesEs, Instr.findNow, Instr.sameNow, h1, h2, h3]⟩
   ·cases h
/-- What all comes to: how many classes, the rules. -/
def allF (s : ByteArray) (N : Nat) : Nat → Int → Int → Nat → Array MapEntry → Nat → List RX → Option (Nat × List RX)
 | 0, _, _, _, _, _, _ => none
 | f + 1, k, pl, n, es, clock, rs =>
  match hereF s N k with
  | none => none
  | some (j, c) =>
   if c = 0 then some (n, rs) else
   match wordF s N j with
   | none => none
   | some j1 =>
    if letterB c = true ∧ j ≤ j1 ∧ j1 ≤ (s.size : Int) ∧ 0 ≤ pl ∧ pl + 4 < 200 ∧ rs.length < 24 then
     if isClass (s.extract j.toNat j1.toNat) = true then
      match classF s N N j1 n es clock with
      | none => none
      | some (k2, n2, es2, c2) => if 0 ≤ k2 ∧ k2 ≤ (s.size : Int) then allF s N f k2 pl n2 es2 c2 rs else none
     else if isLine (s.extract j.toNat j1.toNat) = true then none else
      match doesF (s.extract j.toNat j1.toNat) with
      | none => none
      | some d =>
       match eitherF s N j1 es n with
       | none => none
       | some (X, m1, a) =>
        match hereF s N a with
        | none => none
        | some (a2, e) =>
         if e = 47 ∧ 0 ≤ m1 ∧ m1 ≤ 2 then
          match eitherF s N (a2 + 1) es n with
          | none => none
          | some (Y, m2, b) =>
           match hereF s N b with
           | none => none
           | some (b2, g) => if g = 59 ∧ 0 ≤ m2 ∧ m2 ≤ 2 then allF s N f (b2 + 1) (pl + m1 + m2) n es clock (rs ++ [⟨d, X, Y⟩]) else none
         else none
    else none
theorem insert_new {P : Program} (w : World) (mty kt et : TypeId) (clock : Nat) (es : Array MapEntry) (s : ByteArray) (val : Value) (hm : P.underlying mty = some (.map kt et)) (hk : P.underlying kt = some .string)
  (hf : Instr.findNow .string (.string s) es.toList 0 = some none) :
  (Instr.mapUpdate mty (.map (some w.heap.size)) (.string s) val).run P (w.alloc (.map es clock)) = .ok () (w.alloc (.map (es.push { key := .string s, val := val, born := clock }) (clock + 1))) := by
 rw [mapUpdate_new mty kt et w.heap.size clock es s val hm hk (blk_new _ _) hf]
 have h : ∀ o o' : Obj, (w.heap.push o).setIfInBounds w.heap.size o' = w.heap.push o' := fun o o' => by
  apply Array.ext_getElem?
  intro i
  rw [Array.getElem?_setIfInBounds, Array.getElem?_push, Array.getElem?_push]
  by_cases hi : w.heap.size = i
  ·subst hi; simp
  ·rw [if_neg hi, if_neg (fun q => hi q.symm), if_neg (fun q => hi q.symm)]
 unfold putMap World.alloc
 rw [h]
def AllE (gp base : Nat) (w : World) (n : Nat) (rs : List RX) (s : ByteArray) (mb : Nat) (e : Ending) (w' : World) : Prop :=
 e = .returned (.tuple #[]) ∧ ∃ vC vT vL k pl es clock, Full w' gp base ⟨s, vC, vT, vL, mb⟩ k pl n rs es clock ∧ Below base w w'
theorem Full.below {w w1 : World} {gp base : Nat} {P : Ps} {k pl : Int} {n : Nat} {rs : List RX} {es : Array MapEntry} {clock : Nat} (h : Full w gp base P k pl n rs es clock) (hb : Below w.heap.size w w1) : Full w1 gp base P k pl n rs es clock := h.keep (kb_of_below hb gp) (h.1.on hb)
set_option maxHeartbeats 40000000 in
set_option maxRecDepth 100000 in
theorem all_calls (gp base : Nat) (P : Ps) (N f : Nat) (k pl : Int) (n n2 : Nat) (rs rs2 : List RX) (es : Array MapEntry) (clock : Nat) (w : World) (hk : 0 ≤ k) (hs : P.s.size ≤ 4096) (hF : Full w gp base P k pl n rs es clock) (hks : k ≤ (P.s.size : Int)) (hC : allF P.s N f k pl n es clock rs = some (n2, rs2)) (hbw : base ≤ w.heap.size) :
  Calls Tryz.prog 35 #[.pointer (some ⟨gp, 0, none⟩)] w fun e w' => AllE gp base w n2 rs2 P.s P.mb e w' := by
 obtain ⟨s, vC, vT, vL, mb⟩ := P
 simp only at hs hks hC
 have m0 := run_makeMap_plain (P := Tryz.prog) 178 (w := w)
 have i0 : (Instr.mapUpdate 178 (.map (some w.heap.size)) (.string (ByteArray.mk #[99, 108, 97, 115, 115])) (.func (.func 55) #[] #[])).run Tryz.prog (w.alloc (.map #[] 0)) = .ok () (w.alloc (.map #[⟨.string (ByteArray.mk #[99, 108, 97, 115, 115]), .func (.func 55) #[] #[], 0⟩] 1)) := insert_new w 178 9 177 0 _ _ _ Tryz.underlying178 Tryz.underlying9 (by kernel_rfl)
 have i1 : (Instr.mapUpdate 178 (.map (some w.heap.size)) (.string (ByteArray.mk #[115, 101, 116])) (.func (.func 56) #[] #[])).run Tryz.prog (w.alloc (.map #[⟨.string (ByteArray.mk #[99, 108, 97, 115, 115]), .func (.func 55) #[] #[], 0⟩] 1)) = .ok () (w.alloc (.map #[⟨.string (ByteArray.mk #[99, 108, 97, 115, 115]), .func (.func 55) #[] #[], 0⟩, ⟨.string (ByteArray.mk #[115, 101, 116]), .func (.func 56) #[] #[], 1⟩] 2)) := insert_new w 178 9 177 1 _ _ _ Tryz.underlying178 Tryz.underlying9 (by kernel_rfl)
 have i2 : (Instr.mapUpdate 178 (.map (some w.heap.size)) (.string (ByteArray.mk #[106, 111, 105, 110])) (.func (.func 57) #[] #[])).run Tryz.prog (w.alloc (.map #[⟨.string (ByteArray.mk #[99, 108, 97, 115, 115]), .func (.func 55) #[] #[], 0⟩, ⟨.string (ByteArray.mk #[115, 101, 116]), .func (.func 56) #[] #[], 1⟩] 2)) = .ok () (w.alloc (.map #[⟨.string (ByteArray.mk #[99, 108, 97, 115, 115]), .func (.func 55) #[] #[], 0⟩, ⟨.string (ByteArray.mk #[115, 101, 116]), .func (.func 56) #[] #[], 1⟩, ⟨.string (ByteArray.mk #[106, 111, 105, 110]), .func (.func 57) #[] #[], 2⟩] 3)) := insert_new w 178 9 177 2 _ _ _ Tryz.underlying178 Tryz.underlying9 (by kernel_rfl)
 have i3 : (Instr.mapUpdate 178 (.map (some w.heap.size)) (.string (ByteArray.mk #[116, 114, 101, 97, 116])) (.func (.func 58) #[] #[])).run Tryz.prog (w.alloc (.map #[⟨.string (ByteArray.mk #[99, 108, 97, 115, 115]), .func (.func 55) #[] #[], 0⟩, ⟨.string (ByteArray.mk #[115, 101, 116]), .func (.func 56) #[] #[], 1⟩, ⟨.string (ByteArray.mk #[106, 111, 105, 110]), .func (.func 57) #[] #[], 2⟩] 3)) = .ok () (w.alloc (.map #[⟨.string (ByteArray.mk #[99, 108, 97, 115, 115]), .func (.func 55) #[] #[], 0⟩, ⟨.string (ByteArray.mk #[115, 101, 116]), .func (.func 56) #[] #[], 1⟩, ⟨.string (ByteArray.mk #[106, 111, 105, 110]), .func (.func 57) #[] #[], 2⟩, ⟨.string (ByteArray.mk #[116, 114, 101, 97, 116]), .func (.func 58) #[] #[], 3⟩] 4)) := insert_new w 178 9 177 3 _ _ _ Tryz.underlying178 Tryz.underlying9 (by kernel_rfl)
 have HF := Aside0.mk hF
 have HC := Aside0.mk hC
 clear hF hC
 go_enter Tryz.func35, Tryz.ntmps35
 go_upto_region 1 with fail
 clear m0 i0 i1 i2 i3
 have K1 : (w.alloc (.map linesEs 4)).heap[w.heap.size]? = some (.map linesEs 4) := blk_new _ _
 have hba := below_alloc (Below.refl w.heap.size w) (.map linesEs 4)
 have F1 := Aside0.mk (HF.out.below hba)
 have B1 := Aside0.mk hba
 have hz1 : Aside0 ((w.alloc (.map linesEs 4)).heap.size = w.heap.size + 1) := ⟨by simp⟩
 change Code.wp _ _ _ _ (w.alloc (.map linesEs 4))
 generalize w.alloc (.map linesEs 4) = w1 at K1 F1 B1 hz1 ⊢
 have m1 := run_makeMap_plain (P := Tryz.prog) 179 (w := w1)
 have i0 : (Instr.mapUpdate 179 (.map (some w1.heap.size)) (.string (ByteArray.mk #[107, 101, 101, 112])) (.int .u8 0)).run Tryz.prog (w1.alloc (.map #[] 0)) = .ok () (w1.alloc (.map #[⟨.string (ByteArray.mk #[107, 101, 101, 112]), .int .u8 0, 0⟩] 1)) := insert_new w1 179 9 48 0 _ _ _ Tryz.underlying179 Tryz.underlying9 (by kernel_rfl)
 have i1 : (Instr.mapUpdate 179 (.map (some w1.heap.size)) (.string (ByteArray.mk #[109, 97, 121])) (.int .u8 1)).run Tryz.prog (w1.alloc (.map #[⟨.string (ByteArray.mk #[107, 101, 101, 112]), .int .u8 0, 0⟩] 1)) = .ok () (w1.alloc (.map #[⟨.string (ByteArray.mk #[107, 101, 101, 112]), .int .u8 0, 0⟩, ⟨.string (ByteArray.mk #[109, 97, 121]), .int .u8 1, 1⟩] 2)) := insert_new w1 179 9 48 1 _ _ _ Tryz.underlying179 Tryz.underlying9 (by kernel_rfl)
 have i2 : (Instr.mapUpdate 179 (.map (some w1.heap.size)) (.string (ByteArray.mk #[109, 117, 115, 116])) (.int .u8 2)).run Tryz.prog (w1.alloc (.map #[⟨.string (ByteArray.mk #[107, 101, 101, 112]), .int .u8 0, 0⟩, ⟨.string (ByteArray.mk #[109, 97, 121]), .int .u8 1, 1⟩] 2)) = .ok () (w1.alloc (.map #[⟨.string (ByteArray.mk #[107, 101, 101, 112]), .int .u8 0, 0⟩, ⟨.string (ByteArray.mk #[109, 97, 121]), .int .u8 1, 1⟩, ⟨.string (ByteArray.mk #[109, 117, 115, 116]), .int .u8 2, 2⟩] 3)) := insert_new w1 179 9 48 2 _ _ _ Tryz.underlying179 Tryz.underlying9 (by kernel_rfl)
 clear hba
 go_wp2
 clear m1 i0 i1 i2
 change Code.wp _ _ _ _ (w1.alloc (.map doesEs 3))
 have K2 : (w1.alloc (.map doesEs 3)).heap[w1.heap.size]? = some (.map doesEs 3) := blk_new _ _
 have hbb := below_alloc (Below.refl w1.heap.size w1) (.map doesEs 3)
 have F2 := Aside0.mk (F1.out.below hbb)
 have B2 := Aside0.mk (below_step B1.out hbb)
 have K12 := Aside0.mk (And.intro (blk_below K1 hbb) K2)
 have hmb : mb < w.heap.size := blk_lt HF.out.2.1
 generalize hz2 : w1.heap.size = b2 at K12 ⊢
 rw [hz1.out] at hz2
 have HZ2 := Aside0.mk hz2
 clear hz2
 generalize w1.alloc (.map doesEs 3) = w2 at K12 F2 B2 ⊢
 clear K1 F1 B1 hbb K2 hz1 HF
 go_loopg [] f (fun kq w' => ∃ (x p : Int) (m : Nat) (ex : Array MapEntry) (cx : Nat) (uC uT uL : Value) (rx : List RX), Aside0 (0 ≤ x ∧ x ≤ (s.size : Int)) ∧ Aside0 (allF s N kq x p m ex cx rx = some (n2, rs2)) ∧ Aside0 (Full w' gp base ⟨s, uC, uT, uL, mb⟩ x p m rx ex cx) ∧ Aside0 (Below base w w') ∧ Aside0 (w'.heap[w.heap.size]? = some (.map linesEs 4) ∧ w'.heap[b2]? = some (.map doesEs 3)))
 case atStart => exact ⟨k, pl, n, es, clock, vC, vT, vL, rs, ⟨by omega⟩, HC, F2, ⟨⟨B2.out.os, B2.out.tape, B2.out.output, B2.out.size, fun i hi => B2.out.block i (by omega)⟩⟩, K12⟩
 case round =>
  clear HC F2 B2 K12
  obtain ⟨x, p, m, ex, cx, uC, uT, uL, rx, HX, HR, HQ, HB, HK⟩ := hrel
  have hx := HX.out
  have hbr : base ≤ wr.heap.size := by have := HB.out.size; omega
  cases gk with
  | zero => exact absurd HR.out (by simp [allF])
  | succ k1 =>
   have hr := HR.out
   unfold allF at hr
   cases hh : hereF s N x with
   | none => rw [hh] at hr; cases hr
   | some jc =>
    obtain ⟨j, c⟩ := jc
    rw [hh] at hr
    simp only at hr
    have hge := hereF_ge _ _ _ _ _ hh
    have HH := Aside0.mk (And.intro hh (hereF_again _ _ _ _ _ hh))
    clear hh
    by_cases h1 : c = 0
    ·rw [if_pos h1] at hr
     subst h1
     injection hr with hr
     injection hr with r1 r2
     subst r1 r2
     go_wp2_with fail
     refine (here_calls gp ⟨s, uC, uT, uL, mb⟩ N x p j 0 wr hx.1 (by simp only; omega) HQ.out.1 HH.out.1).mono ?_
     rintro e w3 ⟨rfl, hQ3, hB3⟩
     have hFF := HQ.out.keep hB3 hQ3
     have hBB := HB.out.trans (kb_low hB3 HQ.out.2.2.2.1 hbr)
     go_wp2
     refine bodyPost_ret (v := .tuple #[]) (by simp [results, Tryz.results35, go_sem]) rfl ⟨rfl, uC, uT, uL, j, p, ex, cx, hFF, hBB⟩
    ·rw [if_neg h1] at hr
     have hc0 : (c != 0) = true := by simpa using h1
     cases hw : wordF s N j with
     | none => rw [hw] at hr; cases hr
     | some j1 =>
      rw [hw] at hr
      simp only at hr
      by_cases h2 : letterB c = true ∧ j ≤ j1 ∧ j1 ≤ (s.size : Int) ∧ 0 ≤ p ∧ p + 4 < 200 ∧ rx.length < 24
      ·rw [if_pos h2] at hr
       have hpw := pword_calls gp ⟨s, uC, uT, uL, mb⟩ 1 N j p j c j1
       generalize hnm : s.extract j.toNat j1.toNat = name at hr
       have HW := Aside0.mk (And.intro hw h2)
       have HR2 := Aside0.mk hr
       obtain ⟨_, hj1, hj2, hp0, hp1, hrx⟩ := h2
       clear hw hr hpw
       go_wp2_with fail
       refine (here_calls gp ⟨s, uC, uT, uL, mb⟩ N x p j c wr hx.1 (by simp only; omega) HQ.out.1 HH.out.1).mono ?_
       rintro e w3 ⟨rfl, hQ3, hB3⟩
       have F3 := Aside0.mk (HQ.out.keep hB3 hQ3)
       have B3 := Aside0.mk (HB.out.trans (kb_low hB3 HQ.out.2.2.2.1 hbr))
       have M3 := Aside0.mk (SameMaps.kb (mb := mb) hB3 HQ.out.1)
       clear hQ3 hB3
       go_wp2_with fail
       have hpw := pword_calls gp ⟨s, uC, uT, uL, mb⟩ 1 N j p j c j1 w3 (by omega) (by simp only; omega) (by omega) ⟨hj1, hj2⟩ F3.out.1 HH.out.2 HW.out.2.1 HW.out.1
       simp only [hnm] at hpw
       refine hpw.mono ?_
       rintro e w4 ⟨rfl, hQ4, hB4⟩
       have F4 := Aside0.mk (F3.out.keep hB4 hQ4)
       have hbr3 : base ≤ w3.heap.size := by have := B3.out.size; omega
       have B4 := Aside0.mk (B3.out.trans (kb_low hB4 F3.out.2.2.2.1 hbr3))
       have M4 := Aside0.mk (M3.out.trans (SameMaps.kb (mb := mb) hB4 F3.out.1))
       have hn1 : w.heap.size ≠ mb := by omega
       have hn2 : b2 ≠ mb := by have := HZ2.out; omega
       have K41 := (M4.out _ _ _ hn1 HK.out.1).trans HK.out.1
       have K42 := (M4.out _ _ _ hn2 HK.out.2).trans HK.out.2
       have hbr4 : base ≤ w4.heap.size := by have := B4.out.size; omega
       have K4 := Aside0.mk (And.intro K41 K42)
       clear hQ4 hB4 hpw F3 B3 M3 HK HB HQ HR K41 K42
       by_cases h3 : isClass name = true
       ·have hlk := lookup_str (P := Tryz.prog) (w := w4) Tryz.underlying178 Tryz.underlying9 K4.out.1 (lines_class name h3)
        have hr := HR2.out
        rw [if_pos h3] at hr
        cases hcl : classF s N N j1 m ex cx with
        | none => rw [hcl] at hr; cases hr
        | some q =>
         obtain ⟨k2, nn, es2, c2⟩ := q
         rw [hcl] at hr
         simp only at hr
         by_cases h4 : 0 ≤ k2 ∧ k2 ≤ (s.size : Int)
         ·rw [if_pos h4] at hr
          have HR3 := Aside0.mk hr
          have HCL := Aside0.mk hcl
          clear hr hcl HR2
          go_wp2_with fail
          refine (class_calls gp base ⟨s, uC, uT, uL, mb⟩ N N j1 p k2 m nn rx ex es2 cx c2 w4 (by omega) hs F4.out hj2 HCL.out hbr4).mono ?_
          rintro e w5 ⟨rfl, vC5, vT5, hF5, hB5, hM5⟩
          have F5 := Aside0.mk hF5
          have B5 := Aside0.mk (B4.out.trans hB5)
          have K5 := Aside0.mk (And.intro ((hM5 _ _ _ hn1 K4.out.1).trans K4.out.1) ((hM5 _ _ _ hn2 K4.out.2).trans K4.out.2))
          clear hF5 hB5 hM5 hlk
          go_wp2
          go_roundg k1
          case measure => omega
          case rel => exact ⟨k2, p, nn, es2, c2, vC5, vT5, uL, rx, ⟨h4⟩, HR3, F5, B5, K5⟩
         ·rw [if_neg h4] at hr; cases hr
       ·have h3 := Bool.eq_false_iff.2 h3
        have hr := HR2.out
        rw [h3, if_neg (by simp)] at hr
        by_cases h4 : isLine name = true
        ·rw [if_pos h4] at hr; cases hr
        ·have h4 := Bool.eq_false_iff.2 h4
         rw [h4, if_neg (by simp)] at hr
         cases hd : doesF name with
         | none => rw [hd] at hr; cases hr
         | some d =>
          rw [hd] at hr
          simp only at hr
          obtain ⟨i, hdi⟩ := does_some name d hd
          have hlk := lookup_str_none (P := Tryz.prog) (w := w4) (z := .nilFunc) Tryz.underlying178 Tryz.underlying9 K4.out.1 (lines_none name h3 h4) rfl
          have hlk2 := lookup_str (P := Tryz.prog) (w := w4) Tryz.underlying179 Tryz.underlying9 K4.out.2 hdi
          obtain ⟨ns, f6, f7⟩ := F4.out.2.2.2.2.2.1
          obtain ⟨AC, cC, eC⟩ := Kd.R_slice f7
          rw [f6] at eC
          cases hX : eitherF s N j1 ex m with
          | none => rw [hX] at hr; cases hr
          | some q =>
           obtain ⟨X, m1, a⟩ := q
           rw [hX] at hr
           simp only at hr
           cases hha : hereF s N a with
           | none => rw [hha] at hr; cases hr
           | some q =>
            obtain ⟨a2, e2⟩ := q
            rw [hha] at hr
            simp only at hr
            by_cases h5 : e2 = 47 ∧ 0 ≤ m1 ∧ m1 ≤ 2
            ·rw [if_pos h5] at hr
             cases hY : eitherF s N (a2 + 1) ex m with
             | none => rw [hY] at hr; cases hr
             | some q =>
              obtain ⟨Y, m2, b⟩ := q
              rw [hY] at hr
              simp only at hr
              cases hhb : hereF s N b with
              | none => rw [hhb] at hr; cases hr
              | some q =>
               obtain ⟨b3, g3⟩ := q
               rw [hhb] at hr
               simp only at hr
               by_cases h6 : g3 = 59 ∧ 0 ≤ m2 ∧ m2 ≤ 2
               ·rw [if_pos h6] at hr
                obtain ⟨h5a, h5b, h5c⟩ := h5
                obtain ⟨h6a, h6b, h6c⟩ := h6
                subst h5a h6a
                have ha2 := hereF_in _ _ _ _ _ hha (by decide)
                have hb3 := hereF_in _ _ _ _ _ hhb (by decide)
                have hga := hereF_ge _ _ _ _ _ hha
                have hgb := hereF_ge _ _ _ _ _ hhb
                have eX := either_of gp ⟨s, uC, uT, uL, mb⟩ ex cx N j1 p m1 a X AC m cC hs ⟨by omega, hj2⟩ (by omega) eC F4.out.2.2.1 hX
                have eY := either_of gp ⟨s, uC, uT, uL, mb⟩ ex cx N (a2 + 1) (p + m1) m2 b Y AC m cC hs ⟨by omega, by simp only; omega⟩ (by omega) eC F4.out.2.2.1 hY
                have hrule := rule_calls gp base ⟨s, uC, uT, uL, mb⟩ ex cx m N N j1 p d j (p + m1) (p + m1 + m2) a a2 b b3 rx X Y w4 (by simp only; omega) F4.out hrx eX.1 hha ⟨eX.2, by omega⟩ eY.1 hhb ⟨eY.2, by omega⟩
                have HR3 := Aside0.mk hr
                have HRU := Aside0.mk hrule
                have hb30 : 0 ≤ b3 := by have := eY.2; omega
                clear hr hX hY hha hhb eX eY hrule hd hdi f6 f7 eC HR2
                go_wp2_with fail
                refine HRU.out.mono ?_
                rintro e w5 ⟨rfl, vL5, hF5, hB5, hM5⟩
                have F5 := Aside0.mk hF5
                have B5 := Aside0.mk (B4.out.trans hB5)
                have K5 := Aside0.mk (And.intro ((hM5 _ _ _ hn1 K4.out.1).trans K4.out.1) ((hM5 _ _ _ hn2 K4.out.2).trans K4.out.2))
                clear hF5 hB5 hM5 hlk hlk2
                go_wp2
                go_roundg k1
                case measure => omega
                case rel => exact ⟨b3 + 1, p + m1 + m2, m, ex, cx, uC, uT, vL5, _, ⟨by omega⟩, HR3, F5, B5, K5⟩
               ·rw [if_neg h6] at hr; cases hr
            ·rw [if_neg h5] at hr; cases hr
      ·rw [if_neg h2] at hr; cases hr
end Go.Proofs.YtkeccgkicffieaaGreatDoor.PTopWider
