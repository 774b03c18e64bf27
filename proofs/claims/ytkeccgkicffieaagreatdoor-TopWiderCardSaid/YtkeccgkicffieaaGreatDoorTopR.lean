/- The walks of the rules' parser: here, sign, want, word, named. Conditions: the parser lies in memory as IsPar tells, what stands next is right. -/
import Derived.Test.YtkeccgkicffieaaGreatDoorTopT
import Derived.Shelf.Small.Strs
import Derived.Shelf.Strings.Search1
namespace Go.Proofs
open Go.Shelf
def Tryz.lays137_ren : Go.Shelf.Ren := ⟨fun | 137 => 90 | 217 => 103 | 266 => 110 | n => n, fun | 9 => 9 | 5 => 5 | 3 => 3 | n => n, fun | n => n⟩
theorem Tryz.lays137 : Lays.n137 Tryz.prog Tryz.lays137_ren := {
 mixed := by kernel_rfl
 f137 := Tryz.func90.trans (congrArg some (by kernel_rfl))
 f217 := Tryz.func103.trans (congrArg some (by kernel_rfl))
 f266 := Tryz.func110.trans (congrArg some (by kernel_rfl))
 t3 := Tryz.underlying3
 a3 := Tryz.isAgg3
 z3 := Tryz.sizeOf3
 v3 := Tryz.zeroValue3
 t5 := Tryz.underlying5
 a5 := Tryz.isAgg5
 z5 := Tryz.sizeOf5
 v5 := Tryz.zeroValue5
 t9 := Tryz.underlying9
 a9 := Tryz.isAgg9
 z9 := Tryz.sizeOf9
 v9 := Tryz.zeroValue9 }
theorem Tryz.strings_IndexByte_p (s : ByteArray) (c : Int) (w : World) :
  Calls Tryz.prog 90 #[.string s, .int .u8 c] w fun e w' => e = .returned (.int .i64 (Lib.indexByte s.data.toList c.toNat.toUInt8)) ∧ w' = w := Any.strings_IndexByte Tryz.lays137 s c w
end Go.Proofs
namespace Go.Proofs.YtkeccgkicffieaaGreatDoor.PTopWider
open Go.RowKit Go.Proofs.YtkeccgkicffieaaGreatDoorW.PrintWords Go.Proofs.YtkeccgkicffieaaGreatDoorW.PrintLast Go.Proofs.YtkeccgkicffieaaGreatDoorW.PrintMore
set_option linter.unusedVariables false
set_option linter.unusedSimpArgs false
def rules_blank.f (a0 : Int) : Option (Bool) := if a0 = 32 then (some true) else (if a0 = 9 then (some true) else (if a0 = 10 then (some true) else (some (a0 == 13))))
set_option maxHeartbeats 8000000 in
set_option maxRecDepth 100000 in
theorem rules_blank.calls (a0 : Int) (r : Bool) (w : World) (h : rules_blank.f a0 = some r) :
  Calls Tryz.prog 91 #[.int .u8 a0] w fun e w' => e = .returned (.bool r) ∧ Drawn0 w w' := by
 have H : (if a0 = 32 then (some true) else (if a0 = 9 then (some true) else (if a0 = 10 then (some true) else (some (a0 == 13))))) = some r := h
 clear h
 by_cases c2 : a0 = 32
 ·rw [if_pos c2] at H
  have c2b0 : (a0 == 32) = true := beq_iff_eq.mpr c2
  have c2b1 : (a0 != 32) = false := bne_eq_false_iff_eq.mpr c2
  clear c2
  obtain rfl := Option.some.inj H
  go_enter Tryz.func91, Tryz.ntmps91
  go_wp2
  go_ret
  exact ⟨by first | rfl | (simp; done) | (simp [*]; done), by repeat (first | exact Drawn0.refl _ | apply Drawn0.step)⟩
 ·rw [if_neg c2] at H
  have c2b0 : (a0 == 32) = false := beq_eq_false_iff_ne.mpr c2
  have c2b1 : (a0 != 32) = true := bne_iff_ne.mpr c2
  by_cases c3 : a0 = 9
  ·rw [if_pos c3] at H
   have c3b0 : (a0 == 9) = true := beq_iff_eq.mpr c3
   have c3b1 : (a0 != 9) = false := bne_eq_false_iff_eq.mpr c3
   clear c3
   obtain rfl := Option.some.inj H
   go_enter Tryz.func91, Tryz.ntmps91
   go_wp2
   go_ret
   exact ⟨by first | rfl | (simp; done) | (simp [*]; done), by repeat (first | exact Drawn0.refl _ | apply Drawn0.step)⟩
  ·rw [if_neg c3] at H
   have c3b0 : (a0 == 9) = false := beq_eq_false_iff_ne.mpr c3
   have c3b1 : (a0 != 9) = true := bne_iff_ne.mpr c3
   by_cases c4 : a0 = 10
   ·rw [if_pos c4] at H
    have c4b0 : (a0 == 10) = true := beq_iff_eq.mpr c4
    have c4b1 : (a0 != 10) = false := bne_eq_false_iff_eq.mpr c4
    clear c4
    obtain rfl := Option.some.inj H
    go_enter Tryz.func91, Tryz.ntmps91
    go_wp2
    go_ret
    exact ⟨by first | rfl | (simp; done) | (simp [*]; done), by repeat (first | exact Drawn0.refl _ | apply Drawn0.step)⟩
   ·rw [if_neg c4] at H
    have c4b0 : (a0 == 10) = false := beq_eq_false_iff_ne.mpr c4
    have c4b1 : (a0 != 10) = true := bne_iff_ne.mpr c4
    obtain rfl := Option.some.inj H
    go_enter Tryz.func91, Tryz.ntmps91
    go_wp2
    go_ret
    exact ⟨by first | rfl | (simp; done) | (simp [*]; done), by repeat (first | exact Drawn0.refl _ | apply Drawn0.step)⟩
def rules_letter.f (a0 : Int) : Option (Bool) := if a0 = 95 then (some true) else (if a0 ≥ 97 then (if a0 ≤ 122 then (some true) else (if a0 ≥ 65 then (if a0 ≤ 90 then (some true) else (if a0 ≥ 48 then (some (decide (a0 ≤ 57))) else (some false))) else (if a0 ≥ 48 then (some (decide (a0 ≤ 57))) else (some false)))) else (if a0 ≥ 65 then (if a0 ≤ 90 then (some true) else (if a0 ≥ 48 then (some (decide (a0 ≤ 57))) else (some false))) else (if a0 ≥ 48 then (some (decide (a0 ≤ 57))) else (some false))))
set_option maxHeartbeats 8000000 in
set_option maxRecDepth 100000 in
theorem rules_letter.calls (a0 : Int) (r : Bool) (w : World) (h : rules_letter.f a0 = some r) :
  Calls Tryz.prog 92 #[.int .u8 a0] w fun e w' => e = .returned (.bool r) ∧ Drawn0 w w' := by
 have H : (if a0 = 95 then (some true) else (if a0 ≥ 97 then (if a0 ≤ 122 then (some true) else (if a0 ≥ 65 then (if a0 ≤ 90 then (some true) else (if a0 ≥ 48 then (some (decide (a0 ≤ 57))) else (some false))) else (if a0 ≥ 48 then (some (decide (a0 ≤ 57))) else (some false)))) else (if a0 ≥ 65 then (if a0 ≤ 90 then (some true) else (if a0 ≥ 48 then (some (decide (a0 ≤ 57))) else (some false))) else (if a0 ≥ 48 then (some (decide (a0 ≤ 57))) else (some false))))) = some r := h
 clear h
 by_cases c2 : a0 = 95
 ·rw [if_pos c2] at H
  have c2b0 : (a0 == 95) = true := beq_iff_eq.mpr c2
  have c2b1 : (a0 != 95) = false := bne_eq_false_iff_eq.mpr c2
  clear c2
  obtain rfl := Option.some.inj H
  go_enter Tryz.func92, Tryz.ntmps92
  go_wp2
  go_ret
  exact ⟨by first | rfl | (simp; done) | (simp [*]; done), by repeat (first | exact Drawn0.refl _ | apply Drawn0.step)⟩
 ·rw [if_neg c2] at H
  have c2b0 : (a0 == 95) = false := beq_eq_false_iff_ne.mpr c2
  have c2b1 : (a0 != 95) = true := bne_iff_ne.mpr c2
  by_cases c3 : a0 ≥ 97
  ·rw [if_pos c3] at H
   have c3b0 : decide (97 ≤ a0) = true := decide_eq_true c3
   clear c3
   by_cases c4 : a0 ≤ 122
   ·rw [if_pos c4] at H
    have c4b0 : decide (a0 ≤ 122) = true := decide_eq_true c4
    clear c4
    obtain rfl := Option.some.inj H
    go_enter Tryz.func92, Tryz.ntmps92
    go_wp2
    go_ret
    exact ⟨by first | rfl | (simp; done) | (simp [*]; done), by repeat (first | exact Drawn0.refl _ | apply Drawn0.step)⟩
   ·rw [if_neg c4] at H
    have c4b0 : decide (a0 ≤ 122) = false := decide_eq_false c4
    clear c4
    by_cases c5 : a0 ≥ 65
    ·rw [if_pos c5] at H
     have c5b0 : decide (65 ≤ a0) = true := decide_eq_true c5
     clear c5
     by_cases c6 : a0 ≤ 90
     ·rw [if_pos c6] at H
      have c6b0 : decide (a0 ≤ 90) = true := decide_eq_true c6
      clear c6
      obtain rfl := Option.some.inj H
      go_enter Tryz.func92, Tryz.ntmps92
      go_wp2
      go_ret
      exact ⟨by first | rfl | (simp; done) | (simp [*]; done), by repeat (first | exact Drawn0.refl _ | apply Drawn0.step)⟩
     ·rw [if_neg c6] at H
      have c6b0 : decide (a0 ≤ 90) = false := decide_eq_false c6
      clear c6
      by_cases c7 : a0 ≥ 48
      ·rw [if_pos c7] at H
       have c7b0 : decide (48 ≤ a0) = true := decide_eq_true c7
       clear c7
       obtain rfl := Option.some.inj H
       go_enter Tryz.func92, Tryz.ntmps92
       go_wp2
       go_ret
       exact ⟨by first | rfl | (simp; done) | (simp [*]; done), by repeat (first | exact Drawn0.refl _ | apply Drawn0.step)⟩
      ·rw [if_neg c7] at H
       have c7b0 : decide (48 ≤ a0) = false := decide_eq_false c7
       clear c7
       obtain rfl := Option.some.inj H
       go_enter Tryz.func92, Tryz.ntmps92
       go_wp2
       go_ret
       exact ⟨by first | rfl | (simp; done) | (simp [*]; done), by repeat (first | exact Drawn0.refl _ | apply Drawn0.step)⟩
    ·rw [if_neg c5] at H
     have c5b0 : decide (65 ≤ a0) = false := decide_eq_false c5
     clear c5
     by_cases c8 : a0 ≥ 48
     ·rw [if_pos c8] at H
      have c8b0 : decide (48 ≤ a0) = true := decide_eq_true c8
      clear c8
      obtain rfl := Option.some.inj H
      go_enter Tryz.func92, Tryz.ntmps92
      go_wp2
      go_ret
      exact ⟨by first | rfl | (simp; done) | (simp [*]; done), by repeat (first | exact Drawn0.refl _ | apply Drawn0.step)⟩
     ·rw [if_neg c8] at H
      have c8b0 : decide (48 ≤ a0) = false := decide_eq_false c8
      clear c8
      obtain rfl := Option.some.inj H
      go_enter Tryz.func92, Tryz.ntmps92
      go_wp2
      go_ret
      exact ⟨by first | rfl | (simp; done) | (simp [*]; done), by repeat (first | exact Drawn0.refl _ | apply Drawn0.step)⟩
  ·rw [if_neg c3] at H
   have c3b0 : decide (97 ≤ a0) = false := decide_eq_false c3
   clear c3
   by_cases c9 : a0 ≥ 65
   ·rw [if_pos c9] at H
    have c9b0 : decide (65 ≤ a0) = true := decide_eq_true c9
    clear c9
    by_cases c10 : a0 ≤ 90
    ·rw [if_pos c10] at H
     have c10b0 : decide (a0 ≤ 90) = true := decide_eq_true c10
     clear c10
     obtain rfl := Option.some.inj H
     go_enter Tryz.func92, Tryz.ntmps92
     go_wp2
     go_ret
     exact ⟨by first | rfl | (simp; done) | (simp [*]; done), by repeat (first | exact Drawn0.refl _ | apply Drawn0.step)⟩
    ·rw [if_neg c10] at H
     have c10b0 : decide (a0 ≤ 90) = false := decide_eq_false c10
     clear c10
     by_cases c11 : a0 ≥ 48
     ·rw [if_pos c11] at H
      have c11b0 : decide (48 ≤ a0) = true := decide_eq_true c11
      clear c11
      obtain rfl := Option.some.inj H
      go_enter Tryz.func92, Tryz.ntmps92
      go_wp2
      go_ret
      exact ⟨by first | rfl | (simp; done) | (simp [*]; done), by repeat (first | exact Drawn0.refl _ | apply Drawn0.step)⟩
     ·rw [if_neg c11] at H
      have c11b0 : decide (48 ≤ a0) = false := decide_eq_false c11
      clear c11
      obtain rfl := Option.some.inj H
      go_enter Tryz.func92, Tryz.ntmps92
      go_wp2
      go_ret
      exact ⟨by first | rfl | (simp; done) | (simp [*]; done), by repeat (first | exact Drawn0.refl _ | apply Drawn0.step)⟩
   ·rw [if_neg c9] at H
    have c9b0 : decide (65 ≤ a0) = false := decide_eq_false c9
    clear c9
    by_cases c12 : a0 ≥ 48
    ·rw [if_pos c12] at H
     have c12b0 : decide (48 ≤ a0) = true := decide_eq_true c12
     clear c12
     obtain rfl := Option.some.inj H
     go_enter Tryz.func92, Tryz.ntmps92
     go_wp2
     go_ret
     exact ⟨by first | rfl | (simp; done) | (simp [*]; done), by repeat (first | exact Drawn0.refl _ | apply Drawn0.step)⟩
    ·rw [if_neg c12] at H
     have c12b0 : decide (48 ≤ a0) = false := decide_eq_false c12
     clear c12
     obtain rfl := Option.some.inj H
     go_enter Tryz.func92, Tryz.ntmps92
     go_wp2
     go_ret
     exact ⟨by first | rfl | (simp; done) | (simp [*]; done), by repeat (first | exact Drawn0.refl _ | apply Drawn0.step)⟩
def blankB (c : Int) : Bool := (rules_blank.f c).getD false
def letterB (c : Int) : Bool := (rules_letter.f c).getD false
theorem blank_some (c : Int) : rules_blank.f c = some (blankB c) := by
 unfold blankB rules_blank.f
 repeat' split
 all_goals rfl
theorem letter_some (c : Int) : rules_letter.f c = some (letterB c) := by
 unfold letterB rules_letter.f
 repeat' split
 all_goals rfl
theorem blankB_calls (c : Int) (w : World) : Calls Tryz.prog 91 #[.int .u8 c] w fun e w' => e = .returned (.bool (blankB c)) ∧ Below w.heap.size w w' :=
 (rules_blank.calls c _ w (blank_some c)).mono (fun e w' h => ⟨h.1, h.2.below⟩)
theorem letterB_calls (c : Int) (w : World) : Calls Tryz.prog 92 #[.int .u8 c] w fun e w' => e = .returned (.bool (letterB c)) ∧ Below w.heap.size w w' :=
 (rules_letter.calls c _ w (letter_some c)).mono (fun e w' h => ⟨h.1, h.2.below⟩)
/-- What stands in the parser and is not read by its small words. -/
structure Ps where
 s : ByteArray
 vC : Value
 vT : Value
 vL : Value
 mb : Nat
/-- The parser in memory: at k, with pl places. -/
def IsPar (w : World) (gp : Nat) (P : Ps) (k pl : Int) : Prop :=
 w.heap[gp]? = some (.cells #[.string P.s, .int .i64 k, P.vC, .int .u32 0, .int .u32 0, P.vT, P.vL, .map (some P.mb), .int .i64 pl, .int .i64 0] 134 (0, 0))
section
variable {w w1 w2 : World} {gp : Nat} {P : Ps} {k pl k1 : Int}
theorem IsPar.lt (h : IsPar w gp P k pl) : gp < w.heap.size := blk_lt h
theorem IsPar.c0 (h : IsPar w gp P k pl) : w.cell? ⟨gp, 0, none⟩ = some (.string P.s) := blk_cell h 0
theorem IsPar.c1 (h : IsPar w gp P k pl) : w.cell? ⟨gp, 1, none⟩ = some (.int .i64 k) := blk_cell h 1
theorem IsPar.c2 (h : IsPar w gp P k pl) : w.cell? ⟨gp, 2, none⟩ = some P.vC := blk_cell h 2
theorem IsPar.c5 (h : IsPar w gp P k pl) : w.cell? ⟨gp, 5, none⟩ = some P.vT := blk_cell h 5
theorem IsPar.c6 (h : IsPar w gp P k pl) : w.cell? ⟨gp, 6, none⟩ = some P.vL := blk_cell h 6
theorem IsPar.c7 (h : IsPar w gp P k pl) : w.cell? ⟨gp, 7, none⟩ = some (.map (some P.mb)) := blk_cell h 7
theorem IsPar.c8 (h : IsPar w gp P k pl) : w.cell? ⟨gp, 8, none⟩ = some (.int .i64 pl) := blk_cell h 8
theorem IsPar.on (h : IsPar w gp P k pl) (hb : Below w.heap.size w w1) : IsPar w1 gp P k pl := blk_below h hb
theorem IsPar.at (h : IsPar w gp P k pl) (j : Int) : IsPar (w.setCell ⟨gp, 1, none⟩ (.int .i64 j)) gp P j pl := blk_set h 1 (.int .i64 j)
theorem IsPar.places (h : IsPar w gp P k pl) (j : Int) : IsPar (w.setCell ⟨gp, 8, none⟩ (.int .i64 j)) gp P k j := blk_set h 8 (.int .i64 j)
/-- But for block gp, all that there was is as it was. -/
structure KB (w w1 : World) (gp : Nat) : Prop where
 k : KeepBut w w1 gp none
 os : w1.os = w.os
 tape : w1.tape = w.tape
 out : w1.output = w.output
theorem kb_refl (w : World) (gp : Nat) : KB w w gp := ⟨KeepBut.refl _ _ _, rfl, rfl, rfl⟩
theorem kb_of_below (h : Below w.heap.size w w1) (gp : Nat) : KB w w1 gp := ⟨KeepBut.of_below h gp none, h.os, h.tape, h.output⟩
theorem kb_then (h : KB w w1 gp) (h2 : KB w1 w2 gp) : KB w w2 gp := ⟨h.k.trans h2.k (.inl rfl), h2.os.trans h.os, h2.tape.trans h.tape, h2.out.trans h.out⟩
theorem kb_below (h : KB w w1 gp) (hb : Below w1.heap.size w1 w2) : KB w w2 gp := kb_then h (kb_of_below hb gp)
theorem kb_set (h : KB w w1 gp) (i : Nat) (v : Value) : KB w (w1.setCell ⟨gp, i, none⟩ v) gp := ⟨KeepBut.set_ h.k i v, h.os, h.tape, h.out⟩
theorem kb_blk {g : Nat} {o : Obj} (h : KB w w1 gp) (hb : w.heap[g]? = some o) (hg : g ≠ gp) : w1.heap[g]? = some o := KeepBut.blk h.k hb hg (by simp)
theorem kb_size (h : KB w w1 gp) : w.heap.size ≤ w1.heap.size := h.k.1
theorem kb_low (h : KB w w1 gp) {B : Nat} (hB : B ≤ gp) (hs : B ≤ w.heap.size) : Below B w w1 := ⟨h.os, h.tape, h.out, h.k.1, fun i hi => h.k.2 i (by omega) (by omega) (by simp)⟩
end
/-- What here comes to: the next sign's place and it. -/
def hereF (s : ByteArray) : Nat → Int → Option (Int × Int)
 | 0, _ => none
 | n + 1, k => if k < (s.size : Int) then (if bt s k = 35 then none else if blankB (bt s k) = true then hereF s n (k + 1) else
   if letterB (bt s k) = true then some (k, bt s k) else if 0 ≤ Lib.indexByte [40, 41, 91, 93, 94, 124, 42, 43, 63, 46, 59, 47, 61] (bt s k).toNat.toUInt8 then some (k, bt s k) else none) else some (k, 0)
def HereE (gp : Nat) (P : Ps) (w : World) (pl j c : Int) (e : Ending) (w' : World) : Prop := e = .returned (.int .u8 c) ∧ IsPar w' gp P j pl ∧ KB w w' gp
set_option maxHeartbeats 40000000 in
set_option maxRecDepth 100000 in
theorem here_calls (gp : Nat) (P : Ps) (n : Nat) (k pl j c : Int) (w : World) (hk : 0 ≤ k) (hs : P.s.size ≤ 1000000) (hP : IsPar w gp P k pl) (hF : hereF P.s n k = some (j, c)) :
  Calls Tryz.prog 59 #[.pointer (some ⟨gp, 0, none⟩)] w fun e w' => HereE gp P w pl j c e w' := by
 have HP := Aside0.mk hP
 have HF := Aside0.mk hF
 clear hP hF
 go_enter Tryz.func59, Tryz.ntmps59
 go_wp2
 go_loopg [] n (fun kq w' => ∃ x : Int, Aside0 (0 ≤ x) ∧ Aside0 (hereF P.s kq x = some (j, c)) ∧ Aside0 (IsPar w' gp P x pl) ∧ Aside0 (KB w w' gp))
 case atStart => exact ⟨k, ⟨hk⟩, HF, HP, ⟨kb_refl _ _⟩⟩
 case round =>
  obtain ⟨x, HX, HR, HQ, HKB⟩ := hrel
  have hx := HX.out
  cases gk with
  | zero => exact absurd HR.out (by simp [hereF])
  | succ k1 =>
   have hr := HR.out
   unfold hereF at hr
   have y0 := HQ.out.c0
   have y1 := HQ.out.c1
   by_cases h1 : x < (P.s.size : Int)
   ·rw [if_pos h1] at hr
    clear y0 y1
    by_cases h2 : bt P.s x = 35
    ·rw [if_pos h2] at hr
     cases hr
    ·rw [if_neg h2] at hr
     have hbt := bt_at P.s x
     have hb2 : (bt P.s x == 35) = false := by simpa using h2
     have hxn : x.toNat < P.s.size := by omega
     have HBT := Aside0.mk hbt
     have HXN := Aside0.mk hxn
     clear hbt hxn
     go_wp2
     refine st 10 wr [] fun hHeld => ?_
     generalize wr.drew = w1 at hHeld ⊢
     refine pu 0 (some 5) ?_
     refine pu 1 (some 6) ?_
     refine pu 2 (some 7) ?_
     refine pu 4 (some 9) ?_
     refine pu 5 (some 10) ?_
     refine pu 6 (some 11) ?_
     refine ta 3 (some 8) (fun _ s => pw_cell_below s HQ.out.c1) hHeld ?_
     refine ta 7 (some 12) (fun _ s => pw_cell_below s HQ.out.c0) hHeld ?_
     refine pu 8 (some 13) ?_
     refine pu 9 (some 14) ?_
     refine done_ (by kernel_rfl) ?_
     have Q1 := Aside0.mk (HQ.out.on hHeld)
     have B1 := Aside0.mk (kb_below HKB.out hHeld)
     clear hHeld
     have hbt := HBT.out
     have hxn := HXN.out
     go_wp2
     refine st 10 w1 [] fun hHeld => ?_
     generalize w1.drew = w2 at hHeld ⊢
     refine pu 0 (some 15) ?_
     refine pu 1 (some 16) ?_
     refine pu 2 (some 17) ?_
     refine pu 4 (some 19) ?_
     refine pu 5 (some 20) ?_
     refine pu 6 (some 21) ?_
     refine ta 3 (some 18) (fun _ s => pw_cell_below s Q1.out.c0) hHeld ?_
     refine ta 7 (some 22) (fun _ s => pw_cell_below s Q1.out.c1) hHeld ?_
     refine pu 8 (some 23) ?_
     refine pu 9 (some 3) ?_
     refine done_ (by kernel_rfl) ?_
     have Q2 := Aside0.mk (Q1.out.on hHeld)
     have B2 := Aside0.mk (kb_below B1.out hHeld)
     clear hHeld
     clear hbt hxn
     clear Q1 B1
     by_cases h3 : blankB (bt P.s x) = true
     ·rw [if_pos h3] at hr
      have hw1 : wrap64 (x + 1) = x + 1 := by unfold wrap64; omega
      have HR2 := Aside0.mk hr
      clear hr
      go_wp2_with fail
      refine (blankB_calls (bt P.s x) w2).mono ?_
      rintro e w3 ⟨rfl, hb3⟩
      rw [h3]
      have Q3 := Q2.out.on hb3
      have B3 := kb_below B2.out hb3
      have y1 := Q3.c1
      have y2 := blk_frozen Q3 1
      have Q4 := Aside0.mk (Q3.at (x + 1))
      have B4 := Aside0.mk (kb_set B3 1 (.int .i64 (x + 1)))
      clear Q3 B3 hb3 Q2 B2
      go_wp2
      go_roundg k1
      case measure => omega
      case rel => exact ⟨x + 1, ⟨by omega⟩, HR2, Q4, B4⟩
     ·have h3 : blankB (bt P.s x) = false := by simpa using h3
      rw [h3, if_neg (by simp)] at hr
      by_cases h4 : letterB (bt P.s x) = true
      ·rw [if_pos h4] at hr
       injection hr with hr
       injection hr with hr1 hr2
       subst hr1 hr2
       go_wp2_with fail
       refine (blankB_calls (bt P.s x) w2).mono ?_
       rintro e w3 ⟨rfl, hb3⟩
       rw [h3]
       go_wp2_with fail
       refine (letterB_calls (bt P.s x) w3).mono ?_
       rintro e w4 ⟨rfl, hb4⟩
       rw [h4]
       have Q4 := (Q2.out.on hb3).on hb4
       have B4 := kb_below (kb_below B2.out hb3) hb4
       go_wp2
       go_ret
       exact ⟨rfl, Q4, B4⟩
      ·have h4 : letterB (bt P.s x) = false := by simpa using h4
       rw [h4, if_neg (by simp)] at hr
       by_cases h5 : 0 ≤ Lib.indexByte [40, 41, 91, 93, 94, 124, 42, 43, 63, 46, 59, 47, 61] (bt P.s x).toNat.toUInt8
       ·rw [if_pos h5] at hr
        injection hr with hr
        injection hr with hr1 hr2
        subst hr1 hr2
        have h5d : decide (Lib.indexByte [40, 41, 91, 93, 94, 124, 42, 43, 63, 46, 59, 47, 61] (bt P.s x).toNat.toUInt8 < 0) = false := by simp; omega
        go_wp2_with fail
        refine (blankB_calls (bt P.s x) w2).mono ?_
        rintro e w3 ⟨rfl, hb3⟩
        rw [h3]
        go_wp2_with fail
        refine (letterB_calls (bt P.s x) w3).mono ?_
        rintro e w4 ⟨rfl, hb4⟩
        rw [h4]
        have Q4 := (Q2.out.on hb3).on hb4
        have B4 := kb_below (kb_below B2.out hb3) hb4
        go_wp2_with fail
        refine (Tryz.strings_IndexByte_p _ (bt P.s x) w4).mono ?_
        rintro e w5 ⟨rfl, rfl⟩
        generalize hz : Lib.indexByte (ByteArray.mk #[40, 41, 91, 93, 94, 124, 42, 43, 63, 46, 59, 47, 61]).data.toList (bt P.s x).toNat.toUInt8 = z
        have hz0 : 0 ≤ z := by rw [← hz]; exact h5
        have hzd : decide (z < 0) = false := by simp; omega
        clear hz h5d
        go_wp2
        go_ret
        exact ⟨rfl, Q4, B4⟩
       ·rw [if_neg h5] at hr
        cases hr
   ·rw [if_neg h1] at hr
    injection hr with hr
    injection hr with hr1 hr2
    subst hr1 hr2
    clear y0 y1
    go_wp2
    refine st 10 wr [] fun hHeld => ?_
    generalize wr.drew = w1 at hHeld ⊢
    refine pu 0 (some 5) ?_
    refine pu 1 (some 6) ?_
    refine pu 2 (some 7) ?_
    refine pu 4 (some 9) ?_
    refine pu 5 (some 10) ?_
    refine pu 6 (some 11) ?_
    refine ta 3 (some 8) (fun _ s => pw_cell_below s HQ.out.c1) hHeld ?_
    refine ta 7 (some 12) (fun _ s => pw_cell_below s HQ.out.c0) hHeld ?_
    refine pu 8 (some 13) ?_
    refine pu 9 (some 14) ?_
    refine done_ (by kernel_rfl) ?_
    have Q1 := Aside0.mk (HQ.out.on hHeld)
    have B1 := Aside0.mk (kb_below HKB.out hHeld)
    clear hHeld
    go_wp2
    go_ret
    exact ⟨rfl, Q1.out, B1.out⟩
def ParE (v : Value) (gp : Nat) (P : Ps) (w : World) (pl j : Int) (e : Ending) (w' : World) : Prop := e = .returned v ∧ IsPar w' gp P j pl ∧ KB w w' gp
set_option maxHeartbeats 40000000 in
set_option maxRecDepth 100000 in
theorem sign_yes (gp : Nat) (P : Ps) (n : Nat) (k pl j c : Int) (w : World) (hk : 0 ≤ k) (hs : P.s.size ≤ 1000000) (hj : j ≤ 1000000 ∧ 0 ≤ j) (hP : IsPar w gp P k pl) (hF : hereF P.s n k = some (j, c)) :
  Calls Tryz.prog 85 #[.pointer (some ⟨gp, 0, none⟩), .int .u8 c] w fun e w' => ParE (.bool true) gp P w pl (j + 1) e w' := by
 have hw1 : wrap64 (j + 1) = j + 1 := by unfold wrap64; omega
 go_enter Tryz.func85, Tryz.ntmps85
 go_wp2_with fail
 refine (here_calls gp P n k pl j c w hk hs hP hF).mono ?_
 rintro e w1 ⟨rfl, hQ, hB⟩
 have y1 := hQ.c1
 have y2 := blk_frozen hQ 1
 have Q4 := Aside0.mk (hQ.at (j + 1))
 have B4 := Aside0.mk (kb_set hB 1 (.int .i64 (j + 1)))
 clear hQ hB
 go_wp2
 go_ret
 exact ⟨rfl, Q4.out, B4.out⟩
set_option maxHeartbeats 40000000 in
set_option maxRecDepth 100000 in
theorem sign_no (gp : Nat) (P : Ps) (n : Nat) (k pl j c d : Int) (w : World) (hk : 0 ≤ k) (hs : P.s.size ≤ 1000000) (hP : IsPar w gp P k pl) (hF : hereF P.s n k = some (j, d)) (hd : d ≠ c) :
  Calls Tryz.prog 85 #[.pointer (some ⟨gp, 0, none⟩), .int .u8 c] w fun e w' => ParE (.bool false) gp P w pl j e w' := by
 have hdc : (d != c) = true := by simpa using hd
 clear hd
 go_enter Tryz.func85, Tryz.ntmps85
 go_wp2_with fail
 refine (here_calls gp P n k pl j d w hk hs hP hF).mono ?_
 rintro e w1 ⟨rfl, hQ, hB⟩
 go_wp2
 go_ret
 exact ⟨rfl, hQ, hB⟩
set_option maxHeartbeats 40000000 in
set_option maxRecDepth 100000 in
theorem want_yes (gp : Nat) (P : Ps) (n : Nat) (k pl j c : Int) (w : World) (hk : 0 ≤ k) (hs : P.s.size ≤ 1000000) (hj : j ≤ 1000000 ∧ 0 ≤ j) (hP : IsPar w gp P k pl) (hF : hereF P.s n k = some (j, c)) :
  Calls Tryz.prog 87 #[.pointer (some ⟨gp, 0, none⟩), .int .u8 c] w fun e w' => ParE (.tuple #[]) gp P w pl (j + 1) e w' := by
 go_enter Tryz.func87, Tryz.ntmps87
 go_wp2_with fail
 refine (sign_yes gp P n k pl j c w hk hs hj hP hF).mono ?_
 rintro e w1 ⟨rfl, hQ, hB⟩
 go_wp2
 refine bodyPost_ret (v := .tuple #[]) (by simp [results, Tryz.results87, go_sem]) rfl ⟨rfl, hQ, hB⟩
/-- Where a word ends. -/
def wordF (s : ByteArray) : Nat → Int → Option Int
 | 0, _ => none
 | n + 1, k => if k < (s.size : Int) then (if letterB (bt s k) = true then wordF s n (k + 1) else some k) else some k
set_option maxHeartbeats 40000000 in
set_option maxRecDepth 100000 in
theorem pword_calls (gp : Nat) (P : Ps) (n n2 : Nat) (k pl j c j2 : Int) (w : World) (hk : 0 ≤ k) (hs : P.s.size ≤ 1000000) (hj : 0 ≤ j) (hj2 : j ≤ j2 ∧ j2 ≤ (P.s.size : Int)) (hP : IsPar w gp P k pl) (hF : hereF P.s n k = some (j, c)) (hl : letterB c = true) (hW : wordF P.s n2 j = some j2) :
  Calls Tryz.prog 60 #[.pointer (some ⟨gp, 0, none⟩)] w fun e w' => ParE (.tuple #[.string (P.s.extract j.toNat j2.toNat), .int .i64 j]) gp P w pl j2 e w' := by
 have HW := Aside0.mk hW
 clear hW
 go_enter Tryz.func60, Tryz.ntmps60
 go_wp2_with fail
 refine (here_calls gp P n k pl j c w hk hs hP hF).mono ?_
 rintro e w1 ⟨rfl, hQ, hB⟩
 go_wp2_with fail
 refine (letterB_calls c w1).mono ?_
 rintro e w2 ⟨rfl, hb2⟩
 rw [hl]
 have y1 := (hQ.on hb2).c1
 have HQ2 := Aside0.mk (hQ.on hb2)
 have HB2 := Aside0.mk (kb_below hB hb2)
 clear hQ hB hb2 hP hF hl
 go_wp2
 clear y1
 go_loopg [] n2 (fun kq w' => ∃ x : Int, Aside0 (j ≤ x) ∧ Aside0 (wordF P.s kq x = some j2) ∧ Aside0 (IsPar w' gp P x pl) ∧ Aside0 (KB w w' gp))
 case atStart => exact ⟨j, ⟨by omega⟩, HW, HQ2, HB2⟩
 case round =>
  clear HQ2 HB2 HW
  obtain ⟨x, HX, HR, HQ, HKB⟩ := hrel
  have hx := HX.out
  cases gk with
  | zero => exact absurd HR.out (by simp [wordF])
  | succ k1 =>
   have hr := HR.out
   unfold wordF at hr
   by_cases h1 : x < (P.s.size : Int)
   ·rw [if_pos h1] at hr
    have hbt := bt_at P.s x
    have hxn : x.toNat < P.s.size := by omega
    have hx0 : 0 ≤ x := by omega
    by_cases h2 : letterB (bt P.s x) = true
    ·rw [if_pos h2] at hr
     have HR2 := Aside0.mk hr
     clear hr
     have hw1 : wrap64 (x + 1) = x + 1 := by unfold wrap64; omega
     go_wp2
     refine st 22 wr [] fun hHeld => ?_
     generalize wr.drew = w1 at hHeld ⊢
     refine pu 0 (some 19) ?_
     refine pu 1 (some 20) ?_
     refine pu 2 (some 21) ?_
     refine pu 4 (some 23) ?_
     refine pu 5 (some 24) ?_
     refine pu 6 (some 25) ?_
     refine ta 3 (some 22) (fun _ s => pw_cell_below s HQ.out.c1) hHeld ?_
     refine ta 7 (some 26) (fun _ s => pw_cell_below s HQ.out.c0) hHeld ?_
     refine pu 8 (some 27) ?_
     refine pu 9 (some 28) ?_
     refine pu 10 (some 29) ?_
     refine pu 11 (some 30) ?_
     refine pu 12 (some 31) ?_
     refine pu 13 (some 32) ?_
     refine pu 15 (some 34) ?_
     refine pu 16 (some 35) ?_
     refine pu 17 (some 36) ?_
     refine ta 14 (some 33) (fun _ s => pw_cell_below s HQ.out.c0) hHeld ?_
     refine ta 18 (some 37) (fun _ s => pw_cell_below s HQ.out.c1) hHeld ?_
     refine pu 19 (some 38) ?_
     refine on 20 (some 39) fun K hK => ?_
     refine gs Tryz.func92 #[.int .u8 (bt P.s x)] ?_
     with_reducible refine (letterB_calls (bt P.s x) _).mono ?_
     rintro e w_ ⟨rfl, hb_⟩
     refine ⟨_, rfl, ?_⟩
     rw [h2]
     refine hK.out _ _ (below_step hHeld hb_) (fun hHeld => ?_)
     clear hK K
     refine nrm 39 ?_
     refine pu 21 (some 40) ?_
     refine done_ (by kernel_rfl) ?_
     have Q1 := Aside0.mk (HQ.out.on hHeld)
     have B1 := Aside0.mk (kb_below HKB.out hHeld)
     clear hHeld
     have y1 := Q1.out.c1
     have y2 := blk_frozen Q1.out 1
     have Q4 := Aside0.mk (Q1.out.at (x + 1))
     have B4 := Aside0.mk (kb_set B1.out 1 (.int .i64 (x + 1)))
     clear Q1 B1 hbt hxn
     go_wp2
     go_roundg k1
     case measure => omega
     case rel => exact ⟨x + 1, ⟨by omega⟩, HR2, Q4, B4⟩
    ·have h2 : letterB (bt P.s x) = false := by simpa using h2
     rw [h2, if_neg (by simp)] at hr
     injection hr with hr
     subst hr
     go_wp2
     refine st 22 wr [] fun hHeld => ?_
     generalize wr.drew = w1 at hHeld ⊢
     refine pu 0 (some 19) ?_
     refine pu 1 (some 20) ?_
     refine pu 2 (some 21) ?_
     refine pu 4 (some 23) ?_
     refine pu 5 (some 24) ?_
     refine pu 6 (some 25) ?_
     refine ta 3 (some 22) (fun _ s => pw_cell_below s HQ.out.c1) hHeld ?_
     refine ta 7 (some 26) (fun _ s => pw_cell_below s HQ.out.c0) hHeld ?_
     refine pu 8 (some 27) ?_
     refine pu 9 (some 28) ?_
     refine pu 10 (some 29) ?_
     refine pu 11 (some 30) ?_
     refine pu 12 (some 31) ?_
     refine pu 13 (some 32) ?_
     refine pu 15 (some 34) ?_
     refine pu 16 (some 35) ?_
     refine pu 17 (some 36) ?_
     refine ta 14 (some 33) (fun _ s => pw_cell_below s HQ.out.c0) hHeld ?_
     refine ta 18 (some 37) (fun _ s => pw_cell_below s HQ.out.c1) hHeld ?_
     refine pu 19 (some 38) ?_
     refine on 20 (some 39) fun K hK => ?_
     refine gs Tryz.func92 #[.int .u8 (bt P.s x)] ?_
     with_reducible refine (letterB_calls (bt P.s x) _).mono ?_
     rintro e w_ ⟨rfl, hb_⟩
     refine ⟨_, rfl, ?_⟩
     rw [h2]
     refine hK.out _ _ (below_step hHeld hb_) (fun hHeld => ?_)
     clear hK K
     refine nrm 39 ?_
     refine pu 21 (some 40) ?_
     refine done_ (by kernel_rfl) ?_
     have Q1 := Aside0.mk (HQ.out.on hHeld)
     have B1 := Aside0.mk (kb_below HKB.out hHeld)
     clear hHeld
     go_wp2
     refine st 13 w_ [] fun hHeld => ?_
     generalize w_.drew = w3 at hHeld ⊢
     refine pu 0 (some 48) ?_
     refine pu 1 (some 49) ?_
     refine pu 2 (some 50) ?_
     refine pu 4 (some 52) ?_
     refine pu 5 (some 53) ?_
     refine pu 6 (some 54) ?_
     refine pu 7 (some 55) ?_
     refine pu 10 (some 58) ?_
     refine ta 3 (some 51) (fun _ s => pw_cell_below s Q1.out.c0) hHeld ?_
     refine ta 8 (some 56) (fun _ s => pw_cell_below s Q1.out.c1) hHeld ?_
     refine pu 9 (some 57) ?_
     refine pu 11 (some 2) ?_
     refine pu 12 (some 3) ?_
     refine done_ (by kernel_rfl) ?_
     have Q2 := Aside0.mk (Q1.out.on hHeld)
     have B2 := Aside0.mk (kb_below B1.out hHeld)
     clear hHeld
     go_wp2
     go_ret2
     refine ⟨by first | rfl | (simp; done) | (simp; trace_state; done), Q2.out, B2.out⟩
   ·rw [if_neg h1] at hr
    injection hr with hr
    subst hr
    have hx0 : 0 ≤ x := by omega
    have h1d : decide (x < (P.s.size : Int)) = false := decide_eq_false h1
    go_wp2
    refine st 22 wr [] fun hHeld => ?_
    generalize wr.drew = w1 at hHeld ⊢
    refine pu 0 (some 19) ?_
    refine pu 1 (some 20) ?_
    refine pu 2 (some 21) ?_
    refine pu 4 (some 23) ?_
    refine pu 5 (some 24) ?_
    refine pu 6 (some 25) ?_
    refine ta 3 (some 22) (fun _ s => pw_cell_below s HQ.out.c1) hHeld ?_
    refine ta 7 (some 26) (fun _ s => pw_cell_below s HQ.out.c0) hHeld ?_
    refine pu 8 (some 27) ?_
    refine pu 9 (some 28) ?_
    refine pu 10 (some 29) ?_
    refine pq 11 (some 30) ?_
    refine pq 12 (some 31) ?_
    refine pq 13 (some 32) ?_
    refine pq 14 (some 33) ?_
    refine pq 15 (some 34) ?_
    refine pq 16 (some 35) ?_
    refine pq 17 (some 36) ?_
    refine pq 18 (some 37) ?_
    refine pq 19 (some 38) ?_
    refine pq 20 (some 39) ?_
    refine pu 21 (some 40) ?_
    refine done_ (by kernel_rfl) ?_
    have Q1 := Aside0.mk (HQ.out.on hHeld)
    have B1 := Aside0.mk (kb_below HKB.out hHeld)
    clear hHeld
    go_wp2
    refine st 13 w1 [] fun hHeld => ?_
    generalize w1.drew = w3 at hHeld ⊢
    refine pu 0 (some 48) ?_
    refine pu 1 (some 49) ?_
    refine pu 2 (some 50) ?_
    refine pu 4 (some 52) ?_
    refine pu 5 (some 53) ?_
    refine pu 6 (some 54) ?_
    refine pu 7 (some 55) ?_
    refine pu 10 (some 58) ?_
    refine ta 3 (some 51) (fun _ s => pw_cell_below s Q1.out.c0) hHeld ?_
    refine ta 8 (some 56) (fun _ s => pw_cell_below s Q1.out.c1) hHeld ?_
    refine pu 9 (some 57) ?_
    refine pu 11 (some 2) ?_
    refine pu 12 (some 3) ?_
    refine done_ (by kernel_rfl) ?_
    have Q2 := Aside0.mk (Q1.out.on hHeld)
    have B2 := Aside0.mk (kb_below B1.out hHeld)
    clear hHeld
    go_wp2
    go_ret2
    refine ⟨by first | rfl | (simp; done), Q2.out, B2.out⟩
end Go.Proofs.YtkeccgkicffieaaGreatDoor.PTopWider
