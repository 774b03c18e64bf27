/- The walk of seg's Make, its loop: the two sides of some rules. Conditions: the rules lie in memory as RulesIs tells. -/
import Derived.Test.YtkeccgkicffieaaGreatDoorTopAE
import Derived.Test.YtkeccgkicffieaaGreatDoorTopKE
import Derived.Test.YtkeccgkicffieaaGreatDoorTopRG
import Derived.Test.YtkeccgkicffieaaGreatDoorTopM
namespace Go.Proofs.YtkeccgkicffieaaGreatDoor.PTopWider
open Go.RowKit Go.Proofs.YtkeccgkicffieaaGreatDoorW.PrintWords Go.Proofs.YtkeccgkicffieaaGreatDoorW.PrintLast Go.Proofs.YtkeccgkicffieaaGreatDoorW.PrintMore
set_option linter.unusedVariables false
set_option linter.unusedSimpArgs false
theorem ExpIs.keep {w w1 : World} {base : Nat} {X : EX} {vk u : Value} (h : ExpIs w base X vk) (hg : w.grownBy w1 u.ownBlock) (hn : Ne2 vk u) : ExpIs w1 base X vk := by
 cases X with
 | one v => exact h
 | two a b => obtain ⟨gl, cl, h1, h2⟩ := h; exact ⟨gl, cl, h1, h2.keep hg hn⟩
theorem ExpIs.grew {w : World} {base : Nat} {X : EX} {vk u u1 : Value} (h : ExpIs w base X vk) (hn : Ne2 vk u) (hat : u1.ownBlock = u.ownBlock ∨ ∃ q, u1.ownBlock = some q ∧ w.heap.size ≤ q) : Ne2 vk u1 := by
 cases X with
 | one v => cases h; exact Ne2.nil _
 | two a b => obtain ⟨gl, cl, h1, h2⟩ := h; exact (hn.symm.grew h2 hat).symm
theorem ExpIs.fresh {α : Type} {d : Kd α} {e base : Nat} {w w1 : World} {X : EX} {vk u : Value} {ys : List α} (h : ExpIs w1 w.heap.size X vk) (hu : Own1 d e base w u ys) : Ne2 vk u := by
 cases X with
 | one v => cases h; exact Ne2.nil _
 | two a b =>
  obtain ⟨gl, cl, h1, h2⟩ := h
  refine Ne2.fresh hu ⟨gl, by rw [h1]; rfl, ?_⟩
  exact h2.base_le gl (by rw [h1]; rfl)
/-- Expressions' cells, their kids apart from two rows. -/
def ExSep (w : World) (g : Nat) (Xs : List EX) (cs : List (Cl 3)) (u v : Value) : Prop :=
 cs.length = Xs.length ∧ ∀ i, i < Xs.length → ∃ A n c, cs.getD i (zcl 3) = xcl (Xs.getD i (.one 0)) A n c ∧ ExpIs w g (Xs.getD i (.one 0)) (.slice A n c) ∧ Ne2 (.slice A n c) u ∧ Ne2 (.slice A n c) v
theorem ExSep.low {w w1 : World} {g : Nat} {Xs : List EX} {cs : List (Cl 3)} {u v : Value} (h : ExSep w g Xs cs u v) (hb : Below w.heap.size w w1) : ExSep w1 g Xs cs u v :=
 ⟨h.1, fun i hi => by obtain ⟨A, n, c, h1, h2, h3, h4⟩ := h.2 i hi; exact ⟨A, n, c, h1, h2.same (Same.of_low hb), h3, h4⟩⟩
theorem ExSep.swap {w : World} {g : Nat} {Xs : List EX} {cs : List (Cl 3)} {u v : Value} (h : ExSep w g Xs cs u v) : ExSep w g Xs cs v u :=
 ⟨h.1, fun i hi => by obtain ⟨A, n, c, h1, h2, h3, h4⟩ := h.2 i hi; exact ⟨A, n, c, h1, h2, h4, h3⟩⟩
theorem ExSep.grow {w w1 : World} {g : Nat} {Xs : List EX} {cs : List (Cl 3)} {u v u1 : Value} (h : ExSep w g Xs cs u v) (hg : w.grownBy w1 u.ownBlock) (hat : u1.ownBlock = u.ownBlock ∨ ∃ q, u1.ownBlock = some q ∧ w.heap.size ≤ q) : ExSep w1 g Xs cs u1 v :=
 ⟨h.1, fun i hi => by obtain ⟨A, n, c, h1, h2, h3, h4⟩ := h.2 i hi; exact ⟨A, n, c, h1, h2.keep hg h3, h2.grew h3 hat, h4⟩⟩
theorem ExSep.snoc {w : World} {g : Nat} {Xs : List EX} {cs : List (Cl 3)} {u v : Value} {X : EX} {A : Option Addr} {n c : Nat} (h : ExSep w g Xs cs u v) (hx : ExpIs w g X (.slice A n c)) (n1 : Ne2 (.slice A n c) u) (n2 : Ne2 (.slice A n c) v) : ExSep w g (Xs ++ [X]) (cs ++ [xcl X A n c]) u v := by
 refine ⟨by simp [h.1], fun i hi => ?_⟩
 rw [List.length_append, List.length_singleton] at hi
 by_cases hl : i < Xs.length
 ·have hc : i < cs.length := by rw [h.1]; exact hl
  have a1 : (cs ++ [xcl X A n c]).getD i (zcl 3) = cs.getD i (zcl 3) := by simp [List.getD, List.getElem?_append_left hc]
  have a2 : (Xs ++ [X]).getD i (.one 0) = Xs.getD i (.one 0) := by simp [List.getD, List.getElem?_append_left hl]
  rw [a1, a2]
  exact h.2 i hl
 ·have he : i = Xs.length := by omega
  subst he
  have a1 : (cs ++ [xcl X A n c]).getD Xs.length (zcl 3) = xcl X A n c := by rw [← h.1]; simp [List.getD]
  have a2 : (Xs ++ [X]).getD Xs.length (.one 0) = X := by simp [List.getD]
  rw [a1, a2]
  exact ⟨A, n, c, rfl, hx, n1, n2⟩
theorem ExSep.ok {w : World} {g : Nat} {Xs : List EX} {cs : List (Cl 3)} {u v : Value} (h : ExSep w g Xs cs u v) : ExOk w g Xs cs :=
 ⟨h.1, fun i hi => by obtain ⟨A, n, c, h1, h2, _⟩ := h.2 i hi; exact ⟨A, n, c, h1, h2⟩⟩
theorem ExOk.snoc {w : World} {g : Nat} {Xs : List EX} {cs : List (Cl 3)} {X : EX} {A : Option Addr} {n c : Nat} (h : ExOk w g Xs cs) (hx : ExpIs w g X (.slice A n c)) : ExOk w g (Xs ++ [X]) (cs ++ [xcl X A n c]) :=
 (ExSep.snoc (u := .slice none 0 0) (v := .slice none 0 0) ⟨h.1, fun i hi => by obtain ⟨A, n, c, h1, h2⟩ := h.2 i hi; exact ⟨A, n, c, h1, h2, (Ne2.nil _).symm, (Ne2.nil _).symm⟩⟩ hx (Ne2.nil _).symm (Ne2.nil _).symm).ok
theorem ExOk.low {w w1 : World} {g : Nat} {Xs : List EX} {cs : List (Cl 3)} (h : ExOk w g Xs cs) (hb : Below w.heap.size w w1) : ExOk w1 g Xs cs :=
 ⟨h.1, fun i hi => by obtain ⟨A, n, c, h1, h2⟩ := h.2 i hi; exact ⟨A, n, c, h1, h2.same (Same.of_low hb)⟩⟩
theorem RsOk.get {w : World} {base : Nat} : ∀ {rs : List RX} {cs : List (Cl 7)}, RsOk w base rs cs → ∀ i, i < rs.length → RuleIs w base (rs.getD i ⟨0, .one 0, .one 0⟩) (cs.getD i (zcl 7))
 | r :: rs, c :: cs, h, 0, _ => h.1
 | r :: rs, c :: cs, h, i + 1, hi => RsOk.get h.2 i (by simpa using hi)
 | [], _, _, i, hi => absurd hi (by simp)
 | _ :: _, [], h, _, _ => h.elim
theorem reps_cl {n : Nat} (W : World) (base : Nat) (ok : Nat → Prop) (x : Cl n) : Reps ((kcl n).M W base ok) (kcl n).sz [x] x.l := by
 have h3 := (Reps.none (fun (p : Cl n) cs => cs = p.l) n).snoc (p := x) rfl x.len
 have h5 : Reps (fun (p : Cl n) cs => cs = p.l) n [x] x.l := by simpa using h3
 exact h5
/-- What stands in memory at each moment of a round. -/
structure SegAt (g b7 : Nat) (w0 w : World) (bx x7 : Array Value) (u : Value) (cl : List (Cl 3)) (v : Value) (cr : List (Cl 3)) (a : Value) (az : List (Cl 3)) (b : Value) (bz : List (Cl 3)) (Ys : List EX) (c0 : List (Cl 3)) : Prop where
 ru : Own1 (kcl 3) 140 g w u cl
 rv : Own1 (kcl 3) 140 g w v cr
 ra : Own1 (kcl 3) 140 g w a az
 rb : Own1 (kcl 3) 140 g w b bz
 uv : Ne2 u v
 ua : Ne2 u a
 ub : Ne2 u b
 va : Ne2 v a
 vb : Ne2 v b
 ab : Ne2 a b
 ex : ExSep w g Ys c0 u v
 bx : w.heap[g]? = some (.cells bx 86 (0, 0))
 xb : w.heap[b7]? = some (.cells x7 142 (0, 0))
 low : Below g w0 w
section
variable {g b7 : Nat} {w0 w w1 : World} {bx x7 : Array Value} {u v a b u1 a1 : Value} {cl cr az bz zs : List (Cl 3)} {Ys : List EX} {c0 : List (Cl 3)}
theorem SegAt.gle (h : SegAt g b7 w0 w bx x7 u cl v cr a az b bz Ys c0) : g ≤ w.heap.size := Nat.le_of_lt (blk_lt h.bx)
theorem SegAt.swap (h : SegAt g b7 w0 w bx x7 u cl v cr a az b bz Ys c0) : SegAt g b7 w0 w bx x7 v cr u cl b bz a az Ys c0 :=
 ⟨h.rv, h.ru, h.rb, h.ra, h.uv.symm, h.vb, h.va, h.ub, h.ua, h.ab.symm, h.ex.swap, h.bx, h.xb, h.low⟩
theorem SegAt.down (h : SegAt g b7 w0 w bx x7 u cl v cr a az b bz Ys c0) (hb : Below w.heap.size w w1) : SegAt g b7 w0 w1 bx x7 u cl v cr a az b bz Ys c0 :=
 ⟨h.ru.below hb, h.rv.below hb, h.ra.below hb, h.rb.below hb, h.uv, h.ua, h.ub, h.va, h.vb, h.ab, h.ex.low hb, blk_below h.bx hb, blk_below h.xb hb, h.low.trans (hb.mono h.gle)⟩
theorem SegAt.lit (h : SegAt g b7 w0 w bx x7 u cl v cr a az b bz Ys c0) {ok : Nat → Prop} (hr : (kcl 3).R 140 w1 g ok a1 zs) (hb : Below g w0 w1) (hg : w.grownBy w1 none) (hat : ∃ q, a1.ownBlock = some q ∧ w.heap.size ≤ q) : SegAt g b7 w0 w1 bx x7 u cl v cr a1 zs b bz Ys c0 :=
 have hl : Below w.heap.size w w1 := ⟨hg.os, hg.tape, hg.output, hg.size, fun i hi => hg.block i hi (by simp)⟩
 ⟨h.ru.still hg, h.rv.still hg, Own1.flat (flatCl 3) hr, h.rb.still hg, h.uv, (Ne2.fresh h.ru hat).symm, h.ub, (Ne2.fresh h.rv hat).symm, h.vb, Ne2.fresh h.rb hat, h.ex.low hl, blk_below h.bx hl, blk_below h.xb hl, hb⟩
theorem SegAt.grow (h : SegAt g b7 w0 w bx x7 u cl v cr a az b bz Ys c0) {ok : Nat → Prop} (hr : (kcl 3).R 140 w1 g ok u1 zs) (hb : Below g w0 w1) (hg : w.grownBy w1 u.ownBlock) (hat : u1.ownBlock = u.ownBlock ∨ ∃ q, u1.ownBlock = some q ∧ w.heap.size ≤ q) : SegAt g b7 w0 w1 bx x7 u1 zs v cr a az b bz Ys c0 :=
 ⟨Own1.flat (flatCl 3) hr, h.rv.keep hg h.uv.symm, h.ra.keep hg h.ua.symm, h.rb.keep hg h.ub.symm, h.uv.grew h.rv hat, h.ua.grew h.ra hat, h.ub.grew h.rb hat, h.va, h.vb, h.ab, h.ex.grow hg hat, (Same.grown h.ru hg (by decide) _ _ _ h.bx).trans h.bx, (Same.grown h.ru hg (by decide) _ _ _ h.xb).trans h.xb, hb⟩
theorem SegAt.kid (h : SegAt g b7 w0 w bx x7 u cl v cr a az b bz Ys c0) {X : EX} {A : Option Addr} {n c : Nat} (hb : Below w.heap.size w w1) (hx : ExpIs w1 w.heap.size X (.slice A n c)) : SegAt g b7 w0 w1 bx x7 u cl v cr a az b bz (Ys ++ [X]) (c0 ++ [xcl X A n c]) :=
 have k := h.down hb
 ⟨k.ru, k.rv, k.ra, k.rb, k.uv, k.ua, k.ub, k.va, k.vb, k.ab, k.ex.snoc (hx.lower h.gle) (hx.fresh h.ru) (hx.fresh h.rv), k.bx, k.xb, k.low⟩
end
end Go.Proofs.YtkeccgkicffieaaGreatDoor.PTopWider
