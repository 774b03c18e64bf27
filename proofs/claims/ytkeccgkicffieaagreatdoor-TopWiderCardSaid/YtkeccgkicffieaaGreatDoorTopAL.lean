/- What auto's Make reckons, and what stands in memory at each of its rounds. Conditions: none. -/
import Derived.Test.YtkeccgkicffieaaGreatDoorTopAD
import Derived.Test.YtkeccgkicffieaaGreatDoorTopAK
namespace Go.Proofs.YtkeccgkicffieaaGreatDoor.PTopWider
open Go.RowKit Go.Proofs.YtkeccgkicffieaaGreatDoorW.PrintWords Go.Proofs.YtkeccgkicffieaaGreatDoorW.PrintLast Go.Proofs.YtkeccgkicffieaaGreatDoorW.PrintMore
set_option linter.unusedVariables false
set_option linter.unusedSimpArgs false
/-- The places of some expressions, in their order; the mark of each. -/
def vsOf (Xs : List EX) : List Int := Xs.flatMap EX.vs
def marksOf : Nat → List EX → List Int
 | _, [] => []
 | n, X :: r => X.mark n :: marksOf (n + X.vs.length) r
theorem vsOf_snoc (l : List EX) (X : EX) : vsOf (l ++ [X]) = vsOf l ++ X.vs := by simp [vsOf]
theorem marksOf_snoc : ∀ (n : Nat) (l : List EX) (X : EX), marksOf n (l ++ [X]) = marksOf n l ++ [X.mark (n + (vsOf l).length)]
 | n, [], X => by simp [marksOf, vsOf]
 | n, Y :: r, X => by
  have h := marksOf_snoc (n + Y.vs.length) r X
  have h2 : (vsOf (Y :: r)).length = Y.vs.length + (vsOf r).length := by simp [vsOf]
  simp only [List.cons_append, marksOf]
  rw [h, h2, Nat.add_assoc]
theorem marksOf_len : ∀ (n : Nat) (l : List EX), (marksOf n l).length = l.length
 | _, [] => rfl
 | n, X :: r => by simp [marksOf, marksOf_len _ r]
theorem vsOf_take (Xs : List EX) (k : Nat) : (vsOf (Xs.take k)).length ≤ (vsOf Xs).length := by
 have h : vsOf Xs = vsOf (Xs.take k) ++ vsOf (Xs.drop k) := by rw [vsOf, vsOf, vsOf, ← List.flatMap_append, List.take_append_drop]
 rw [h, List.length_append]
 omega
/-- All of some sets. -/
def firstF (l : List Int) : Int := l.foldl (Go.bits .or .u64) 0
/-- Has a set the place i? -/
def hasF (x : Int) (i : Nat) : Bool := Go.bits .and .u64 (x / 2 ^ i) 1 == 1
/-- The places of one class among those that may come. -/
def tG (F : Int) (c : Nat) : List Int → Nat → Int → Int
 | [], _, t => t
 | x :: r, i, t => tG F c r (i + 1) (if hasF F i && (Go.bits .and .u32 (x / 2 ^ c) 1 == 1) then addF t (i : Int) else t)
def tF (F : Int) (S : List Int) (c : Nat) : Int := tG F c S 0 0
/-- What ends at a state. -/
def bitsG (s : Int) : List Int → Nat → Int → Int
 | [], _, b => b
 | p :: r, i, b => bitsG s r (i + 1) (if Go.bits .and .u64 s p != 0 then Go.bits .or .u32 b ((2 : Int) ^ i % 4294967296) else b)
/-- One row: the states so far, the row. -/
def rowA : List Int → List Int → List Int → Option (List Int × List Int)
 | [], sts, row => some (sts, row)
 | t :: T, sts, row =>
  if t ∈ sts then rowA T sts (row ++ [(sts.idxOf t : Int)])
  else if sts.length < 300 then rowA T (sts ++ [t]) (row ++ [(sts.length : Int)]) else none
def loopF (T Ps : List Int) : Nat → Nat → List Int → List (List Int) → List Int → Option (List (List Int) × List Int)
 | 0, _, _, _, _ => none
 | f + 1, k, sts, nx, os =>
  if k < sts.length then
   match rowA T sts [] with
   | none => none
   | some (sts2, row) => loopF T Ps f (k + 1) sts2 (nx ++ [row]) (os ++ [bitsG (sts.getD k 0) Ps 0 0])
  else some (nx, os)
/-- One row's cell; rows of rows. -/
def rowC (A : Option Addr) (n c : Nat) : Cl 1 := ⟨[.slice A n c], rfl, rfl⟩
def NextOk (w : World) (base : Nat) (nx : List (List Int)) (vs : List (Cl 1)) : Prop :=
 vs.length = nx.length ∧ ∀ i, i < nx.length → ∃ A c, vs.getD i (zcl 1) = rowC A (nx.getD i []).length c ∧ Own1 (Kd.int .i64) 3 base w (.slice A (nx.getD i []).length c) (nx.getD i [])
theorem NextOk.same {w w1 : World} {base : Nat} {nx : List (List Int)} {vs : List (Cl 1)} (h : NextOk w base nx vs) (hs : Same 3 w w1) : NextOk w1 base nx vs :=
 ⟨h.1, fun i hi => by obtain ⟨A1, c1, e1, e2⟩ := h.2 i hi; exact ⟨A1, c1, e1, e2.same hs⟩⟩
theorem next_reads {w : World} {base : Nat} {A : Option Addr} {nx : List (List Int)} {vs : List (Cl 1)} (h : Kd.C (kcl 1) w A nx.length vs) (hn : NextOk w base nx vs) : Kd.C (Kd.slice 3 (Kd.int .i64)) w A nx.length nx := by
 refine ⟨rfl, h.2.1, fun h0 => ?_⟩
 obtain ⟨ad, e, hc⟩ := h.2.2 h0
 refine ⟨ad, e, fun j p hj => ?_⟩
 obtain ⟨hl, hp⟩ := List.getElem?_eq_some_iff.1 hj
 have hlv : j < vs.length := by rw [hn.1]; exact hl
 obtain ⟨c1, h1, h2, h3⟩ := hc j _ (List.getElem?_eq_getElem hlv)
 obtain ⟨A1, c2, e1, e2⟩ := hn.2 j hl
 have hgv : vs.getD j (zcl 1) = vs[j] := by simp [List.getD, List.getElem?_eq_getElem hlv]
 have hgn : nx.getD j [] = p := by simp [List.getD, List.getElem?_eq_getElem hl, hp]
 rw [hgv, hgn] at e1
 rw [hgn] at e2
 have h2 : c1 = vs[j].l := h2
 rw [e1] at h2
 subst h2
 exact ⟨_, rfl, ⟨A1, c2, rfl, e2.reads.2.1, e2.reads.2.2⟩, h3⟩
theorem info83v : (Tryz.prog.info? 83).map (fun i => (i.zero, i.size, i.bytes)) = some (some (.slice none 0 0), 1, 24) := by kernel_rfl
/-- What Make comes to. -/
def AutoE (w : World) (res : List (List Int) × List Int) (e : Ending) (w' : World) : Prop :=
 ∃ A c B d, e = .returned (.tuple #[.agg #[.slice A res.1.length c, .slice B res.2.length d], .int .i64 0]) ∧ res.1.length ≤ c ∧ Kd.C (Kd.slice 3 (Kd.int .i64)) w' A res.1.length res.1 ∧ res.2.length ≤ d ∧ Kd.C (Kd.int .u32) w' B res.2.length res.2 ∧ Below w.heap.size w w'
def StsOk (sts : List Int) : Prop := (∀ s ∈ sts, 0 ≤ s ∧ s < 18446744073709551616) ∧ sts.Nodup ∧ sts.length ≤ 300
theorem StsOk.snoc {sts : List Int} (h : StsOk sts) {t : Int} (ht : 0 ≤ t ∧ t < 18446744073709551616) (hn : t ∉ sts) (hl : sts.length < 300) : StsOk (sts ++ [t]) :=
 ⟨fun s hs => by rcases List.mem_append.1 hs with hs | hs; exact h.1 s hs; rw [List.mem_singleton.1 hs]; exact ht, List.nodup_append.2 ⟨h.2.1, by simp, fun a ha b hb => by rw [List.mem_singleton.1 hb]; intro he; subst he; exact hn ha⟩, by rw [List.length_append]; simp; omega⟩
/-- What stands in memory ahead of each round. -/
structure AutoAt (g : Nat) (w2 w : World) (v14 vN vO : Value) (sts : List Int) (nx : List (List Int)) (os : List Int) : Prop where
 st : Own1 (kcl 4) 193 g w v14 (sts.map setC)
 seen : SeenIs w (g + 1 + 1) sts
 out : w.heap[g]? = some (.cells #[vN, vO] 94 (0, 0))
 next : ∃ vs, Own1 (kcl 1) 83 g w vN vs ∧ NextOk w g nx vs
 outs : Own1 (Kd.int .u32) 82 g w vO os
 low : Below g w2 w
theorem AutoAt.below {g : Nat} {w2 w w1 : World} {v14 vN vO : Value} {sts : List Int} {nx : List (List Int)} {os : List Int} (h : AutoAt g w2 w v14 vN vO sts nx os) (hb : Below w.heap.size w w1) : AutoAt g w2 w1 v14 vN vO sts nx os := by
 have hg := blk_lt h.out
 obtain ⟨vs, h1, h2⟩ := h.next
 exact ⟨h.st.same (Same.of_low hb), blk_below h.seen hb, blk_below h.out hb, ⟨vs, h1.same (Same.of_low hb), h2.same (Same.of_low hb)⟩, h.outs.same (Same.of_low hb), h.low.trans (hb.mono (by omega))⟩
/-- One expression's cells; some. -/
def xcl (X : EX) (A : Option Addr) (n c : Nat) : Cl 3 := ⟨[.int .u8 X.op, .int .u32 X.set, .slice A n c], rfl, rfl⟩
def ExOk (w : World) (rb : Nat) (Xs : List EX) (cs : List (Cl 3)) : Prop :=
 cs.length = Xs.length ∧ ∀ i, i < Xs.length → ∃ A n c, cs.getD i (zcl 3) = xcl (Xs.getD i (.one 0)) A n c ∧ ExpIs w rb (Xs.getD i (.one 0)) (.slice A n c)
/-- What of tells, in nine cells. -/
def partC (m : Int) : Cl 9 := ⟨[.bool false, .int .u64 m, .int .u64 0, .int .u64 0, .int .u64 0, .int .u64 m, .int .u64 0, .int .u64 0, .int .u64 0], rfl, rfl⟩
theorem info195 : (Tryz.prog.info? 195).map (fun i => (i.zero, i.size, i.bytes)) = some (some (.agg #[.bool false, .int .u64 0, .int .u64 0, .int .u64 0, .int .u64 0, .int .u64 0, .int .u64 0, .int .u64 0, .int .u64 0]), 9, 72) := by kernel_rfl
theorem add_next (ad : Addr) (k j : Nat) (h : 0 < j) : ad.add (k + j) = ⟨(ad.add k).block, (ad.add k).off + j, none⟩ := by
 have h1 : k + j ≠ 0 := by omega
 by_cases h2 : k = 0
 ·subst h2
  simp [Addr.add, Nat.ne_of_gt h]
 ·simp [Addr.add, h1, h2]
  omega
theorem w64s (n : Nat) (h : n < 1000000) : wrap64 ((n : Int) + 1) = ((n + 1 : Nat) : Int) := by unfold wrap64; omega
theorem take_snoc {α : Type} (l : List α) (i : Nat) (z : α) (h : i < l.length) : l.take (i + 1) = l.take i ++ [l.getD i z] := by
 have := take_next l (i : Int) z (by omega) (by omega)
 rwa [show ((i : Int) + 1).toNat = i + 1 by omega, Int.toNat_natCast] at this
/-- Two rows that grow in any order, each with what is put behind it; what else there was stays. -/
structure FourK {α β : Type} (d : Kd α) (d' : Kd β) (e e' base : Nat) (w0 W : World) (u : Value) (xs : List α) (v : Value) (ys : List β) (a : Value) (az : List α) (b : Value) (bz : List β) : Prop where
 ru : Own1 d e base W u xs
 rv : Own1 d' e' base W v ys
 ra : Own1 d e base W a az
 rb : Own1 d' e' base W b bz
 ua : Ne2 u a
 vb : Ne2 v b
 low : Below base w0 W
 far : ∀ (i : Nat) (o : Obj), w0.heap[i]? = some o → (∀ cs fr, o ≠ Obj.cells cs e fr) → (∀ cs fr, o ≠ Obj.cells cs e' fr) → W.heap[i]? = some o
section
variable {α β : Type} {d : Kd α} {d' : Kd β} {e e' base : Nat} {w0 W w1 : World} {u v a b u1 a1 : Value} {xs az : List α} {ys bz : List β}
theorem FourK.swap (h : FourK d d' e e' base w0 W u xs v ys a az b bz) : FourK d' d e' e base w0 W v ys u xs b bz a az :=
 ⟨h.rv, h.ru, h.rb, h.ra, h.vb, h.ua, h.low, fun i o h1 h2 h3 => h.far i o h1 h3 h2⟩
theorem FourK.lit (h : FourK d d' e e' base w0 W u xs v ys a az b bz) (hd : Flat d) {zs : List α} {ok : Nat → Prop} (hr : d.R e w1 base ok a1 zs) (hb : Below base w0 w1) (hg : W.grownBy w1 none) (hat : ∃ q, a1.ownBlock = some q ∧ W.heap.size ≤ q) : FourK d d' e e' base w0 w1 u xs v ys a1 zs b bz :=
 ⟨h.ru.still hg, h.rv.still hg, Own1.flat hd hr, h.rb.still hg, (Ne2.fresh h.ru hat).symm, h.vb, hb, fun i o h1 h2 h3 => (hg.block i (blk_lt (h.far i o h1 h2 h3)) (by simp)).trans (h.far i o h1 h2 h3)⟩
theorem FourK.grow (h : FourK d d' e e' base w0 W u xs v ys a az b bz) (hd : Flat d) (hne : e ≠ e') {zs : List α} {ok : Nat → Prop} (hr : d.R e w1 base ok u1 zs) (hb : Below base w0 w1) (hg : W.grownBy w1 u.ownBlock) (hat : u1.ownBlock = u.ownBlock ∨ ∃ q, u1.ownBlock = some q ∧ W.heap.size ≤ q) : FourK d d' e e' base w0 w1 u1 zs v ys a az b bz :=
 ⟨Own1.flat hd hr, h.rv.keep hg (Ne2.typed h.rv h.ru hne.symm), h.ra.keep hg h.ua.symm, h.rb.keep hg (Ne2.typed h.rb h.ru hne.symm), h.ua.grew h.ra hat, h.vb, hb, fun i o h1 h2 h3 => by
  have hW := h.far i o h1 h2 h3
  refine (hg.block i (blk_lt hW) (fun he => ?_)).trans hW
  obtain ⟨inner, ho⟩ := Kd.R_own h.ru
  obtain ⟨cells, h4⟩ := own_typed ho i he.symm
  rw [h4] at hW
  injection hW with hW
  exact h2 _ _ hW.symm⟩
theorem FourK.start (hu : Own1 d e base W u xs) (hv : Own1 d' e' base W v ys) (hb : Below base w0 W) (hf : Below w0.heap.size w0 W) : FourK d d' e e' base w0 W u xs v ys (.slice none 0 0) [] (.slice none 0 0) [] :=
 ⟨hu, hv, Own1.nil _ _ _ _, Own1.nil _ _ _ _, (Ne2.nil _).symm, (Ne2.nil _).symm, hb, fun i o h1 _ _ => (hf.block i (blk_lt h1)).trans h1⟩
theorem FourK.blk (h : FourK d d' e e' base w0 W u xs v ys a az b bz) {g t : Nat} {cs : Array Value} {fr : Nat × Nat} (hg : w0.heap[g]? = some (.cells cs t fr)) (h1 : t ≠ e) (h2 : t ≠ e') : W.heap[g]? = some (.cells cs t fr) :=
 h.far g _ hg (fun _ _ he => by injection he with _ he; exact h1 he) (fun _ _ he => by injection he with _ he; exact h2 he)
theorem FourK.same (h : FourK d d' e e' base w0 W u xs v ys a az b bz) {t : Nat} (h1 : t ≠ e) (h2 : t ≠ e') : Same t w0 W := fun g cs fr hc => (h.blk hc h1 h2).trans hc.symm
end
theorem NextOk.snoc {w : World} {base : Nat} {nx : List (List Int)} {vs : List (Cl 1)} (h : NextOk w base nx vs) {A : Option Addr} {n c : Nat} {row : List Int} (hn : n = row.length) (hr : Own1 (Kd.int .i64) 3 base w (.slice A n c) row) : NextOk w base (nx ++ [row]) (vs ++ [rowC A n c]) := by
 subst hn
 refine ⟨by simp [h.1], fun i hi => ?_⟩
 rw [List.length_append, List.length_singleton] at hi
 by_cases hl : i < nx.length
 ·obtain ⟨A1, c1, e1, e2⟩ := h.2 i hl
  have hv : i < vs.length := by rw [h.1]; exact hl
  have a1 : (vs ++ [rowC A row.length c]).getD i (zcl 1) = vs.getD i (zcl 1) := by simp [List.getD, List.getElem?_append_left hv]
  have a2 : (nx ++ [row]).getD i [] = nx.getD i [] := by simp [List.getD, List.getElem?_append_left hl]
  rw [a1, a2]
  exact ⟨A1, c1, e1, e2⟩
 ·have he : i = nx.length := by omega
  subst he
  have a1 : (vs ++ [rowC A row.length c]).getD nx.length (zcl 1) = rowC A row.length c := by rw [← h.1]; simp [List.getD]
  have a2 : (nx ++ [row]).getD nx.length [] = row := by simp [List.getD]
  rw [a1, a2]
  exact ⟨A, c, rfl, hr⟩
/-- Within a round: the states so far; what is not theirs stays as it was at the round's beginning; b is the new row's block. -/
structure AutoMid (g : Nat) (w2 w5 w : World) (v14 : Value) (sts : List Int) (b : Nat) : Prop where
 st : Own1 (kcl 4) 193 g w v14 (sts.map setC)
 seen : SeenIs w (g + 1 + 1) sts
 low : Below g w2 w
 row : ∀ k cs fr, k ≠ b → w5.heap[k]? = some (.cells cs 3 fr) → w.heap[k]? = some (.cells cs 3 fr)
theorem AutoMid.of {g : Nat} {w2 w5 w : World} {v14 vN vO : Value} {sts : List Int} {nx : List (List Int)} {os : List Int} (h : AutoAt g w2 w5 v14 vN vO sts nx os) (hb : Below w5.heap.size w5 w) (b : Nat) : AutoMid g w2 w5 w v14 sts b :=
 have h2 := h.below hb
 ⟨h2.st, h2.seen, h2.low, fun k cs fr _ hc => (hb.block k (blk_lt hc)).trans hc⟩
theorem AutoMid.below {g b : Nat} {w2 w5 w w1 : World} {v14 : Value} {sts : List Int} (h : AutoMid g w2 w5 w v14 sts b) (hb : Below w.heap.size w w1) : AutoMid g w2 w5 w1 v14 sts b :=
 have hg := blk_lt h.seen
 ⟨h.st.same (Same.of_low hb), blk_below h.seen hb, h.low.trans (hb.mono (by omega)), fun k cs fr hk hc => blk_below (h.row k cs fr hk hc) hb⟩
theorem AutoMid.store {g b : Nat} {w2 w5 w : World} {v14 : Value} {sts : List Int} (h : AutoMid g w2 w5 w v14 sts b) {cs : Array Value} (hb : w.heap[b]? = some (.cells cs 3 (0, 0))) (hg : g ≤ b) (i : Nat) (v : Value) : AutoMid g w2 w5 (w.setCell ⟨b, i, none⟩ v) v14 sts b :=
 have kz : KB w (w.setCell ⟨b, i, none⟩ v) b := kb_set (kb_refl _ _) i v
 ⟨h.st.same (Same.kb kz hb (by decide)), kb_blk kz h.seen (fun he => by have := h.seen; rw [SeenIs, he, hb] at this; cases this), h.low.setCell (p := ⟨b, i, none⟩) hg v, fun k cs fr hk hc => kb_blk kz (h.row k cs fr hk hc) hk⟩
/-- A state more. -/
theorem AutoMid.put {g b : Nat} {w2 w5 w w1 : World} {v14 v1 : Value} {sts : List Int} (h : AutoMid g w2 w5 w v14 sts b) (t : Int) {ok : Nat → Prop} (hr : (kcl 4).R 193 w1 g ok v1 ((sts ++ [t]).map setC)) (hb : Below g w2 w1) (hg : (putMap w (g + 1 + 1) (.map (seenEs (sts ++ [t])) (sts ++ [t]).length)).grownBy w1 v14.ownBlock) : AutoMid g w2 w5 w1 v1 (sts ++ [t]) b :=
 have hm := h.seen
 have hst := h.st.same (Same.putMap hm)
 ⟨Own1.flat (flatCl 4) hr, grown_map hst hg (putMap_at hm), hb, fun k cs fr hk hc => by
  have h1 := h.row k cs fr hk hc
  have h2 := (Same.putMap (o := .map (seenEs (sts ++ [t])) (sts ++ [t]).length) hm k cs fr h1).trans h1
  exact (Same.grown (t := 3) hst hg (by decide) k cs fr h2).trans h2⟩
/-- What a round's end leaves. -/
theorem auto_mid_end {g b : Nat} {w2 w5 w : World} {v14 v14' vN vO : Value} {sts sts2 : List Int} {nx : List (List Int)} {os : List Int} (hA : AutoAt g w2 w5 v14' vN vO sts nx os) (hM : AutoMid g w2 w5 w v14 sts2 b) (hT : ∀ t, t ≠ 193 → t ≠ 3 → Same t w5 w) (hb : w5.heap.size ≤ b) :
  ∃ vs, Own1 (kcl 1) 83 g w vN vs ∧ NextOk w g nx vs ∧ Own1 (Kd.int .u32) 82 g w vO os ∧ w.heap[g]? = some (.cells #[vN, vO] 94 (0, 0)) := by
 obtain ⟨vs, h1, h2⟩ := hA.next
 refine ⟨vs, h1.same (hT 83 (by decide) (by decide)), ⟨h2.1, fun i hi => ?_⟩, hA.outs.same (hT 82 (by decide) (by decide)), ((hT 94 (by decide) (by decide)) _ _ _ hA.out).trans hA.out⟩
 obtain ⟨A1, c1, e1, e2⟩ := h2.2 i hi
 refine ⟨A1, c1, e1, ?_⟩
 refine Kd.R_step e2 (fun k hk hlt => ?_)
 obtain ⟨inner, ho⟩ := Kd.R_own e2
 obtain ⟨cells, hc⟩ := own_typed ho k hk
 exact (hM.row k cells (0, 0) (fun he => by omega) hc).trans hc.symm
theorem auto_end {g b N c : Nat} {w2 w5 w0 W : World} {v14 vN vO u v a bv : Value} {sts : List Int} {nx : List (List Int)} {vs az : List (Cl 1)} {os row bz : List Int} (x : Int) (hM : AutoMid g w2 w5 w0 v14 sts b) (hN : NextOk w0 g nx vs) (hr : Own1 (Kd.int .i64) 3 g w0 (.slice (some ⟨b, 0, none⟩) N c) row) (hl : N = row.length) (ho : w0.heap[g]? = some (.cells #[vN, vO] 94 (0, 0)))
  (F : FourK (kcl 1) (Kd.int .u32) 83 82 g w0 W u (vs ++ [rowC (some ⟨b, 0, none⟩) N c]) v (os ++ [x]) a az bv bz) : AutoAt g w2 ((W.setCell ⟨g, 0, none⟩ u).setCell ⟨g, 1, none⟩ v) v14 u v sts (nx ++ [row]) (os ++ [x]) := by
 have k1 := F.blk ho (by decide) (by decide)
 have kz : KB W ((W.setCell ⟨g, 0, none⟩ u).setCell ⟨g, 1, none⟩ v) g := kb_set (kb_set (kb_refl _ _) 0 _) 1 _
 have k2 : ((W.setCell ⟨g, 0, none⟩ u).setCell ⟨g, 1, none⟩ v).heap[g]? = some (.cells #[u, v] 94 (0, 0)) := blk_set (blk_set k1 0 _) 1 _
 have sm : ∀ t, t ≠ 94 → Same t W ((W.setCell ⟨g, 0, none⟩ u).setCell ⟨g, 1, none⟩ v) := fun t ht => Same.kb kz k1 ht
 have s3 := (F.same (t := 3) (by decide) (by decide)).trans (sm 3 (by decide))
 have hs := F.far _ _ hM.seen (fun _ _ he => by cases he) (fun _ _ he => by cases he)
 exact ⟨hM.st.same ((F.same (by decide) (by decide)).trans (sm 193 (by decide))), kb_blk kz hs (by omega), k2, ⟨_, F.ru.same (sm 83 (by decide)), (hN.same s3).snoc hl (hr.same s3)⟩, F.rv.same (sm 82 (by decide)), (hM.low.trans F.low).trans (kb_low kz (Nat.le_refl _) (by have := blk_lt k1; omega))⟩
theorem row_set (rx : List Int) (N ci : Nat) (x : Int) (hl : rx.length = ci) (hci : ci < N) : (rx ++ List.replicate (N - ci) 0).set (ci : Int).toNat x = (rx ++ [x]) ++ List.replicate (N - (ci + 1)) 0 := by
 obtain ⟨m, hm⟩ : ∃ m, N - ci = m + 1 := ⟨N - ci - 1, by omega⟩
 have h2 : N - (ci + 1) = m := by omega
 subst hl
 rw [hm, h2, Int.toNat_natCast, List.set_append_right _ _ (Nat.le_refl _), Nat.sub_self, List.replicate_succ, List.set_cons_zero, List.append_assoc]
 rfl
/-- The row's next number is stored. -/
theorem auto_store {g b N ci c f : Nat} {w2 w5 w : World} {v14 : Value} {sts rx : List Int} {cs : Array Value} (hM : AutoMid g w2 w5 w v14 sts b) (hR : Own1 (Kd.int .i64) 3 g w (.slice (some ⟨b, 0, none⟩) N c) (rx ++ List.replicate (N - ci) 0)) (hl : rx.length = ci) (hci : ci < N) (hT : ∀ t, t ≠ 193 → t ≠ 3 → Same t w5 w) (hF : w.heap[f]? = some (.cells cs 193 (0, 0))) (x : Int) :
  AutoMid g w2 w5 (w.setCell ⟨b, ci, none⟩ (.int .i64 x)) v14 sts b ∧ Own1 (Kd.int .i64) 3 g (w.setCell ⟨b, ci, none⟩ (.int .i64 x)) (.slice (some ⟨b, 0, none⟩) N c) ((rx ++ [x]) ++ List.replicate (N - (ci + 1)) 0) ∧ (∀ t, t ≠ 193 → t ≠ 3 → Same t w5 (w.setCell ⟨b, ci, none⟩ (.int .i64 x))) ∧ (w.setCell ⟨b, ci, none⟩ (.int .i64 x)).heap[f]? = some (.cells cs 193 (0, 0)) := by
 obtain ⟨b', c', he, hg, _, cells, hc⟩ := Kd.R_form hR (by rw [List.length_append, List.length_replicate]; omega)
 injection he with he _ _
 injection he with he
 injection he with he _ _
 subst he
 have kz : KB w (w.setCell ⟨b, ci, none⟩ (.int .i64 x)) b := kb_set (kb_refl _ _) ci _
 have R16 := Kd.R_putn hR (ci : Int) x
 rw [row_set rx N ci x hl hci, Int.toNat_natCast] at R16
 exact ⟨hM.store hc hg ci _, Own1.flat (flatInt .i64) R16, fun t h1 h2 => (hT t h1 h2).trans (Same.kb kz hc h2), kb_blk kz hF (fun he => by rw [he, hc] at hF; injection hF with hF; injection hF with _ hF _; cases hF)⟩
end Go.Proofs.YtkeccgkicffieaaGreatDoor.PTopWider
