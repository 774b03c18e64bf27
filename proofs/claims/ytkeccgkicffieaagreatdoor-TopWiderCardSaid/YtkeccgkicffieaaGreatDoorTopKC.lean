/- Several rows of numbers, each in a block of its own; what least's number reckons. Conditions: none. -/
import Derived.Test.YtkeccgkicffieaaGreatDoorTopKA
import Derived.Test.YtkeccgkicffieaaGreatDoorTopG
namespace Go.Proofs.YtkeccgkicffieaaGreatDoor.PTopWider
open Go.RowKit Go.Proofs.YtkeccgkicffieaaGreatDoorW.PrintWords Go.Proofs.YtkeccgkicffieaaGreatDoorW.PrintLast Go.Proofs.YtkeccgkicffieaaGreatDoorW.PrintMore
set_option linter.unusedVariables false
set_option linter.unusedSimpArgs false
/-- A row of numbers: where, room, what. -/
structure Ent where
 A : Option Addr
 c : Nat
 xs : List Int
def Ent.v (e : Ent) : Value := .slice e.A e.xs.length e.c
def Ent.cl (e : Ent) : Cl 1 := rowC e.A e.xs.length e.c
/-- Rows, each in a block of its own. -/
def Rows3 (w : World) (g : Nat) (l : List Ent) : Prop := (∀ e ∈ l, Own1 (Kd.int .i64) 3 g w e.v e.xs) ∧ l.Pairwise (fun a b => Ne2 a.v b.v)
theorem Rows3.same {w w1 : World} {g : Nat} {l : List Ent} (h : Rows3 w g l) (hs : Same 3 w w1) : Rows3 w1 g l := ⟨fun e he => (h.1 e he).same hs, h.2⟩
theorem Rows3.perm {w : World} {g : Nat} {l l' : List Ent} (h : Rows3 w g l) (hp : l.Perm l') : Rows3 w g l' :=
 ⟨fun e he => h.1 e (hp.symm.subset he), (hp.pairwise_iff (fun h => Ne2.symm h)).1 h.2⟩
theorem Rows3.nil {w : World} {g : Nat} {l : List Ent} (h : Rows3 w g l) : Rows3 w g (⟨none, 0, []⟩ :: l) :=
 ⟨fun e he => by rcases List.mem_cons.1 he with rfl | he; exact Own1.nil _ _ _ _; exact h.1 e he, List.pairwise_cons.2 ⟨fun e _ => Ne2.nil _, h.2⟩⟩
/-- The first row grows, or is written. -/
theorem Rows3.step {w w1 : World} {g : Nat} {e : Ent} {l : List Ent} {v1 : Value} {ys : List Int} (h : Rows3 w g (e :: l)) (hr : Own1 (Kd.int .i64) 3 g w1 v1 ys) (hg : w.grownBy w1 e.v.ownBlock) (hat : v1.ownBlock = e.v.ownBlock ∨ ∃ b, v1.ownBlock = some b ∧ w.heap.size ≤ b) :
  ∃ A c, v1 = .slice A ys.length c ∧ Rows3 w1 g (⟨A, c, ys⟩ :: l) := by
 obtain ⟨A, c, he⟩ := Kd.R_slice hr
 refine ⟨A, c, he, fun x hx => ?_, List.pairwise_cons.2 ⟨fun x hx => ?_, (List.pairwise_cons.1 h.2).2⟩⟩
 ·rcases List.mem_cons.1 hx with rfl | hx
  ·rw [he] at hr
   exact hr
  ·exact (h.1 x (List.mem_cons_of_mem _ hx)).keep hg ((List.pairwise_cons.1 h.2).1 x hx).symm
 ·have := ((List.pairwise_cons.1 h.2).1 x hx).grew (h.1 x (List.mem_cons_of_mem _ hx)) hat
  rw [he] at this
  exact this
theorem Rows3.add {w w1 : World} {g : Nat} {l : List Ent} {v1 : Value} {ys : List Int} (h : Rows3 w g l) (hr : Own1 (Kd.int .i64) 3 g w1 v1 ys) (hb : Below w.heap.size w w1) (hat : ∃ b, v1.ownBlock = some b ∧ w.heap.size ≤ b) :
  ∃ A c, v1 = .slice A ys.length c ∧ Rows3 w1 g (⟨A, c, ys⟩ :: l) :=
 h.nil.step hr (grown_of_below hb _) (.inr hat)
theorem Rows3.store {w : World} {g b i : Nat} {c : Nat} {xs : List Int} {l : List Ent} (h : Rows3 w g (⟨some ⟨b, 0, none⟩, c, xs⟩ :: l)) (x : Int) : Rows3 (w.setCell ⟨b, i, none⟩ (.int .i64 x)) g (⟨some ⟨b, 0, none⟩, c, xs.set i x⟩ :: l) := by
 have h0 := h.1 _ List.mem_cons_self
 have r := Kd.R_putg (show (Kd.int .i64).R 3 w g _ (.slice (some ⟨b, 0, none⟩) xs.length c) xs from h0) (i : Int) x
 rw [Int.toNat_natCast] at r
 refine ⟨fun e he => ?_, List.pairwise_cons.2 ⟨fun e he => (List.pairwise_cons.1 h.2).1 e he, (List.pairwise_cons.1 h.2).2⟩⟩
 rcases List.mem_cons.1 he with rfl | he
 ·have := Own1.flat (flatInt .i64) r.1
  simpa [Ent.v] using this
 ·exact (h.1 e (List.mem_cons_of_mem _ he)).grown r.2 (fun k hk he2 => (List.pairwise_cons.1 h.2).1 e he k (by rw [← he2]; rfl) hk)
theorem Rows3.get {w : World} {g b c : Nat} {xs : List Int} {l : List Ent} (h : Rows3 w g l) (hm : (⟨some ⟨b, 0, none⟩, c, xs⟩ : Ent) ∈ l) (i : Int) (h0 : 0 ≤ i) (h1 : i < xs.length) : w.cell? ⟨b, i.toNat, none⟩ = some (.int .i64 (rd xs i)) ∧ w.frozen? ⟨b, i.toNat, none⟩ = false := by
 have ho := h.1 _ hm
 obtain ⟨cE, _, hME, hccE, hfE⟩ := Kd.R_elem (show (Kd.int .i64).R 3 w g _ (.slice (some ⟨b, 0, none⟩) xs.length c) xs from ho) (0 : Int) i h0 h1
 have hME : cE = [.int .i64 (xs.getD i.toNat 0)] := hME
 subst hME
 have eE : i.toNat * (Kd.int .i64).sz + 0 = i.toNat := Nat.mul_one _
 have n0 := hccE 0 _ rfl
 rw [eE] at n0
 have n1 := hfE 0
 rw [eE] at n1
 exact ⟨n0, n1⟩
theorem own_put {B b n c i : Nat} {w0 w : World} {xs : List Int} (hR : Own1 (Kd.int .i64) 3 B w (.slice (some ⟨b, 0, none⟩) n c) xs) (hi : i < n) (hb : Below B w0 w) (x : Int) :
  Own1 (Kd.int .i64) 3 B (w.setCell ⟨b, i, none⟩ (.int .i64 x)) (.slice (some ⟨b, 0, none⟩) n c) (xs.set i x) ∧ (∀ t, t ≠ 3 → Same t w (w.setCell ⟨b, i, none⟩ (.int .i64 x))) ∧ Below B w0 (w.setCell ⟨b, i, none⟩ (.int .i64 x)) := by
 have hn := (Own1.reads hR).1
 obtain ⟨b', c', he, hg, _, cells, hc⟩ := Kd.R_form hR (by omega)
 injection he with he _ _
 injection he with he
 injection he with he _ _
 subst he
 have kz : KB w (w.setCell ⟨b, i, none⟩ (.int .i64 x)) b := kb_set (kb_refl _ _) i _
 have R16 := Kd.R_putn hR (i : Int) x
 rw [Int.toNat_natCast] at R16
 exact ⟨Own1.flat (flatInt .i64) R16, fun t ht => Same.kb kz hc ht, hb.setCell (p := ⟨b, i, none⟩) hg _⟩
theorem own_cell {B b n c : Nat} {w : World} {xs : List Int} (hR : Own1 (Kd.int .i64) 3 B w (.slice (some ⟨b, 0, none⟩) n c) xs) (i : Int) (h0 : 0 ≤ i) (h1 : i < n) : w.cell? ⟨b, i.toNat, none⟩ = some (.int .i64 (rd xs i)) ∧ w.frozen? ⟨b, i.toNat, none⟩ = false := by
 obtain ⟨cE, _, hME, hccE, hfE⟩ := Kd.R_elem hR (0 : Int) i h0 h1
 have hME : cE = [.int .i64 (xs.getD i.toNat 0)] := hME
 subst hME
 have eE : i.toNat * (Kd.int .i64).sz + 0 = i.toNat := Nat.mul_one _
 have n0 := hccE 0 _ rfl
 rw [eE] at n0
 have n1 := hfE 0
 rw [eE] at n1
 exact ⟨n0, n1⟩
theorem cell_low {B : Nat} {w w1 : World} (h : Below B w w1) (hs : w.heap.size = B) {a : Addr} {v : Value} (hc : w.cell? a = some v) : w1.cell? a = some v := by
 subst hs
 exact pw_cell_below h hc
theorem C_low {α : Type} {d : Kd α} {B : Nat} {w w1 : World} (h : Below B w w1) (hs : w.heap.size = B) {A : Option Addr} {n : Nat} {xs : List α} (hc : Kd.C d w A n xs) : Kd.C d w1 A n xs := by
 subst hs
 exact Kd.C_below hc h
theorem row_set' (i n : Nat) (x : Int) (hi : i < n) : (List.replicate i x ++ List.replicate (n - i) 0).set i x = List.replicate (i + 1) x ++ List.replicate (n - (i + 1)) 0 := by
 have h := row_set (List.replicate i x) n i x (by simp) hi
 rw [Int.toNat_natCast] at h
 rw [h, List.replicate_succ']
/-- One state's row. -/
def turnF (kind : List Int) : List Int → List Int → List Int → List Int → Option (List Int × List Int × List Int)
 | [], place, line, row => some (place, line, row)
 | t :: r, place, line, row =>
  if 0 ≤ t ∧ t < kind.length ∧ 0 ≤ rd kind t ∧ rd kind t < place.length ∧ line.length < 1000 ∧ row.length < 1000 then
   if rd place (rd kind t) < 0 then turnF kind r (place.set (rd kind t).toNat (line.length : Int)) (line ++ [t]) (row ++ [(line.length : Int)])
   else turnF kind r place line (row ++ [rd place (rd kind t)])
  else none
def numL (kind : List Int) (next : List (List Int)) (out : List Int) : Nat → Nat → List Int → List Int → List (List Int) → List Int → Option (List (List Int) × List Int)
 | 0, _, _, _, _, _ => none
 | f + 1, i, place, line, nx, os =>
  if i < line.length then
   if 0 ≤ rd line i ∧ rd line i < next.length ∧ rd line i < out.length ∧ i < 1000 ∧ nx.length < 1000 ∧ os.length < 1000 ∧ (rd_L4 next (rd line i)).length < 1000 then
    match turnF kind (rd_L4 next (rd line i)) place line [] with
    | none => none
    | some (p2, l2, row) => numL kind next out f (i + 1) p2 l2 (nx ++ [row]) (os ++ [rd out (rd line i)])
   else none
  else some (nx, os)
def numF (fuel : Nat) (kind : List Int) (next : List (List Int)) (out : List Int) : Option (List (List Int) × List Int) :=
 match least_most.f fuel kind with
 | none => none
 | some m => if 0 ≤ m ∧ m < 1000 ∧ 0 < kind.length ∧ 0 ≤ rd kind 0 ∧ rd kind 0 ≤ m then numL kind next out fuel 0 ((List.replicate (m + 1).toNat (-1)).set (rd kind 0).toNat 0) [0] [] [] else none
/-- An automaton in rows of one's own. -/
def AutOwn (w : World) (base : Nat) (res : List (List Int) × List Int) (A : Option Addr) (c : Nat) (B : Option Addr) (d : Nat) : Prop :=
 ∃ vs, Own1 (kcl 1) 83 base w (.slice A res.1.length c) vs ∧ NextOk w base res.1 vs ∧ Own1 (Kd.int .u32) 82 base w (.slice B res.2.length d) res.2
theorem AutOwn.same {w w1 : World} {base : Nat} {res : List (List Int) × List Int} {A B : Option Addr} {c d : Nat} (h : AutOwn w base res A c B d) (h1 : Same 83 w w1) (h2 : Same 3 w w1) (h3 : Same 82 w w1) : AutOwn w1 base res A c B d := by
 obtain ⟨vs, a, b, e⟩ := h
 exact ⟨vs, a.same h1, b.same h2, e.same h3⟩
theorem AutOwn.lower {w : World} {base b' : Nat} {res : List (List Int) × List Int} {A B : Option Addr} {c d : Nat} (h : AutOwn w base res A c B d) (hb : b' ≤ base) : AutOwn w b' res A c B d := by
 obtain ⟨vs, a, b, e⟩ := h
 exact ⟨vs, a.lower hb, ⟨b.1, fun i hi => by obtain ⟨A1, c1, e1, e2⟩ := b.2 i hi; exact ⟨A1, c1, e1, e2.lower hb⟩⟩, e.lower hb⟩
theorem AutOwn.reads {w : World} {base : Nat} {res : List (List Int) × List Int} {A B : Option Addr} {c d : Nat} (h : AutOwn w base res A c B d) : res.1.length ≤ c ∧ Kd.C (Kd.slice 3 (Kd.int .i64)) w A res.1.length res.1 ∧ res.2.length ≤ d ∧ Kd.C (Kd.int .u32) w B res.2.length res.2 := by
 obtain ⟨vs, a, b, e⟩ := h
 have h1 := a.reads
 have h2 := e.reads
 have hl := b.1
 refine ⟨by omega, next_reads (vs := vs) (base := base) ?_ b, h2.2.1, h2.2.2⟩
 have h3 := h1.2.2
 rw [hl] at h3
 exact h3
/-- What number comes to. -/
def NumE (w : World) (res : List (List Int) × List Int) (e : Ending) (w' : World) : Prop :=
 ∃ A c B d, e = .returned (.agg #[.slice A res.1.length c, .slice B res.2.length d]) ∧ AutOwn w' w.heap.size res A c B d ∧ Below w.heap.size w w'
/-- What least's Make comes to. -/
def LeastE (w : World) (res : List (List Int) × List Int) (e : Ending) (w' : World) : Prop :=
 ∃ A c B d, e = .returned (.tuple #[.agg #[.slice A res.1.length c, .slice B res.2.length d], .int .i64 0]) ∧ AutOwn w' w.heap.size res A c B d ∧ Below w.heap.size w w'
/-- What stands in memory ahead of each round; rs: the rows so far. -/
structure NumAt (g : Nat) (w0 w : World) (box : Array Value) (rs : List Ent) (vN vO : Value) (os : List Int) : Prop where
 bx : w.heap[g]? = some (.cells box 94 (0, 0))
 rb : w.heap[g + 1]? = some (.cells #[.slice none 0 0, .slice none 0 0] 94 (0, 0))
 out : w.heap[g + 1 + 1]? = some (.cells #[vN, vO] 94 (0, 0))
 next : Own1 (kcl 1) 83 g w vN (rs.map Ent.cl)
 outs : Own1 (Kd.int .u32) 82 g w vO os
 low : Below g w0 w
theorem NumAt.step {g : Nat} {w0 w w1 : World} {box : Array Value} {rs : List Ent} {vN vO : Value} {os : List Int} (h : NumAt g w0 w box rs vN vO os) (hs : ∀ t, t ≠ 3 → Same t w w1) (hl : Below g w0 w1) : NumAt g w0 w1 box rs vN vO os :=
 have s94 := hs 94 (by decide)
 ⟨(s94 _ _ _ h.bx).trans h.bx, (s94 _ _ _ h.rb).trans h.rb, (s94 _ _ _ h.out).trans h.out, h.next.same (hs 83 (by decide)), h.outs.same (hs 82 (by decide)), hl⟩
theorem ents_own {w : World} {g : Nat} {rs l : List Ent} (hr : Rows3 w g l) (hm : ∀ e ∈ rs, e ∈ l) : NextOk w g (rs.map Ent.xs) (rs.map Ent.cl) := by
 refine ⟨by simp, fun i hi => ?_⟩
 rw [List.length_map] at hi
 have e1 : (rs.map Ent.cl).getD i (zcl 1) = (rs[i]).cl := by simp [List.getD, List.getElem?_eq_getElem hi]
 have e2 : (rs.map Ent.xs).getD i [] = (rs[i]).xs := by simp [List.getD, List.getElem?_eq_getElem hi]
 rw [e1, e2]
 exact ⟨_, _, rfl, hr.1 _ (hm _ (List.getElem_mem hi))⟩
theorem rd_set_self (xs : List Int) (i x : Int) (h0 : 0 ≤ i) (h1 : i < xs.length) : rd (xs.set i.toNat x) i = x := by
 have h : i.toNat < xs.length := by omega
 simp [rd, List.getD, h]
theorem rd_snoc (xs : List Int) (i : Nat) (x : Int) (h : i < xs.length) : rd (xs ++ [x]) i = rd xs i := by
 simp [rd, List.getD, List.getElem?_append_left h]
theorem num_end {g c : Nat} {w0 w7 W : World} {box : Array Value} {rs : List Ent} {vN vO u v a bv : Value} {os row bz : List Int} {az : List (Cl 1)} {A : Option Addr} (x : Int) (h : NumAt g w0 w7 box rs vN vO os)
  (F : FourK (kcl 1) (Kd.int .u32) 83 82 g w7 W u (rs.map Ent.cl ++ [rowC A row.length c]) v (os ++ [x]) a az bv bz) :
  NumAt g w0 ((W.setCell ⟨g + 1 + 1, 0, none⟩ u).setCell ⟨g + 1 + 1, 1, none⟩ v) box (rs ++ [⟨A, c, row⟩]) u v (os ++ [x]) ∧ Same 3 w7 ((W.setCell ⟨g + 1 + 1, 0, none⟩ u).setCell ⟨g + 1 + 1, 1, none⟩ v) := by
 have k1 := F.blk h.out (by decide) (by decide)
 have kz : KB W ((W.setCell ⟨g + 1 + 1, 0, none⟩ u).setCell ⟨g + 1 + 1, 1, none⟩ v) (g + 1 + 1) := kb_set (kb_set (kb_refl _ _) 0 _) 1 _
 have k2 : ((W.setCell ⟨g + 1 + 1, 0, none⟩ u).setCell ⟨g + 1 + 1, 1, none⟩ v).heap[g + 1 + 1]? = some (.cells #[u, v] 94 (0, 0)) := blk_set (blk_set k1 0 _) 1 _
 have sm : ∀ t, t ≠ 94 → Same t W ((W.setCell ⟨g + 1 + 1, 0, none⟩ u).setCell ⟨g + 1 + 1, 1, none⟩ v) := fun t ht => Same.kb kz k1 ht
 refine ⟨⟨kb_blk kz (F.blk h.bx (by decide) (by decide)) (by omega), kb_blk kz (F.blk h.rb (by decide) (by decide)) (by omega), k2, ?_, F.rv.same (sm 82 (by decide)), (h.low.trans F.low).trans (kb_low kz (by omega) (by have := blk_lt k1; omega))⟩, (F.same (t := 3) (by decide) (by decide)).trans (sm 3 (by decide))⟩
 have h3 := F.ru.same (sm 83 (by decide))
 rw [List.map_append]
 exact h3
end Go.Proofs.YtkeccgkicffieaaGreatDoor.PTopWider
