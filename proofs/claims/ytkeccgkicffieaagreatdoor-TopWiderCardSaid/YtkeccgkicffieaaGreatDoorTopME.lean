/- What is read stays where only empty pointers are written over. Conditions: none. -/
import Derived.Test.YtkeccgkicffieaaGreatDoorTopMA
import Derived.Test.YtkeccgkicffieaaGreatDoorTopLB
import Derived.Test.YtkeccgkicffieaaGreatDoorTopY
import Derived.Test.YtkeccgkicffieaaGreatDoorTopT
import Derived.Test.YtkeccgkicffieaaGreatDoorTopLE
namespace Go.Proofs.YtkeccgkicffieaaGreatDoor.PTopWider
open Go.RowKit Go.Proofs.YtkeccgkicffieaaGreatDoorW.PrintWords Go.Proofs.YtkeccgkicffieaaGreatDoorW.PrintLast Go.Proofs.YtkeccgkicffieaaGreatDoorW.PrintMore
set_option linter.unusedVariables false
def Stay (w w1 : World) : Prop := ∀ a v, w.cell? a = some v → v ≠ .pointer none → w1.cell? a = some v
theorem Stay.trans {w w1 w2 : World} (h : Stay w w1) (k : Stay w1 w2) : Stay w w2 := fun a v hc hv => k a v (h a v hc hv) hv
theorem Stay.low {w w1 : World} (h : Below w.heap.size w w1) : Stay w w1 := fun a v hc _ => pw_cell_below h hc
theorem Stay.set {w : World} {p : Addr} {v : Value} (h : w.cell? p = some (.pointer none)) : Stay w (w.setCell p v) := fun a u hc hu => by
 by_cases he : p = a
 ·subst he
  rw [h] at hc
  injection hc with hc
  exact absurd hc.symm hu
 ·rw [World.cell?_setCell_other (h := he)]
  exact hc
theorem Stay.same {w : World} {p : Addr} {v : Value} (h : w.cell? p = some v) : Stay w (w.setCell p v) := fun a u hc hu => by
 by_cases he : p = a
 ·subst he
  rw [h] at hc
  rw [World.cell?_setCell_same (h := h)]
  exact hc
 ·rw [World.cell?_setCell_other (h := he)]
  exact hc
theorem C_int_stay {k : IntKind} {w w1 : World} {A : Option Addr} {n : Nat} {xs : List Int} (h : Kd.C (Kd.int k) w A n xs) (hs : Stay w w1) : Kd.C (Kd.int k) w1 A n xs := by
 refine ⟨h.1, h.2.1, fun h0 => ?_⟩
 obtain ⟨ad, e, hc⟩ := h.2.2 h0
 refine ⟨ad, e, fun j p hj => ?_⟩
 obtain ⟨c1, h1, h2, h3⟩ := hc j p hj
 have h2 : c1 = [.int k p] := h2
 subst h2
 refine ⟨_, h1, rfl, fun i v hv => hs _ _ (h3 i v hv) ?_⟩
 cases i with
 | zero => simp at hv; subst hv; simp
 | succ i => simp at hv
theorem C_69_stay {w w1 : World} {A : Option Addr} {n : Nat} {xs : List S69} (h : Kd.C k69 w A n xs) (hs : Stay w w1) : Kd.C k69 w1 A n xs := by
 refine ⟨h.1, h.2.1, fun h0 => ?_⟩
 obtain ⟨ad, e, hc⟩ := h.2.2 h0
 refine ⟨ad, e, fun j p hj => ?_⟩
 obtain ⟨c1, h1, h2, h3⟩ := hc j p hj
 have h2 := k69_open h2
 subst h2
 refine ⟨_, h1, k69_mk _ _, fun i v hv => hs _ _ (h3 i v hv) ?_⟩
 match i, hv with
 | 0, hv => simp at hv; subst hv; simp
 | 1, hv => simp at hv; subst hv; simp
 | 2, hv => simp at hv; subst hv; simp
 | i + 3, hv => simp at hv
theorem C_rows_stay {w w1 : World} {A : Option Addr} {n : Nat} {xs : List (List Int)} (h : Kd.C (Kd.slice 3 (Kd.int .i64)) w A n xs) (hs : Stay w w1) : Kd.C (Kd.slice 3 (Kd.int .i64)) w1 A n xs := by
 refine ⟨h.1, h.2.1, fun h0 => ?_⟩
 obtain ⟨ad, e, hc⟩ := h.2.2 h0
 refine ⟨ad, e, fun j p hj => ?_⟩
 obtain ⟨c1, h1, ⟨A1, c2, h2, h4, h5⟩, h3⟩ := hc j p hj
 subst h2
 refine ⟨_, h1, ⟨A1, c2, rfl, h4, C_int_stay h5 hs⟩, fun i v hv => hs _ _ (h3 i v hv) ?_⟩
 cases i with
 | zero => simp at hv; subst hv; simp
 | succ i => simp at hv
theorem IsAuto.stay {w w1 : World} {g o : Nat} {next : List (List Int)} {out : List Int} (h : IsAuto w g o next out) (hs : Stay w w1) : IsAuto w1 g o next out := by
 obtain ⟨A, c, B, d, h1, h2, h3, h4, h5, h6⟩ := h
 exact ⟨A, c, B, d, hs _ _ h1 (by simp), h2, C_rows_stay h3 hs, hs _ _ h4 (by simp), h5, C_int_stay h6 hs⟩
theorem IsMach.stay {w w1 : World} {g : Nat} {M : Mach} (h : IsMach w g M) (hs : Stay w w1) : IsMach w1 g M := by
 obtain ⟨⟨A, c, h1⟩, h2, h3, ⟨B, d, h4, h5, h6⟩, ⟨D, f, h7, h8⟩, h9, h10⟩ := h
 refine ⟨⟨A, c, hs _ _ h1 (by simp)⟩, hs _ _ h2 (by simp), hs _ _ h3 (by simp), ⟨B, d, hs _ _ h4 (by simp), h5, C_int_stay h6 hs⟩, ⟨D, f, hs _ _ h7 (by simp), fun i i0 i1 => ?_⟩, h9.stay hs, h10.stay hs⟩
 obtain ⟨ad, e, h⟩ := h8 i i0 i1
 exact ⟨ad, e, hs _ _ h (by simp)⟩
theorem IsTab.stay {w w1 : World} {g : Nat} {f : Int → Int} (h : IsTab w g f) (hs : Stay w w1) : IsTab w1 g f := by
 obtain ⟨b, n, c, h1, h2⟩ := h
 refine ⟨b, n, c, hs _ _ h1 (by simp), fun q q0 q1 => ?_⟩
 obtain ⟨j, j0, j1, h3, h4⟩ := h2 q q0 q1
 refine ⟨j, j0, j1, hs _ _ h3 (by simp), fun k k0 k1 => ?_⟩
 obtain ⟨f0, f1, h5⟩ := h4 k k0 k1
 exact ⟨f0, f1, hs _ _ h5 (by simp)⟩
theorem IsTrie.stay {w w1 : World} {g : Nat} (h : IsTrie w g) (hs : Stay w w1) : IsTrie w1 g := by
 obtain ⟨b, n, c, h1, h2, h3, h4⟩ := h
 exact ⟨b, n, c, hs _ _ h1 (by simp), h2, hs _ _ h3 (by simp), hs _ _ h4 (by simp)⟩
theorem IsHyph.stay {w w1 : World} {g : Nat} (h : IsHyph w g) (hs : Stay w w1) : IsHyph w1 g := by
 obtain ⟨A, c, l, gt, left, right, h1, h2, h3, h4, h5, h6, h7, h8, h9, h10⟩ := h
 exact ⟨A, c, l, gt, left, right, hs _ _ h1 (by simp), h2, h3, C_69_stay h4 hs, hs _ _ h5 (by simp), h6.stay hs, hs _ _ h7 (by simp), hs _ _ h8 (by simp), hs _ _ h9 (by simp), h10⟩
end Go.Proofs.YtkeccgkicffieaaGreatDoor.PTopWider
namespace Go.Proofs.YtkeccgkicffieaaGreatDoor.PTopWider
open Go.RowKit Go.Proofs.YtkeccgkicffieaaGreatDoorW.PrintWords Go.Proofs.YtkeccgkicffieaaGreatDoorW.PrintLast Go.Proofs.YtkeccgkicffieaaGreatDoorW.PrintMore
set_option linter.unusedVariables false
set_option linter.unusedSimpArgs false
def NewE (w : World) (Mm Mb : Mach) (fm fb fw : Int → Int) (e : Ending) (w' : World) : Prop := ∃ g, e = .returned (.tuple #[.pointer (some ⟨g, 0, none⟩), .agg #[.int .i64 0, .int .i64 0]]) ∧ w.heap.size ≤ g ∧ IsBook w' g Mm Mb fm fb fw ∧ Below w.heap.size w w'
/-- What stands in memory: the data, the fault that is answered, the book, the fault at hand. -/
structure BookAt (g : Nat) (w0 w : World) (dv cs : Array Value) : Prop where
 d : w.heap[g]? = some (.cells dv 36 (0, 0))
 r : w.heap[g + 1]? = some (.cells #[.int .i64 0, .int .i64 0] 31)
 b : w.heap[g + 1 + 1]? = some (.cells cs 57 (0, 0))
 f : w.heap[g + 1 + 1 + 1]? = some (.cells #[.int .i64 0, .int .i64 0] 31)
 low : Below g w0 w
theorem BookAt.on {g : Nat} {w0 w w1 : World} {dv cs : Array Value} (h : BookAt g w0 w dv cs) (hb : Below w.heap.size w w1) : BookAt g w0 w1 dv cs :=
 ⟨blk_below h.d hb, blk_below h.r hb, blk_below h.b hb, blk_below h.f hb, h.low.trans (hb.mono (by have := blk_lt h.d; omega))⟩
theorem BookAt.one {g : Nat} {w0 w : World} {dv cs : Array Value} (h : BookAt g w0 w dv cs) (k : Nat) (v : Value) (hk : cs[k]? = some (.pointer none)) : BookAt g w0 (w.setCell ⟨g + 1 + 1, k, none⟩ v) dv (cs.setIfInBounds k v) ∧ Stay w (w.setCell ⟨g + 1 + 1, k, none⟩ v) :=
 ⟨⟨blk_far h.d (p := ⟨g + 1 + 1, k, none⟩) (by simp; omega) v, blk_far h.r (p := ⟨g + 1 + 1, k, none⟩) (by simp) v, blk_set h.b k v, blk_far h.f (p := ⟨g + 1 + 1, k, none⟩) (by simp) v, h.low.setCell (p := ⟨g + 1 + 1, k, none⟩) (by simp; omega) v⟩, Stay.set ((blk_cell h.b k).trans hk)⟩
theorem BookAt.two {g : Nat} {w0 w : World} {dv cs : Array Value} (h : BookAt g w0 w dv cs) : BookAt g w0 ((w.setCell ⟨g + 1 + 1 + 1, 0, none⟩ (.int .i64 0)).setCell ⟨g + 1 + 1 + 1, 1, none⟩ (.int .i64 0)) dv cs ∧ Stay w ((w.setCell ⟨g + 1 + 1 + 1, 0, none⟩ (.int .i64 0)).setCell ⟨g + 1 + 1 + 1, 1, none⟩ (.int .i64 0)) := by
 have k1 : (w.setCell ⟨g + 1 + 1 + 1, 0, none⟩ (.int .i64 0)).heap[g + 1 + 1 + 1]? = some (.cells #[.int .i64 0, .int .i64 0] 31) := blk_set h.f 0 _
 have k2 : ((w.setCell ⟨g + 1 + 1 + 1, 0, none⟩ (.int .i64 0)).setCell ⟨g + 1 + 1 + 1, 1, none⟩ (.int .i64 0)).heap[g + 1 + 1 + 1]? = some (.cells #[.int .i64 0, .int .i64 0] 31) := blk_set k1 1 _
 have far : ∀ {j t : Nat} {C : Array Value}, j ≠ g + 1 + 1 + 1 → w.heap[j]? = some (.cells C t (0, 0)) → ((w.setCell ⟨g + 1 + 1 + 1, 0, none⟩ (.int .i64 0)).setCell ⟨g + 1 + 1 + 1, 1, none⟩ (.int .i64 0)).heap[j]? = some (.cells C t (0, 0)) := fun {j t C} hj ho =>
  blk_far (blk_far ho (p := ⟨g + 1 + 1 + 1, 0, none⟩) (by simpa using hj) _) (p := ⟨g + 1 + 1 + 1, 1, none⟩) (by simpa using hj) _
 exact ⟨⟨far (by omega) h.d, far (by omega) h.r, far (by omega) h.b, k2, (h.low.setCell (p := ⟨g + 1 + 1 + 1, 0, none⟩) (by simp; omega) _).setCell (p := ⟨g + 1 + 1 + 1, 1, none⟩) (by simp; omega) _⟩, (Stay.same (blk_cell h.f 0)).trans (Stay.same (blk_cell k1 1))⟩
theorem BookAt.twoR {g : Nat} {w0 w : World} {dv cs : Array Value} (h : BookAt g w0 w dv cs) : BookAt g w0 ((w.setCell ⟨g + 1, 0, none⟩ (.int .i64 0)).setCell ⟨g + 1, 1, none⟩ (.int .i64 0)) dv cs ∧ Stay w ((w.setCell ⟨g + 1, 0, none⟩ (.int .i64 0)).setCell ⟨g + 1, 1, none⟩ (.int .i64 0)) := by
 have k1 : (w.setCell ⟨g + 1, 0, none⟩ (.int .i64 0)).heap[g + 1]? = some (.cells #[.int .i64 0, .int .i64 0] 31) := blk_set h.r 0 _
 have k2 : ((w.setCell ⟨g + 1, 0, none⟩ (.int .i64 0)).setCell ⟨g + 1, 1, none⟩ (.int .i64 0)).heap[g + 1]? = some (.cells #[.int .i64 0, .int .i64 0] 31) := blk_set k1 1 _
 have far : ∀ {j t : Nat} {C : Array Value}, j ≠ g + 1 → w.heap[j]? = some (.cells C t (0, 0)) → ((w.setCell ⟨g + 1, 0, none⟩ (.int .i64 0)).setCell ⟨g + 1, 1, none⟩ (.int .i64 0)).heap[j]? = some (.cells C t (0, 0)) := fun {j t C} hj ho =>
  blk_far (blk_far ho (p := ⟨g + 1, 0, none⟩) (by simpa using hj) _) (p := ⟨g + 1, 1, none⟩) (by simpa using hj) _
 exact ⟨⟨far (by omega) h.d, k2, far (by omega) h.b, far (by omega) h.f, (h.low.setCell (p := ⟨g + 1, 0, none⟩) (by simp) _).setCell (p := ⟨g + 1, 1, none⟩) (by simp) _⟩, (Stay.same (blk_cell h.r 0)).trans (Stay.same (blk_cell k1 1))⟩
set_option maxHeartbeats 40000000 in
set_option maxRecDepth 100000 in
theorem booknew_calls (AM AB AW AL : Option Addr) (nM cM nB cB nW cW nL cL : Nat) (sM sB : ByteArray) (Mm Mb : Mach) (fm fb fw : Int → Int) (left right : Int) (w : World)
  (hM : ∀ w', Calls Tryz.prog 11 #[.string sM] w' fun e w2 => ReadE w' Mm e w2) (hB : ∀ w', Calls Tryz.prog 11 #[.string sB] w' fun e w2 => ReadE w' Mb e w2)
  (h1 : ∀ w', Below w.heap.size w w' → Calls Tryz.prog 13 #[.slice AM nM cM, .int .i64 (Mm.n : Int)] w' fun e w2 => PropE w' fm e w2)
  (h2 : ∀ w', Below w.heap.size w w' → Calls Tryz.prog 13 #[.slice AB nB cB, .int .i64 (Mb.n : Int)] w' fun e w2 => PropE w' fb e w2)
  (h3 : ∀ w', Below w.heap.size w w' → Calls Tryz.prog 13 #[.slice AW nW cW, .int .i64 3] w' fun e w2 => PropE w' fw e w2)
  (h4 : ∀ w', Below w.heap.size w w' → Calls Tryz.prog 14 #[.string ⟨#[]⟩, .slice AL nL cL, .int .i64 left, .int .i64 right] w' fun e w2 => HyphE w' e w2) :
  Calls Tryz.prog 5 #[.agg #[.slice AM nM cM, .slice AB nB cB, .slice AW nW cW, .slice AL nL cL, .string sM, .string sB, .string ⟨#[]⟩, .int .i64 left, .int .i64 right]] w fun e w' => NewE w Mm Mb fm fb fw e w' := by
 have HH := Aside0.mk (And.intro hM (And.intro hB (And.intro h1 (And.intro h2 (And.intro h3 h4)))))
 clear hM hB h1 h2 h3 h4
 obtain ⟨g, hg⟩ : ∃ g, Aside0 (w.heap.size = g) := ⟨_, ⟨rfl⟩⟩
 have B0 : BookAt w.heap.size w ((((w.alloc (.cells #[.slice AM nM cM, .slice AB nB cB, .slice AW nW cW, .slice AL nL cL, .string sM, .string sB, .string ⟨#[]⟩, .int .i64 left, .int .i64 right] 36)).alloc (.cells #[.int .i64 0, .int .i64 0] 31)).alloc (.cells #[.pointer none, .pointer none, .pointer none, .pointer none, .pointer none, .pointer none] 57)).alloc (.cells #[.int .i64 0, .int .i64 0] 31)) #[.slice AM nM cM, .slice AB nB cB, .slice AW nW cW, .slice AL nL cL, .string sM, .string sB, .string ⟨#[]⟩, .int .i64 left, .int .i64 right] #[.pointer none, .pointer none, .pointer none, .pointer none, .pointer none, .pointer none] := by
  have z1 : (w.alloc (.cells #[.slice AM nM cM, .slice AB nB cB, .slice AW nW cW, .slice AL nL cL, .string sM, .string sB, .string ⟨#[]⟩, .int .i64 left, .int .i64 right] 36)).heap.size = w.heap.size + 1 := by simp
  have z2 : ((w.alloc (.cells #[.slice AM nM cM, .slice AB nB cB, .slice AW nW cW, .slice AL nL cL, .string sM, .string sB, .string ⟨#[]⟩, .int .i64 left, .int .i64 right] 36)).alloc (.cells #[.int .i64 0, .int .i64 0] 31)).heap.size = w.heap.size + 1 + 1 := by simp
  have z3 : (((w.alloc (.cells #[.slice AM nM cM, .slice AB nB cB, .slice AW nW cW, .slice AL nL cL, .string sM, .string sB, .string ⟨#[]⟩, .int .i64 left, .int .i64 right] 36)).alloc (.cells #[.int .i64 0, .int .i64 0] 31)).alloc (.cells #[.pointer none, .pointer none, .pointer none, .pointer none, .pointer none, .pointer none] 57)).heap.size = w.heap.size + 1 + 1 + 1 := by simp
  have k1 := blk_alloc (blk_alloc (blk_new (w.alloc (.cells #[.slice AM nM cM, .slice AB nB cB, .slice AW nW cW, .slice AL nL cL, .string sM, .string sB, .string ⟨#[]⟩, .int .i64 left, .int .i64 right] 36)) (.cells #[.int .i64 0, .int .i64 0] 31)) (.cells #[.pointer none, .pointer none, .pointer none, .pointer none, .pointer none, .pointer none] 57)) (.cells #[.int .i64 0, .int .i64 0] 31)
  have k2 := blk_alloc (blk_new ((w.alloc (.cells #[.slice AM nM cM, .slice AB nB cB, .slice AW nW cW, .slice AL nL cL, .string sM, .string sB, .string ⟨#[]⟩, .int .i64 left, .int .i64 right] 36)).alloc (.cells #[.int .i64 0, .int .i64 0] 31)) (.cells #[.pointer none, .pointer none, .pointer none, .pointer none, .pointer none, .pointer none] 57)) (.cells #[.int .i64 0, .int .i64 0] 31)
  have k3 := blk_new (((w.alloc (.cells #[.slice AM nM cM, .slice AB nB cB, .slice AW nW cW, .slice AL nL cL, .string sM, .string sB, .string ⟨#[]⟩, .int .i64 left, .int .i64 right] 36)).alloc (.cells #[.int .i64 0, .int .i64 0] 31)).alloc (.cells #[.pointer none, .pointer none, .pointer none, .pointer none, .pointer none, .pointer none] 57)) (.cells #[.int .i64 0, .int .i64 0] 31)
  rw [z1] at k1
  rw [z2] at k2
  rw [z3] at k3
  exact ⟨blk_alloc (blk_alloc (blk_alloc (blk_new w (.cells #[.slice AM nM cM, .slice AB nB cB, .slice AW nW cW, .slice AL nL cL, .string sM, .string sB, .string ⟨#[]⟩, .int .i64 left, .int .i64 right] 36)) (.cells #[.int .i64 0, .int .i64 0] 31)) (.cells #[.pointer none, .pointer none, .pointer none, .pointer none, .pointer none, .pointer none] 57)) (.cells #[.int .i64 0, .int .i64 0] 31), k1, k2, k3, below_alloc (below_alloc (below_alloc (below_alloc (Below.refl w.heap.size w) (.cells #[.slice AM nM cM, .slice AB nB cB, .slice AW nW cW, .slice AL nL cL, .string sM, .string sB, .string ⟨#[]⟩, .int .i64 left, .int .i64 right] 36)) (.cells #[.int .i64 0, .int .i64 0] 31)) (.cells #[.pointer none, .pointer none, .pointer none, .pointer none, .pointer none, .pointer none] 57)) (.cells #[.int .i64 0, .int .i64 0] 31)⟩
 rw [hg.out] at B0
 have l4 : ((((w.alloc (.cells #[.slice AM nM cM, .slice AB nB cB, .slice AW nW cW, .slice AL nL cL, .string sM, .string sB, .string ⟨#[]⟩, .int .i64 left, .int .i64 right] 36)).alloc (.cells #[.int .i64 0, .int .i64 0] 31)).alloc (.cells #[.pointer none, .pointer none, .pointer none, .pointer none, .pointer none, .pointer none] 57)).alloc (.cells #[.int .i64 0, .int .i64 0] 31)).cell? ⟨w.heap.size, 4, none⟩ = some (.string sM) := by rw [hg.out]; exact blk_cell B0.d 4
 have B0 := Aside0.mk B0
 go_enter Tryz.func5, Tryz.ntmps5
 go_wp2_with fail
 rw [hg.out]
 generalize ((((w.alloc (.cells #[.slice AM nM cM, .slice AB nB cB, .slice AW nW cW, .slice AL nL cL, .string sM, .string sB, .string ⟨#[]⟩, .int .i64 left, .int .i64 right] 36)).alloc (.cells #[.int .i64 0, .int .i64 0] 31)).alloc (.cells #[.pointer none, .pointer none, .pointer none, .pointer none, .pointer none, .pointer none] 57)).alloc (.cells #[.int .i64 0, .int .i64 0] 31)) = w4 at B0
 refine (HH.out.1 w4).mono ?_
 rintro e w5 ⟨gm, rfl, hgm, hMm, hb5⟩
 have B5 := Aside0.mk (B0.out.on hb5)
 have M5 := Aside0.mk hMm
 have eb0 : w5.cell? ⟨g + 1 + 1, 0, none⟩ = some (.pointer none) := blk_cell B5.out.b 0
 have ebf0 := blk_frozen B5.out.b 0
 have eb1 : w5.cell? ⟨g + 1 + 1, 1, none⟩ = some (.pointer none) := blk_cell B5.out.b 1
 have ebf1 := blk_frozen B5.out.b 1
 have eb2 : w5.cell? ⟨g + 1 + 1, 2, none⟩ = some (.pointer none) := blk_cell B5.out.b 2
 have ebf2 := blk_frozen B5.out.b 2
 have eb3 : w5.cell? ⟨g + 1 + 1, 3, none⟩ = some (.pointer none) := blk_cell B5.out.b 3
 have ebf3 := blk_frozen B5.out.b 3
 have eb4 : w5.cell? ⟨g + 1 + 1, 4, none⟩ = some (.pointer none) := blk_cell B5.out.b 4
 have ebf4 := blk_frozen B5.out.b 4
 have eb5 : w5.cell? ⟨g + 1 + 1, 5, none⟩ = some (.pointer none) := blk_cell B5.out.b 5
 have ebf5 := blk_frozen B5.out.b 5
 have ef0 := blk_cell B5.out.f 0
 have eff0 := blk_frozen B5.out.f 0
 have ef1 := blk_cell B5.out.f 1
 have eff1 := blk_frozen B5.out.f 1
 clear hMm hb5
 go_upto_region 6 with fail
 obtain ⟨C6, S6⟩ := B5.out.one 0 (.pointer (some ⟨gm, 0, none⟩)) rfl
 obtain ⟨C7, S7⟩ := C6.two
 have B7 := Aside0.mk C7
 have M7 := Aside0.mk (M5.out.stay (S6.trans S7))
 clear C6 C7 S6 S7 eb0 ebf0 eb1 ebf1 eb2 ebf2 eb3 ebf3 eb4 ebf4 eb5 ebf5 ef0 eff0 ef1 eff1
 generalize ((w5.setCell ⟨g + 1 + 1, 0, none⟩ (.pointer (some ⟨gm, 0, none⟩))).setCell ⟨g + 1 + 1 + 1, 0, none⟩ (.int .i64 0)).setCell ⟨g + 1 + 1 + 1, 1, none⟩ (.int .i64 0) = w7 at B7 M7 ⊢
 have l5 : w7.cell? ⟨g, 5, none⟩ = some (.string sB) := blk_cell B7.out.d 5
 go_wp2_with fail
 refine (HH.out.2.1 w7).mono ?_
 rintro e w8 ⟨gb, rfl, hgb, hMb, hb8⟩
 have B8 := Aside0.mk (B7.out.on hb8)
 have M8 := Aside0.mk (And.intro (M7.out.stay (Stay.low hb8)) hMb)
 have eb0 : w8.cell? ⟨g + 1 + 1, 0, none⟩ = some (.pointer (some ⟨gm, 0, none⟩)) := blk_cell B8.out.b 0
 have ebf0 := blk_frozen B8.out.b 0
 have eb1 : w8.cell? ⟨g + 1 + 1, 1, none⟩ = some (.pointer none) := blk_cell B8.out.b 1
 have ebf1 := blk_frozen B8.out.b 1
 have eb2 : w8.cell? ⟨g + 1 + 1, 2, none⟩ = some (.pointer none) := blk_cell B8.out.b 2
 have ebf2 := blk_frozen B8.out.b 2
 have eb3 : w8.cell? ⟨g + 1 + 1, 3, none⟩ = some (.pointer none) := blk_cell B8.out.b 3
 have ebf3 := blk_frozen B8.out.b 3
 have eb4 : w8.cell? ⟨g + 1 + 1, 4, none⟩ = some (.pointer none) := blk_cell B8.out.b 4
 have ebf4 := blk_frozen B8.out.b 4
 have eb5 : w8.cell? ⟨g + 1 + 1, 5, none⟩ = some (.pointer none) := blk_cell B8.out.b 5
 have ebf5 := blk_frozen B8.out.b 5
 have ef0 := blk_cell B8.out.f 0
 have eff0 := blk_frozen B8.out.f 0
 have ef1 := blk_cell B8.out.f 1
 have eff1 := blk_frozen B8.out.f 1
 clear hMb hb8
 go_upto_region 9 with fail
 obtain ⟨C6, S6⟩ := B8.out.one 1 (.pointer (some ⟨gb, 0, none⟩)) rfl
 obtain ⟨C7, S7⟩ := C6.two
 have B9 := Aside0.mk C7
 have M9 := Aside0.mk (And.intro (M8.out.1.stay (S6.trans S7)) (M8.out.2.stay (S6.trans S7)))
 clear C6 C7 S6 S7 eb0 ebf0 eb1 ebf1 eb2 ebf2 eb3 ebf3 eb4 ebf4 eb5 ebf5 ef0 eff0 ef1 eff1
 generalize ((w8.setCell ⟨g + 1 + 1, 1, none⟩ (.pointer (some ⟨gb, 0, none⟩))).setCell ⟨g + 1 + 1 + 1, 0, none⟩ (.int .i64 0)).setCell ⟨g + 1 + 1 + 1, 1, none⟩ (.int .i64 0) = w9 at B9 M9 ⊢
 have t0 : w9.cell? ⟨g, 0, none⟩ = some (.slice AM nM cM) := blk_cell B9.out.d 0
 have t1 : w9.cell? ⟨g, 1, none⟩ = some (.slice AB nB cB) := blk_cell B9.out.d 1
 have t2 : w9.cell? ⟨g, 2, none⟩ = some (.slice AW nW cW) := blk_cell B9.out.d 2
 have u0 : w9.cell? ⟨g + 1 + 1, 0, none⟩ = some (.pointer (some ⟨gm, 0, none⟩)) := blk_cell B9.out.b 0
 have u1 : w9.cell? ⟨g + 1 + 1, 1, none⟩ = some (.pointer (some ⟨gb, 0, none⟩)) := blk_cell B9.out.b 1
 refine st 31 w9 [] fun hHeld => ?_
 generalize w9.drew = w10 at hHeld ⊢
 refine pu 0 (some 38) ?_
 refine pu 1 (some 39) ?_
 refine pu 2 (some 40) ?_
 refine pu 3 (some 41) ?_
 refine pu 5 (some 43) ?_
 refine pu 6 (some 44) ?_
 refine pu 7 (some 45) ?_
 refine pu 11 (some 49) ?_
 refine pu 12 (some 50) ?_
 refine pu 13 (some 51) ?_
 refine pu 14 (some 52) ?_
 refine pu 16 (some 54) ?_
 refine pu 17 (some 55) ?_
 refine pu 18 (some 56) ?_
 refine pu 22 (some 60) ?_
 refine pu 23 (some 61) ?_
 refine pu 24 (some 62) ?_
 refine pu 25 (some 63) ?_
 refine pu 30 (some 68) ?_
 refine ta 4 (some 42) (fun _ s => pw_cell_below s t0) hHeld ?_
 refine ta 8 (some 46) (fun _ s => pw_cell_below s u0) hHeld ?_
 refine ta 15 (some 53) (fun _ s => pw_cell_below s t1) hHeld ?_
 refine ta 19 (some 57) (fun _ s => pw_cell_below s u1) hHeld ?_
 refine ta 26 (some 64) (fun _ s => pw_cell_below s t2) hHeld ?_
 refine pu 27 (some 65) ?_
 refine on 9 (some 47) fun K hK => ?_
 refine gs Tryz.func12 #[.pointer (some ⟨gm, 0, none⟩)] ?_
 with_reducible refine (classes_calls gm Mm _ (M9.out.1.stay (Stay.low hHeld))).mono ?_
 rintro e w_ ⟨rfl, hb_⟩
 refine ⟨_, rfl, ?_⟩
 refine hK.out _ _ (below_step hHeld hb_) (fun hHeld => ?_)
 clear hK K
 refine nrm 47 ?_
 refine pu 10 (some 48) ?_
 refine on 20 (some 58) fun K hK => ?_
 refine gs Tryz.func12 #[.pointer (some ⟨gb, 0, none⟩)] ?_
 with_reducible refine (classes_calls gb Mb _ (M9.out.2.stay (Stay.low hHeld))).mono ?_
 rintro e w_ ⟨rfl, hb_⟩
 refine ⟨_, rfl, ?_⟩
 refine hK.out _ _ (below_step hHeld hb_) (fun hHeld => ?_)
 clear hK K
 refine nrm 58 ?_
 refine pu 21 (some 59) ?_
 refine on 28 (some 66) fun K hK => ?_
 refine event_step (by rfl) (v := .slice (some ⟨w_.heap.size, 0, none⟩) 3 3) (w1 := w_.alloc (.cells #[.pointer (some ⟨g + 1 + 1, 2, none⟩), .slice AM nM cM, .int .i64 (Mm.n : Int), .pointer (some ⟨g + 1 + 1, 3, none⟩), .slice AB nB cB, .int .i64 (Mb.n : Int), .pointer (some ⟨g + 1 + 1, 4, none⟩), .slice AW nW cW, .int .i64 3] 62)) ?hrun ?_
 case hrun => first | (go_simp; done) | (go_simp; rfl)
 have ba_ := below_alloc (Below.refl w_.heap.size w_) (.cells #[.pointer (some ⟨g + 1 + 1, 2, none⟩), .slice AM nM cM, .int .i64 (Mm.n : Int), .pointer (some ⟨g + 1 + 1, 3, none⟩), .slice AB nB cB, .int .i64 (Mb.n : Int), .pointer (some ⟨g + 1 + 1, 4, none⟩), .slice AW nW cW, .int .i64 3] 62)
 refine hK.out _ _ (below_step hHeld ba_) (fun hHeld => ?_)
 clear hK K
 refine nrm 66 ?_
 refine pu 29 (some 67) ?_
 refine done_ (by kernel_rfl) ?_
 have B11 := Aside0.mk (B9.out.on hHeld)
 have M11 := Aside0.mk (And.intro (M9.out.1.stay (Stay.low hHeld)) (M9.out.2.stay (Stay.low hHeld)))
 have LB := Aside0.mk (blk_new w_ (.cells #[.pointer (some ⟨g + 1 + 1, 2, none⟩), .slice AM nM cM, .int .i64 (Mm.n : Int), .pointer (some ⟨g + 1 + 1, 3, none⟩), .slice AB nB cB, .int .i64 (Mb.n : Int), .pointer (some ⟨g + 1 + 1, 4, none⟩), .slice AW nW cW, .int .i64 3] 62))
 obtain ⟨lb, hlb⟩ : ∃ lb, Aside0 (w_.heap.size = lb) := ⟨_, ⟨rfl⟩⟩
 rw [hlb.out] at LB ⊢
 generalize w_.alloc (.cells #[.pointer (some ⟨g + 1 + 1, 2, none⟩), .slice AM nM cM, .int .i64 (Mm.n : Int), .pointer (some ⟨g + 1 + 1, 3, none⟩), .slice AB nB cB, .int .i64 (Mb.n : Int), .pointer (some ⟨g + 1 + 1, 4, none⟩), .slice AW nW cW, .int .i64 3] 62) = w11 at B11 M11 LB ⊢
 clear t0 t1 t2 u0 u1
 have hne : Aside0 (lb ≠ g + 1 + 1) := ⟨by
  rintro rfl
  have h := LB.out.symm.trans B11.out.b
  simp at h⟩
 go_wp2_with fail
 refine wp_loop_rounds 4 ?_
 rw [rounds_succ]
 have t0 := blk_cell LB.out 0
 have t1 := blk_cell LB.out 1
 have t2 := blk_cell LB.out 2
 have kz := blk_new w11 (.cells #[.pointer none, .slice none 0 0, .int .i64 0] 62)
 have d0 := blk_cell kz 0
 have d1 := blk_cell kz 1
 have d2 := blk_cell kz 2
 have df0 := blk_frozen kz 0
 have df1 := blk_frozen kz 1
 have df2 := blk_frozen kz 2
 go_wp2_with fail
 clear t0 t1 t2 kz d0 d1 d2 df0 df1 df2
 have ha := below_alloc (Below.refl w11.heap.size w11) (.cells #[.pointer (some ⟨g + 1 + 1, 2, none⟩), .slice AM nM cM, .int .i64 (Mm.n : Int)] 62)
 refine (HH.out.2.2.1 _ (by rw [hg.out]; exact (B11.out.on ha).low)).mono ?_
 rintro e w12 ⟨gt0, rfl, hgt0, hT0, hb⟩
 have K := blk_below (blk_new w11 (.cells #[.pointer (some ⟨g + 1 + 1, 2, none⟩), .slice AM nM cM, .int .i64 (Mm.n : Int)] 62)) hb
 have s := Stay.low (below_step ha hb)
 have Bn := (B11.out.on ha).on hb
 have Mn := And.intro (M11.out.1.stay s) (M11.out.2.stay s)
 have Ln := blk_below (blk_alloc LB.out (.cells #[.pointer (some ⟨g + 1 + 1, 2, none⟩), .slice AM nM cM, .int .i64 (Mm.n : Int)] 62)) hb
 have d0 := blk_cell K 0
 have d1 := blk_cell K 1
 have d2 := blk_cell K 2
 have eb : w12.cell? ⟨g + 1 + 1, 2, none⟩ = some (.pointer none) := blk_cell Bn.b 2
 have ebf := blk_frozen Bn.b 2
 obtain ⟨C, S⟩ := Bn.one 2 (.pointer (some ⟨gt0, 0, none⟩)) rfl
 have B13 := Aside0.mk C
 have M13 := Aside0.mk (And.intro (Mn.1.stay S) (Mn.2.stay S))
 have L13 := Aside0.mk (blk_far Ln (p := ⟨g + 1 + 1, 2, none⟩) hne.out (.pointer (some ⟨gt0, 0, none⟩)))
 have T0 := Aside0.mk (hT0.stay S)
 clear ha hb s Bn Mn Ln C S K hT0
 go_wp2_with fail
 clear d0 d1 d2 eb ebf
 generalize w12.setCell ⟨g + 1 + 1, 2, none⟩ (.pointer (some ⟨gt0, 0, none⟩)) = w13 at B13 M13 L13 T0 ⊢
 rw [rounds_succ]
 have t0 := blk_cell L13.out 3
 have t1 := blk_cell L13.out 4
 have t2 := blk_cell L13.out 5
 have kz := blk_new w13 (.cells #[.pointer none, .slice none 0 0, .int .i64 0] 62)
 have d0 := blk_cell kz 0
 have d1 := blk_cell kz 1
 have d2 := blk_cell kz 2
 have df0 := blk_frozen kz 0
 have df1 := blk_frozen kz 1
 have df2 := blk_frozen kz 2
 go_wp2_with fail
 clear t0 t1 t2 kz d0 d1 d2 df0 df1 df2
 have ha := below_alloc (Below.refl w13.heap.size w13) (.cells #[.pointer (some ⟨g + 1 + 1, 3, none⟩), .slice AB nB cB, .int .i64 (Mb.n : Int)] 62)
 refine (HH.out.2.2.2.1 _ (by rw [hg.out]; exact (B13.out.on ha).low)).mono ?_
 rintro e w14 ⟨gt1, rfl, hgt1, hT1, hb⟩
 have K := blk_below (blk_new w13 (.cells #[.pointer (some ⟨g + 1 + 1, 3, none⟩), .slice AB nB cB, .int .i64 (Mb.n : Int)] 62)) hb
 have s := Stay.low (below_step ha hb)
 have Bn := (B13.out.on ha).on hb
 have Mn := And.intro (M13.out.1.stay s) (M13.out.2.stay s)
 have Ln := blk_below (blk_alloc L13.out (.cells #[.pointer (some ⟨g + 1 + 1, 3, none⟩), .slice AB nB cB, .int .i64 (Mb.n : Int)] 62)) hb
 have hT0 := (T0.out).stay s
 have d0 := blk_cell K 0
 have d1 := blk_cell K 1
 have d2 := blk_cell K 2
 have eb : w14.cell? ⟨g + 1 + 1, 3, none⟩ = some (.pointer none) := blk_cell Bn.b 3
 have ebf := blk_frozen Bn.b 3
 obtain ⟨C, S⟩ := Bn.one 3 (.pointer (some ⟨gt1, 0, none⟩)) rfl
 have B15 := Aside0.mk C
 have M15 := Aside0.mk (And.intro (Mn.1.stay S) (Mn.2.stay S))
 have L15 := Aside0.mk (blk_far Ln (p := ⟨g + 1 + 1, 3, none⟩) hne.out (.pointer (some ⟨gt1, 0, none⟩)))
 have T0 := Aside0.mk (hT0.stay S)
 have T1 := Aside0.mk (hT1.stay S)
 clear ha hb s Bn Mn Ln C S K hT0 hT1
 go_wp2_with fail
 clear d0 d1 d2 eb ebf
 generalize w14.setCell ⟨g + 1 + 1, 3, none⟩ (.pointer (some ⟨gt1, 0, none⟩)) = w15 at B15 M15 L15 T0 T1 ⊢
 rw [rounds_succ]
 have t0 := blk_cell L15.out 6
 have t1 := blk_cell L15.out 7
 have t2 := blk_cell L15.out 8
 have kz := blk_new w15 (.cells #[.pointer none, .slice none 0 0, .int .i64 0] 62)
 have d0 := blk_cell kz 0
 have d1 := blk_cell kz 1
 have d2 := blk_cell kz 2
 have df0 := blk_frozen kz 0
 have df1 := blk_frozen kz 1
 have df2 := blk_frozen kz 2
 go_wp2_with fail
 clear t0 t1 t2 kz d0 d1 d2 df0 df1 df2
 have ha := below_alloc (Below.refl w15.heap.size w15) (.cells #[.pointer (some ⟨g + 1 + 1, 4, none⟩), .slice AW nW cW, .int .i64 3] 62)
 refine (HH.out.2.2.2.2.1 _ (by rw [hg.out]; exact (B15.out.on ha).low)).mono ?_
 rintro e w16 ⟨gt2, rfl, hgt2, hT2, hb⟩
 have K := blk_below (blk_new w15 (.cells #[.pointer (some ⟨g + 1 + 1, 4, none⟩), .slice AW nW cW, .int .i64 3] 62)) hb
 have s := Stay.low (below_step ha hb)
 have Bn := (B15.out.on ha).on hb
 have Mn := And.intro (M15.out.1.stay s) (M15.out.2.stay s)
 have Ln := blk_below (blk_alloc L15.out (.cells #[.pointer (some ⟨g + 1 + 1, 4, none⟩), .slice AW nW cW, .int .i64 3] 62)) hb
 have hT0 := (T0.out).stay s
 have hT1 := (T1.out).stay s
 have d0 := blk_cell K 0
 have d1 := blk_cell K 1
 have d2 := blk_cell K 2
 have eb : w16.cell? ⟨g + 1 + 1, 4, none⟩ = some (.pointer none) := blk_cell Bn.b 4
 have ebf := blk_frozen Bn.b 4
 obtain ⟨C, S⟩ := Bn.one 4 (.pointer (some ⟨gt2, 0, none⟩)) rfl
 have B17 := Aside0.mk C
 have M17 := Aside0.mk (And.intro (Mn.1.stay S) (Mn.2.stay S))
 have L17 := Aside0.mk (blk_far Ln (p := ⟨g + 1 + 1, 4, none⟩) hne.out (.pointer (some ⟨gt2, 0, none⟩)))
 have T0 := Aside0.mk (hT0.stay S)
 have T1 := Aside0.mk (hT1.stay S)
 have T2 := Aside0.mk (hT2.stay S)
 clear ha hb s Bn Mn Ln C S K hT0 hT1 hT2
 go_wp2_with fail
 clear d0 d1 d2 eb ebf
 generalize w16.setCell ⟨g + 1 + 1, 4, none⟩ (.pointer (some ⟨gt2, 0, none⟩)) = w17 at B17 M17 L17 T0 T1 T2 ⊢
 rw [rounds_succ]
 have t3 := blk_cell B17.out.d 3
 have t6 := blk_cell B17.out.d 6
 have t7 := blk_cell B17.out.d 7
 have t8 := blk_cell B17.out.d 8
 go_wp2_with fail
 clear t3 t6 t7 t8
 refine (HH.out.2.2.2.2.2 _ (by rw [hg.out]; exact B17.out.low)).mono ?_
 rintro e w18 ⟨gh, rfl, hgh, hH, hb⟩
 have s := Stay.low hb
 have Bn := B17.out.on hb
 have Mn := And.intro (M17.out.1.stay s) (M17.out.2.stay s)
 have hT0 := T0.out.stay s
 have hT1 := T1.out.stay s
 have hT2 := T2.out.stay s
 have eb5 : w18.cell? ⟨g + 1 + 1, 5, none⟩ = some (.pointer none) := blk_cell Bn.b 5
 have ebf5 := blk_frozen Bn.b 5
 have ef0 := blk_cell Bn.f 0
 have eff0 := blk_frozen Bn.f 0
 have er0 := blk_cell Bn.r 0
 have erf0 := blk_frozen Bn.r 0
 have ef1 := blk_cell Bn.f 1
 have eff1 := blk_frozen Bn.f 1
 have er1 := blk_cell Bn.r 1
 have erf1 := blk_frozen Bn.r 1
 obtain ⟨C, S⟩ := Bn.one 5 (.pointer (some ⟨gh, 0, none⟩)) rfl
 obtain ⟨C1, S1⟩ := C.two
 have S := S.trans S1
 have B19 := Aside0.mk C1
 have M19 := Aside0.mk (And.intro (Mn.1.stay S) (Mn.2.stay S))
 have U0 := Aside0.mk (hT0.stay S)
 have U1 := Aside0.mk (hT1.stay S)
 have U2 := Aside0.mk (hT2.stay S)
 have H19 := Aside0.mk (hH.stay S)
 clear hb s Bn Mn C C1 S S1 hH hT0 hT1 hT2
 go_wp2_with fail
 clear eb5 ebf5 ef0 ef1 eff0 eff1 er0 er1 erf0 erf1
 generalize ((w18.setCell ⟨g + 1 + 1, 5, none⟩ (.pointer (some ⟨gh, 0, none⟩))).setCell ⟨g + 1 + 1 + 1, 0, none⟩ (.int .i64 0)).setCell ⟨g + 1 + 1 + 1, 1, none⟩ (.int .i64 0) = w19 at B19 M19 U0 U1 U2 H19 ⊢
 obtain ⟨C, S⟩ := B19.out.twoR
 have Z := Aside0.mk (And.intro C S)
 clear C S
 generalize (w19.setCell ⟨g + 1, 0, none⟩ (.int .i64 0)).setCell ⟨g + 1, 1, none⟩ (.int .i64 0) = wz at Z ⊢
 have z0 := blk_cell Z.out.1.r 0
 have z1 := blk_cell Z.out.1.r 1
 refine bodyPost_ret (v := .tuple #[.pointer (some ⟨g + 1 + 1, 0, none⟩), .agg #[.int .i64 0, .int .i64 0]]) (by simp [results, Tryz.results5, go_sem, z0, z1]) rfl ⟨g + 1 + 1, rfl, by have := hg.out; omega, ⟨⟨gm, blk_cell Z.out.1.b 0, M19.out.1.stay Z.out.2⟩, ⟨gb, blk_cell Z.out.1.b 1, M19.out.2.stay Z.out.2⟩, ⟨gt0, blk_cell Z.out.1.b 2, U0.out.stay Z.out.2⟩, ⟨gt1, blk_cell Z.out.1.b 3, U1.out.stay Z.out.2⟩, ⟨gt2, blk_cell Z.out.1.b 4, U2.out.stay Z.out.2⟩, ⟨gh, blk_cell Z.out.1.b 5, H19.out.stay Z.out.2⟩⟩, by rw [hg.out]; exact Z.out.1.low⟩
end Go.Proofs.YtkeccgkicffieaaGreatDoor.PTopWider
