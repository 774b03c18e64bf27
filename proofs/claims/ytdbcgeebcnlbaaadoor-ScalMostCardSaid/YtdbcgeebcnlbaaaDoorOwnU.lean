/- The walks of unicode/utf8.decodeRuneSlow and DecodeRune at a row that is not empty: they answer what drN tells. Conditions: the two tables of the library hold what its text lays. -/
import Derived.Test.YtdbcgeebcnlbaaaDoorPScalMostx1
import Derived.Shelf.Unicode.DecodeSlow
namespace Go.Proofs.YtdbcgeebcnlbaaaDoor.PScalMost
open Go.RowKit Go.Lib Go.Proofs
set_option linter.unusedVariables false
set_option linter.unusedSimpArgs false

/-- What DecodeRune answers: how many bytes there are, and the first four of them. -/
def drN (n x0 x1 x2 x3 : Nat) : Nat × Nat :=
  if firstT x0 = 240 then (x0, 1) else if firstT x0 = 241 then (65533, 1)
  else slowN n x0 x1 x2 x3 (firstT x0 % 8) (accLo (firstT x0 / 16)) (accHi (firstT x0 / 16))

set_option maxHeartbeats 8000000 in
set_option maxRecDepth 1000000 in
theorem slow_walk (n b off cap x0 x1 x2 x3 : Nat) (sp : Option Nat) (w : World) (hT : Lib.Utf8Tabs 0 1 w) (l0 : x0 < 256) (l1 : x1 < 256) (l2 : x2 < 256) (l3 : x3 < 256) (hn0 : 0 < n)
    (hs0 : w.cell? ⟨b, off, sp⟩ = some (.int .u8 x0)) (hq1 : 1 < n → w.cell? ⟨b, off + 1, none⟩ = some (.int .u8 x1)) (hq2 : 2 < n → w.cell? ⟨b, off + 2, none⟩ = some (.int .u8 x2)) (hq3 : 3 < n → w.cell? ⟨b, off + 3, none⟩ = some (.int .u8 x3)) :
    Calls Tryd.prog 12 #[.slice (some ⟨b, off, sp⟩) n cap] w fun e w' => e = .returned (.tuple #[.int .i32 (drN n x0 x1 x2 x3).1, .int .i64 (drN n x0 x1 x2 x3).2]) ∧ Below w.heap.size w w' := by
  have hz0 : (0 : Int) < (n : Int) := by omega
  have hz0' : ¬ ((n : Int) < 1) := by omega
  have hb : b < w.heap.size := block_lt_of_cell hs0
  have hc0 := hT.1 x0 (by omega)
  have hdr : ∀ X, firstT x0 = X → drN n x0 x1 x2 x3 = if X = 240 then (x0, 1) else if X = 241 then (65533, 1) else slowN n x0 x1 x2 x3 (X % 8) (accLo (X / 16)) (accHi (X / 16)) := fun X h => by subst h; rfl
  rcases Lib.firstT_cases x0 with hX | hX | hX | hX | hX | hX | hX | hX | hX
  · have hres := hdr _ hX
    rw [if_pos rfl] at hres
    rw [hres]
    rw [hX] at hc0
    clear hres hT hX hdr hq1 hq2 hq3
    go_enter Tryd.func12, Tryd.ntmps12
    go_wp2
    rw [Utf8W.mask240, Utf8W.keep_byte ⟨x0, l0⟩]
    go_ret2
    exact ⟨rfl, Below.refl _ _⟩
  · have hres := hdr _ hX
    rw [if_neg (by decide), if_pos rfl] at hres
    rw [hres]
    rw [hX] at hc0
    clear hres hT hX hdr hq1 hq2 hq3
    go_enter Tryd.func12, Tryd.ntmps12
    go_wp2
    rw [Utf8W.mask241, Utf8W.drop_byte ⟨x0, l0⟩]
    go_ret2
    exact ⟨rfl, Below.refl _ _⟩
  · have hres := hdr _ hX
    rw [if_neg (by decide), if_neg (by decide)] at hres
    rw [hX] at hc0
    have ha0 := (hT.2 0 (by omega)).1
    have ha1 := (hT.2 0 (by omega)).2
    simp only [accLo, accHi, Nat.reduceMul, Nat.reduceAdd, Nat.reduceEqDiff, if_true, if_false, Nat.reduceMod, Nat.reduceDiv] at ha0 ha1 hres
    rw [hres]
    clear hres hT hX hdr
    by_cases hn : n < 2
    · have hnz : (n : Int) < 2 := by omega
      clear hq1 hq2 hq3
      go_enter Tryd.func12, Tryd.ntmps12
      go_wp2
      all_goals (go_ret2; refine ⟨?_, (Below.refl _ _).alloc (Nat.le_refl _) _⟩; utf8_leaf)
    · have hz1 : (1 : Int) < (n : Int) := by omega
      have hs1 := hq1 (by omega)
      clear hq1 hq2 hq3
      go_enter Tryd.func12, Tryd.ntmps12
      go_wp2
      all_goals (go_ret2; refine ⟨?_, (Below.refl _ _).alloc (Nat.le_refl _) _⟩; utf8_leaf)
  · have hres := hdr _ hX
    rw [if_neg (by decide), if_neg (by decide)] at hres
    rw [hX] at hc0
    have ha0 := (hT.2 1 (by omega)).1
    have ha1 := (hT.2 1 (by omega)).2
    simp only [accLo, accHi, Nat.reduceMul, Nat.reduceAdd, Nat.reduceEqDiff, if_true, if_false, Nat.reduceMod, Nat.reduceDiv] at ha0 ha1 hres
    rw [hres]
    clear hres hT hX hdr
    by_cases hn : n < 3
    · have hnz : (n : Int) < 3 := by omega
      clear hq1 hq2 hq3
      go_enter Tryd.func12, Tryd.ntmps12
      go_wp2
      all_goals (go_ret2; refine ⟨?_, (Below.refl _ _).alloc (Nat.le_refl _) _⟩; utf8_leaf)
    · have hz1 : (1 : Int) < (n : Int) := by omega
      have hs1 := hq1 (by omega)
      have hz2 : (2 : Int) < (n : Int) := by omega
      have hs2 := hq2 (by omega)
      clear hq1 hq2 hq3
      go_enter Tryd.func12, Tryd.ntmps12
      go_wp2
      all_goals (go_ret2; refine ⟨?_, (Below.refl _ _).alloc (Nat.le_refl _) _⟩; utf8_leaf)
  · have hres := hdr _ hX
    rw [if_neg (by decide), if_neg (by decide)] at hres
    rw [hX] at hc0
    have ha0 := (hT.2 0 (by omega)).1
    have ha1 := (hT.2 0 (by omega)).2
    simp only [accLo, accHi, Nat.reduceMul, Nat.reduceAdd, Nat.reduceEqDiff, if_true, if_false, Nat.reduceMod, Nat.reduceDiv] at ha0 ha1 hres
    rw [hres]
    clear hres hT hX hdr
    by_cases hn : n < 3
    · have hnz : (n : Int) < 3 := by omega
      clear hq1 hq2 hq3
      go_enter Tryd.func12, Tryd.ntmps12
      go_wp2
      all_goals (go_ret2; refine ⟨?_, (Below.refl _ _).alloc (Nat.le_refl _) _⟩; utf8_leaf)
    · have hz1 : (1 : Int) < (n : Int) := by omega
      have hs1 := hq1 (by omega)
      have hz2 : (2 : Int) < (n : Int) := by omega
      have hs2 := hq2 (by omega)
      clear hq1 hq2 hq3
      go_enter Tryd.func12, Tryd.ntmps12
      go_wp2
      all_goals (go_ret2; refine ⟨?_, (Below.refl _ _).alloc (Nat.le_refl _) _⟩; utf8_leaf)
  · have hres := hdr _ hX
    rw [if_neg (by decide), if_neg (by decide)] at hres
    rw [hX] at hc0
    have ha0 := (hT.2 2 (by omega)).1
    have ha1 := (hT.2 2 (by omega)).2
    simp only [accLo, accHi, Nat.reduceMul, Nat.reduceAdd, Nat.reduceEqDiff, if_true, if_false, Nat.reduceMod, Nat.reduceDiv] at ha0 ha1 hres
    rw [hres]
    clear hres hT hX hdr
    by_cases hn : n < 3
    · have hnz : (n : Int) < 3 := by omega
      clear hq1 hq2 hq3
      go_enter Tryd.func12, Tryd.ntmps12
      go_wp2
      all_goals (go_ret2; refine ⟨?_, (Below.refl _ _).alloc (Nat.le_refl _) _⟩; utf8_leaf)
    · have hz1 : (1 : Int) < (n : Int) := by omega
      have hs1 := hq1 (by omega)
      have hz2 : (2 : Int) < (n : Int) := by omega
      have hs2 := hq2 (by omega)
      clear hq1 hq2 hq3
      go_enter Tryd.func12, Tryd.ntmps12
      go_wp2
      all_goals (go_ret2; refine ⟨?_, (Below.refl _ _).alloc (Nat.le_refl _) _⟩; utf8_leaf)
  · have hres := hdr _ hX
    rw [if_neg (by decide), if_neg (by decide)] at hres
    rw [hX] at hc0
    have ha0 := (hT.2 3 (by omega)).1
    have ha1 := (hT.2 3 (by omega)).2
    simp only [accLo, accHi, Nat.reduceMul, Nat.reduceAdd, Nat.reduceEqDiff, if_true, if_false, Nat.reduceMod, Nat.reduceDiv] at ha0 ha1 hres
    rw [hres]
    clear hres hT hX hdr
    by_cases hn : n < 4
    · have hnz : (n : Int) < 4 := by omega
      clear hq1 hq2 hq3
      go_enter Tryd.func12, Tryd.ntmps12
      go_wp2
      all_goals (go_ret2; refine ⟨?_, (Below.refl _ _).alloc (Nat.le_refl _) _⟩; utf8_leaf)
    · have hz1 : (1 : Int) < (n : Int) := by omega
      have hs1 := hq1 (by omega)
      have hz2 : (2 : Int) < (n : Int) := by omega
      have hs2 := hq2 (by omega)
      have hz3 : (3 : Int) < (n : Int) := by omega
      have hs3 := hq3 (by omega)
      clear hq1 hq2 hq3
      go_enter Tryd.func12, Tryd.ntmps12
      go_wp2
      all_goals (go_ret2; refine ⟨?_, (Below.refl _ _).alloc (Nat.le_refl _) _⟩; utf8_leaf)
  · have hres := hdr _ hX
    rw [if_neg (by decide), if_neg (by decide)] at hres
    rw [hX] at hc0
    have ha0 := (hT.2 0 (by omega)).1
    have ha1 := (hT.2 0 (by omega)).2
    simp only [accLo, accHi, Nat.reduceMul, Nat.reduceAdd, Nat.reduceEqDiff, if_true, if_false, Nat.reduceMod, Nat.reduceDiv] at ha0 ha1 hres
    rw [hres]
    clear hres hT hX hdr
    by_cases hn : n < 4
    · have hnz : (n : Int) < 4 := by omega
      clear hq1 hq2 hq3
      go_enter Tryd.func12, Tryd.ntmps12
      go_wp2
      all_goals (go_ret2; refine ⟨?_, (Below.refl _ _).alloc (Nat.le_refl _) _⟩; utf8_leaf)
    · have hz1 : (1 : Int) < (n : Int) := by omega
      have hs1 := hq1 (by omega)
      have hz2 : (2 : Int) < (n : Int) := by omega
      have hs2 := hq2 (by omega)
      have hz3 : (3 : Int) < (n : Int) := by omega
      have hs3 := hq3 (by omega)
      clear hq1 hq2 hq3
      go_enter Tryd.func12, Tryd.ntmps12
      go_wp2
      all_goals (go_ret2; refine ⟨?_, (Below.refl _ _).alloc (Nat.le_refl _) _⟩; utf8_leaf)
  · have hres := hdr _ hX
    rw [if_neg (by decide), if_neg (by decide)] at hres
    rw [hX] at hc0
    have ha0 := (hT.2 4 (by omega)).1
    have ha1 := (hT.2 4 (by omega)).2
    simp only [accLo, accHi, Nat.reduceMul, Nat.reduceAdd, Nat.reduceEqDiff, if_true, if_false, Nat.reduceMod, Nat.reduceDiv] at ha0 ha1 hres
    rw [hres]
    clear hres hT hX hdr
    by_cases hn : n < 4
    · have hnz : (n : Int) < 4 := by omega
      clear hq1 hq2 hq3
      go_enter Tryd.func12, Tryd.ntmps12
      go_wp2
      all_goals (go_ret2; refine ⟨?_, (Below.refl _ _).alloc (Nat.le_refl _) _⟩; utf8_leaf)
    · have hz1 : (1 : Int) < (n : Int) := by omega
      have hs1 := hq1 (by omega)
      have hz2 : (2 : Int) < (n : Int) := by omega
      have hs2 := hq2 (by omega)
      have hz3 : (3 : Int) < (n : Int) := by omega
      have hs3 := hq3 (by omega)
      clear hq1 hq2 hq3
      go_enter Tryd.func12, Tryd.ntmps12
      go_wp2
      all_goals (go_ret2; refine ⟨?_, (Below.refl _ _).alloc (Nat.le_refl _) _⟩; utf8_leaf)

end Go.Proofs.YtdbcgeebcnlbaaaDoor.PScalMost
