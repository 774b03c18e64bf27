/- The walk of unicode/utf8.FullRune at a row that is not empty: it returns. Conditions: the two tables of the library hold what its text lays. -/
import Derived.Test.YtdbcgeebcnlbaaaDoorOwnV
namespace Go.Proofs.YtdbcgeebcnlbaaaDoor.PScalMost
open Go.RowKit Go.Lib Go.Proofs Go.Proofs.YtdbcgeebcnlbaaaDoorW.PrintWords
set_option linter.unusedVariables false
set_option linter.unusedSimpArgs false

/-- It returned a truth value; memory below is as it was. -/
def RetB (w : World) (e : Ending) (w1 : World) : Prop := ∃ r : Bool, e = .returned (.bool r) ∧ Below w.heap.size w w1
theorem RetB.mk {w w1 : World} (r : Bool) (h : Below w.heap.size w w1) : RetB w (.returned (.bool r)) w1 := ⟨r, rfl, h⟩

set_option maxHeartbeats 8000000 in
set_option maxRecDepth 1000000 in
theorem full_240 (n b off cap x0 x1 x2 : Nat) (sp : Option Nat) (w : World) (hT : Lib.Utf8Tabs 0 1 w) (l0 : x0 < 256) (l1 : x1 < 256) (l2 : x2 < 256) (hn0 : 0 < n)
    (hs0 : w.cell? ⟨b, off, sp⟩ = some (.int .u8 x0)) (hq1 : 1 < n → w.cell? ⟨b, off + 1, none⟩ = some (.int .u8 x1)) (hq2 : 2 < n → w.cell? ⟨b, off + 2, none⟩ = some (.int .u8 x2)) (hX : firstT x0 = 240) :
    Calls Tryd.prog 8 #[.slice (some ⟨b, off, sp⟩) n cap] w fun e w' => RetB w e w' := by
  have hz0 : (0 : Int) < (n : Int) := by omega
  have hz0' : ((n : Int) == 0) = false := by simp; omega
  have hb : b < w.heap.size := block_lt_of_cell hs0
  have hc0 := hT.1 x0 (by omega)
  rw [hX] at hc0
  clear hT hX hq1 hq2
  go_enter Tryd.func8, Tryd.ntmps8
  go_wp2
  go_ret
  exact RetB.mk _ (by repeat (first | exact Below.refl _ _ | apply below_alloc | apply below_drew1))

set_option maxHeartbeats 8000000 in
set_option maxRecDepth 1000000 in
theorem full_241 (n b off cap x0 x1 x2 : Nat) (sp : Option Nat) (w : World) (hT : Lib.Utf8Tabs 0 1 w) (l0 : x0 < 256) (l1 : x1 < 256) (l2 : x2 < 256) (hn0 : 0 < n)
    (hs0 : w.cell? ⟨b, off, sp⟩ = some (.int .u8 x0)) (hq1 : 1 < n → w.cell? ⟨b, off + 1, none⟩ = some (.int .u8 x1)) (hq2 : 2 < n → w.cell? ⟨b, off + 2, none⟩ = some (.int .u8 x2)) (hX : firstT x0 = 241) :
    Calls Tryd.prog 8 #[.slice (some ⟨b, off, sp⟩) n cap] w fun e w' => RetB w e w' := by
  have hz0 : (0 : Int) < (n : Int) := by omega
  have hz0' : ((n : Int) == 0) = false := by simp; omega
  have hb : b < w.heap.size := block_lt_of_cell hs0
  have hc0 := hT.1 x0 (by omega)
  rw [hX] at hc0
  clear hT hX hq1 hq2
  go_enter Tryd.func8, Tryd.ntmps8
  go_wp2
  go_ret
  exact RetB.mk _ (by repeat (first | exact Below.refl _ _ | apply below_alloc | apply below_drew1))

set_option maxHeartbeats 8000000 in
set_option maxRecDepth 1000000 in
theorem full_2 (n b off cap x0 x1 x2 : Nat) (sp : Option Nat) (w : World) (hT : Lib.Utf8Tabs 0 1 w) (l0 : x0 < 256) (l1 : x1 < 256) (l2 : x2 < 256) (hn0 : 0 < n)
    (hs0 : w.cell? ⟨b, off, sp⟩ = some (.int .u8 x0)) (hq1 : 1 < n → w.cell? ⟨b, off + 1, none⟩ = some (.int .u8 x1)) (hq2 : 2 < n → w.cell? ⟨b, off + 2, none⟩ = some (.int .u8 x2)) (hX : firstT x0 = 2) :
    Calls Tryd.prog 8 #[.slice (some ⟨b, off, sp⟩) n cap] w fun e w' => RetB w e w' := by
  have hz0 : (0 : Int) < (n : Int) := by omega
  have hz0' : ((n : Int) == 0) = false := by simp; omega
  have hb : b < w.heap.size := block_lt_of_cell hs0
  have hc0 := hT.1 x0 (by omega)
  rw [hX] at hc0
  have ha0 := (hT.2 0 (by omega)).1
  have ha1 := (hT.2 0 (by omega)).2
  simp only [accLo, accHi, Nat.reduceMul, Nat.reduceAdd, Nat.reduceEqDiff, if_true, if_false] at ha0 ha1
  clear hX hT
  by_cases hf : 2 ≤ n
  · have hf' : ¬ (n : Int) < 2 := by omega
    clear hq1 hq2
    go_enter Tryd.func8, Tryd.ntmps8
    go_wp2
    go_ret
    exact RetB.mk _ (by repeat (first | exact Below.refl _ _ | apply below_alloc | apply below_drew1))
  by_cases h1 : n = 1
  · subst h1
    clear hq1 hq2
    go_enter Tryd.func8, Tryd.ntmps8
    go_wp2
    go_region
    go_wp2
    go_ret
    exact RetB.mk _ (by repeat (first | exact Below.refl _ _ | apply below_alloc | apply below_drew1))
  omega

set_option maxHeartbeats 8000000 in
set_option maxRecDepth 1000000 in
theorem full_19 (n b off cap x0 x1 x2 : Nat) (sp : Option Nat) (w : World) (hT : Lib.Utf8Tabs 0 1 w) (l0 : x0 < 256) (l1 : x1 < 256) (l2 : x2 < 256) (hn0 : 0 < n)
    (hs0 : w.cell? ⟨b, off, sp⟩ = some (.int .u8 x0)) (hq1 : 1 < n → w.cell? ⟨b, off + 1, none⟩ = some (.int .u8 x1)) (hq2 : 2 < n → w.cell? ⟨b, off + 2, none⟩ = some (.int .u8 x2)) (hX : firstT x0 = 19) :
    Calls Tryd.prog 8 #[.slice (some ⟨b, off, sp⟩) n cap] w fun e w' => RetB w e w' := by
  have hz0 : (0 : Int) < (n : Int) := by omega
  have hz0' : ((n : Int) == 0) = false := by simp; omega
  have hb : b < w.heap.size := block_lt_of_cell hs0
  have hc0 := hT.1 x0 (by omega)
  rw [hX] at hc0
  have ha0 := (hT.2 1 (by omega)).1
  have ha1 := (hT.2 1 (by omega)).2
  simp only [accLo, accHi, Nat.reduceMul, Nat.reduceAdd, Nat.reduceEqDiff, if_true, if_false] at ha0 ha1
  clear hX hT
  by_cases hf : 3 ≤ n
  · have hf' : ¬ (n : Int) < 3 := by omega
    clear hq1 hq2
    go_enter Tryd.func8, Tryd.ntmps8
    go_wp2
    go_ret
    exact RetB.mk _ (by repeat (first | exact Below.refl _ _ | apply below_alloc | apply below_drew1))
  by_cases h1 : n = 1
  · subst h1
    clear hq1 hq2
    go_enter Tryd.func8, Tryd.ntmps8
    go_wp2
    go_region
    go_wp2
    go_ret
    exact RetB.mk _ (by repeat (first | exact Below.refl _ _ | apply below_alloc | apply below_drew1))
  by_cases h2 : n = 2
  · subst h2
    have hs1 := hq1 (by omega)
    clear hq1 hq2
    by_cases g1 : (x1 : Int) < 160
    · have d1 : decide ((x1 : Int) < 160) = true := decide_eq_true g1
      go_enter Tryd.func8, Tryd.ntmps8
      go_wp2
      go_region
      go_wp2
      all_goals (try go_region)
      all_goals (try go_wp2)
      all_goals (go_ret; exact RetB.mk _ (by repeat (first | exact Below.refl _ _ | apply below_alloc | apply below_drew1)))
    have d1 : decide ((x1 : Int) < 160) = false := decide_eq_false g1
    by_cases g2 : (191 : Int) < x1
    · have d2 : decide ((191 : Int) < x1) = true := decide_eq_true g2
      go_enter Tryd.func8, Tryd.ntmps8
      go_wp2
      go_region
      go_wp2
      all_goals (try go_region)
      all_goals (try go_wp2)
      all_goals (go_ret; exact RetB.mk _ (by repeat (first | exact Below.refl _ _ | apply below_alloc | apply below_drew1)))
    have d2 : decide ((191 : Int) < x1) = false := decide_eq_false g2
    go_enter Tryd.func8, Tryd.ntmps8
    go_wp2
    go_region
    go_wp2
    all_goals (try go_region)
    all_goals (try go_wp2)
    all_goals (go_ret; exact RetB.mk _ (by repeat (first | exact Below.refl _ _ | apply below_alloc | apply below_drew1)))
  omega

set_option maxHeartbeats 8000000 in
set_option maxRecDepth 1000000 in
theorem full_3 (n b off cap x0 x1 x2 : Nat) (sp : Option Nat) (w : World) (hT : Lib.Utf8Tabs 0 1 w) (l0 : x0 < 256) (l1 : x1 < 256) (l2 : x2 < 256) (hn0 : 0 < n)
    (hs0 : w.cell? ⟨b, off, sp⟩ = some (.int .u8 x0)) (hq1 : 1 < n → w.cell? ⟨b, off + 1, none⟩ = some (.int .u8 x1)) (hq2 : 2 < n → w.cell? ⟨b, off + 2, none⟩ = some (.int .u8 x2)) (hX : firstT x0 = 3) :
    Calls Tryd.prog 8 #[.slice (some ⟨b, off, sp⟩) n cap] w fun e w' => RetB w e w' := by
  have hz0 : (0 : Int) < (n : Int) := by omega
  have hz0' : ((n : Int) == 0) = false := by simp; omega
  have hb : b < w.heap.size := block_lt_of_cell hs0
  have hc0 := hT.1 x0 (by omega)
  rw [hX] at hc0
  have ha0 := (hT.2 0 (by omega)).1
  have ha1 := (hT.2 0 (by omega)).2
  simp only [accLo, accHi, Nat.reduceMul, Nat.reduceAdd, Nat.reduceEqDiff, if_true, if_false] at ha0 ha1
  clear hX hT
  by_cases hf : 3 ≤ n
  · have hf' : ¬ (n : Int) < 3 := by omega
    clear hq1 hq2
    go_enter Tryd.func8, Tryd.ntmps8
    go_wp2
    go_ret
    exact RetB.mk _ (by repeat (first | exact Below.refl _ _ | apply below_alloc | apply below_drew1))
  by_cases h1 : n = 1
  · subst h1
    clear hq1 hq2
    go_enter Tryd.func8, Tryd.ntmps8
    go_wp2
    go_region
    go_wp2
    go_ret
    exact RetB.mk _ (by repeat (first | exact Below.refl _ _ | apply below_alloc | apply below_drew1))
  by_cases h2 : n = 2
  · subst h2
    have hs1 := hq1 (by omega)
    clear hq1 hq2
    by_cases g1 : (x1 : Int) < 128
    · have d1 : decide ((x1 : Int) < 128) = true := decide_eq_true g1
      go_enter Tryd.func8, Tryd.ntmps8
      go_wp2
      go_region
      go_wp2
      all_goals (try go_region)
      all_goals (try go_wp2)
      all_goals (go_ret; exact RetB.mk _ (by repeat (first | exact Below.refl _ _ | apply below_alloc | apply below_drew1)))
    have d1 : decide ((x1 : Int) < 128) = false := decide_eq_false g1
    by_cases g2 : (191 : Int) < x1
    · have d2 : decide ((191 : Int) < x1) = true := decide_eq_true g2
      go_enter Tryd.func8, Tryd.ntmps8
      go_wp2
      go_region
      go_wp2
      all_goals (try go_region)
      all_goals (try go_wp2)
      all_goals (go_ret; exact RetB.mk _ (by repeat (first | exact Below.refl _ _ | apply below_alloc | apply below_drew1)))
    have d2 : decide ((191 : Int) < x1) = false := decide_eq_false g2
    go_enter Tryd.func8, Tryd.ntmps8
    go_wp2
    go_region
    go_wp2
    all_goals (try go_region)
    all_goals (try go_wp2)
    all_goals (go_ret; exact RetB.mk _ (by repeat (first | exact Below.refl _ _ | apply below_alloc | apply below_drew1)))
  omega

set_option maxHeartbeats 8000000 in
set_option maxRecDepth 1000000 in
theorem full_35 (n b off cap x0 x1 x2 : Nat) (sp : Option Nat) (w : World) (hT : Lib.Utf8Tabs 0 1 w) (l0 : x0 < 256) (l1 : x1 < 256) (l2 : x2 < 256) (hn0 : 0 < n)
    (hs0 : w.cell? ⟨b, off, sp⟩ = some (.int .u8 x0)) (hq1 : 1 < n → w.cell? ⟨b, off + 1, none⟩ = some (.int .u8 x1)) (hq2 : 2 < n → w.cell? ⟨b, off + 2, none⟩ = some (.int .u8 x2)) (hX : firstT x0 = 35) :
    Calls Tryd.prog 8 #[.slice (some ⟨b, off, sp⟩) n cap] w fun e w' => RetB w e w' := by
  have hz0 : (0 : Int) < (n : Int) := by omega
  have hz0' : ((n : Int) == 0) = false := by simp; omega
  have hb : b < w.heap.size := block_lt_of_cell hs0
  have hc0 := hT.1 x0 (by omega)
  rw [hX] at hc0
  have ha0 := (hT.2 2 (by omega)).1
  have ha1 := (hT.2 2 (by omega)).2
  simp only [accLo, accHi, Nat.reduceMul, Nat.reduceAdd, Nat.reduceEqDiff, if_true, if_false] at ha0 ha1
  clear hX hT
  by_cases hf : 3 ≤ n
  · have hf' : ¬ (n : Int) < 3 := by omega
    clear hq1 hq2
    go_enter Tryd.func8, Tryd.ntmps8
    go_wp2
    go_ret
    exact RetB.mk _ (by repeat (first | exact Below.refl _ _ | apply below_alloc | apply below_drew1))
  by_cases h1 : n = 1
  · subst h1
    clear hq1 hq2
    go_enter Tryd.func8, Tryd.ntmps8
    go_wp2
    go_region
    go_wp2
    go_ret
    exact RetB.mk _ (by repeat (first | exact Below.refl _ _ | apply below_alloc | apply below_drew1))
  by_cases h2 : n = 2
  · subst h2
    have hs1 := hq1 (by omega)
    clear hq1 hq2
    by_cases g1 : (x1 : Int) < 128
    · have d1 : decide ((x1 : Int) < 128) = true := decide_eq_true g1
      go_enter Tryd.func8, Tryd.ntmps8
      go_wp2
      go_region
      go_wp2
      all_goals (try go_region)
      all_goals (try go_wp2)
      all_goals (go_ret; exact RetB.mk _ (by repeat (first | exact Below.refl _ _ | apply below_alloc | apply below_drew1)))
    have d1 : decide ((x1 : Int) < 128) = false := decide_eq_false g1
    by_cases g2 : (159 : Int) < x1
    · have d2 : decide ((159 : Int) < x1) = true := decide_eq_true g2
      go_enter Tryd.func8, Tryd.ntmps8
      go_wp2
      go_region
      go_wp2
      all_goals (try go_region)
      all_goals (try go_wp2)
      all_goals (go_ret; exact RetB.mk _ (by repeat (first | exact Below.refl _ _ | apply below_alloc | apply below_drew1)))
    have d2 : decide ((159 : Int) < x1) = false := decide_eq_false g2
    go_enter Tryd.func8, Tryd.ntmps8
    go_wp2
    go_region
    go_wp2
    all_goals (try go_region)
    all_goals (try go_wp2)
    all_goals (go_ret; exact RetB.mk _ (by repeat (first | exact Below.refl _ _ | apply below_alloc | apply below_drew1)))
  omega

set_option maxHeartbeats 8000000 in
set_option maxRecDepth 1000000 in
theorem full_52 (n b off cap x0 x1 x2 : Nat) (sp : Option Nat) (w : World) (hT : Lib.Utf8Tabs 0 1 w) (l0 : x0 < 256) (l1 : x1 < 256) (l2 : x2 < 256) (hn0 : 0 < n)
    (hs0 : w.cell? ⟨b, off, sp⟩ = some (.int .u8 x0)) (hq1 : 1 < n → w.cell? ⟨b, off + 1, none⟩ = some (.int .u8 x1)) (hq2 : 2 < n → w.cell? ⟨b, off + 2, none⟩ = some (.int .u8 x2)) (hX : firstT x0 = 52) :
    Calls Tryd.prog 8 #[.slice (some ⟨b, off, sp⟩) n cap] w fun e w' => RetB w e w' := by
  have hz0 : (0 : Int) < (n : Int) := by omega
  have hz0' : ((n : Int) == 0) = false := by simp; omega
  have hb : b < w.heap.size := block_lt_of_cell hs0
  have hc0 := hT.1 x0 (by omega)
  rw [hX] at hc0
  have ha0 := (hT.2 3 (by omega)).1
  have ha1 := (hT.2 3 (by omega)).2
  simp only [accLo, accHi, Nat.reduceMul, Nat.reduceAdd, Nat.reduceEqDiff, if_true, if_false] at ha0 ha1
  clear hX hT
  by_cases hf : 4 ≤ n
  · have hf' : ¬ (n : Int) < 4 := by omega
    clear hq1 hq2
    go_enter Tryd.func8, Tryd.ntmps8
    go_wp2
    go_ret
    exact RetB.mk _ (by repeat (first | exact Below.refl _ _ | apply below_alloc | apply below_drew1))
  by_cases h1 : n = 1
  · subst h1
    clear hq1 hq2
    go_enter Tryd.func8, Tryd.ntmps8
    go_wp2
    go_region
    go_wp2
    go_ret
    exact RetB.mk _ (by repeat (first | exact Below.refl _ _ | apply below_alloc | apply below_drew1))
  by_cases h2 : n = 2
  · subst h2
    have hs1 := hq1 (by omega)
    clear hq1 hq2
    by_cases g1 : (x1 : Int) < 144
    · have d1 : decide ((x1 : Int) < 144) = true := decide_eq_true g1
      go_enter Tryd.func8, Tryd.ntmps8
      go_wp2
      go_region
      go_wp2
      all_goals (try go_region)
      all_goals (try go_wp2)
      all_goals (go_ret; exact RetB.mk _ (by repeat (first | exact Below.refl _ _ | apply below_alloc | apply below_drew1)))
    have d1 : decide ((x1 : Int) < 144) = false := decide_eq_false g1
    by_cases g2 : (191 : Int) < x1
    · have d2 : decide ((191 : Int) < x1) = true := decide_eq_true g2
      go_enter Tryd.func8, Tryd.ntmps8
      go_wp2
      go_region
      go_wp2
      all_goals (try go_region)
      all_goals (try go_wp2)
      all_goals (go_ret; exact RetB.mk _ (by repeat (first | exact Below.refl _ _ | apply below_alloc | apply below_drew1)))
    have d2 : decide ((191 : Int) < x1) = false := decide_eq_false g2
    go_enter Tryd.func8, Tryd.ntmps8
    go_wp2
    go_region
    go_wp2
    all_goals (try go_region)
    all_goals (try go_wp2)
    all_goals (go_ret; exact RetB.mk _ (by repeat (first | exact Below.refl _ _ | apply below_alloc | apply below_drew1)))
  by_cases h3 : n = 3
  · subst h3
    have hs1 := hq1 (by omega)
    have hs2 := hq2 (by omega)
    clear hq1 hq2
    by_cases g1 : (x1 : Int) < 144
    · have d1 : decide ((x1 : Int) < 144) = true := decide_eq_true g1
      go_enter Tryd.func8, Tryd.ntmps8
      go_wp2
      go_region
      go_wp2
      all_goals (try go_region)
      all_goals (try go_wp2)
      all_goals (go_ret; exact RetB.mk _ (by repeat (first | exact Below.refl _ _ | apply below_alloc | apply below_drew1)))
    have d1 : decide ((x1 : Int) < 144) = false := decide_eq_false g1
    by_cases g2 : (191 : Int) < x1
    · have d2 : decide ((191 : Int) < x1) = true := decide_eq_true g2
      go_enter Tryd.func8, Tryd.ntmps8
      go_wp2
      go_region
      go_wp2
      all_goals (try go_region)
      all_goals (try go_wp2)
      all_goals (go_ret; exact RetB.mk _ (by repeat (first | exact Below.refl _ _ | apply below_alloc | apply below_drew1)))
    have d2 : decide ((191 : Int) < x1) = false := decide_eq_false g2
    by_cases g3 : (x2 : Int) < 128
    · have d3 : decide ((x2 : Int) < 128) = true := decide_eq_true g3
      go_enter Tryd.func8, Tryd.ntmps8
      go_wp2
      go_region
      go_wp2
      all_goals (try go_region)
      all_goals (try go_wp2)
      all_goals (go_ret; exact RetB.mk _ (by repeat (first | exact Below.refl _ _ | apply below_alloc | apply below_drew1)))
    have d3 : decide ((x2 : Int) < 128) = false := decide_eq_false g3
    by_cases g4 : (191 : Int) < x2
    · have d4 : decide ((191 : Int) < x2) = true := decide_eq_true g4
      go_enter Tryd.func8, Tryd.ntmps8
      go_wp2
      go_region
      go_wp2
      all_goals (try go_region)
      all_goals (try go_wp2)
      all_goals (go_ret; exact RetB.mk _ (by repeat (first | exact Below.refl _ _ | apply below_alloc | apply below_drew1)))
    have d4 : decide ((191 : Int) < x2) = false := decide_eq_false g4
    go_enter Tryd.func8, Tryd.ntmps8
    go_wp2
    go_region
    go_wp2
    all_goals (try go_region)
    all_goals (try go_wp2)
    all_goals (go_ret; exact RetB.mk _ (by repeat (first | exact Below.refl _ _ | apply below_alloc | apply below_drew1)))
  omega

set_option maxHeartbeats 8000000 in
set_option maxRecDepth 1000000 in
theorem full_4 (n b off cap x0 x1 x2 : Nat) (sp : Option Nat) (w : World) (hT : Lib.Utf8Tabs 0 1 w) (l0 : x0 < 256) (l1 : x1 < 256) (l2 : x2 < 256) (hn0 : 0 < n)
    (hs0 : w.cell? ⟨b, off, sp⟩ = some (.int .u8 x0)) (hq1 : 1 < n → w.cell? ⟨b, off + 1, none⟩ = some (.int .u8 x1)) (hq2 : 2 < n → w.cell? ⟨b, off + 2, none⟩ = some (.int .u8 x2)) (hX : firstT x0 = 4) :
    Calls Tryd.prog 8 #[.slice (some ⟨b, off, sp⟩) n cap] w fun e w' => RetB w e w' := by
  have hz0 : (0 : Int) < (n : Int) := by omega
  have hz0' : ((n : Int) == 0) = false := by simp; omega
  have hb : b < w.heap.size := block_lt_of_cell hs0
  have hc0 := hT.1 x0 (by omega)
  rw [hX] at hc0
  have ha0 := (hT.2 0 (by omega)).1
  have ha1 := (hT.2 0 (by omega)).2
  simp only [accLo, accHi, Nat.reduceMul, Nat.reduceAdd, Nat.reduceEqDiff, if_true, if_false] at ha0 ha1
  clear hX hT
  by_cases hf : 4 ≤ n
  · have hf' : ¬ (n : Int) < 4 := by omega
    clear hq1 hq2
    go_enter Tryd.func8, Tryd.ntmps8
    go_wp2
    go_ret
    exact RetB.mk _ (by repeat (first | exact Below.refl _ _ | apply below_alloc | apply below_drew1))
  by_cases h1 : n = 1
  · subst h1
    clear hq1 hq2
    go_enter Tryd.func8, Tryd.ntmps8
    go_wp2
    go_region
    go_wp2
    go_ret
    exact RetB.mk _ (by repeat (first | exact Below.refl _ _ | apply below_alloc | apply below_drew1))
  by_cases h2 : n = 2
  · subst h2
    have hs1 := hq1 (by omega)
    clear hq1 hq2
    by_cases g1 : (x1 : Int) < 128
    · have d1 : decide ((x1 : Int) < 128) = true := decide_eq_true g1
      go_enter Tryd.func8, Tryd.ntmps8
      go_wp2
      go_region
      go_wp2
      all_goals (try go_region)
      all_goals (try go_wp2)
      all_goals (go_ret; exact RetB.mk _ (by repeat (first | exact Below.refl _ _ | apply below_alloc | apply below_drew1)))
    have d1 : decide ((x1 : Int) < 128) = false := decide_eq_false g1
    by_cases g2 : (191 : Int) < x1
    · have d2 : decide ((191 : Int) < x1) = true := decide_eq_true g2
      go_enter Tryd.func8, Tryd.ntmps8
      go_wp2
      go_region
      go_wp2
      all_goals (try go_region)
      all_goals (try go_wp2)
      all_goals (go_ret; exact RetB.mk _ (by repeat (first | exact Below.refl _ _ | apply below_alloc | apply below_drew1)))
    have d2 : decide ((191 : Int) < x1) = false := decide_eq_false g2
    go_enter Tryd.func8, Tryd.ntmps8
    go_wp2
    go_region
    go_wp2
    all_goals (try go_region)
    all_goals (try go_wp2)
    all_goals (go_ret; exact RetB.mk _ (by repeat (first | exact Below.refl _ _ | apply below_alloc | apply below_drew1)))
  by_cases h3 : n = 3
  · subst h3
    have hs1 := hq1 (by omega)
    have hs2 := hq2 (by omega)
    clear hq1 hq2
    by_cases g1 : (x1 : Int) < 128
    · have d1 : decide ((x1 : Int) < 128) = true := decide_eq_true g1
      go_enter Tryd.func8, Tryd.ntmps8
      go_wp2
      go_region
      go_wp2
      all_goals (try go_region)
      all_goals (try go_wp2)
      all_goals (go_ret; exact RetB.mk _ (by repeat (first | exact Below.refl _ _ | apply below_alloc | apply below_drew1)))
    have d1 : decide ((x1 : Int) < 128) = false := decide_eq_false g1
    by_cases g2 : (191 : Int) < x1
    · have d2 : decide ((191 : Int) < x1) = true := decide_eq_true g2
      go_enter Tryd.func8, Tryd.ntmps8
      go_wp2
      go_region
      go_wp2
      all_goals (try go_region)
      all_goals (try go_wp2)
      all_goals (go_ret; exact RetB.mk _ (by repeat (first | exact Below.refl _ _ | apply below_alloc | apply below_drew1)))
    have d2 : decide ((191 : Int) < x1) = false := decide_eq_false g2
    by_cases g3 : (x2 : Int) < 128
    · have d3 : decide ((x2 : Int) < 128) = true := decide_eq_true g3
      go_enter Tryd.func8, Tryd.ntmps8
      go_wp2
      go_region
      go_wp2
      all_goals (try go_region)
      all_goals (try go_wp2)
      all_goals (go_ret; exact RetB.mk _ (by repeat (first | exact Below.refl _ _ | apply below_alloc | apply below_drew1)))
    have d3 : decide ((x2 : Int) < 128) = false := decide_eq_false g3
    by_cases g4 : (191 : Int) < x2
    · have d4 : decide ((191 : Int) < x2) = true := decide_eq_true g4
      go_enter Tryd.func8, Tryd.ntmps8
      go_wp2
      go_region
      go_wp2
      all_goals (try go_region)
      all_goals (try go_wp2)
      all_goals (go_ret; exact RetB.mk _ (by repeat (first | exact Below.refl _ _ | apply below_alloc | apply below_drew1)))
    have d4 : decide ((191 : Int) < x2) = false := decide_eq_false g4
    go_enter Tryd.func8, Tryd.ntmps8
    go_wp2
    go_region
    go_wp2
    all_goals (try go_region)
    all_goals (try go_wp2)
    all_goals (go_ret; exact RetB.mk _ (by repeat (first | exact Below.refl _ _ | apply below_alloc | apply below_drew1)))
  omega

set_option maxHeartbeats 8000000 in
set_option maxRecDepth 1000000 in
theorem full_68 (n b off cap x0 x1 x2 : Nat) (sp : Option Nat) (w : World) (hT : Lib.Utf8Tabs 0 1 w) (l0 : x0 < 256) (l1 : x1 < 256) (l2 : x2 < 256) (hn0 : 0 < n)
    (hs0 : w.cell? ⟨b, off, sp⟩ = some (.int .u8 x0)) (hq1 : 1 < n → w.cell? ⟨b, off + 1, none⟩ = some (.int .u8 x1)) (hq2 : 2 < n → w.cell? ⟨b, off + 2, none⟩ = some (.int .u8 x2)) (hX : firstT x0 = 68) :
    Calls Tryd.prog 8 #[.slice (some ⟨b, off, sp⟩) n cap] w fun e w' => RetB w e w' := by
  have hz0 : (0 : Int) < (n : Int) := by omega
  have hz0' : ((n : Int) == 0) = false := by simp; omega
  have hb : b < w.heap.size := block_lt_of_cell hs0
  have hc0 := hT.1 x0 (by omega)
  rw [hX] at hc0
  have ha0 := (hT.2 4 (by omega)).1
  have ha1 := (hT.2 4 (by omega)).2
  simp only [accLo, accHi, Nat.reduceMul, Nat.reduceAdd, Nat.reduceEqDiff, if_true, if_false] at ha0 ha1
  clear hX hT
  by_cases hf : 4 ≤ n
  · have hf' : ¬ (n : Int) < 4 := by omega
    clear hq1 hq2
    go_enter Tryd.func8, Tryd.ntmps8
    go_wp2
    go_ret
    exact RetB.mk _ (by repeat (first | exact Below.refl _ _ | apply below_alloc | apply below_drew1))
  by_cases h1 : n = 1
  · subst h1
    clear hq1 hq2
    go_enter Tryd.func8, Tryd.ntmps8
    go_wp2
    go_region
    go_wp2
    go_ret
    exact RetB.mk _ (by repeat (first | exact Below.refl _ _ | apply below_alloc | apply below_drew1))
  by_cases h2 : n = 2
  · subst h2
    have hs1 := hq1 (by omega)
    clear hq1 hq2
    by_cases g1 : (x1 : Int) < 128
    · have d1 : decide ((x1 : Int) < 128) = true := decide_eq_true g1
      go_enter Tryd.func8, Tryd.ntmps8
      go_wp2
      go_region
      go_wp2
      all_goals (try go_region)
      all_goals (try go_wp2)
      all_goals (go_ret; exact RetB.mk _ (by repeat (first | exact Below.refl _ _ | apply below_alloc | apply below_drew1)))
    have d1 : decide ((x1 : Int) < 128) = false := decide_eq_false g1
    by_cases g2 : (143 : Int) < x1
    · have d2 : decide ((143 : Int) < x1) = true := decide_eq_true g2
      go_enter Tryd.func8, Tryd.ntmps8
      go_wp2
      go_region
      go_wp2
      all_goals (try go_region)
      all_goals (try go_wp2)
      all_goals (go_ret; exact RetB.mk _ (by repeat (first | exact Below.refl _ _ | apply below_alloc | apply below_drew1)))
    have d2 : decide ((143 : Int) < x1) = false := decide_eq_false g2
    go_enter Tryd.func8, Tryd.ntmps8
    go_wp2
    go_region
    go_wp2
    all_goals (try go_region)
    all_goals (try go_wp2)
    all_goals (go_ret; exact RetB.mk _ (by repeat (first | exact Below.refl _ _ | apply below_alloc | apply below_drew1)))
  by_cases h3 : n = 3
  · subst h3
    have hs1 := hq1 (by omega)
    have hs2 := hq2 (by omega)
    clear hq1 hq2
    by_cases g1 : (x1 : Int) < 128
    · have d1 : decide ((x1 : Int) < 128) = true := decide_eq_true g1
      go_enter Tryd.func8, Tryd.ntmps8
      go_wp2
      go_region
      go_wp2
      all_goals (try go_region)
      all_goals (try go_wp2)
      all_goals (go_ret; exact RetB.mk _ (by repeat (first | exact Below.refl _ _ | apply below_alloc | apply below_drew1)))
    have d1 : decide ((x1 : Int) < 128) = false := decide_eq_false g1
    by_cases g2 : (143 : Int) < x1
    · have d2 : decide ((143 : Int) < x1) = true := decide_eq_true g2
      go_enter Tryd.func8, Tryd.ntmps8
      go_wp2
      go_region
      go_wp2
      all_goals (try go_region)
      all_goals (try go_wp2)
      all_goals (go_ret; exact RetB.mk _ (by repeat (first | exact Below.refl _ _ | apply below_alloc | apply below_drew1)))
    have d2 : decide ((143 : Int) < x1) = false := decide_eq_false g2
    by_cases g3 : (x2 : Int) < 128
    · have d3 : decide ((x2 : Int) < 128) = true := decide_eq_true g3
      go_enter Tryd.func8, Tryd.ntmps8
      go_wp2
      go_region
      go_wp2
      all_goals (try go_region)
      all_goals (try go_wp2)
      all_goals (go_ret; exact RetB.mk _ (by repeat (first | exact Below.refl _ _ | apply below_alloc | apply below_drew1)))
    have d3 : decide ((x2 : Int) < 128) = false := decide_eq_false g3
    by_cases g4 : (191 : Int) < x2
    · have d4 : decide ((191 : Int) < x2) = true := decide_eq_true g4
      go_enter Tryd.func8, Tryd.ntmps8
      go_wp2
      go_region
      go_wp2
      all_goals (try go_region)
      all_goals (try go_wp2)
      all_goals (go_ret; exact RetB.mk _ (by repeat (first | exact Below.refl _ _ | apply below_alloc | apply below_drew1)))
    have d4 : decide ((191 : Int) < x2) = false := decide_eq_false g4
    go_enter Tryd.func8, Tryd.ntmps8
    go_wp2
    go_region
    go_wp2
    all_goals (try go_region)
    all_goals (try go_wp2)
    all_goals (go_ret; exact RetB.mk _ (by repeat (first | exact Below.refl _ _ | apply below_alloc | apply below_drew1)))
  omega

theorem full_walk (n b off cap x0 x1 x2 : Nat) (sp : Option Nat) (w : World) (hT : Lib.Utf8Tabs 0 1 w) (l0 : x0 < 256) (l1 : x1 < 256) (l2 : x2 < 256) (hn0 : 0 < n)
    (hs0 : w.cell? ⟨b, off, sp⟩ = some (.int .u8 x0)) (hq1 : 1 < n → w.cell? ⟨b, off + 1, none⟩ = some (.int .u8 x1)) (hq2 : 2 < n → w.cell? ⟨b, off + 2, none⟩ = some (.int .u8 x2)) :
    Calls Tryd.prog 8 #[.slice (some ⟨b, off, sp⟩) n cap] w fun e w' => RetB w e w' := by
  rcases Lib.firstT_cases x0 with hX | hX | hX | hX | hX | hX | hX | hX | hX
  · exact full_240 n b off cap x0 x1 x2 sp w hT l0 l1 l2 hn0 hs0 hq1 hq2 hX
  · exact full_241 n b off cap x0 x1 x2 sp w hT l0 l1 l2 hn0 hs0 hq1 hq2 hX
  · exact full_2 n b off cap x0 x1 x2 sp w hT l0 l1 l2 hn0 hs0 hq1 hq2 hX
  · exact full_19 n b off cap x0 x1 x2 sp w hT l0 l1 l2 hn0 hs0 hq1 hq2 hX
  · exact full_3 n b off cap x0 x1 x2 sp w hT l0 l1 l2 hn0 hs0 hq1 hq2 hX
  · exact full_35 n b off cap x0 x1 x2 sp w hT l0 l1 l2 hn0 hs0 hq1 hq2 hX
  · exact full_52 n b off cap x0 x1 x2 sp w hT l0 l1 l2 hn0 hs0 hq1 hq2 hX
  · exact full_4 n b off cap x0 x1 x2 sp w hT l0 l1 l2 hn0 hs0 hq1 hq2 hX
  · exact full_68 n b off cap x0 x1 x2 sp w hT l0 l1 l2 hn0 hs0 hq1 hq2 hX

end Go.Proofs.YtdbcgeebcnlbaaaDoor.PScalMost
