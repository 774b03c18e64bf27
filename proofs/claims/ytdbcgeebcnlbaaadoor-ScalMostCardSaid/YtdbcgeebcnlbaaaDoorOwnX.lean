/- The walk of unicode/utf8.Valid at the bytes of a sign that is read as Bad: it returns. Conditions: the two tables of the library hold what its text lays. -/
import Derived.Test.YtdbcgeebcnlbaaaDoorOwnW
import Derived.LoopN
namespace Go.Proofs.YtdbcgeebcnlbaaaDoor.PScalMost
open Go.RowKit Go.Lib Go.Proofs Go.Proofs.YtdbcgeebcnlbaaaDoorW.PrintWords
set_option linter.unusedVariables false
set_option linter.unusedSimpArgs false

set_option maxHeartbeats 8000000 in
set_option maxRecDepth 1000000 in
theorem valid_241 (n b off cap x0 : Nat) (sp : Option Nat) (w : World) (hT : Lib.Utf8Tabs 0 1 w) (l0 : x0 < 256) (hn0 : 0 < n) (hc : n ≤ cap)
    (hs0 : w.cell? ⟨b, off, sp⟩ = some (.int .u8 x0)) (hX : firstT x0 = 241) (ha : ¬ (x0 : Int) < 128) :
    Calls Tryd.prog 9 #[.slice (some ⟨b, off, sp⟩) n cap] w fun e w' => RetB w e w' := by
  have hz0 : (0 : Int) < (n : Int) := by omega
  have hb : b < w.heap.size := block_lt_of_cell hs0
  have hc0 := hT.1 x0 (by omega)
  rw [hX] at hc0
  have ha0 := (hT.2 15 (by omega)).1
  have ha1 := (hT.2 15 (by omega)).2
  simp only [accLo, accHi, Nat.reduceMul, Nat.reduceAdd, Nat.reduceEqDiff, if_true, if_false] at ha0 ha1
  clear hX hT
  go_enter Tryd.func9, Tryd.ntmps9
  go_wp2
  refine wp_loop_rounds 4 ?_
  rw [rounds_succ]
  go_wp2
  go_ret
  exact RetB.mk _ (by repeat (first | exact Below.refl _ _ | apply below_alloc | apply below_drew1))

set_option maxHeartbeats 8000000 in
set_option maxRecDepth 1000000 in
theorem valid_2 (n b off cap x0 : Nat) (sp : Option Nat) (w : World) (hT : Lib.Utf8Tabs 0 1 w) (l0 : x0 < 256) (hn0 : 0 < n) (hc : n ≤ cap)
    (hs0 : w.cell? ⟨b, off, sp⟩ = some (.int .u8 x0)) (hX : firstT x0 = 2) (ha : ¬ (x0 : Int) < 128) (hn : n < 2) :
    Calls Tryd.prog 9 #[.slice (some ⟨b, off, sp⟩) n cap] w fun e w' => RetB w e w' := by
  have hz0 : (0 : Int) < (n : Int) := by omega
  have hb : b < w.heap.size := block_lt_of_cell hs0
  have hc0 := hT.1 x0 (by omega)
  rw [hX] at hc0
  have ha0 := (hT.2 0 (by omega)).1
  have ha1 := (hT.2 0 (by omega)).2
  simp only [accLo, accHi, Nat.reduceMul, Nat.reduceAdd, Nat.reduceEqDiff, if_true, if_false] at ha0 ha1
  clear hX hT
  have hnz : (n : Int) < 2 := by omega
  go_enter Tryd.func9, Tryd.ntmps9
  go_wp2
  refine wp_loop_rounds 4 ?_
  rw [rounds_succ]
  go_wp2
  go_region
  go_wp2
  go_ret
  exact RetB.mk _ (by repeat (first | exact Below.refl _ _ | apply below_alloc | apply below_drew1))

set_option maxHeartbeats 8000000 in
set_option maxRecDepth 1000000 in
theorem valid_19 (n b off cap x0 : Nat) (sp : Option Nat) (w : World) (hT : Lib.Utf8Tabs 0 1 w) (l0 : x0 < 256) (hn0 : 0 < n) (hc : n ≤ cap)
    (hs0 : w.cell? ⟨b, off, sp⟩ = some (.int .u8 x0)) (hX : firstT x0 = 19) (ha : ¬ (x0 : Int) < 128) (hn : n < 3) :
    Calls Tryd.prog 9 #[.slice (some ⟨b, off, sp⟩) n cap] w fun e w' => RetB w e w' := by
  have hz0 : (0 : Int) < (n : Int) := by omega
  have hb : b < w.heap.size := block_lt_of_cell hs0
  have hc0 := hT.1 x0 (by omega)
  rw [hX] at hc0
  have ha0 := (hT.2 1 (by omega)).1
  have ha1 := (hT.2 1 (by omega)).2
  simp only [accLo, accHi, Nat.reduceMul, Nat.reduceAdd, Nat.reduceEqDiff, if_true, if_false] at ha0 ha1
  clear hX hT
  have hnz : (n : Int) < 3 := by omega
  go_enter Tryd.func9, Tryd.ntmps9
  go_wp2
  refine wp_loop_rounds 4 ?_
  rw [rounds_succ]
  go_wp2
  go_region
  go_wp2
  go_ret
  exact RetB.mk _ (by repeat (first | exact Below.refl _ _ | apply below_alloc | apply below_drew1))

set_option maxHeartbeats 8000000 in
set_option maxRecDepth 1000000 in
theorem valid_3 (n b off cap x0 : Nat) (sp : Option Nat) (w : World) (hT : Lib.Utf8Tabs 0 1 w) (l0 : x0 < 256) (hn0 : 0 < n) (hc : n ≤ cap)
    (hs0 : w.cell? ⟨b, off, sp⟩ = some (.int .u8 x0)) (hX : firstT x0 = 3) (ha : ¬ (x0 : Int) < 128) (hn : n < 3) :
    Calls Tryd.prog 9 #[.slice (some ⟨b, off, sp⟩) n cap] w fun e w' => RetB w e w' := by
  have hz0 : (0 : Int) < (n : Int) := by omega
  have hb : b < w.heap.size := block_lt_of_cell hs0
  have hc0 := hT.1 x0 (by omega)
  rw [hX] at hc0
  have ha0 := (hT.2 0 (by omega)).1
  have ha1 := (hT.2 0 (by omega)).2
  simp only [accLo, accHi, Nat.reduceMul, Nat.reduceAdd, Nat.reduceEqDiff, if_true, if_false] at ha0 ha1
  clear hX hT
  have hnz : (n : Int) < 3 := by omega
  go_enter Tryd.func9, Tryd.ntmps9
  go_wp2
  refine wp_loop_rounds 4 ?_
  rw [rounds_succ]
  go_wp2
  go_region
  go_wp2
  go_ret
  exact RetB.mk _ (by repeat (first | exact Below.refl _ _ | apply below_alloc | apply below_drew1))

set_option maxHeartbeats 8000000 in
set_option maxRecDepth 1000000 in
theorem valid_35 (n b off cap x0 : Nat) (sp : Option Nat) (w : World) (hT : Lib.Utf8Tabs 0 1 w) (l0 : x0 < 256) (hn0 : 0 < n) (hc : n ≤ cap)
    (hs0 : w.cell? ⟨b, off, sp⟩ = some (.int .u8 x0)) (hX : firstT x0 = 35) (ha : ¬ (x0 : Int) < 128) (hn : n < 3) :
    Calls Tryd.prog 9 #[.slice (some ⟨b, off, sp⟩) n cap] w fun e w' => RetB w e w' := by
  have hz0 : (0 : Int) < (n : Int) := by omega
  have hb : b < w.heap.size := block_lt_of_cell hs0
  have hc0 := hT.1 x0 (by omega)
  rw [hX] at hc0
  have ha0 := (hT.2 2 (by omega)).1
  have ha1 := (hT.2 2 (by omega)).2
  simp only [accLo, accHi, Nat.reduceMul, Nat.reduceAdd, Nat.reduceEqDiff, if_true, if_false] at ha0 ha1
  clear hX hT
  have hnz : (n : Int) < 3 := by omega
  go_enter Tryd.func9, Tryd.ntmps9
  go_wp2
  refine wp_loop_rounds 4 ?_
  rw [rounds_succ]
  go_wp2
  go_region
  go_wp2
  go_ret
  exact RetB.mk _ (by repeat (first | exact Below.refl _ _ | apply below_alloc | apply below_drew1))

set_option maxHeartbeats 8000000 in
set_option maxRecDepth 1000000 in
theorem valid_52 (n b off cap x0 : Nat) (sp : Option Nat) (w : World) (hT : Lib.Utf8Tabs 0 1 w) (l0 : x0 < 256) (hn0 : 0 < n) (hc : n ≤ cap)
    (hs0 : w.cell? ⟨b, off, sp⟩ = some (.int .u8 x0)) (hX : firstT x0 = 52) (ha : ¬ (x0 : Int) < 128) (hn : n < 4) :
    Calls Tryd.prog 9 #[.slice (some ⟨b, off, sp⟩) n cap] w fun e w' => RetB w e w' := by
  have hz0 : (0 : Int) < (n : Int) := by omega
  have hb : b < w.heap.size := block_lt_of_cell hs0
  have hc0 := hT.1 x0 (by omega)
  rw [hX] at hc0
  have ha0 := (hT.2 3 (by omega)).1
  have ha1 := (hT.2 3 (by omega)).2
  simp only [accLo, accHi, Nat.reduceMul, Nat.reduceAdd, Nat.reduceEqDiff, if_true, if_false] at ha0 ha1
  clear hX hT
  have hnz : (n : Int) < 4 := by omega
  go_enter Tryd.func9, Tryd.ntmps9
  go_wp2
  refine wp_loop_rounds 4 ?_
  rw [rounds_succ]
  go_wp2
  go_region
  go_wp2
  go_ret
  exact RetB.mk _ (by repeat (first | exact Below.refl _ _ | apply below_alloc | apply below_drew1))

set_option maxHeartbeats 8000000 in
set_option maxRecDepth 1000000 in
theorem valid_4 (n b off cap x0 : Nat) (sp : Option Nat) (w : World) (hT : Lib.Utf8Tabs 0 1 w) (l0 : x0 < 256) (hn0 : 0 < n) (hc : n ≤ cap)
    (hs0 : w.cell? ⟨b, off, sp⟩ = some (.int .u8 x0)) (hX : firstT x0 = 4) (ha : ¬ (x0 : Int) < 128) (hn : n < 4) :
    Calls Tryd.prog 9 #[.slice (some ⟨b, off, sp⟩) n cap] w fun e w' => RetB w e w' := by
  have hz0 : (0 : Int) < (n : Int) := by omega
  have hb : b < w.heap.size := block_lt_of_cell hs0
  have hc0 := hT.1 x0 (by omega)
  rw [hX] at hc0
  have ha0 := (hT.2 0 (by omega)).1
  have ha1 := (hT.2 0 (by omega)).2
  simp only [accLo, accHi, Nat.reduceMul, Nat.reduceAdd, Nat.reduceEqDiff, if_true, if_false] at ha0 ha1
  clear hX hT
  have hnz : (n : Int) < 4 := by omega
  go_enter Tryd.func9, Tryd.ntmps9
  go_wp2
  refine wp_loop_rounds 4 ?_
  rw [rounds_succ]
  go_wp2
  go_region
  go_wp2
  go_ret
  exact RetB.mk _ (by repeat (first | exact Below.refl _ _ | apply below_alloc | apply below_drew1))

set_option maxHeartbeats 8000000 in
set_option maxRecDepth 1000000 in
theorem valid_68 (n b off cap x0 : Nat) (sp : Option Nat) (w : World) (hT : Lib.Utf8Tabs 0 1 w) (l0 : x0 < 256) (hn0 : 0 < n) (hc : n ≤ cap)
    (hs0 : w.cell? ⟨b, off, sp⟩ = some (.int .u8 x0)) (hX : firstT x0 = 68) (ha : ¬ (x0 : Int) < 128) (hn : n < 4) :
    Calls Tryd.prog 9 #[.slice (some ⟨b, off, sp⟩) n cap] w fun e w' => RetB w e w' := by
  have hz0 : (0 : Int) < (n : Int) := by omega
  have hb : b < w.heap.size := block_lt_of_cell hs0
  have hc0 := hT.1 x0 (by omega)
  rw [hX] at hc0
  have ha0 := (hT.2 4 (by omega)).1
  have ha1 := (hT.2 4 (by omega)).2
  simp only [accLo, accHi, Nat.reduceMul, Nat.reduceAdd, Nat.reduceEqDiff, if_true, if_false] at ha0 ha1
  clear hX hT
  have hnz : (n : Int) < 4 := by omega
  go_enter Tryd.func9, Tryd.ntmps9
  go_wp2
  refine wp_loop_rounds 4 ?_
  rw [rounds_succ]
  go_wp2
  go_region
  go_wp2
  go_ret
  exact RetB.mk _ (by repeat (first | exact Below.refl _ _ | apply below_alloc | apply below_drew1))

set_option maxHeartbeats 8000000 in
set_option maxRecDepth 1000000 in
theorem valid_bad (b off cap : Nat) (sp : Option Nat) (w : World) (hT : Lib.Utf8Tabs 0 1 w) (hc : 3 ≤ cap)
    (hs0 : w.cell? ⟨b, off, sp⟩ = some (.int .u8 239)) (hs1 : w.cell? ⟨b, off + 1, none⟩ = some (.int .u8 191)) (hs2 : w.cell? ⟨b, off + 2, none⟩ = some (.int .u8 189)) :
    Calls Tryd.prog 9 #[.slice (some ⟨b, off, sp⟩) 3 cap] w fun e w' => RetB w e w' := by
  have hb : b < w.heap.size := block_lt_of_cell hs0
  have hc0 := hT.1 239 (by omega)
  rw [show firstT 239 = 3 from by decide] at hc0
  have ha0 := (hT.2 0 (by omega)).1
  have ha1 := (hT.2 0 (by omega)).2
  simp only [accLo, accHi, Nat.reduceMul, Nat.reduceAdd, Nat.reduceEqDiff, if_true, if_false] at ha0 ha1
  clear hT
  go_enter Tryd.func9, Tryd.ntmps9
  go_wp2
  refine wp_loop_rounds 4 ?_
  rw [rounds_succ]
  go_wp2
  go_region
  go_wp2
  rw [rounds_succ]
  go_wp2
  go_ret
  exact RetB.mk _ (by repeat (first | exact Below.refl _ _ | apply below_alloc | apply below_drew1))

end Go.Proofs.YtdbcgeebcnlbaaaDoor.PScalMost
