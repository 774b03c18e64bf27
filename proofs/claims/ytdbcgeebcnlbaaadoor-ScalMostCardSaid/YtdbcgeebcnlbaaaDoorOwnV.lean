/- The walk of unicode/utf8.DecodeRune at a row that is not empty. Conditions: the two tables of the library hold what its text lays. -/
import Derived.Test.YtdbcgeebcnlbaaaDoorOwnU
import Derived.LoopTactic
namespace Go.Proofs.YtdbcgeebcnlbaaaDoor.PScalMost
open Go.RowKit Go.Lib Go.Proofs
set_option linter.unusedVariables false
set_option linter.unusedSimpArgs false

set_option maxHeartbeats 1000000 in
set_option maxRecDepth 1000000 in
theorem dec_ascii (n b off cap x0 : Nat) (sp : Option Nat) (w : World) (hn : (0 : Int) < (n : Int)) (hs0 : w.cell? ⟨b, off, sp⟩ = some (.int .u8 x0)) (ha : (x0 : Int) < 128) :
    Calls Tryd.prog 7 #[.slice (some ⟨b, off, sp⟩) n cap] w fun e w' => e = .returned (.tuple #[.int .i32 x0, .int .i64 1]) ∧ w' = w := by
  go_enter Tryd.func7, Tryd.ntmps7
  go_wp2
  go_loop [8] (fun i => i = .int .i64 0) (fun _ => 0)
  case atStart => rfl
  case round =>
    subst hrel
    go_wp2
    go_ret2
    exact ⟨rfl, rfl⟩

set_option maxHeartbeats 1000000 in
set_option maxRecDepth 1000000 in
theorem dec_on (n b off cap x0 : Nat) (sp : Option Nat) (w : World) (R K : Int) (Q : World → Prop) (hz : (0 : Int) < (n : Int)) (hs0 : w.cell? ⟨b, off, sp⟩ = some (.int .u8 x0)) (ha : ¬ ((x0 : Int) < 128))
    (cS : Calls Tryd.prog 12 #[.slice (some ⟨b, off, sp⟩) n cap] w fun e w' => e = .returned (.tuple #[.int .i32 R, .int .i64 K]) ∧ Q w') :
    Calls Tryd.prog 7 #[.slice (some ⟨b, off, sp⟩) n cap] w fun e w' => e = .returned (.tuple #[.int .i32 R, .int .i64 K]) ∧ Q w' := by
  go_enter Tryd.func7, Tryd.ntmps7
  go_wp2
  go_loop [8] (fun i => i = .int .i64 0) (fun _ => 0)
  case atStart => rfl
  case round =>
    subst hrel
    go_wp2_with fail
    refine cS.mono ?_
    rintro e w' ⟨rfl, hb⟩
    go_wp2
    go_ret2
    exact ⟨rfl, hb⟩

theorem dec_walk (n b off cap x0 x1 x2 x3 : Nat) (sp : Option Nat) (w : World) (hT : Lib.Utf8Tabs 0 1 w) (l0 : x0 < 256) (l1 : x1 < 256) (l2 : x2 < 256) (l3 : x3 < 256) (hn0 : 0 < n)
    (hs0 : w.cell? ⟨b, off, sp⟩ = some (.int .u8 x0)) (hq1 : 1 < n → w.cell? ⟨b, off + 1, none⟩ = some (.int .u8 x1)) (hq2 : 2 < n → w.cell? ⟨b, off + 2, none⟩ = some (.int .u8 x2)) (hq3 : 3 < n → w.cell? ⟨b, off + 3, none⟩ = some (.int .u8 x3)) :
    Calls Tryd.prog 7 #[.slice (some ⟨b, off, sp⟩) n cap] w fun e w' => e = .returned (.tuple #[.int .i32 (drN n x0 x1 x2 x3).1, .int .i64 (drN n x0 x1 x2 x3).2]) ∧ Below w.heap.size w w' := by
  by_cases ha : x0 < 128
  · have hf : firstT x0 = 240 := by unfold firstT; rw [if_pos ha]
    have hd : drN n x0 x1 x2 x3 = (x0, 1) := by unfold drN; rw [if_pos hf]
    rw [hd]
    refine (dec_ascii n b off cap x0 sp w (by omega) hs0 (by omega)).mono ?_
    rintro e w' ⟨rfl, rfl⟩
    exact ⟨rfl, Below.refl _ _⟩
  · exact dec_on n b off cap x0 sp w _ _ _ (by omega) hs0 (by omega) (slow_walk n b off cap x0 x1 x2 x3 sp w hT l0 l1 l2 l3 hn0 hs0 hq1 hq2 hq3)

end Go.Proofs.YtdbcgeebcnlbaaaDoor.PScalMost
