/- ScalAll as a statement over numbers and lists: All of any bytes equals the reference. Conditions: none. -/
import Derived.Test.YtdbcgeebcnlbaaaOwnScalAll
import Derived.Test.YtdbcgeebcnlbaaaPlainRefOne
namespace Go.Proofs.Ytdbcgeebcnlbaaa.Plain
open Go.RowKit Go.Proofs.Ytdbcgeebcnlbaaa.PScalAll Go.Proofs.YtdbcgeebcnlbaaaW.PrintWords Go.Proofs.YtdbcgeebcnlbaaaW.PrintLast Go.Proofs.YtdbcgeebcnlbaaaW.PrintMore

theorem ScalAll : stanzalaw01_ScalAll.Pure := by
  intro l _ _ hwf
  have hb := bytes_of_wf hwf
  refine ⟨l.length + 100, ?_⟩
  unfold stanzalaw01_ScalAll.f stanzalaw01_Awake.f
  refine Option.bind_eq_some_iff.mpr ⟨true, rfl, ?_⟩
  rw [if_pos rfl]
  by_cases h : (l.length : Int) > 5000
  · rw [if_pos h]
  rw [if_neg h]
  refine Option.bind_eq_some_iff.mpr ⟨_, rfl, ?_⟩
  rw [List.length_nil, if_pos (by omega), List.nil_append]
  have hle := sg_length_le _ l (Nat.le_refl _)
  have hL : (place 0 (sg l)).length = (sg l).length := place_length _ _
  refine Option.bind_eq_some_iff.mpr ⟨_, rfl, ?_⟩
  refine Option.bind_eq_some_iff.mpr ⟨_, all_f l hb (by omega) _ (by omega), ?_⟩
  refine Option.bind_eq_some_iff.mpr ⟨_, ref_all_f l hb (by omega) _ (by omega), ?_⟩
  refine Option.bind_eq_some_iff.mpr ⟨_, same_f (place 0 (sg l)) (by omega) _ (by omega), ?_⟩
  rw [if_pos rfl]
  simp

end Go.Proofs.Ytdbcgeebcnlbaaa.Plain
