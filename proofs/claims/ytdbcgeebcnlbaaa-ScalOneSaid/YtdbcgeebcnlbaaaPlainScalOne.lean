/- ScalOne as a statement over numbers and lists: One at any place equals the reference. Conditions: none. -/
import Derived.Test.YtdbcgeebcnlbaaaOwnScalOne
import Derived.Test.YtdbcgeebcnlbaaaPlainRefOne
namespace Go.Proofs.Ytdbcgeebcnlbaaa.Plain
open Go.RowKit Go.Proofs.Ytdbcgeebcnlbaaa.PScalAll Go.Proofs.YtdbcgeebcnlbaaaW.PrintWords Go.Proofs.YtdbcgeebcnlbaaaW.PrintLast Go.Proofs.YtdbcgeebcnlbaaaW.PrintMore

theorem ScalOne : stanzalaw01_ScalOne.Pure := by
  intro l x _ _ hwf hx
  have hb := bytes_of_wf hwf
  refine ⟨100, ?_⟩
  unfold stanzalaw01_ScalOne.f stanzalaw01_Awake.f
  refine Option.bind_eq_some_iff.mpr ⟨true, rfl, ?_⟩
  rw [if_pos rfl]
  by_cases h : (l.length : Int) > 5000
  · rw [if_pos h]
  rw [if_neg h]
  by_cases h1 : 0 ≤ x ∧ x < l.length
  · refine Option.bind_eq_some_iff.mpr ⟨_, one_f l hb (by omega) x h1.1 h1.2 _ (by decide), ?_⟩
    refine Option.bind_eq_some_iff.mpr ⟨_, ref_one_f l hb (by omega) x h1.1 h1.2 _ (by decide), ?_⟩
    simp
  · refine Option.bind_eq_some_iff.mpr ⟨_, one_out l x (by omega) _ (by decide), ?_⟩
    refine Option.bind_eq_some_iff.mpr ⟨_, ref_one_out l x (by omega) _ (by decide), ?_⟩
    simp

end Go.Proofs.Ytdbcgeebcnlbaaa.Plain
