/- ScalPuts as a statement over numbers and lists: any number's bytes equal the reference's and are read back as one sign. Conditions: none. -/
import Derived.Test.YtdbcgeebcnlbaaaOwnScalPuts
import Derived.Test.YtdbcgeebcnlbaaaPlainPutF
namespace Go.Proofs.Ytdbcgeebcnlbaaa.Plain
open Go.RowKit Go.Proofs.Ytdbcgeebcnlbaaa.PScalAll Go.Proofs.YtdbcgeebcnlbaaaW.PrintWords Go.Proofs.YtdbcgeebcnlbaaaW.PrintLast Go.Proofs.YtdbcgeebcnlbaaaW.PrintMore

theorem ScalPuts : stanzalaw01_ScalPuts.Pure := by
  intro r _
  refine ⟨100, ?_⟩
  unfold stanzalaw01_ScalPuts.f stanzalaw01_Awake.f
  refine Option.bind_eq_some_iff.mpr ⟨true, rfl, ?_⟩
  rw [if_pos rfl]
  refine Option.bind_eq_some_iff.mpr ⟨_, put_f _ r (by decide), ?_⟩
  refine Option.bind_eq_some_iff.mpr ⟨_, ref_put_f _ r (by decide), ?_⟩
  rw [if_pos rfl]
  have hl := put_length r
  refine Option.bind_eq_some_iff.mpr ⟨_, all_f (put r) (put_bytes r) (by omega) _ (by omega), ?_⟩
  have hs : sg (put r) = [(norm r, ((put r).length : Int))] := by
    have := sg_put r []
    rw [List.append_nil, sg_nil] at this
    exact this
  rw [hs]
  have hp : place 0 [(norm r, ((put r).length : Int))] = [⟨norm r, 0, ((put r).length : Int)⟩] := rfl
  rw [hp]
  have h0 : rd_T29 [⟨norm r, 0, ((put r).length : Int)⟩] 0 = ⟨norm r, 0, ((put r).length : Int)⟩ := rfl
  rw [h0]
  have h1 : (([⟨norm r, 0, ((put r).length : Int)⟩] : List S29).length : Int) = 1 := rfl
  rw [h1]
  simp only [norm]
  by_cases g1 : r < 0
  · simp [g1]
  by_cases g2 : r > 1114111
  · simp [g1, g2]
  by_cases g3 : r ≥ 55296
  · by_cases g4 : r < 57344
    · simp [g1, g2, g3, g4]
    · simp [g1, g2, g3, g4]
  · simp [g1, g2, g3]

end Go.Proofs.Ytdbcgeebcnlbaaa.Plain
