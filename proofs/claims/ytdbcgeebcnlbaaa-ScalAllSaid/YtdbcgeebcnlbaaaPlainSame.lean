/- SameSigns of two like rows is true; placed signs, one row behind the other. Conditions: none. -/
import Derived.Test.YtdbcgeebcnlbaaaOwnB
import Derived.Test.YtdbcgeebcnlbaaaPlainOne
namespace Go.Proofs.Ytdbcgeebcnlbaaa.Plain
open Go.RowKit Go.Proofs.Ytdbcgeebcnlbaaa.PScalAll Go.Proofs.YtdbcgeebcnlbaaaW.PrintWords Go.Proofs.YtdbcgeebcnlbaaaW.PrintLast Go.Proofs.YtdbcgeebcnlbaaaW.PrintMore

theorem same_l0 (s : List S29) (hs : s.length < 1000000000) : ∀ (d k i : Nat), s.length - i ≤ d → d < k → stanzaref01_SameSigns.l0 k s s i = some true
  | d, k, i, hd, hk => by
    obtain ⟨k, rfl⟩ : ∃ m, k = m + 1 := ⟨k - 1, by omega⟩
    simp only [stanzaref01_SameSigns.l0]
    by_cases h : i < s.length
    · rw [if_pos (by omega), if_pos (by omega), if_pos (by omega), if_neg (by simp)]
      have hw : wrap64 ((i : Int) + 1) = ((i + 1 : Nat) : Int) := by rw [wrap64_in (by omega) (by omega)]; omega
      rw [hw]
      obtain ⟨e, rfl⟩ : ∃ m, d = m + 1 := ⟨d - 1, by omega⟩
      exact same_l0 s hs e k (i + 1) (by omega) (by omega)
    · rw [if_neg (by omega)]
  termination_by d => d

theorem same_f (s : List S29) (hs : s.length < 1000000000) (k : Nat) (hk : s.length < k) : stanzaref01_SameSigns.f k s s = some true := by
  unfold stanzaref01_SameSigns.f
  rw [if_pos rfl]
  exact same_l0 s hs s.length k 0 (by omega) hk

theorem place_append : ∀ (p : Int) (a b : List (Int × Int)), place p (a ++ b) = place p a ++ place (p + width a) b
  | p, [], b => by simp [place, width]
  | p, (r, n) :: t, b => by
    simp only [List.cons_append, place, width, List.cons_append]
    rw [place_append]
    congr 3
    omega

theorem place_shift (q : Int) : ∀ (p : Int) (a : List (Int × Int)), (place p a).map (fun s => (⟨s.f0, s.f1 + q, s.f2⟩ : S29)) = place (p + q) a
  | _, [] => rfl
  | p, (r, n) :: t => by
    simp only [place, List.map_cons]
    rw [place_shift q]
    congr 2
    omega

end Go.Proofs.Ytdbcgeebcnlbaaa.Plain
