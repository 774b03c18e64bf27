/- ScalFinds as a statement over numbers and lists: Find is the first sign that ends behind the byte. Conditions: none. -/
import Derived.Test.YtdbcgeebcnlbaaaOwnScalFinds
import Derived.Test.YtdbcgeebcnlbaaaPlainOne
import Derived.Laws.Bits64
namespace Go.Proofs.Ytdbcgeebcnlbaaa.Plain
open Go.RowKit Go.Proofs.Ytdbcgeebcnlbaaa.PScalAll Go.Proofs.YtdbcgeebcnlbaaaW.PrintWords Go.Proofs.YtdbcgeebcnlbaaaW.PrintLast Go.Proofs.YtdbcgeebcnlbaaaW.PrintMore

/-- The sign at a place of a row of placed signs. -/
theorem place_rd : ∀ (S : List (Int × Int)) (p : Int) (i : Nat) (h : i < S.length), (place p S).getD i z29 = ⟨(S[i]'h).1, p + width (S.take i), (S[i]'h).2⟩
  | [], _, _, h => by simp at h
  | (r, n) :: t, p, 0, _ => by simp [place, width]
  | (r, n) :: t, p, i + 1, h => by
    have := place_rd t (p + n) i (by simpa using h)
    simp only [place, List.getD_cons_succ, this, List.take_succ_cons, width, List.getElem_cons_succ]
    congr 1
    omega

theorem width_mono (S : List (Int × Int)) (h : ∀ x ∈ S, 1 ≤ x.2) : ∀ (i j : Nat), i ≤ j → width (S.take i) ≤ width (S.take j) := by
  intro i j hij
  induction j with
  | zero => have : i = 0 := by omega
            subst this; exact Int.le_refl _
  | succ j ih =>
    rcases Nat.lt_or_ge i (j + 1) with h1 | h1
    · refine Int.le_trans (ih (by omega)) ?_
      rcases Nat.lt_or_ge j S.length with h2 | h2
      · rw [width_take_succ S j h2]
        have := h _ (List.getElem_mem h2)
        omega
      · rw [List.take_of_length_le h2, List.take_of_length_le (by omega)]
        exact Int.le_refl _
    · have : i = j + 1 := by omega
      subst this; exact Int.le_refl _

/-- Where all that is ahead ends at or ahead of the byte, and all that follows behind it. -/
def Splits (E : Nat → Int) (n : Nat) (x : Int) (w : Nat) : Prop := w ≤ n ∧ (∀ i, i < w → E i ≤ x) ∧ ∀ i, w ≤ i → i < n → x < E i

theorem splits_one {E : Nat → Int} {n : Nat} {x : Int} {a b : Nat} (ha : Splits E n x a) (hb : Splits E n x b) : a = b := by
  rcases Nat.lt_trichotomy a b with h | h | h
  · have h1 := ha.2.2 a (Nat.le_refl _) (by have := hb.1; omega)
    have h2 := hb.2.1 a h
    omega
  · exact h
  · have h1 := hb.2.2 b (Nat.le_refl _) (by have := ha.1; omega)
    have h2 := ha.2.1 b h
    omega

theorem mid_f (a b : Int) (h0 : 0 ≤ a) (h1 : 0 ≤ b) (h2 : a < 4611686018427387904) (h3 : b < 4611686018427387904) : wrap64 ((IntKind.u64.wrap (wrap64 (a + b))) / 2) = (a + b) / 2 := by
  rw [IntKind.wrap_u64]
  unfold wrap64
  omega

theorem find_l0 (s : List S29) (x : Int) (E : Nat → Int) (hs : s.length < 1000000000)
    (hE : ∀ i : Nat, i < s.length → wrap64 ((s.getD i z29).f1 + (s.getD i z29).f2) = E i) (hm : ∀ i j, i ≤ j → E i ≤ E j) :
    ∀ (d k lo hi : Nat), hi - lo ≤ d → d < k → lo ≤ hi → hi ≤ s.length → (∀ i, i < lo → E i ≤ x) → (∀ i, hi ≤ i → i < s.length → x < E i) →
      ∃ r : Nat, scal_Find.l0 k s x lo hi = some (r : Int) ∧ Splits E s.length x r
  | d, k, lo, hi, hd, hk, hlh, hhs, hl, hh => by
    obtain ⟨k, rfl⟩ : ∃ m, k = m + 1 := ⟨k - 1, by omega⟩
    simp only [scal_Find.l0]
    by_cases h1 : lo < hi
    · have hmid : (((lo : Int) + (hi : Int)) / 2) = (((lo + hi) / 2 : Nat) : Int) := by omega
      obtain ⟨m, hmd⟩ : ∃ m : Nat, m = (lo + hi) / 2 := ⟨_, rfl⟩
      have hm1 : lo ≤ m := by omega
      have hm2 : m < hi := by omega
      rw [← hmd] at hmid
      clear hmd
      rw [if_pos (by omega), mid_f _ _ (by omega) (by omega) (by omega) (by omega), hmid, if_pos (by omega), if_pos (by omega)]
      have hr : rd_T29 s (m : Int) = s.getD m z29 := by unfold rd_T29; rw [Int.toNat_natCast]
      rw [hr, hE m (by omega)]
      clear hmid
      obtain ⟨e, rfl⟩ : ∃ m, d = m + 1 := ⟨d - 1, by omega⟩
      by_cases h2 : E m ≤ x
      · rw [if_pos h2]
        have hw : wrap64 ((m : Int) + 1) = ((m + 1 : Nat) : Int) := by rw [wrap64_in (by omega) (by omega)]; omega
        rw [hw]
        exact find_l0 s x E hs hE hm e k (m + 1) hi (by omega) (by omega) (by omega) hhs (fun i hi2 => Int.le_trans (hm i m (by omega)) h2) hh
      · rw [if_neg h2]
        exact find_l0 s x E hs hE hm e k lo m (by omega) (by omega) (by omega) (by omega) hl (fun i hi2 hi3 => Int.lt_of_lt_of_le (Int.not_le.1 h2) (hm _ _ hi2))
    · rw [if_neg (by omega)]
      exact ⟨lo, rfl, by omega, hl, fun i hi2 hi3 => hh i (by omega) hi3⟩
  termination_by d => d

theorem finds_l0 (s : List S29) (x : Int) (E : Nat → Int) (hs : s.length < 1000000000)
    (hE : ∀ i : Nat, i < s.length → wrap64 ((s.getD i z29).f1 + (s.getD i z29).f2) = E i) (hm : ∀ i j, i ≤ j → E i ≤ E j) :
    ∀ (d k i : Nat), s.length - i ≤ d → d + s.length + 1 < k → i ≤ s.length → (∀ j, j < i → E j ≤ x) → stanzalaw01_ScalFinds.l0 k x s i = some true
  | d, k, i, hd, hk, his, hi => by
    obtain ⟨k, rfl⟩ : ∃ m, k = m + 1 := ⟨k - 1, by omega⟩
    have fin : ∀ w : Nat, Splits E s.length x w → ((scal_Find.f k s x).bind fun t => some (t == (w : Int))) = some true := by
      intro w hw
      obtain ⟨r, hr, hsp⟩ := find_l0 s x E hs hE hm s.length k 0 s.length (by omega) (by omega) (by omega) (by omega) (fun i h => by omega) (fun i h1 h2 => by omega)
      have : scal_Find.f k s x = some (r : Int) := hr
      rw [this, splits_one hsp hw]
      simp
    simp only [stanzalaw01_ScalFinds.l0]
    by_cases h1 : i < s.length
    · rw [if_pos (by omega), if_pos (by omega)]
      have hr : rd_T29 s (i : Int) = s.getD i z29 := by unfold rd_T29; simp
      rw [hr, hE _ h1]
      by_cases h2 : E i ≤ x
      · rw [if_pos h2]
        have hw : wrap64 ((i : Int) + 1) = ((i + 1 : Nat) : Int) := by rw [wrap64_in (by omega) (by omega)]; omega
        rw [hw]
        obtain ⟨e, rfl⟩ : ∃ m, d = m + 1 := ⟨d - 1, by omega⟩
        refine finds_l0 s x E hs hE hm e k (i + 1) (by omega) (by omega) (by omega) (fun j hj => ?_)
        rcases Nat.lt_or_ge j i with h3 | h3
        · exact hi j h3
        · have : j = i := by omega
          subst this; exact h2
      · rw [if_neg h2]
        exact fin i ⟨by omega, hi, fun j h3 h4 => Int.lt_of_lt_of_le (Int.not_le.1 h2) (hm _ _ h3)⟩
    · rw [if_neg (by omega)]
      exact fin i ⟨by omega, hi, fun j h3 h4 => by omega⟩
  termination_by d => d

theorem ScalFinds : stanzalaw01_ScalFinds.Pure := by
  intro l x _ _ hwf _
  have hb := bytes_of_wf hwf
  refine ⟨2 * l.length + 100, ?_⟩
  unfold stanzalaw01_ScalFinds.f stanzalaw01_Awake.f
  simp only [Option.bind_some, if_true]
  by_cases h : (l.length : Int) > 5000
  · rw [if_pos h]
  · rw [if_neg h, all_f l hb (by omega) _ (by omega)]
    simp only [Option.bind_some]
    have hpos : ∀ y ∈ sg l, 1 ≤ y.2 := fun y hy => (sg_pos _ l (Nat.le_refl _) y hy).1
    have hle := sg_length_le _ l (Nat.le_refl _)
    have hwl := width_sg _ l (Nat.le_refl _)
    have hsz : (place 0 (sg l)).length = (sg l).length := place_length _ _
    refine finds_l0 _ x (fun i => width ((sg l).take (i + 1))) (by rw [hsz]; omega) (fun i hi => ?_) (fun i j hij => width_mono _ hpos _ _ (by omega)) (place 0 (sg l)).length _ 0 (by omega) (by rw [hsz]; omega) (by omega) (fun j hj => by omega)
    rw [hsz] at hi
    rw [place_rd _ _ _ hi]
    simp only []
    have h1 := width_take_succ _ i hi
    have h2 := width_mono (sg l) hpos (i + 1) (sg l).length (by omega)
    have h3 := width_mono (sg l) hpos 0 i (by omega)
    rw [List.take_length] at h2
    simp only [List.take_zero, width] at h3
    have h4 := hpos _ (List.getElem_mem hi)
    rw [wrap64_in (by omega) (by omega)]
    omega

end Go.Proofs.Ytdbcgeebcnlbaaa.Plain
