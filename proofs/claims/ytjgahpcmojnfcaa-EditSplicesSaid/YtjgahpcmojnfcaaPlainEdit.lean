/- What Check, the reference's Edit and the reference's Splice compute, in plain numbers and lists. Conditions: numbers of their kind. -/
import Derived.Test.YtjgahpcmojnfcaaPEditSplicesx1
namespace Go.Proofs.Ytjgahpcmojnfcaa.Plain
open Go.RowKit Go.Proofs.Ytjgahpcmojnfcaa.PEditSplices Go.Proofs.YtjgahpcmojnfcaaW.PrintWords Go.Proofs.YtjgahpcmojnfcaaW.PrintLast Go.Proofs.YtjgahpcmojnfcaaW.PrintMore

theorem wrap64_in {n : Int} (h0 : -9223372036854775808 ≤ n) (h1 : n < 9223372036854775808) : wrap64 n = n := by unfold wrap64; omega

/-- May a text of n bytes be changed so? The error's number; m: how many bytes come. -/
def chk (n a d m : Int) : Int := if a < 0 ∨ d < 0 ∨ n < a ∨ n - a < d then 50 else if 4096 < m ∨ 4096 < n - d + m then 3 else 0

theorem check_f (k : Nat) (n a d : Int) (l : List Int) (hk : 1 ≤ k) (h0 : 0 ≤ n) (h1 : n < 4611686018427387904) (hl : l.length < 4611686018427387904) :
    edit_Check.f k n a d l = some (chk n a d l.length) := by
  obtain ⟨k, rfl⟩ : ∃ m, k = m + 1 := ⟨k - 1, by omega⟩
  unfold edit_Check.f chk
  by_cases g1 : a < 0
  · rw [if_pos g1, if_pos (Or.inl g1)]; simp only [edit_Check.j0, if_true]
  rw [if_neg g1]
  by_cases g2 : d < 0
  · rw [if_pos g2, if_pos (by omega)]; simp only [edit_Check.j0, if_true]
  rw [if_neg g2]
  by_cases g3 : a > n
  · rw [if_pos g3, if_pos (by omega)]; simp only [edit_Check.j0, if_true]
  rw [if_neg g3, wrap64_in (n := n - a) (by omega) (by omega)]
  by_cases g4 : d > n - a
  · rw [decide_eq_true g4, if_pos (by omega)]; simp only [edit_Check.j0, if_true]
  rw [decide_eq_false g4, if_neg (by omega)]
  simp only [edit_Check.j0]
  rw [if_neg (by decide), wrap64_in (n := n - d) (by omega) (by omega), wrap64_in (n := n - d + (l.length : Int)) (by omega) (by omega)]
  by_cases g5 : (l.length : Int) > 4096
  · rw [if_pos g5, if_pos (by omega)]
  rw [if_neg g5]
  by_cases g6 : n - d + (l.length : Int) > 4096
  · rw [if_pos g6, if_pos (by omega)]
  · rw [if_neg g6, if_neg (by omega)]

theorem ref_edit_f (k : Nat) (n a d : Int) (l : List Int) (hk : 1 ≤ k) (h0 : 0 ≤ n) (h1 : n < 4611686018427387904) (hl : l.length < 4611686018427387904) :
    stanzaref19_Edit.f k n a d l = some (chk n a d l.length) := by
  obtain ⟨k, rfl⟩ : ∃ m, k = m + 1 := ⟨k - 1, by omega⟩
  unfold stanzaref19_Edit.f chk
  by_cases g1 : a < 0
  · rw [if_pos g1, if_pos (Or.inl g1)]; simp only [stanzaref19_Edit.j0, if_true]
  rw [if_neg g1]
  by_cases g3 : a > n
  · rw [if_pos g3, if_pos (by omega)]; simp only [stanzaref19_Edit.j0, if_true]
  rw [if_neg g3]
  by_cases g2 : d < 0
  · rw [if_pos g2, if_pos (by omega)]; simp only [stanzaref19_Edit.j0, if_true]
  rw [if_neg g2, wrap64_in (n := n - a) (by omega) (by omega)]
  by_cases g4 : d > n - a
  · rw [decide_eq_true g4, if_pos (by omega)]; simp only [stanzaref19_Edit.j0, if_true]
  rw [decide_eq_false g4, if_neg (by omega)]
  simp only [stanzaref19_Edit.j0]
  rw [if_neg (by decide), wrap64_in (n := n - d) (by omega) (by omega), wrap64_in (n := 4096 - (l.length : Int)) (by omega) (by omega)]
  by_cases g5 : (l.length : Int) > 4096
  · rw [if_pos g5, if_pos (by omega)]
  rw [if_neg g5]
  by_cases g6 : n - d > 4096 - (l.length : Int)
  · rw [if_pos g6, if_pos (by omega)]
  · rw [if_neg g6, if_neg (by omega)]

/-- A text, changed. -/
def spl (b : List Int) (a d : Int) (l : List Int) : List Int := b.take a.toNat ++ l ++ b.drop (a + d).toNat

theorem chk_ok {n a d m : Int} (h : chk n a d m = 0) : 0 ≤ a ∧ 0 ≤ d ∧ a ≤ n ∧ a + d ≤ n ∧ m ≤ 4096 ∧ n - d + m ≤ 4096 := by
  unfold chk at h
  split at h
  · omega
  · split at h <;> omega
theorem chk_of {n a d m : Int} (h0 : 0 ≤ a) (h1 : 0 ≤ d) (h2 : a + d ≤ n) (h3 : m ≤ 4096) (h4 : n - d + m ≤ 4096) : chk n a d m = 0 := by
  unfold chk
  rw [if_neg (by omega), if_neg (by omega)]
theorem chk_num (n a d m : Int) : chk n a d m = 50 ∨ chk n a d m = 3 ∨ chk n a d m = 0 := by
  unfold chk
  split
  · exact .inl rfl
  · split
    · exact .inr (.inl rfl)
    · exact .inr (.inr rfl)

theorem rd_get {l : List Int} {i : Nat} (h : i < l.length) : rd l (i : Int) = l[i]'h := by
  unfold rd
  rw [Int.toNat_natCast]
  simp [List.getD_eq_getElem?_getD, List.getElem?_eq_getElem h]
theorem next_i (i : Nat) (h : i < 100000000) : wrap64 ((i : Int) + 1) = ((i + 1 : Nat) : Int) := by rw [wrap64_in (by omega) (by omega)]; omega

theorem ref_l1 (b : List Int) (hb : b.length ≤ 1000000) : ∀ (d k i : Nat) (out : List Int), b.length - i ≤ d → d < k → out.length + b.length < 100000000 + i → i ≤ b.length →
    stanzaref19_Splice.l1 k b out i = some (out ++ b.drop i)
  | d, k, i, out, hd, hk, ho, hi => by
    obtain ⟨k, rfl⟩ : ∃ m, k = m + 1 := ⟨k - 1, by omega⟩
    simp only [stanzaref19_Splice.l1]
    by_cases h : i < b.length
    · rw [if_pos (by omega), if_pos (by omega), if_pos (by omega), rd_get h, next_i i (by omega)]
      obtain ⟨e, rfl⟩ : ∃ m, d = m + 1 := ⟨d - 1, by omega⟩
      rw [ref_l1 b hb e k (i + 1) (out ++ [b[i]'h]) (by omega) (by omega) (by simp; omega) (by omega), List.drop_eq_getElem_cons h]
      simp
    · rw [if_neg (by omega), List.drop_eq_nil_of_le (by omega)]
      simp
  termination_by d => d

theorem ref_l0 (b l : List Int) (a d : Nat) (hb : b.length ≤ 1000000) (hl : l.length ≤ 1000000) (had : a + d ≤ b.length) : ∀ (m k i : Nat), a - i ≤ m → m + b.length + 5 < k → i ≤ a →
    stanzaref19_Splice.l0 k b (b.take i) i a d l = some (b.take a ++ l ++ b.drop (a + d))
  | m, k, i, hm, hk, hi => by
    obtain ⟨k, rfl⟩ : ∃ m, k = m + 1 := ⟨k - 1, by omega⟩
    simp only [stanzaref19_Splice.l0]
    have ht : (b.take i).length = i := by simp; omega
    by_cases h : i < a
    · rw [if_pos (by omega), if_pos (by omega), if_pos (by omega), if_pos (by omega), rd_get (by omega), next_i i (by omega), ← List.take_succ_eq_append_getElem (by omega)]
      obtain ⟨e, rfl⟩ : ∃ q, m = q + 1 := ⟨m - 1, by omega⟩
      exact ref_l0 b l a d hb hl had e k (i + 1) (by omega) (by omega) (by omega)
    · have hi2 : i = a := by omega
      subst hi2
      have hw : wrap64 ((i : Int) + (d : Int)) = ((i + d : Nat) : Int) := by rw [wrap64_in (by omega) (by omega)]; omega
      rw [if_neg (by omega), if_pos (by omega), hw]
      clear hw
      exact ref_l1 b hb b.length k (i + d) _ (by omega) (by omega) (by simp; omega) (by omega)
  termination_by m => m

theorem ref_splice_f (k : Nat) (b : List Int) (a d : Int) (l : List Int) (hb : b.length ≤ 1000000) (hl : l.length ≤ 1000000) (h0 : 0 ≤ a) (h1 : 0 ≤ d) (h2 : a + d ≤ b.length) (hk : 2 * b.length + 10 < k) :
    stanzaref19_Splice.f k b a d l = some (spl b a d l) := by
  obtain ⟨a, rfl⟩ := Int.eq_ofNat_of_zero_le h0
  obtain ⟨d, rfl⟩ := Int.eq_ofNat_of_zero_le h1
  have := ref_l0 b l a d hb hl (by omega) a k 0 (by omega) (by omega) (by omega)
  unfold stanzaref19_Splice.f spl
  have e : ((a : Int) + (d : Int)).toNat = a + d := by omega
  rw [e, Int.toNat_natCast]
  exact this

end Go.Proofs.Ytjgahpcmojnfcaa.Plain
