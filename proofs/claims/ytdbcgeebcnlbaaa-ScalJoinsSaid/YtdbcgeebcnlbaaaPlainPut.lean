/- A number's bytes, in plain lists: they are read back as that one sign, whatever follows. Conditions: none. -/
import Derived.Test.YtdbcgeebcnlbaaaPlainSigns
namespace Go.Proofs.Ytdbcgeebcnlbaaa.Plain

/-- The sign that a number stands for. -/
def norm (r : Int) : Int := if r < 0 then 65533 else if r > 1114111 then 65533 else if 55296 ≤ r ∧ r < 57344 then 65533 else r
def enc (n : Int) : List Int :=
  if n < 128 then [n] else if n < 2048 then [192 + n / 64, 128 + n % 64]
  else if n < 65536 then [224 + n / 4096, 128 + n / 64 % 64, 128 + n % 64]
  else [240 + n / 262144, 128 + n / 4096 % 64, 128 + n / 64 % 64, 128 + n % 64]
def put (r : Int) : List Int := enc (norm r)

theorem norm_in (r : Int) : 0 ≤ norm r ∧ norm r ≤ 1114111 ∧ (norm r < 55296 ∨ 57344 ≤ norm r) := by
  unfold norm
  repeat' split
  all_goals omega

theorem enc_bytes (n : Int) (h0 : 0 ≤ n) (h1 : n ≤ 1114111) : Bytes (enc n) := by
  unfold enc Bytes
  repeat' split
  all_goals
    intro x hx
    simp only [List.mem_cons, List.not_mem_nil, or_false] at hx
    omega

theorem enc_length (n : Int) : 1 ≤ (enc n).length ∧ (enc n).length ≤ 4 := by
  unfold enc
  repeat' split
  all_goals simp

theorem one_enc (n : Int) (h0 : 0 ≤ n) (h1 : n ≤ 1114111) (h2 : n < 55296 ∨ 57344 ≤ n) (rest : List Int) : one (enc n ++ rest) = (n, ((enc n).length : Int)) := by
  unfold enc
  by_cases g1 : n < 128
  · rw [if_pos g1]
    have e : need n = (1, 0, 0) := by unfold need; rw [if_pos g1]
    simp only [List.cons_append, List.nil_append, one, e]
    simp
  rw [if_neg g1]
  by_cases g2 : n < 2048
  · rw [if_pos g2]
    have e : need (192 + n / 64) = (2, 128, 191) := by unfold need; rw [if_neg (by omega), if_neg (by omega), if_neg (by omega), if_pos (by omega)]
    have e2 : lead (192 + n / 64) = n / 64 := by unfold lead; rw [if_pos (by omega)]; omega
    simp only [List.cons_append, List.nil_append, one, e, e2]
    rw [if_neg (by decide)]
    have e3 : ((2 : Int) - 1).toNat = 1 := by decide
    rw [e3]
    simp only [run]
    rw [if_neg (by omega), if_neg (by omega)]
    simp only [List.length_cons, List.length_nil]
    congr 1
    omega
  rw [if_neg g2]
  by_cases g3 : n < 65536
  · rw [if_pos g3]
    have e2 : lead (224 + n / 4096) = n / 4096 := by unfold lead; rw [if_neg (by omega), if_pos (by omega)]; omega
    have e : ∃ lo hi, need (224 + n / 4096) = (3, lo, hi) ∧ lo ≤ 128 + n / 64 % 64 ∧ 128 + n / 64 % 64 ≤ hi := by
      unfold need
      rw [if_neg (by omega), if_neg (by omega), if_neg (by omega), if_neg (by omega)]
      by_cases c1 : 224 + n / 4096 = 224
      · rw [if_pos c1]; exact ⟨_, _, rfl, by omega, by omega⟩
      rw [if_neg c1]
      by_cases c2 : 224 + n / 4096 = 237
      · rw [if_pos c2]; exact ⟨_, _, rfl, by omega, by omega⟩
      rw [if_neg c2, if_pos (by omega)]
      exact ⟨_, _, rfl, by omega, by omega⟩
    obtain ⟨lo, hi, e, e4, e5⟩ := e
    simp only [List.cons_append, List.nil_append, one, e, e2]
    rw [if_neg (by decide)]
    have e3 : ((3 : Int) - 1).toNat = 2 := by decide
    rw [e3]
    simp only [run]
    rw [if_neg (by omega), if_neg (by omega), if_neg (by omega), if_neg (by omega)]
    simp only [List.length_cons, List.length_nil]
    congr 1
    omega
  · rw [if_neg g3]
    have e2 : lead (240 + n / 262144) = n / 262144 := by unfold lead; rw [if_neg (by omega), if_neg (by omega)]; omega
    have e : ∃ lo hi, need (240 + n / 262144) = (4, lo, hi) ∧ lo ≤ 128 + n / 4096 % 64 ∧ 128 + n / 4096 % 64 ≤ hi := by
      unfold need
      rw [if_neg (by omega), if_neg (by omega), if_neg (by omega), if_neg (by omega), if_neg (by omega), if_neg (by omega), if_neg (by omega)]
      by_cases c1 : 240 + n / 262144 = 240
      · rw [if_pos c1]; exact ⟨_, _, rfl, by omega, by omega⟩
      rw [if_neg c1]
      by_cases c2 : 240 + n / 262144 = 244
      · rw [if_pos c2]; exact ⟨_, _, rfl, by omega, by omega⟩
      rw [if_neg c2]
      exact ⟨_, _, rfl, by omega, by omega⟩
    obtain ⟨lo, hi, e, e4, e5⟩ := e
    simp only [List.cons_append, List.nil_append, one, e, e2]
    rw [if_neg (by decide)]
    have e3 : ((4 : Int) - 1).toNat = 3 := by decide
    rw [e3]
    simp only [run]
    rw [if_neg (by omega), if_neg (by omega), if_neg (by omega), if_neg (by omega), if_neg (by omega), if_neg (by omega)]
    simp only [List.length_cons, List.length_nil]
    congr 1
    omega

theorem put_bytes (r : Int) : Bytes (put r) := enc_bytes _ (norm_in r).1 (norm_in r).2.1
theorem put_length (r : Int) : 1 ≤ (put r).length ∧ (put r).length ≤ 4 := enc_length _
theorem one_put (r : Int) (rest : List Int) : one (put r ++ rest) = (norm r, ((put r).length : Int)) := one_enc _ (norm_in r).1 (norm_in r).2.1 (norm_in r).2.2 rest
theorem sg_put (r : Int) (rest : List Int) : sg (put r ++ rest) = (norm r, ((put r).length : Int)) :: sg rest := by
  have h := put_length r
  have hne : put r ++ rest ≠ [] := by
    intro hc
    have := congrArg List.length hc
    simp only [List.length_append, List.length_nil] at this
    omega
  rw [sg_cons hne, one_put]
  simp

end Go.Proofs.Ytdbcgeebcnlbaaa.Plain
