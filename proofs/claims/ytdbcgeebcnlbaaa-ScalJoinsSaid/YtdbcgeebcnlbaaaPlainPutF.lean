/- What the Lean functions of Put and of the reference's Put compute: the plain bytes of a number. Conditions: none. -/
import Derived.Test.YtdbcgeebcnlbaaaOwnP
import Derived.Test.YtdbcgeebcnlbaaaPlainOne
import Derived.Test.YtdbcgeebcnlbaaaPlainPut
namespace Go.Proofs.Ytdbcgeebcnlbaaa.Plain
open Go.RowKit Go.Proofs.Ytdbcgeebcnlbaaa.PScalAll Go.Proofs.YtdbcgeebcnlbaaaW.PrintWords Go.Proofs.YtdbcgeebcnlbaaaW.PrintLast Go.Proofs.YtdbcgeebcnlbaaaW.PrintMore

theorem i32_and63 (x : Int) (h0 : 0 ≤ x) (h1 : x < 2147483648) : Go.bits .and .i32 x 63 = x % 64 := bits_mask .i32 31 (by decide) wraps_i32 6 (by decide) x (by omega) (by omega)

theorem put_j1 (k : Nat) (n : Int) (hk : 1 ≤ k) (h0 : 0 ≤ n) (h1 : n ≤ 1114111) : scal_Put.j1 k n = some (enc n) := by
  obtain ⟨k, rfl⟩ : ∃ m, k = m + 1 := ⟨k - 1, by omega⟩
  simp only [scal_Put.j1, enc]
  by_cases g1 : n < 128
  · rw [if_pos g1, if_pos g1]
    have e : n % 256 = n := by omega
    rw [e]
  rw [if_neg g1, if_neg g1]
  by_cases g2 : n < 2048
  · rw [if_pos g2, if_pos g2, i32_and63 n (by omega) (by omega)]
    rw [u8_or192 _ (by omega) (by omega), u8_or128 _ (by omega) (by omega)]
    congr 3 <;> omega
  rw [if_neg g2, if_neg g2]
  by_cases g3 : n < 65536
  · rw [if_pos g3, if_pos g3, i32_and63 n (by omega) (by omega), i32_and63 (n / 64) (by omega) (by omega)]
    rw [u8_or224 _ (by omega) (by omega), u8_or128 _ (by omega) (by omega), u8_or128 _ (by omega) (by omega)]
    have e1 : n / 4096 % 256 = n / 4096 := by omega
    have e2 : n / 64 % 64 % 256 = n / 64 % 64 := by omega
    have e3 : n % 64 % 256 = n % 64 := by omega
    rw [e1, e2, e3]
  · rw [if_neg g3, if_neg g3, i32_and63 n (by omega) (by omega), i32_and63 (n / 64) (by omega) (by omega), i32_and63 (n / 4096) (by omega) (by omega)]
    rw [u8_or240 _ (by omega) (by omega), u8_or128 _ (by omega) (by omega), u8_or128 _ (by omega) (by omega), u8_or128 _ (by omega) (by omega)]
    have e1 : n / 262144 % 256 = n / 262144 := by omega
    have e2 : n / 64 % 64 % 256 = n / 64 % 64 := by omega
    have e3 : n % 64 % 256 = n % 64 := by omega
    have e4 : n / 4096 % 64 % 256 = n / 4096 % 64 := by omega
    rw [e1, e2, e3, e4]

theorem put_f (k : Nat) (r : Int) (hk : 2 ≤ k) : scal_Put.f k r = some (put r) := by
  obtain ⟨k, rfl⟩ : ∃ m, k = m + 1 := ⟨k - 1, by omega⟩
  unfold scal_Put.f put norm
  by_cases g1 : r < 0
  · rw [if_pos g1, if_pos g1]; simp only [scal_Put.j0, if_true]; exact put_j1 k _ (by omega) (by decide) (by decide)
  rw [if_neg g1, if_neg g1]
  by_cases g2 : r > 1114111
  · rw [if_pos g2, if_pos g2]; simp only [scal_Put.j0, if_true]; exact put_j1 k _ (by omega) (by decide) (by decide)
  rw [if_neg g2, if_neg g2]
  by_cases g3 : 55296 ≤ r ∧ r < 57344
  · rw [if_pos g3, if_pos g3.1, decide_eq_true g3.2]; simp only [scal_Put.j0, if_true]; exact put_j1 k _ (by omega) (by decide) (by decide)
  · rw [if_neg g3]
    by_cases g4 : r ≥ 55296
    · rw [if_pos g4, decide_eq_false (by omega)]; simp only [scal_Put.j0]; rw [if_neg (by decide)]; exact put_j1 k _ (by omega) (by omega) (by omega)
    · rw [if_neg g4]; simp only [scal_Put.j0]; rw [if_neg (by decide)]; exact put_j1 k _ (by omega) (by omega) (by omega)

theorem ref_put_j1 (k : Nat) (n : Int) (hk : 1 ≤ k) (h0 : 0 ≤ n) (h1 : n ≤ 1114111) : stanzaref01_Put.j1 k n = some (enc n) := by
  obtain ⟨k, rfl⟩ : ∃ m, k = m + 1 := ⟨k - 1, by omega⟩
  simp only [stanzaref01_Put.j1, enc]
  rw [wrap64_in (n := n) (by omega) (by omega)]
  have t1 : ∀ a b : Int, 0 ≤ a → Int.tdiv a b = a / b := fun a b h => Int.tdiv_eq_ediv_of_nonneg h
  have t2 : ∀ a b : Int, 0 ≤ a → Int.tmod a b = a % b := fun a b h => Int.tmod_eq_emod_of_nonneg h
  rw [t1 n 64 h0, t1 n 4096 h0, t1 n 262144 h0, wrap64_in (n := n / 64) (by omega) (by omega), wrap64_in (n := n / 4096) (by omega) (by omega), wrap64_in (n := n / 262144) (by omega) (by omega),
    t2 n 64 h0, t2 (n / 64) 64 (by omega), t2 (n / 4096) 64 (by omega)]
  rw [wrap64_in (n := 192 + n / 64) (by omega) (by omega), wrap64_in (n := 128 + n % 64) (by omega) (by omega), wrap64_in (n := 224 + n / 4096) (by omega) (by omega),
    wrap64_in (n := 128 + n / 64 % 64) (by omega) (by omega), wrap64_in (n := 240 + n / 262144) (by omega) (by omega), wrap64_in (n := 128 + n / 4096 % 64) (by omega) (by omega)]
  clear t1 t2
  by_cases g1 : n < 128
  · rw [if_pos g1, if_pos g1]
    have e : n % 256 = n := by omega
    rw [e]
  rw [if_neg g1, if_neg g1]
  have e3 : (128 + n % 64) % 256 = 128 + n % 64 := by omega
  have e2 : (128 + n / 64 % 64) % 256 = 128 + n / 64 % 64 := by omega
  have e4 : (128 + n / 4096 % 64) % 256 = 128 + n / 4096 % 64 := by omega
  rw [e3, e2, e4]
  by_cases g2 : n < 2048
  · rw [if_pos g2, if_pos g2]
    have e : (192 + n / 64) % 256 = 192 + n / 64 := by omega
    rw [e]
  rw [if_neg g2, if_neg g2]
  by_cases g3 : n < 65536
  · rw [if_pos g3, if_pos g3]
    have e : (224 + n / 4096) % 256 = 224 + n / 4096 := by omega
    rw [e]
  · rw [if_neg g3, if_neg g3]
    have e : (240 + n / 262144) % 256 = 240 + n / 262144 := by omega
    rw [e]

theorem ref_put_f (k : Nat) (r : Int) (hk : 2 ≤ k) : stanzaref01_Put.f k r = some (put r) := by
  obtain ⟨k, rfl⟩ : ∃ m, k = m + 1 := ⟨k - 1, by omega⟩
  unfold stanzaref01_Put.f put norm
  by_cases g1 : r < 0
  · rw [if_pos g1, if_pos g1]; simp only [stanzaref01_Put.j0, if_true]; exact ref_put_j1 k _ (by omega) (by decide) (by decide)
  rw [if_neg g1, if_neg g1]
  by_cases g2 : r > 1114111
  · rw [if_pos g2, if_pos g2]; simp only [stanzaref01_Put.j0, if_true]; exact ref_put_j1 k _ (by omega) (by decide) (by decide)
  rw [if_neg g2, if_neg g2]
  by_cases g3 : 55296 ≤ r ∧ r < 57344
  · rw [if_pos g3, if_pos g3.1, decide_eq_true (by omega)]; simp only [stanzaref01_Put.j0, if_true]; exact ref_put_j1 k _ (by omega) (by decide) (by decide)
  · rw [if_neg g3]
    by_cases g4 : r ≥ 55296
    · rw [if_pos g4, decide_eq_false (by omega)]; simp only [stanzaref01_Put.j0]; rw [if_neg (by decide)]; exact ref_put_j1 k _ (by omega) (by omega) (by omega)
    · rw [if_neg g4]; simp only [stanzaref01_Put.j0]; rw [if_neg (by decide)]; exact ref_put_j1 k _ (by omega) (by omega) (by omega)

end Go.Proofs.Ytdbcgeebcnlbaaa.Plain
