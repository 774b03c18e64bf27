/- What the Lean functions of One and All compute: the plain signs of a list of bytes. Conditions: none. -/
import Derived.Test.YtdbcgeebcnlbaaaDoorOwnA
import Derived.Test.YtdbcgeebcnlbaaaDoorPlainSigns
import Derived.Laws.BitsLemmas
namespace Go.Proofs.YtdbcgeebcnlbaaaDoor.Plain
open Go.RowKit Go.Proofs.YtdbcgeebcnlbaaaDoor.PScalMost Go.Proofs.YtdbcgeebcnlbaaaDoorW.PrintWords Go.Proofs.YtdbcgeebcnlbaaaDoorW.PrintLast Go.Proofs.YtdbcgeebcnlbaaaDoorW.PrintMore

theorem wrap64_in {n : Int} (h0 : -9223372036854775808 ≤ n) (h1 : n < 9223372036854775808) : wrap64 n = n := by unfold wrap64; omega
theorem wrap32_in {n : Int} (h0 : -2147483648 ≤ n) (h1 : n < 2147483648) : wrap32 n = n := by unfold wrap32; omega

theorem bytes_of_wf {l : List Int} (h : ∀ x ∈ l, (Lit.int .u8 x).wf = true) : Bytes l := by
  intro x hx
  have := h x hx
  simp only [Lit.wf, IntKind.min, IntKind.max, IntKind.signed, IntKind.bits, Bool.and_eq_true] at this
  simp at this
  omega

theorem need_f (k : Nat) (c : Int) (hk : 1 ≤ k) : scal_need.f k c = some (need c) := by
  obtain ⟨k, rfl⟩ : ∃ m, k = m + 1 := ⟨k - 1, by omega⟩
  unfold scal_need.f need
  by_cases h1 : c < 128
  · rw [if_pos h1, if_pos h1]
  · rw [if_neg h1, if_neg h1]
    by_cases h2 : c < 194
    · rw [if_pos h2, if_pos h2]; simp only [scal_need.j0, if_true]
    · rw [if_neg h2, if_neg h2]
      by_cases h3 : 244 < c
      · rw [if_pos h3]; simp only [scal_need.j0]; rw [if_pos (by simpa using h3)]
      · rw [if_neg h3]; simp only [scal_need.j0]; rw [if_neg (by simpa using h3)]
        repeat' split
        all_goals rfl

theorem drop_cons {l : List Int} {i : Int} (h0 : 0 ≤ i) (h : i < (l.length : Int)) : l.drop i.toNat = rd l i :: l.drop (i + 1).toNat := by
  have hi : i.toNat < l.length := by omega
  rw [List.drop_eq_getElem_cons hi]
  have e : (i + 1).toNat = i.toNat + 1 := by omega
  rw [e]
  congr 1
  unfold rd
  simp [List.getD_eq_getElem?_getD, List.getElem?_eq_getElem hi]

theorem rd_byte {l : List Int} (hb : Bytes l) {i : Int} (h0 : 0 ≤ i) (h : i < (l.length : Int)) : 0 ≤ rd l i ∧ rd l i < 256 := by
  have hi : i.toNat < l.length := by omega
  have : rd l i = l[i.toNat]'hi := by
    unfold rd
    simp [List.getD_eq_getElem?_getD, List.getElem?_eq_getElem hi]
  rw [this]
  exact hb _ (List.getElem_mem hi)

theorem one_l0 (l : List Int) (hb : Bytes l) (hlen : l.length < 1000000000) (at0 : Int) (ha : 0 ≤ at0) (hat : at0 < l.length) :
    ∀ (m kk : Nat) (n lo hi r k : Int), m < kk → n = k + m → 1 ≤ k → n ≤ 4 → 0 ≤ r → r * 64 ^ m < 2097152 →
      scal_One.l0 kk l at0 n lo hi r k 65533 at0 k = some ((run m lo hi r k (l.drop (at0 + k).toNat)).1, at0, (run m lo hi r k (l.drop (at0 + k).toNat)).2)
  | 0, kk, n, lo, hi, r, k, hkk, hn, hk, hn4, hr0, hr => by
    obtain ⟨kk, rfl⟩ : ∃ m, kk = m + 1 := ⟨kk - 1, by omega⟩
    simp only [scal_One.l0, run]
    rw [if_neg (by omega)]
  | m + 1, kk, n, lo, hi, r, k, hkk, hn, hk, hn4, hr0, hr => by
    obtain ⟨kk, rfl⟩ : ∃ m, kk = m + 1 := ⟨kk - 1, by omega⟩
    simp only [scal_One.l0]
    rw [if_pos (by omega)]
    rw [wrap64_in (n := at0 + k) (by omega) (by omega)]
    by_cases h1 : at0 + k ≥ (l.length : Int)
    · rw [if_pos h1]
      have : l.drop (at0 + k).toNat = [] := List.drop_eq_nil_of_le (by omega)
      rw [this]
      simp only [run]
    · rw [if_neg h1, if_pos (by omega), if_pos (by omega)]
      have hd := drop_cons (l := l) (i := at0 + k) (by omega) (by omega)
      have hby := rd_byte hb (i := at0 + k) (by omega) (by omega)
      rw [hd]
      simp only [run]
      generalize rd l (at0 + k) = b at hby ⊢
      by_cases h2 : b < lo
      · rw [if_pos h2, if_pos h2]
      · rw [if_neg h2, if_neg h2]
        by_cases h3 : hi < b
        · rw [if_pos h3, if_pos h3]
        · rw [if_neg h3, if_neg h3]
          have hm : m ≤ 2 := by omega
          have hr1 : r * 64 * 64 ^ m < 2097152 := by
            have : r * 64 ^ (m + 1) = r * 64 * 64 ^ m := by rw [Int.pow_succ, Int.mul_comm ((64 : Int) ^ m) 64, ← Int.mul_assoc]
            omega
          have hp : (1 : Int) ≤ 64 ^ m := by
            rcases m with _ | _ | _ | m
            · decide
            · decide
            · decide
            · omega
          have hr2 : r * 64 < 2097152 := by
            have h5 : r * 64 * 1 ≤ r * 64 * 64 ^ m := Int.mul_le_mul_of_nonneg_left hp (by omega)
            omega
          rw [u8_and63 b (by omega) (by omega), wrap32_in (n := r * 64) (by omega) (by omega), wrap32_in (n := b % 64) (by omega) (by omega),
            i32_or6 (r * 64) (b % 64) (by omega) (by omega) (by omega) (by omega) (by omega), wrap64_in (n := k + 1) (by omega) (by omega)]
          have e : at0 + k + 1 = at0 + (k + 1) := by omega
          rw [e]
          refine one_l0 l hb hlen at0 ha hat m kk n 128 191 (r * 64 + b % 64) (k + 1) (by omega) (by omega) (by omega) hn4 (by omega) ?_
          rcases m with _ | _ | _ | m
          · simp at hr1 ⊢; omega
          · simp at hr1 ⊢; omega
          · simp at hr1 ⊢; omega
          · omega

theorem lead_f (c : Int) (h0 : 0 ≤ c) (h1 : c < 256) (h2 : 2 ≤ (need c).1) : Go.bits .and .i32 (wrap32 c) (shr .i32 127 (need c).1) = lead c ∧ 0 ≤ lead c ∧ lead c * 64 ^ ((need c).1 - 1).toNat < 2097152 := by
  have hw : wrap32 c = c := wrap32_in (by omega) (by omega)
  rw [hw]
  have a31 : Go.bits .and .i32 c 31 = c % 32 := bits_mask .i32 31 (by decide) wraps_i32 5 (by decide) c (by omega) (by omega)
  have a15 : Go.bits .and .i32 c 15 = c % 16 := bits_mask .i32 31 (by decide) wraps_i32 4 (by decide) c (by omega) (by omega)
  have a7 : Go.bits .and .i32 c 7 = c % 8 := bits_mask .i32 31 (by decide) wraps_i32 3 (by decide) c (by omega) (by omega)
  have s2 : shr .i32 127 2 = 31 := by decide
  have s3 : shr .i32 127 3 = 15 := by decide
  have s4 : shr .i32 127 4 = 7 := by decide
  revert h2
  unfold need lead
  by_cases g1 : c < 128
  · rw [if_pos g1]; intro h; simp at h
  rw [if_neg g1]
  by_cases g2 : c < 194
  · rw [if_pos g2]; intro h; simp at h
  rw [if_neg g2]
  by_cases g3 : 244 < c
  · rw [if_pos g3]; intro h; simp at h
  rw [if_neg g3]
  intro _
  by_cases g4 : c < 224
  · rw [if_pos g4, if_pos g4]
    refine ⟨by rw [s2, a31], by omega, ?_⟩
    simp; omega
  rw [if_neg g4, if_neg g4]
  by_cases g5 : c < 240
  · rw [if_pos g5, if_pos g5]
    have e : ((if c = 224 then (3, 160, 191) else if c = 237 then (3, 128, 159) else (3, 128, 191)) : Int × Int × Int).1 = 3 := by (repeat' split) <;> rfl
    rw [e]
    refine ⟨by rw [s3, a15], by omega, ?_⟩
    simp; omega
  · rw [if_neg g5, if_neg g5]
    rw [if_neg (show ¬ c = 224 by omega), if_neg (show ¬ c = 237 by omega)]
    have e : ((if c = 240 then (4, 144, 191) else if c = 244 then (4, 128, 143) else (4, 128, 191)) : Int × Int × Int).1 = 4 := by (repeat' split) <;> rfl
    rw [e]
    refine ⟨by rw [s4, a7], by omega, ?_⟩
    simp; omega

theorem one_f (l : List Int) (hb : Bytes l) (hlen : l.length < 1000000000) (at0 : Int) (ha : 0 ≤ at0) (hat : at0 < l.length) (k : Nat) (hk : 8 ≤ k) :
    scal_One.f k l at0 = some ((one (l.drop at0.toNat)).1, at0, (one (l.drop at0.toNat)).2) := by
  obtain ⟨k, rfl⟩ : ∃ m, k = m + 2 := ⟨k - 2, by omega⟩
  unfold scal_One.f
  rw [if_neg (by omega)]
  have hd : decide (at0 ≥ (l.length : Int)) = false := decide_eq_false (by omega)
  rw [hd]
  simp only [scal_One.j0]
  rw [if_neg (by decide), if_pos ha, if_pos hat, need_f (k + 1) _ (by omega)]
  simp only [Option.bind_some]
  have hby := rd_byte hb ha hat
  rw [drop_cons ha hat]
  simp only [one]
  have e : wrap32 (rd l at0) = rd l at0 := wrap32_in (by omega) (by omega)
  by_cases h1 : (need (rd l at0)).1 < 2
  · rw [if_pos h1, if_pos h1]
    by_cases h2 : (need (rd l at0)).1 = 1
    · rw [if_pos h2, if_pos h2, e]
    · rw [if_neg h2, if_neg h2]
  · rw [if_neg h1, if_neg h1, if_pos (by omega)]
    have hn := need_le (rd l at0)
    obtain ⟨hl, hl0, hl1⟩ := lead_f (rd l at0) (by omega) (by omega) (by omega)
    rw [hl]
    exact one_l0 l hb hlen at0 ha hat ((need (rd l at0)).1 - 1).toNat (k + 1) (need (rd l at0)).1 _ _ _ 1 (by omega) (by omega) (by omega) (by omega) hl0 hl1

theorem one_out (l : List Int) (at0 : Int) (h : at0 < 0 ∨ (l.length : Int) ≤ at0) (k : Nat) (hk : 1 ≤ k) : scal_One.f k l at0 = some (0, 0, 0) := by
  obtain ⟨k, rfl⟩ : ∃ m, k = m + 1 := ⟨k - 1, by omega⟩
  unfold scal_One.f
  by_cases h0 : at0 < 0
  · rw [if_pos h0]; simp only [scal_One.j0, if_true]
  · rw [if_neg h0]
    have hd : decide (at0 ≥ (l.length : Int)) = true := decide_eq_true (by omega)
    rw [hd]; simp only [scal_One.j0, if_true]

/-- Signs at their places. -/
def place : Int → List (Int × Int) → List S27
  | _, [] => []
  | p, (r, n) :: t => ⟨r, p, n⟩ :: place (p + n) t

theorem place_length : ∀ (p : Int) (l : List (Int × Int)), (place p l).length = l.length
  | _, [] => rfl
  | p, (r, n) :: t => by simp only [place, List.length_cons]; rw [place_length]

theorem all_l0 (l : List Int) (hb : Bytes l) (hlen : l.length < 1000000000) :
    ∀ (d k : Nat) (acc : List S27) (p : Int), 0 ≤ p → p ≤ l.length → (l.length : Int) - p ≤ d → d + 10 ≤ k → acc.length ≤ p.toNat →
      scal_All.l0 k l acc p = some (acc ++ place p (sg (l.drop p.toNat)))
  | d, k, acc, p, h0, h1, hd, hk, hacc => by
    obtain ⟨k, rfl⟩ : ∃ m, k = m + 1 := ⟨k - 1, by omega⟩
    simp only [scal_All.l0]
    by_cases hp : p < (l.length : Int)
    · rw [if_pos hp, one_f l hb hlen p h0 hp k (by omega)]
      simp only [Option.bind_some]
      rw [if_pos (by omega)]
      have hne : l.drop p.toNat ≠ [] := by
        intro hc
        have := congrArg List.length hc
        simp only [List.length_drop, List.length_nil] at this
        omega
      have h3 := one_len hne
      rw [List.length_drop] at h3
      rw [wrap64_in (by omega) (by omega)]
      obtain ⟨e, rfl⟩ : ∃ m, d = m + 1 := ⟨d - 1, by omega⟩
      rw [all_l0 l hb hlen e k _ _ (by omega) (by omega) (by omega) (by omega) (by simp; omega)]
      conv => rhs; rw [sg_cons hne]
      simp only [place, List.drop_drop]
      rw [List.append_assoc]
      have e2 : (p + (one (l.drop p.toNat)).2).toNat = p.toNat + (one (l.drop p.toNat)).2.toNat := by omega
      rw [e2]
      rfl
    · rw [if_neg hp]
      have : l.drop p.toNat = [] := List.drop_eq_nil_of_le (by omega)
      rw [this, sg_nil]
      simp [place]
  termination_by d => d

theorem all_f (l : List Int) (hb : Bytes l) (hlen : l.length < 1000000000) (k : Nat) (hk : l.length + 10 ≤ k) : scal_All.f k l = some (place 0 (sg l)) := by
  unfold scal_All.f
  rw [all_l0 l hb hlen l.length k [] 0 (by omega) (by omega) (by omega) hk (by simp)]
  simp

end Go.Proofs.YtdbcgeebcnlbaaaDoor.Plain
