/- The reference's One and All compute the same plain signs as the program's. Conditions: none. -/
import Derived.Test.YtdbcgeebcnlbaaaPlainRef
namespace Go.Proofs.Ytdbcgeebcnlbaaa.Plain
open Go.RowKit Go.Proofs.Ytdbcgeebcnlbaaa.PScalAll Go.Proofs.YtdbcgeebcnlbaaaW.PrintWords Go.Proofs.YtdbcgeebcnlbaaaW.PrintLast Go.Proofs.YtdbcgeebcnlbaaaW.PrintMore

theorem pow_step (r : Int) (m : Nat) : r * 64 ^ (m + 1) = r * 64 * 64 ^ m := by rw [Int.pow_succ, Int.mul_comm ((64 : Int) ^ m) 64, ← Int.mul_assoc]
theorem pow_ge (m : Nat) (h : m ≤ 3) : (1 : Int) ≤ 64 ^ m := by
  rcases m with _ | _ | _ | _ | m
  · decide
  · decide
  · decide
  · decide
  · omega

theorem ref_l1 (l : List Int) (hlen : l.length < 1000000000) (at0 : Int) (ha : 0 ≤ at0) (n : Int) (hn4 : n ≤ 4) :
    ∀ (m kk : Nat) (lo hi r i : Int), m < kk → n = i + m → 1 ≤ i → 128 ≤ lo → hi ≤ 191 → acc m lo hi (l.drop (at0 + i).toNat) = m → 0 ≤ r → r * 64 ^ m < 2097152 →
      stanzaref01_One.l1 kk l at0 n r i = some (dec m r (l.drop (at0 + i).toNat), at0, n)
  | 0, kk, lo, hi, r, i, hk, hn, hi1, hlo, hhi, hacc, hr0, hr => by
    obtain ⟨kk, rfl⟩ : ∃ m, kk = m + 1 := ⟨kk - 1, by omega⟩
    simp only [stanzaref01_One.l1, dec]
    rw [if_neg (by omega)]
  | m + 1, kk, lo, hi, r, i, hk, hn, hi1, hlo, hhi, hacc, hr0, hr => by
    obtain ⟨kk, rfl⟩ : ∃ m, kk = m + 1 := ⟨kk - 1, by omega⟩
    simp only [stanzaref01_One.l1]
    have hlt : at0 + i < (l.length : Int) := by
      rcases Int.lt_or_le (at0 + i) l.length with h | h
      · exact h
      · rw [List.drop_eq_nil_of_le (by omega)] at hacc
        simp [acc] at hacc
    have hd := drop_cons (l := l) (i := at0 + i) (by omega) hlt
    rw [hd] at hacc ⊢
    simp only [acc, dec] at hacc ⊢
    rw [if_pos (by omega), wrap64_in (n := at0 + i) (by omega) (by omega), if_pos (by omega), if_pos hlt]
    generalize rd l (at0 + i) = b at hacc ⊢
    clear hd
    by_cases g1 : b < lo
    · rw [if_pos g1] at hacc; omega
    rw [if_neg g1] at hacc
    by_cases g2 : hi < b
    · rw [if_pos g2] at hacc; omega
    rw [if_neg g2] at hacc
    have hr1 := pow_step r m
    rw [hr1] at hr
    clear hr1
    have hp := pow_ge m (by omega)
    have hr2 : r * 64 < 2097152 := by
      have h5 : r * 64 * 1 ≤ r * 64 * 64 ^ m := Int.mul_le_mul_of_nonneg_left hp (by omega)
      omega
    rw [wrap32_in (n := r * 64) (by omega) (by omega), wrap32_in (n := b) (by omega) (by omega), wrap32_in (n := r * 64 + b) (by omega) (by omega),
      wrap32_in (n := r * 64 + b - 128) (by omega) (by omega), wrap64_in (n := i + 1) (by omega) (by omega)]
    have e1 : r * 64 + b - 128 = r * 64 + b % 64 := by omega
    have e2 : at0 + i + 1 = at0 + (i + 1) := by omega
    rw [e1]
    rw [e2] at hacc ⊢
    refine ref_l1 l hlen at0 ha n hn4 m kk 128 191 _ (i + 1) (by omega) (by omega) (by omega) (by decide) (by decide) (by omega) (by omega) ?_
    have hm : m ≤ 2 := by omega
    rcases m with _ | _ | _ | m
    · simp at hr ⊢; omega
    · simp at hr ⊢; omega
    · simp at hr ⊢; omega
    · omega

theorem ref_l0 (l : List Int) (hlen : l.length < 1000000000) (at0 : Int) (ha : 0 ≤ at0) (hat : at0 < l.length) (K : Nat) (hK : 20 ≤ K) :
    ∀ (d kk i : Nat), most (l.drop at0.toNat) - i ≤ d → K + d < kk → i ≤ most (l.drop at0.toNat) → ∃ kk', K ≤ kk' ∧ stanzaref01_One.l0 kk l at0 i = stanzaref01_One.j2 kk' l at0 (most (l.drop at0.toNat) : Nat)
  | d, kk, i, hd, hk, hi => by
    obtain ⟨kk, rfl⟩ : ∃ m, kk = m + 1 := ⟨kk - 1, by omega⟩
    simp only [stanzaref01_One.l0]
    have hm := most_le (l.drop at0.toNat)
    rw [List.length_drop] at hm
    rw [wrap64_in (n := (l.length : Int) - at0) (by omega) (by omega), wrap64_in (n := at0 + (i : Int)) (by omega) (by omega), wrap64_in (n := at0 + (i : Int) + 1) (by omega) (by omega)]
    by_cases h4 : (i : Int) < 4
    · rw [if_pos h4]
      by_cases h5 : (i : Int) < (l.length : Int) - at0
      · rw [if_pos h5, if_pos ha, if_pos (by omega), if_pos (by omega)]
        have hs : (l.take (at0 + (i : Int) + 1).toNat).drop at0.toNat = (l.drop at0.toNat).take (i + 1) := by
          rw [List.drop_take]
          congr 1
          omega
        rw [hs]
        have hne : (l.drop at0.toNat).take (i + 1) ≠ [] := by
          intro hc
          have := congrArg List.length hc
          simp only [List.length_take, List.length_drop, List.length_nil] at this
          omega
        have hl5 : ((l.drop at0.toNat).take (i + 1)).length ≤ 4 := by simp only [List.length_take, List.length_drop]; omega
        rw [begins_f _ (by omega) hne kk (by omega)]
        simp only [Option.bind_some]
        obtain ⟨c, t, hct⟩ : ∃ c t, l.drop at0.toNat = c :: t := by
          cases hq : l.drop at0.toNat with
          | nil => rw [hq] at hne; simp at hne
          | cons c t => exact ⟨c, t, rfl⟩
        have hlt : (l.drop at0.toNat).length = l.length - at0.toNat := List.length_drop
        rw [hct] at hd hi hm hlt ⊢
        rw [List.length_cons] at hlt
        rw [beg_take c t i (by omega)]
        by_cases h6 : i + 1 ≤ most (c :: t)
        · rw [if_pos (by simpa using h6)]
          have hw : wrap64 ((i : Int) + 1) = ((i + 1 : Nat) : Int) := by rw [wrap64_in (by omega) (by omega)]; omega
          rw [hw]
          clear hw
          obtain ⟨e, rfl⟩ : ∃ m, d = m + 1 := ⟨d - 1, by omega⟩
          have ih := ref_l0 l hlen at0 ha hat K hK e kk (i + 1)
          rw [hct] at ih
          exact ih (by omega) (by omega) h6
        · rw [if_neg (by simpa using h6)]
          have : i = most (c :: t) := by omega
          exact ⟨kk, by omega, by rw [← this]⟩
      · rw [if_neg h5]
        have : i = most (l.drop at0.toNat) := by omega
        exact ⟨kk, by omega, by rw [← this]⟩
    · rw [if_neg h4]
      have : i = most (l.drop at0.toNat) := by omega
      exact ⟨kk, by omega, by rw [← this]⟩
  termination_by d => d

theorem lead_mask (c : Int) (h0 : 0 ≤ c) (h1 : c < 256) (h2 : 2 ≤ (need c).1) : Go.bits .and .i32 (wrap32 c) (rd [0, 127, 31, 15, 7] (need c).1) = lead c ∧ 0 ≤ lead c ∧ lead c * 64 ^ ((need c).1 - 1).toNat < 2097152 := by
  obtain ⟨hl, h3, h4⟩ := lead_f c h0 h1 h2
  refine ⟨?_, h3, h4⟩
  rw [← hl]
  have hn := need_le c
  have : (need c).1 = 2 ∨ (need c).1 = 3 ∨ (need c).1 = 4 := by omega
  rcases this with h | h | h
  · rw [h]
    have e : shr .i32 127 2 = rd [0, 127, 31, 15, 7] 2 := by decide
    rw [e]
  · rw [h]
    have e : shr .i32 127 3 = rd [0, 127, 31, 15, 7] 3 := by decide
    rw [e]
  · rw [h]
    have e : shr .i32 127 4 = rd [0, 127, 31, 15, 7] 4 := by decide
    rw [e]

theorem ref_one_f (l : List Int) (hb : Bytes l) (hlen : l.length < 1000000000) (at0 : Int) (ha : 0 ≤ at0) (hat : at0 < l.length) (k : Nat) (hk : 40 ≤ k) :
    stanzaref01_One.f k l at0 = some ((one (l.drop at0.toNat)).1, at0, (one (l.drop at0.toNat)).2) := by
  obtain ⟨k, rfl⟩ : ∃ m, k = m + 1 := ⟨k - 1, by omega⟩
  unfold stanzaref01_One.f
  rw [if_neg (by omega), decide_eq_false (by omega)]
  simp only [stanzaref01_One.j0]
  rw [if_neg (by decide)]
  have hm := most_le (l.drop at0.toNat)
  obtain ⟨kk, hkk, he⟩ := ref_l0 l hlen at0 ha hat 20 (by omega) 4 k 0 (by omega) (by omega) (by omega)
  have he2 : stanzaref01_One.l0 k l at0 0 = stanzaref01_One.j2 kk l at0 (most (l.drop at0.toNat) : Nat) := he
  rw [he2]
  clear he he2
  have hby := rd_byte hb ha hat
  have hdc := drop_cons ha hat
  rw [hdc] at hm ⊢
  obtain ⟨kk, rfl⟩ : ∃ m, kk = m + 1 := ⟨kk - 1, by omega⟩
  simp only [stanzaref01_One.j2]
  obtain ⟨c, hc⟩ : ∃ c, c = rd l at0 := ⟨_, rfl⟩
  rw [← hc] at hby hm ⊢
  clear hc hdc
  obtain ⟨t, ht⟩ : ∃ t, t = l.drop (at0 + 1).toNat := ⟨_, rfl⟩
  have hn := need_le c
  rw [← ht] at hm ⊢
  have hM : most (c :: t) = if (need c).1 = 0 then 0 else acc ((need c).1 - 1).toNat (need c).2.1 (need c).2.2 t + 1 := rfl
  have hacc := acc_le ((need c).1 - 1).toNat (need c).2.1 (need c).2.2 t
  by_cases h0 : (need c).1 = 0
  · rw [if_pos h0] at hM
    rw [hM, if_pos (by decide)]
    simp only [one]
    rw [if_pos (by omega), if_neg (by omega)]
  rw [if_neg h0] at hM
  rw [if_neg (by omega), if_pos ha, if_pos hat, length_f _ _ (by omega)]
  simp only [Option.bind_some, one]
  by_cases h1 : (need c).1 = 1
  · have e : ((need c).1 - 1).toNat = 0 := by omega
    rw [e] at hM
    simp only [acc] at hM
    rw [hM, h1, if_neg (by omega), if_pos (by omega), if_pos (by decide), if_pos (by omega), if_pos rfl]
    have hc : c < 128 := by
      rcases Int.lt_or_le c 128 with g | g
      · exact g
      · exfalso
        revert h1
        unfold need
        rw [if_neg (by omega)]
        repeat' split
        all_goals decide
    have hk1 : stanzaref01_One.l1 kk l at0 ((0 + 1 : Nat) : Int) (Go.bits .and .i32 (wrap32 c) (rd [0, 127, 31, 15, 7] ((0 + 1 : Nat) : Int))) 1 = some (Go.bits .and .i32 (wrap32 c) (rd [0, 127, 31, 15, 7] ((0 + 1 : Nat) : Int)), at0, ((0 + 1 : Nat) : Int)) := by
      obtain ⟨kk, rfl⟩ : ∃ m, kk = m + 1 := ⟨kk - 1, by omega⟩
      simp only [stanzaref01_One.l1]
      rw [if_neg (by omega)]
    rw [hk1]
    have e127 : rd [0, 127, 31, 15, 7] ((0 + 1 : Nat) : Int) = 127 := by decide
    have a127 : Go.bits .and .i32 c 127 = c % 128 := bits_mask .i32 31 (by decide) wraps_i32 7 (by decide) c (by omega) (by omega)
    rw [e127, wrap32_in (n := c) (by omega) (by omega), a127]
    have e2 : c % 128 = c := by omega
    rw [e2]
    rfl
  rw [if_neg (show ¬ (need c).1 < 2 by omega), run_acc]
  by_cases h2 : acc ((need c).1 - 1).toNat (need c).2.1 (need c).2.2 t = ((need c).1 - 1).toNat
  · have hN : ((most (c :: t) : Nat) : Int) = (need c).1 := by omega
    rw [if_pos h2, hN, if_neg (by omega), if_pos (by omega), if_pos (by simp only [List.length_cons, List.length_nil]; omega)]
    obtain ⟨hl, hl0, hl1⟩ := lead_mask c hby.1 hby.2 (by omega)
    rw [hl]
    have hlh : 128 ≤ (need c).2.1 ∧ (need c).2.2 ≤ 191 := by
      rcases need_lohi c with h | h
      · omega
      · exact h
    rw [ht] at h2
    rw [ref_l1 l hlen at0 ha (need c).1 (by omega) ((need c).1 - 1).toNat kk (need c).2.1 (need c).2.2 (lead c) 1 (by omega) (by omega) (by omega) hlh.1 hlh.2 h2 hl0 hl1, ← ht]
    simp only []
    have e : (1 : Int) + (((need c).1 - 1).toNat : Int) = (need c).1 := by omega
    rw [e]
  · rw [if_neg h2, if_pos (by omega)]
    simp only []
    have e : (1 : Int) + ((acc ((need c).1 - 1).toNat (need c).2.1 (need c).2.2 t : Nat) : Int) = ((most (c :: t) : Nat) : Int) := by omega
    rw [e]

theorem ref_one_out (l : List Int) (at0 : Int) (h : at0 < 0 ∨ (l.length : Int) ≤ at0) (k : Nat) (hk : 1 ≤ k) : stanzaref01_One.f k l at0 = some (0, 0, 0) := by
  obtain ⟨k, rfl⟩ : ∃ m, k = m + 1 := ⟨k - 1, by omega⟩
  unfold stanzaref01_One.f
  by_cases h0 : at0 < 0
  · rw [if_pos h0]; simp only [stanzaref01_One.j0, if_true]
  · rw [if_neg h0, decide_eq_true (by omega)]; simp only [stanzaref01_One.j0, if_true]

theorem ref_all_l0 (l : List Int) (hb : Bytes l) (hlen : l.length < 1000000000) :
    ∀ (d k : Nat) (acc : List S29) (p : Int), 0 ≤ p → p ≤ l.length → (l.length : Int) - p ≤ d → d + 45 ≤ k → acc.length ≤ p.toNat →
      stanzaref01_All.l0 k l acc p = some (acc ++ place p (sg (l.drop p.toNat)))
  | d, k, acc, p, h0, h1, hd, hk, hacc => by
    obtain ⟨k, rfl⟩ : ∃ m, k = m + 1 := ⟨k - 1, by omega⟩
    simp only [stanzaref01_All.l0]
    by_cases hp : p < (l.length : Int)
    · rw [if_pos hp, ref_one_f l hb hlen p h0 hp k (by omega)]
      simp only [Option.bind_some]
      rw [if_pos (by omega)]
      have hne : l.drop p.toNat ≠ [] := by
        intro hc
        have := congrArg List.length hc
        simp only [List.length_drop, List.length_nil] at this
        omega
      have h3 := one_len hne
      rw [List.length_drop] at h3
      rw [wrap64_in (by omega) (by omega)]
      obtain ⟨e, rfl⟩ : ∃ m, d = m + 1 := ⟨d - 1, by omega⟩
      rw [ref_all_l0 l hb hlen e k _ _ (by omega) (by omega) (by omega) (by omega) (by simp; omega)]
      conv => rhs; rw [sg_cons hne]
      simp only [place, List.drop_drop]
      rw [List.append_assoc]
      have e2 : (p + (one (l.drop p.toNat)).2).toNat = p.toNat + (one (l.drop p.toNat)).2.toNat := by omega
      rw [e2]
      rfl
    · rw [if_neg hp]
      have : l.drop p.toNat = [] := List.drop_eq_nil_of_le (by omega)
      rw [this, sg_nil]
      simp [place]
  termination_by d => d

theorem ref_all_f (l : List Int) (hb : Bytes l) (hlen : l.length < 1000000000) (k : Nat) (hk : l.length + 45 ≤ k) : stanzaref01_All.f k l = some (place 0 (sg l)) := by
  unfold stanzaref01_All.f
  rw [ref_all_l0 l hb hlen l.length k [] 0 (by omega) (by omega) (by omega) hk (by simp)]
  simp

end Go.Proofs.Ytdbcgeebcnlbaaa.Plain
