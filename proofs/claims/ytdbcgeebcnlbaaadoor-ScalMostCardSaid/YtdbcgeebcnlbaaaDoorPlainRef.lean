/- What the reference's length and Begins compute, in plain numbers. Conditions: none. -/
import Derived.Test.YtdbcgeebcnlbaaaDoorOwnB
import Derived.Test.YtdbcgeebcnlbaaaDoorPlainOne
namespace Go.Proofs.YtdbcgeebcnlbaaaDoor.Plain
open Go.RowKit Go.Proofs.YtdbcgeebcnlbaaaDoor.PScalMost Go.Proofs.YtdbcgeebcnlbaaaDoorW.PrintWords Go.Proofs.YtdbcgeebcnlbaaaDoorW.PrintLast Go.Proofs.YtdbcgeebcnlbaaaDoorW.PrintMore

theorem length_f (k : Nat) (c : Int) (hk : 3 ≤ k) : stanzaref01_length.f k c = some (need c).1 := by
  obtain ⟨k, rfl⟩ : ∃ m, k = m + 3 := ⟨k - 3, by omega⟩
  unfold stanzaref01_length.f need
  by_cases h1 : c < 128
  · rw [if_pos h1, if_pos h1]
  rw [if_neg h1, if_neg h1]
  by_cases h2 : c < 194
  · rw [if_pos h2, if_neg (by omega)]
    simp only [stanzaref01_length.j0, stanzaref01_length.j1]
    rw [if_neg (by decide), if_neg (by omega), if_neg (by decide), if_neg (by omega)]
  rw [if_neg h2, if_pos (by omega)]
  simp only [stanzaref01_length.j0]
  by_cases h3 : 244 < c
  · rw [if_pos h3, if_neg (by simp; omega), if_pos (by omega)]
    simp only [stanzaref01_length.j1]
    rw [if_neg (by simp; omega), if_pos (by omega), if_neg (by omega)]
  rw [if_neg h3]
  by_cases h4 : c < 224
  · rw [if_pos h4, if_pos (by simp; omega)]
  rw [if_neg h4, if_neg (by simp; omega), if_pos (by omega)]
  simp only [stanzaref01_length.j1]
  by_cases h5 : c < 240
  · rw [if_pos (by simp; omega)]
    have e : ((if c = 224 then (3, 160, 191) else if c = 237 then (3, 128, 159) else if c < 240 then (3, 128, 191) else if c = 240 then (4, 144, 191) else if c = 244 then (4, 128, 143) else (4, 128, 191)) : Int × Int × Int).1 = 3 := by
      by_cases g1 : c = 224
      · rw [if_pos g1]
      rw [if_neg g1]
      by_cases g2 : c = 237
      · rw [if_pos g2]
      rw [if_neg g2, if_pos h5]
    rw [e]
  · rw [if_neg (by simp; omega), if_pos (by omega), if_pos (by omega), if_neg (show ¬ c = 224 by omega), if_neg (show ¬ c = 237 by omega), if_neg h5]
    have e : ((if c = 240 then (4, 144, 191) else if c = 244 then (4, 128, 143) else (4, 128, 191)) : Int × Int × Int).1 = 4 := by (repeat' split) <;> rfl
    rw [e]

/-- A byte that may stand behind a first one. -/
def cont (b : Int) : Bool := decide (128 ≤ b) && decide (b ≤ 191)
/-- May this second byte stand behind this first one? -/
def second (c b : Int) : Bool := if c = 224 then decide (b ≥ 160) else if c = 237 then decide (b < 160) else if c = 240 then decide (b ≥ 144) else if c = 244 then decide (b < 144) else true
def fin : List Int → Bool
  | c :: b :: _ => second c b
  | _ => true
def beg : List Int → Bool
  | [] => false
  | c :: t => decide ((t.length : Int) + 1 ≤ (need c).1) && (t.all cont && fin (c :: t))

theorem begins_l0 (x : List Int) (hx : x.length < 1000000000) (hx1 : x ≠ []) : ∀ (d k i : Nat), x.length - i ≤ d → d < k → 1 ≤ i → i ≤ x.length →
    stanzaref01_Begins.l0 k x i = some ((x.drop i).all cont && fin x)
  | d, k, i, hd, hk, h1, hi => by
    obtain ⟨k, rfl⟩ : ∃ m, k = m + 1 := ⟨k - 1, by omega⟩
    simp only [stanzaref01_Begins.l0]
    by_cases h : i < x.length
    · have hdr := drop_cons (l := x) (i := (i : Int)) (by omega) (by omega)
      rw [Int.toNat_natCast] at hdr
      have e1 : ((i : Int) + 1).toNat = i + 1 := by omega
      rw [e1] at hdr
      rw [if_pos (by omega), if_pos (by omega), hdr]
      simp only [List.all_cons]
      generalize rd x (i : Int) = b
      by_cases g1 : b < 128
      · rw [if_pos g1]
        have : cont b = false := by unfold cont; simp; omega
        rw [this]
        simp
      rw [if_neg g1]
      by_cases g2 : b > 191
      · rw [if_pos g2]
        have : cont b = false := by unfold cont; simp; omega
        rw [this]
        simp
      rw [if_neg g2]
      have hc : cont b = true := by unfold cont; simp; omega
      have hw : wrap64 ((i : Int) + 1) = ((i + 1 : Nat) : Int) := by rw [wrap64_in (by omega) (by omega)]; omega
      rw [hw, hc]
      clear hw hc hdr
      obtain ⟨e, rfl⟩ : ∃ m, d = m + 1 := ⟨d - 1, by omega⟩
      rw [begins_l0 x hx hx1 e k (i + 1) (by omega) (by omega) (by omega) (by omega)]
      simp
    · have hi2 : i = x.length := by omega
      subst hi2
      rw [if_neg (by omega)]
      simp only [List.drop_length, List.all_nil, Bool.true_and]
      match x, hx1 with
      | [c], _ => simp [fin]
      | c :: b :: t, _ =>
        have r0 : rd (c :: b :: t) 0 = c := rfl
        have r1 : rd (c :: b :: t) 1 = b := rfl
        rw [if_neg (by simp only [List.length_cons]; omega), if_pos (by simp only [List.length_cons]; omega), r0, r1]
        simp only [fin, second]
        have hl : (1 : Int) < ((c :: b :: t).length : Int) := by simp only [List.length_cons]; omega
        simp only [if_pos hl]
        by_cases g1 : c = 224
        · rw [if_pos g1, if_pos g1]
        rw [if_neg g1, if_neg g1]
        by_cases g2 : c = 237
        · rw [if_pos g2, if_pos g2]
        rw [if_neg g2, if_neg g2]
        by_cases g3 : c = 240
        · rw [if_pos g3, if_pos g3]
        rw [if_neg g3, if_neg g3]
        by_cases g4 : c = 244
        · rw [if_pos g4, if_pos g4]
        rw [if_neg g4, if_neg g4]
  termination_by d => d

theorem begins_f (x : List Int) (hx : x.length < 1000000000) (hx1 : x ≠ []) (k : Nat) (hk : x.length + 5 ≤ k) : stanzaref01_Begins.f k x = some (beg x) := by
  obtain ⟨k, rfl⟩ : ∃ m, k = m + 1 := ⟨k - 1, by omega⟩
  match x, hx1 with
  | c :: t, _ =>
    unfold stanzaref01_Begins.f
    have r0 : rd (c :: t) 0 = c := rfl
    rw [if_neg (by simp only [List.length_cons]; omega), if_pos (by simp only [List.length_cons]; omega), r0, length_f _ _ (by omega)]
    simp only [Option.bind_some, stanzaref01_Begins.j0, beg]
    by_cases h : ((c :: t).length : Int) > (need c).1
    · rw [if_pos (by simpa using h)]
      have : decide ((t.length : Int) + 1 ≤ (need c).1) = false := decide_eq_false (by simp at h; omega)
      rw [this]
      simp
    · rw [if_neg (by simpa using h)]
      have : decide ((t.length : Int) + 1 ≤ (need c).1) = true := decide_eq_true (by simp at h; omega)
      rw [this]
      have hb := begins_l0 (c :: t) hx (by simp) (c :: t).length k 1 (by omega) (by omega) (by omega) (by simp)
      simpa using hb

/-- How many bytes behind the first one are as they must be. -/
def acc : Nat → Int → Int → List Int → Nat
  | 0, _, _, _ => 0
  | _ + 1, _, _, [] => 0
  | m + 1, lo, hi, b :: t => if b < lo then 0 else if hi < b then 0 else acc m 128 191 t + 1
def dec : Nat → Int → List Int → Int
  | 0, r, _ => r
  | _ + 1, r, [] => r
  | m + 1, r, b :: t => dec m (r * 64 + b % 64) t

theorem acc_le : ∀ (m : Nat) (lo hi : Int) (t : List Int), acc m lo hi t ≤ m ∧ acc m lo hi t ≤ t.length
  | 0, _, _, _ => by simp [acc]
  | m + 1, _, _, [] => by simp [acc]
  | m + 1, lo, hi, b :: t => by
    have := acc_le m 128 191 t
    simp only [acc, List.length_cons]
    split
    · omega
    · split <;> omega

theorem run_acc : ∀ (m : Nat) (lo hi r k : Int) (t : List Int), run m lo hi r k t = if acc m lo hi t = m then (dec m r t, k + m) else (65533, k + acc m lo hi t)
  | 0, _, _, r, k, t => by simp [run, acc, dec]
  | m + 1, _, _, r, k, [] => by simp [run, acc]
  | m + 1, lo, hi, r, k, b :: t => by
    simp only [run, acc, dec]
    split
    · simp
    · split
      · simp
      · rw [run_acc m 128 191 _ _ t]
        by_cases h : acc m 128 191 t = m
        · rw [if_pos h, if_pos (by omega)]
          congr 1
          omega
        · rw [if_neg h, if_neg (by omega)]
          congr 1
          omega

/-- A row of bytes begins a sign just where the bytes behind the first one are as they must be. -/
theorem acc_iff : ∀ (m : Nat) (lo hi : Int) (t : List Int) (n : Nat), 128 ≤ lo → hi ≤ 191 → n ≤ t.length →
    ((n ≤ m ∧ (t.take n).all cont = true ∧ (∀ b, (t.take n)[0]? = some b → lo ≤ b ∧ b ≤ hi)) ↔ n ≤ acc m lo hi t)
  | m, lo, hi, t, 0, _, _, _ => by simp
  | 0, lo, hi, t, n + 1, _, _, _ => by simp [acc]
  | m + 1, lo, hi, [], n + 1, _, _, h => by simp at h
  | m + 1, lo, hi, b :: t, n + 1, hlo, hhi, h => by
    have ih := acc_iff m 128 191 t n (by decide) (by decide) (by simpa using h)
    simp only [acc, List.take_succ_cons, List.all_cons, Bool.and_eq_true]
    constructor
    · rintro ⟨h1, ⟨h2, h3⟩, h4⟩
      have h5 := h4 b (by simp)
      rw [if_neg (by omega), if_neg (by omega)]
      have h6 := ih.1 ⟨by omega, h3, fun b' hb' => by
        have h7 : b' ∈ t.take n := List.mem_of_getElem? hb'
        have h8 := List.all_eq_true.1 h3 b' h7
        unfold cont at h8
        simp at h8
        exact h8⟩
      omega
    · intro h1
      by_cases g1 : b < lo
      · rw [if_pos g1] at h1; omega
      rw [if_neg g1] at h1
      by_cases g2 : hi < b
      · rw [if_pos g2] at h1; omega
      rw [if_neg g2] at h1
      obtain ⟨h2, h3, h4⟩ := ih.2 (by omega)
      refine ⟨by omega, ⟨by unfold cont; simp; omega, h3⟩, ?_⟩
      intro b' hb'
      simp at hb'
      subst hb'
      omega

theorem need_lohi (c : Int) : (need c).1 < 2 ∨ (128 ≤ (need c).2.1 ∧ (need c).2.2 ≤ 191) := by
  unfold need
  repeat' split
  all_goals first | (left; decide) | (right; decide)

theorem second_iff (c b : Int) (h : 2 ≤ (need c).1) (hb : cont b = true) : second c b = true ↔ (need c).2.1 ≤ b ∧ b ≤ (need c).2.2 := by
  unfold cont at hb
  simp at hb
  revert h
  unfold need second
  by_cases h1 : c < 128
  · rw [if_pos h1]; intro h; simp at h
  rw [if_neg h1]
  by_cases h2 : c < 194
  · rw [if_pos h2]; intro h; simp at h
  rw [if_neg h2]
  by_cases h3 : 244 < c
  · rw [if_pos h3]; intro h; simp at h
  rw [if_neg h3]
  intro _
  by_cases h4 : c < 224
  · rw [if_pos h4, if_neg (by omega), if_neg (by omega), if_neg (by omega), if_neg (by omega)]
    simp; omega
  rw [if_neg h4]
  by_cases g1 : c = 224
  · rw [if_pos g1, if_pos g1]; simp; omega
  rw [if_neg g1, if_neg g1]
  by_cases g2 : c = 237
  · rw [if_pos g2, if_pos g2]; simp; omega
  rw [if_neg g2, if_neg g2]
  by_cases g3 : c < 240
  · rw [if_pos g3, if_neg (by omega), if_neg (by omega)]; simp; omega
  rw [if_neg g3]
  by_cases g4 : c = 240
  · rw [if_pos g4, if_pos g4]; simp; omega
  rw [if_neg g4, if_neg g4]
  by_cases g5 : c = 244
  · rw [if_pos g5, if_pos g5]; simp; omega
  rw [if_neg g5, if_neg g5]
  simp; omega

/-- How many bytes begin a sign together. -/
def most : List Int → Nat
  | [] => 0
  | c :: t => if (need c).1 = 0 then 0 else acc ((need c).1 - 1).toNat (need c).2.1 (need c).2.2 t + 1

theorem beg_take (c : Int) (t : List Int) (n : Nat) (hn : n ≤ t.length) : beg ((c :: t).take (n + 1)) = decide (n + 1 ≤ most (c :: t)) := by
  have hn0 := need_le c
  rw [List.take_succ_cons]
  obtain ⟨M, hM⟩ : ∃ M, M = most (c :: t) := ⟨_, rfl⟩
  rw [← hM]
  simp only [most] at hM
  simp only [beg]
  have hl : (t.take n).length = n := by simp; omega
  rw [hl]
  by_cases h0 : (need c).1 = 0
  · rw [if_pos h0] at hM
    rw [decide_eq_false (by omega), decide_eq_false (by omega)]; rfl
  rw [if_neg h0] at hM
  by_cases h1 : (need c).1 = 1
  · have e : ((need c).1 - 1).toNat = 0 := by omega
    rw [e] at hM
    simp only [acc] at hM
    by_cases h2 : n = 0
    · subst h2
      subst hM
      rw [h1]
      simp [fin]
    · rw [decide_eq_false (by omega), decide_eq_false (by omega)]; rfl
  have h2 : 2 ≤ (need c).1 := by omega
  have hlh : 128 ≤ (need c).2.1 ∧ (need c).2.2 ≤ 191 := by
    rcases need_lohi c with h | h
    · omega
    · exact h
  have hi := acc_iff ((need c).1 - 1).toNat (need c).2.1 (need c).2.2 t n hlh.1 hlh.2 hn
  rw [Bool.eq_iff_iff]
  simp only [Bool.and_eq_true, decide_eq_true_eq]
  constructor
  · rintro ⟨h3, h4, h5⟩
    have := hi.1 ⟨by omega, h4, fun b hb => by
      have hm : cont b = true := List.all_eq_true.1 h4 b (List.mem_of_getElem? hb)
      have hf : fin (c :: t.take n) = second c b := by
        cases hq : t.take n with
        | nil => rw [hq] at hb; simp at hb
        | cons b' t' => rw [hq] at hb; simp at hb; subst hb; rfl
      rw [hf] at h5
      exact (second_iff c b h2 hm).1 h5⟩
    omega
  · intro h3
    obtain ⟨h4, h5, h6⟩ := hi.2 (by omega)
    refine ⟨by omega, h5, ?_⟩
    cases hq : t.take n with
    | nil => rfl
    | cons b' t' =>
      rw [hq] at h5 h6
      have h7 := h6 b' (by simp)
      have h8 : cont b' = true := by simp at h5; exact h5.1
      exact (second_iff c b' h2 h8).2 h7

theorem most_le (s : List Int) : most s ≤ 4 ∧ most s ≤ s.length := by
  cases s with
  | nil => simp [most]
  | cons c t =>
    have h := need_le c
    have h2 := acc_le ((need c).1 - 1).toNat (need c).2.1 (need c).2.2 t
    simp only [most, List.length_cons]
    split <;> omega

end Go.Proofs.YtdbcgeebcnlbaaaDoor.Plain
