/- Plain numbers and lists: a sign that is read as Bad: its bytes begin a right sign (but for one alone), no byte more does. Conditions: bytes. -/
import Derived.Test.YtdbcgeebcnlbaaaDoorPlainWhole
import Derived.Test.YtdbcgeebcnlbaaaDoorPlainRef
namespace Go.Proofs.YtdbcgeebcnlbaaaDoor.Plain
open Go.RowKit Go.Proofs.YtdbcgeebcnlbaaaDoor.PScalMost Go.Proofs.YtdbcgeebcnlbaaaDoorW.PrintWords Go.Proofs.YtdbcgeebcnlbaaaDoorW.PrintLast Go.Proofs.YtdbcgeebcnlbaaaDoorW.PrintMore
open Go.Lib (firstT accLo accHi slowN)
set_option linter.unusedVariables false

/-- Which of Valid's ways the bytes of a Bad sign go: its first byte, how many there are. -/
inductive Short (c n : Nat) (t : List Int) : Prop
  | bad (h : firstT c = 241)
  | two (h : firstT c = 2) (hn : n < 2)
  | e0 (h : firstT c = 19) (hn : n < 3)
  | three (h : firstT c = 3) (hn : n < 3)
  | ed (h : firstT c = 35) (hn : n < 3)
  | f0 (h : firstT c = 52) (hn : n < 4)
  | four (h : firstT c = 4) (hn : n < 4)
  | f4 (h : firstT c = 68) (hn : n < 4)
  | whole (h : c = 239) (hn : n = 3) (h1 : t[0]? = some 191) (h2 : t[1]? = some 189)

theorem dec_one (r b : Int) (t : List Int) : dec 1 r (b :: t) = r * 64 + b % 64 := rfl
theorem dec_two (r b b2 : Int) (t : List Int) : dec 2 r (b :: b2 :: t) = (r * 64 + b % 64) * 64 + b2 % 64 := rfl
theorem dec_three (r b b2 b3 : Int) (t : List Int) : dec 3 r (b :: b2 :: b3 :: t) = ((r * 64 + b % 64) * 64 + b2 % 64) * 64 + b3 % 64 := rfl
theorem acc_nil (m : Nat) (lo hi : Int) : acc (m + 1) lo hi [] = 0 := rfl
theorem acc_cons (m : Nat) (lo hi b : Int) (t : List Int) : acc (m + 1) lo hi (b :: t) = if b < lo then 0 else if hi < b then 0 else acc m 128 191 t + 1 := rfl
theorem acc_full {m : Nat} {lo hi : Int} {t : List Int} (h : acc (m + 1) lo hi t = m + 1) : ∃ b t', t = b :: t' ∧ lo ≤ b ∧ b ≤ hi ∧ acc m 128 191 t' = m := by
  cases t with
  | nil => rw [acc_nil] at h; omega
  | cons b t =>
    rw [acc_cons] at h
    by_cases g1 : b < lo
    · rw [if_pos g1] at h; omega
    rw [if_neg g1] at h
    by_cases g2 : hi < b
    · rw [if_pos g2] at h; omega
    rw [if_neg g2] at h
    exact ⟨b, t, rfl, by omega, by omega, by omega⟩

theorem most_of (c : Int) (t : List Int) (m : Nat) (lo hi : Int) (hn : need c = ((m : Int) + 1, lo, hi)) : most (c :: t) = acc m lo hi t + 1 := by
  simp only [most]
  rw [hn, if_neg (by simp only []; omega)]
  simp

/-- What is asked of a Bad sign: L its length. -/
def Fine (c : Nat) (t : List Int) (L : Int) : Prop :=
  1 ≤ L ∧ L ≤ 3 ∧ (1 < L → beg (((c : Int) :: t).take L.toNat) = true) ∧ (L < (t.length : Int) + 1 → beg (((c : Int) :: t).take (L.toNat + 1)) = false) ∧ Short c L.toNat t

theorem fine_of (c : Nat) (t : List Int) (m : Nat) (lo hi : Int) (hn : need (c : Int) = ((m : Int) + 1, lo, hi)) (hm : 1 ≤ m) (hm3 : m ≤ 3) (L : Int) (h : run m lo hi (lead c) 1 t = (65533, L))
    (hs : ∀ n, n < m + 1 → Short c n t) (hw : acc m lo hi t = m → dec m (lead c) t = 65533 → m = 2 ∧ Short c 3 t) : Fine c t L := by
  have hmo := most_of c t m lo hi hn
  have hal := acc_le m lo hi t
  have hb := fun n h => beg_take (c : Int) t n h
  rw [hmo] at hb
  rw [run_acc] at h
  by_cases hf : acc m lo hi t = m
  · rw [if_pos hf] at h
    injection h with h1 h2
    obtain ⟨rfl, h3⟩ := hw hf h1
    have : L = 3 := by omega
    subst this
    refine ⟨by omega, by omega, fun _ => ?_, fun h => ?_, h3⟩
    · have := hb 2 (by omega)
      rw [show (3 : Int).toNat = 2 + 1 from rfl, this, hf]
      rfl
    · have := hb 3 (by omega)
      rw [show (3 : Int).toNat + 1 = 3 + 1 from rfl, this, hf]
      rfl
  · rw [if_neg hf] at h
    injection h with h1 h2
    generalize acc m lo hi t = a at hal hb hf h2
    have hL : L.toNat = a + 1 := by omega
    refine ⟨by omega, by omega, fun _ => ?_, fun h => ?_, by rw [hL]; exact hs _ (by omega)⟩
    · rw [hL, hb a (by omega)]
      exact decide_eq_true (Nat.le_refl _)
    · rw [hL, hb (a + 1) (by omega)]
      exact decide_eq_false (by omega)

theorem one_fine (c : Nat) (hc : c < 256) (t : List Int) (hb : ∀ x ∈ t, 0 ≤ x ∧ x < 256) (L : Int) (h : one ((c : Int) :: t) = (65533, L)) : 128 ≤ c ∧ Fine c t L := by
  simp only [one] at h
  cases lead_all c hc with
  | ascii h0 e1 e2 => rw [e1] at h; simp at h; omega
  | bad h0 e1 e2 =>
    rw [e1] at h
    simp at h
    subst h
    refine ⟨h0, by omega, by omega, fun h => by omega, fun h => ?_, .bad e2⟩
    have := beg_take (c : Int) t 1 (by omega)
    have hm : most ((c : Int) :: t) = 0 := by simp only [most]; rw [e1]; rfl
    rw [hm] at this
    exact this
  | two h0 e1 e2 =>
    rw [e1] at h
    refine ⟨by omega, fine_of c t 1 128 191 e1 (by decide) (by decide) L h (fun n hn => .two e2 hn) fun hf hd => ?_⟩
    obtain ⟨b, t', rfl, g1, g2, _⟩ := acc_full hf
    rw [dec_one, lead_two c h0.2] at hd
    omega
  | e0 h0 e1 e2 =>
    rw [e1] at h
    refine ⟨by omega, fine_of c t 2 160 191 e1 (by decide) (by decide) L h (fun n hn => .e0 e2 hn) fun hf hd => ?_⟩
    obtain ⟨b, t', rfl, g1, g2, hf⟩ := acc_full hf
    obtain ⟨b2, t', rfl, g3, g4, hf⟩ := acc_full hf
    rw [dec_two, lead_three c (by omega) (by omega)] at hd
    omega
  | ed h0 e1 e2 =>
    rw [e1] at h
    refine ⟨by omega, fine_of c t 2 128 159 e1 (by decide) (by decide) L h (fun n hn => .ed e2 hn) fun hf hd => ?_⟩
    obtain ⟨b, t', rfl, g1, g2, hf⟩ := acc_full hf
    obtain ⟨b2, t', rfl, g3, g4, hf⟩ := acc_full hf
    rw [dec_two, lead_three c (by omega) (by omega)] at hd
    omega
  | three h0 e1 e2 =>
    rw [e1] at h
    refine ⟨by omega, fine_of c t 2 128 191 e1 (by decide) (by decide) L h (fun n hn => .three e2 hn) fun hf hd => ?_⟩
    obtain ⟨b, t', rfl, g1, g2, hf⟩ := acc_full hf
    obtain ⟨b2, t', rfl, g3, g4, hf⟩ := acc_full hf
    rw [dec_two, lead_three c (by omega) (by omega)] at hd
    have k1 : c = 239 := by omega
    have k2 : b = 191 := by omega
    have k3 : b2 = 189 := by omega
    exact ⟨rfl, .whole k1 rfl (by simp [k2]) (by simp [k3])⟩
  | f0 h0 e1 e2 =>
    rw [e1] at h
    refine ⟨by omega, fine_of c t 3 144 191 e1 (by decide) (by decide) L h (fun n hn => .f0 e2 hn) fun hf hd => ?_⟩
    obtain ⟨b, t', rfl, g1, g2, hf⟩ := acc_full hf
    obtain ⟨b2, t', rfl, g3, g4, hf⟩ := acc_full hf
    obtain ⟨b3, t', rfl, g5, g6, hf⟩ := acc_full hf
    rw [dec_three, lead_four c (by omega)] at hd
    omega
  | f4 h0 e1 e2 =>
    rw [e1] at h
    refine ⟨by omega, fine_of c t 3 128 143 e1 (by decide) (by decide) L h (fun n hn => .f4 e2 hn) fun hf hd => ?_⟩
    obtain ⟨b, t', rfl, g1, g2, hf⟩ := acc_full hf
    obtain ⟨b2, t', rfl, g3, g4, hf⟩ := acc_full hf
    obtain ⟨b3, t', rfl, g5, g6, hf⟩ := acc_full hf
    rw [dec_three, lead_four c (by omega)] at hd
    omega
  | four h0 e1 e2 =>
    rw [e1] at h
    refine ⟨by omega, fine_of c t 3 128 191 e1 (by decide) (by decide) L h (fun n hn => .four e2 hn) fun hf hd => ?_⟩
    obtain ⟨b, t', rfl, g1, g2, hf⟩ := acc_full hf
    obtain ⟨b2, t', rfl, g3, g4, hf⟩ := acc_full hf
    obtain ⟨b3, t', rfl, g5, g6, hf⟩ := acc_full hf
    rw [dec_three, lead_four c (by omega)] at hd
    omega
end Go.Proofs.YtdbcgeebcnlbaaaDoor.Plain
