/- Plain lists: what signs a list of bytes has, with no program in sight; how they behave at cuts. Conditions: none. -/
import Derived.RowKit
namespace Go.Proofs.YtdbcgeebcnlbaaaDoor.Plain

/-- Is each number a byte? -/
def Bytes (l : List Int) : Prop := ∀ x ∈ l, 0 ≤ x ∧ x < 256

def need (c : Int) : Int × Int × Int :=
  if c < 128 then (1, 0, 0) else if c < 194 then (0, 0, 0) else if 244 < c then (0, 0, 0) else if c < 224 then (2, 128, 191)
  else if c = 224 then (3, 160, 191) else if c = 237 then (3, 128, 159) else if c < 240 then (3, 128, 191)
  else if c = 240 then (4, 144, 191) else if c = 244 then (4, 128, 143) else (4, 128, 191)

def lead (c : Int) : Int := if c < 224 then c % 32 else if c < 240 then c % 16 else c % 8

/-- The bytes behind the first one: m more are wanted. -/
def run : Nat → Int → Int → Int → Int → List Int → Int × Int
  | 0, _, _, r, k, _ => (r, k)
  | _ + 1, _, _, _, k, [] => (65533, k)
  | m + 1, lo, hi, r, k, b :: t => if b < lo then (65533, k) else if hi < b then (65533, k) else run m 128 191 (r * 64 + b % 64) (k + 1) t

/-- The sign at a list's beginning: its number, its length. -/
def one : List Int → Int × Int
  | [] => (0, 0)
  | c :: t => if (need c).1 < 2 then (if (need c).1 = 1 then c else 65533, 1) else run ((need c).1 - 1).toNat (need c).2.1 (need c).2.2 (lead c) 1 t

theorem run_len : ∀ (m : Nat) (lo hi r k : Int) (t : List Int), k ≤ (run m lo hi r k t).2 ∧ (run m lo hi r k t).2 ≤ k + m ∧ (run m lo hi r k t).2 ≤ k + t.length
  | 0, lo, hi, r, k, t => by simp only [run]; omega
  | m + 1, lo, hi, r, k, [] => by simp only [run, List.length_nil]; omega
  | m + 1, lo, hi, r, k, b :: t => by
    simp only [run, List.length_cons]
    split
    · simp only []; omega
    · split
      · simp only []; omega
      · have := run_len m 128 191 (r * 64 + b % 64) (k + 1) t
        omega

theorem need_le (c : Int) : 0 ≤ (need c).1 ∧ (need c).1 ≤ 4 := by
  unfold need
  repeat' split
  all_goals decide

theorem one_len {l : List Int} (h : l ≠ []) : 1 ≤ (one l).2 ∧ (one l).2 ≤ 4 ∧ (one l).2 ≤ l.length := by
  cases l with
  | nil => exact absurd rfl h
  | cons c t =>
    have hn := need_le c
    simp only [one, List.length_cons]
    split
    · simp only []; omega
    · have := run_len ((need c).1 - 1).toNat (need c).2.1 (need c).2.2 (lead c) 1 t
      omega

/-- A sign that lies within the first j elements is the sign of those. -/
theorem run_take : ∀ (m : Nat) (lo hi r k : Int) (t : List Int) (j : Nat), (run m lo hi r k t).2 ≤ k + j → run m lo hi r k (t.take j) = run m lo hi r k t
  | 0, _, _, _, _, _, _, _ => by simp only [run]
  | m + 1, lo, hi, r, k, [], j, _ => by simp only [List.take_nil]
  | m + 1, lo, hi, r, k, b :: t, 0, h => by
    have := run_len m 128 191 (r * 64 + b % 64) (k + 1) t
    simp only [run] at h ⊢
    simp only [List.take_zero, run]
    split at h
    · rename_i h1; rw [if_pos h1]
    · rename_i h1
      rw [if_neg h1]
      split at h
      · rename_i h2; rw [if_pos h2]
      · omega
  | m + 1, lo, hi, r, k, b :: t, j + 1, h => by
    simp only [List.take_succ_cons]
    simp only [run] at h ⊢
    split
    · rfl
    · rename_i h1
      rw [if_neg h1] at h
      split
      · rfl
      · rename_i h2
        rw [if_neg h2] at h
        exact run_take m 128 191 _ (k + 1) t j (by omega)

theorem one_take (l : List Int) (j : Nat) (hj : 1 ≤ j) (h : (one l).2 ≤ j) : one (l.take j) = one l := by
  cases l with
  | nil => simp
  | cons c t =>
    obtain ⟨i, rfl⟩ : ∃ i, j = i + 1 := ⟨j - 1, by omega⟩
    simp only [List.take_succ_cons, one] at h ⊢
    split
    · rfl
    · rename_i h1
      rw [if_neg h1] at h
      exact run_take _ _ _ _ _ _ _ (by omega)

/-- All signs of a list: number and length; n: at least as many rounds as elements. -/
def signs : Nat → List Int → List (Int × Int)
  | 0, _ => []
  | _ + 1, [] => []
  | n + 1, c :: t => one (c :: t) :: signs n ((c :: t).drop (one (c :: t)).2.toNat)

theorem signs_enough : ∀ (n m : Nat) (l : List Int), l.length ≤ n → l.length ≤ m → signs n l = signs m l
  | 0, m, l, h, _ => by
    have : l = [] := List.eq_nil_of_length_eq_zero (by omega)
    subst this
    cases m <;> simp [signs]
  | n + 1, m, [], _, _ => by cases m <;> simp [signs]
  | n + 1, 0, c :: t, _, h => by simp at h
  | n + 1, m + 1, c :: t, h1, h2 => by
    have h3 := one_len (l := c :: t) (by simp)
    have h4 : ((c :: t).drop (one (c :: t)).2.toNat).length ≤ n := by simp only [List.length_drop, List.length_cons] at *; omega
    have h5 : ((c :: t).drop (one (c :: t)).2.toNat).length ≤ m := by simp only [List.length_drop, List.length_cons] at *; omega
    simp only [signs]
    rw [signs_enough n m _ h4 h5]

/-- All signs of a list. -/
def sg (l : List Int) : List (Int × Int) := signs l.length l

theorem sg_nil : sg [] = [] := rfl
theorem sg_cons {l : List Int} (h : l ≠ []) : sg l = one l :: sg (l.drop (one l).2.toNat) := by
  cases l with
  | nil => exact absurd rfl h
  | cons c t =>
    have h3 := one_len (l := c :: t) (by simp)
    unfold sg
    simp only [List.length_cons, signs]
    congr 1
    refine signs_enough _ _ _ ?_ (Nat.le_refl _)
    simp only [List.length_drop, List.length_cons] at *
    omega

theorem sg_length_le : ∀ (n : Nat) (l : List Int), l.length ≤ n → (sg l).length ≤ l.length
  | 0, l, h => by
    have : l = [] := List.eq_nil_of_length_eq_zero (by omega)
    subst this
    simp [sg_nil]
  | n + 1, [], _ => by simp [sg_nil]
  | n + 1, c :: t, h => by
    have h3 := one_len (l := c :: t) (by simp)
    have h4 := sg_length_le n ((c :: t).drop (one (c :: t)).2.toNat) (by simp only [List.length_drop, List.length_cons] at *; omega)
    rw [sg_cons (by simp)]
    simp only [List.length_drop, List.length_cons] at *
    omega

/-- How many bytes the first i signs of a row of signs have. -/
def width : List (Int × Int) → Int
  | [] => 0
  | (_, n) :: t => n + width t

theorem width_take_succ : ∀ (l : List (Int × Int)) (k : Nat) (h : k < l.length), width (l.take (k + 1)) = width (l.take k) + (l[k]'h).2
  | [], k, h => by simp at h
  | (r, n) :: t, 0, h => by simp [width]
  | (r, n) :: t, k + 1, h => by
    simp only [List.take_succ_cons, width, List.getElem_cons_succ]
    rw [width_take_succ t k (by simpa using h)]
    omega

theorem sg_pos : ∀ (n : Nat) (l : List Int), l.length ≤ n → ∀ x ∈ sg l, 1 ≤ x.2 ∧ x.2 ≤ 4
  | 0, l, h => by
    have : l = [] := List.eq_nil_of_length_eq_zero (by omega)
    subst this
    simp [sg_nil]
  | n + 1, [], _ => by simp [sg_nil]
  | n + 1, c :: t, h => by
    have h3 := one_len (l := c :: t) (by simp)
    intro x hx
    rw [sg_cons (by simp)] at hx
    rcases List.mem_cons.1 hx with rfl | hx
    · omega
    · exact sg_pos n _ (by simp only [List.length_drop, List.length_cons] at *; omega) x hx

theorem width_sg : ∀ (n : Nat) (l : List Int), l.length ≤ n → width (sg l) = l.length
  | 0, l, h => by
    have : l = [] := List.eq_nil_of_length_eq_zero (by omega)
    subst this
    simp [sg_nil, width]
  | n + 1, [], _ => by simp [sg_nil, width]
  | n + 1, c :: t, h => by
    have h3 := one_len (l := c :: t) (by simp)
    have h4 := width_sg n ((c :: t).drop (one (c :: t)).2.toNat) (by simp only [List.length_drop, List.length_cons] at *; omega)
    rw [sg_cons (by simp)]
    simp only [width, h4, List.length_drop, List.length_cons] at *
    omega

theorem width_nonneg : ∀ (l : List (Int × Int)), (∀ x ∈ l, 1 ≤ x.2) → (l.length : Int) ≤ width l
  | [], _ => by simp [width]
  | (r, n) :: t, h => by
    have h1 := h (r, n) (by simp)
    have h2 := width_nonneg t (fun x hx => h x (by simp [hx]))
    simp only [width, List.length_cons] at *
    omega

/-- Cut at the beginning of the k-th sign: the halves have the signs ahead of it, and the others. -/
theorem sg_cut : ∀ (k : Nat) (l : List Int) (_ : k ≤ (sg l).length), sg (l.take (width ((sg l).take k)).toNat) = (sg l).take k ∧ sg (l.drop (width ((sg l).take k)).toNat) = (sg l).drop k
  | 0, l, _ => by simp [width, sg_nil]
  | k + 1, [], h => by simp [sg_nil] at h
  | k + 1, c :: t, h => by
    have hne : (c :: t) ≠ [] := by simp
    have h3 := one_len hne
    have hpos := sg_pos _ (c :: t) (Nat.le_refl _)
    generalize hl : (c :: t) = l at *
    have hs := sg_cons hne
    have hk : k ≤ (sg (l.drop (one l).2.toNat)).length := by rw [hs] at h; simpa using h
    obtain ⟨ih1, ih2⟩ := sg_cut k (l.drop (one l).2.toNat) hk
    have hw : 0 ≤ width ((sg (l.drop (one l).2.toNat)).take k) := by
      have := width_nonneg ((sg (l.drop (one l).2.toNat)).take k) (fun x hx => by
        have := hpos x (by rw [hs]; simp [List.mem_of_mem_take hx])
        omega)
      omega
    have he : width ((sg l).take (k + 1)) = (one l).2 + width ((sg (l.drop (one l).2.toNat)).take k) := by
      rw [hs]
      simp only [List.take_succ_cons, width]
    have ht : (width ((sg l).take (k + 1))).toNat = (one l).2.toNat + (width ((sg (l.drop (one l).2.toNat)).take k)).toNat := by rw [he]; omega
    have ho : one (l.take (width ((sg l).take (k + 1))).toNat) = one l := one_take l _ (by omega) (by omega)
    constructor
    · have hne2 : l.take (width ((sg l).take (k + 1))).toNat ≠ [] := by
        intro hc
        have hc2 := congrArg List.length hc
        have hc3 : 0 < l.length := by rw [← hl]; simp
        simp only [List.length_take, List.length_nil] at hc2
        omega
      rw [sg_cons hne2, ho, ht, List.drop_take, Nat.add_sub_cancel_left, ih1]
      conv => rhs; rw [hs]
      simp
    · rw [ht, ← List.drop_drop, ih2]
      conv => rhs; rw [hs]
      simp

end Go.Proofs.YtdbcgeebcnlbaaaDoor.Plain
