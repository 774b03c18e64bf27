/- ScalJoins as a statement over numbers and lists: right signs in a row are read as themselves, and behind them the other text as it is read alone. Conditions: none. -/
import Derived.Test.YtdbcgeebcnlbaaaOwnScalJoins
import Derived.Test.YtdbcgeebcnlbaaaPlainPutF
namespace Go.Proofs.Ytdbcgeebcnlbaaa.Plain
open Go.RowKit Go.Proofs.Ytdbcgeebcnlbaaa.PScalAll Go.Proofs.YtdbcgeebcnlbaaaW.PrintWords Go.Proofs.YtdbcgeebcnlbaaaW.PrintLast Go.Proofs.YtdbcgeebcnlbaaaW.PrintMore

/-- The bytes of signs in a row. -/
def text (l : List Int) : List Int := l.flatMap put
/-- What they are read as. -/
def read (l : List Int) : List (Int × Int) := l.map fun r => (norm r, ((put r).length : Int))

theorem text_cons (r : Int) (t : List Int) : text (r :: t) = put r ++ text t := by simp [text]
theorem text_length : ∀ (l : List Int), (text l).length ≤ 4 * l.length
  | [] => by simp [text]
  | r :: t => by
    have h1 := put_length r
    have h2 := text_length t
    rw [text_cons]
    simp only [List.length_append, List.length_cons]
    omega
theorem text_bytes (l : List Int) : Bytes (text l) := by
  intro x hx
  obtain ⟨r, _, h⟩ := List.mem_flatMap.1 hx
  exact put_bytes r x h
theorem text_snoc (l : List Int) (i : Nat) (h : i < l.length) : text (l.take (i + 1)) = text (l.take i) ++ put (l[i]'h) := by
  unfold text
  rw [List.take_succ_eq_append_getElem h, List.flatMap_append]
  simp
theorem sg_text : ∀ (l b : List Int), sg (text l ++ b) = read l ++ sg b
  | [], b => by simp [text, read]
  | r :: t, b => by
    rw [text_cons, List.append_assoc, sg_put, sg_text t b]
    simp [read]
theorem width_read : ∀ (l : List Int), width (read l) = ((text l).length : Int)
  | [] => by simp [read, width, text]
  | r :: t => by
    have h := width_read t
    rw [text_cons]
    simp only [read, List.map_cons, width, List.length_append] at *
    omega
theorem norm_norm (r : Int) : norm (norm r) = norm r := by
  have h := norm_in r
  generalize norm r = n at h ⊢
  unfold norm
  rw [if_neg (by omega), if_neg (by omega), if_neg (by omega)]
theorem put_norm (r : Int) : put (norm r) = put r := by unfold put; rw [norm_norm]

theorem joins_append : ∀ (p : Int) (a b : List (Int × Int)), place p (a ++ b) = place p a ++ place (p + width a) b
  | p, [], b => by simp [place, width]
  | p, (r, n) :: t, b => by
    simp only [List.cons_append, place, width, List.cons_append]
    rw [joins_append]
    congr 3
    omega
theorem joins_rd : ∀ (S : List (Int × Int)) (p : Int) (i : Nat) (h : i < S.length), (place p S).getD i z29 = ⟨(S[i]'h).1, p + width (S.take i), (S[i]'h).2⟩
  | [], _, _, h => by simp at h
  | (r, n) :: t, p, 0, _ => by simp [place, width]
  | (r, n) :: t, p, i + 1, h => by
    have := joins_rd t (p + n) i (by simpa using h)
    simp only [place, List.getD_cons_succ, this, List.take_succ_cons, width, List.getElem_cons_succ]
    congr 1
    omega

theorem unlike_f (k : Nat) (a b : Int) (hk : 2 ≤ k) (h : put a = put b) : stanzalaw01_unlike.f k a b = some false := by
  unfold stanzalaw01_unlike.f
  refine Option.bind_eq_some_iff.mpr ⟨_, put_f k a hk, ?_⟩
  refine Option.bind_eq_some_iff.mpr ⟨_, put_f k b hk, ?_⟩
  rw [h]
  simp

theorem next_i (i : Nat) (h : i < 1000000) : wrap64 ((i : Int) + 1) = ((i + 1 : Nat) : Int) := by rw [wrap64_in (by omega) (by omega)]; omega

theorem joins_l2 (l b : List Int) (hl : l.length ≤ 1000) : ∀ (d k i : Nat), l.length - i ≤ d → d + 5 < k →
    stanzalaw01_ScalJoins.l2 k (place 0 (read l ++ sg b)) l (l.length : Int) i = some true
  | d, k, i, hd, hk => by
    obtain ⟨k, rfl⟩ : ∃ m, k = m + 1 := ⟨k - 1, by omega⟩
    simp only [stanzalaw01_ScalJoins.l2]
    by_cases h : i < l.length
    · have hS : i < (read l ++ sg b).length := by simp [read]; omega
      rw [if_pos (by omega), if_pos (by omega), if_pos (by omega), if_pos (by rw [place_length]; omega)]
      have hr : rd_T29 (place 0 (read l ++ sg b)) (i : Int) = ⟨norm (l[i]'h), 0 + width ((read l ++ sg b).take i), ((put (l[i]'h)).length : Int)⟩ := by
        unfold rd_T29
        rw [Int.toNat_natCast, joins_rd _ _ _ hS]
        have : (read l ++ sg b)[i]'hS = (norm (l[i]'h), ((put (l[i]'h)).length : Int)) := by
          rw [List.getElem_append_left (by simpa [read] using h)]
          simp [read]
        rw [this]
      have hr2 : rd l (i : Int) = l[i]'h := by
        unfold rd
        rw [Int.toNat_natCast]
        simp [List.getD_eq_getElem?_getD, List.getElem?_eq_getElem h]
      rw [hr, hr2]
      refine Option.bind_eq_some_iff.mpr ⟨_, unlike_f k _ _ (by omega) (put_norm _), ?_⟩
      rw [if_neg (by decide), next_i i (by omega)]
      clear hr hr2
      obtain ⟨e, rfl⟩ : ∃ m, d = m + 1 := ⟨d - 1, by omega⟩
      exact joins_l2 l b hl e k (i + 1) (by omega) (by omega)
    · rw [if_neg (by omega)]
  termination_by d => d

theorem joins_l1 (l b : List Int) (hl : l.length ≤ 1000) (hb : b.length ≤ 1000) : ∀ (d k i : Nat), (sg b).length - i ≤ d → d + l.length + 10 < k →
    stanzalaw01_ScalJoins.l1 k l (text l) (place 0 (read l ++ sg b)) (place 0 (sg b)) ((place 0 (sg b)).length : Int) i = some true
  | d, k, i, hd, hk => by
    obtain ⟨k, rfl⟩ : ∃ m, k = m + 1 := ⟨k - 1, by omega⟩
    simp only [stanzalaw01_ScalJoins.l1]
    have hle := sg_length_le _ b (Nat.le_refl _)
    have hp1 : (place 0 (sg b)).length = (sg b).length := place_length _ _
    have hp2 : (place 0 (read l ++ sg b)).length = l.length + (sg b).length := by rw [place_length]; simp [read]
    by_cases h : i < (sg b).length
    · have hwi : wrap64 ((l.length : Int) + (i : Int)) = ((l.length + i : Nat) : Int) := by rw [wrap64_in (by omega) (by omega)]; omega
      rw [hwi]
      clear hwi
      rw [if_pos (by omega), if_pos (by omega), if_pos (by omega), if_pos (by omega), if_pos (by omega)]
      have hpos : ∀ y ∈ sg b, 1 ≤ y.2 := fun y hy => (sg_pos _ b (Nat.le_refl _) y hy).1
      have hwb := width_sg _ b (Nat.le_refl _)
      have hr : rd_T29 (place 0 (sg b)) (i : Int) = ⟨((sg b)[i]'h).1, 0 + width ((sg b).take i), ((sg b)[i]'h).2⟩ := by
        unfold rd_T29
        rw [Int.toNat_natCast, joins_rd _ _ _ h]
      have hr2 : rd_T29 (place 0 (read l ++ sg b)) ((l.length + i : Nat) : Int) = ⟨((sg b)[i]'h).1, 0 + width (read l) + width ((sg b).take i), ((sg b)[i]'h).2⟩ := by
        unfold rd_T29
        have hpl : (place 0 (read l)).length = l.length := by rw [place_length]; simp [read]
        rw [Int.toNat_natCast, joins_append, List.getD_eq_getElem?_getD, List.getElem?_append_right (by omega), hpl, Nat.add_sub_cancel_left, ← List.getD_eq_getElem?_getD, joins_rd _ _ _ h]
      rw [hr, hr2, width_read]
      clear hr hr2
      have ht := text_length l
      have hw0 : 0 ≤ width ((sg b).take i) := by
        have := width_nonneg ((sg b).take i) (fun y hy => hpos y (List.mem_of_mem_take hy))
        omega
      have hw1 : width ((sg b).take i) ≤ b.length := by
        have h1 : ∀ (a c : List (Int × Int)), width (a ++ c) = width a + width c := by
          intro a c
          induction a with
          | nil => simp [width]
          | cons y t ih => obtain ⟨r, n⟩ := y; simp only [List.cons_append, width, ih]; omega
        have h2 := h1 ((sg b).take i) ((sg b).drop i)
        rw [List.take_append_drop] at h2
        have h3 := width_nonneg ((sg b).drop i) (fun y hy => hpos y (List.mem_of_mem_drop hy))
        omega
      rw [if_pos rfl, if_pos rfl]
      have he : wrap64 (0 + width ((sg b).take i) + ((text l).length : Int)) = 0 + ((text l).length : Int) + width ((sg b).take i) := by rw [wrap64_in (by omega) (by omega)]; omega
      rw [he, if_pos rfl, next_i i (by omega)]
      clear he
      obtain ⟨e, rfl⟩ : ∃ m, d = m + 1 := ⟨d - 1, by omega⟩
      exact joins_l1 l b hl hb e k (i + 1) (by omega) (by omega)
    · rw [if_neg (by omega)]
      exact joins_l2 l b hl l.length k 0 (by omega) (by omega)
  termination_by d => d

theorem joins_l0 (l b : List Int) (hl : l.length ≤ 1000) (hb : b.length ≤ 1000) (hbb : Bytes b) : ∀ (d k i : Nat), l.length - i ≤ d → d + 8000 < k → i ≤ l.length →
    stanzalaw01_ScalJoins.l0 k l b (text (l.take i)) l (l.length : Int) i = some true
  | d, k, i, hd, hk, hi => by
    obtain ⟨k, rfl⟩ : ∃ m, k = m + 1 := ⟨k - 1, by omega⟩
    simp only [stanzalaw01_ScalJoins.l0]
    by_cases h : i < l.length
    · rw [if_pos (by omega), if_pos (by omega), if_pos (by omega)]
      have hr2 : rd l (i : Int) = l[i]'h := by
        unfold rd
        rw [Int.toNat_natCast]
        simp [List.getD_eq_getElem?_getD, List.getElem?_eq_getElem h]
      rw [hr2]
      refine Option.bind_eq_some_iff.mpr ⟨_, put_f k _ (by omega), ?_⟩
      have h1 := text_length (l.take i)
      have h2 := put_length (l[i]'h)
      have h3 : (l.take i).length ≤ 1000 := by simp; omega
      rw [if_pos (by omega), ← text_snoc l i h, next_i i (by omega)]
      clear hr2
      obtain ⟨e, rfl⟩ : ∃ m, d = m + 1 := ⟨d - 1, by omega⟩
      exact joins_l0 l b hl hb hbb e k (i + 1) (by omega) (by omega) (by omega)
    · have hi2 : i = l.length := by omega
      subst hi2
      rw [List.take_length]
      have ht := text_length l
      rw [if_neg (by omega)]
      refine Option.bind_eq_some_iff.mpr ⟨_, rfl, ?_⟩
      rw [List.length_nil, if_pos (by omega)]
      refine Option.bind_eq_some_iff.mpr ⟨_, rfl, ?_⟩
      rw [List.nil_append, if_pos (by omega)]
      have hby : Bytes (text l ++ b) := by
        intro x hx
        rcases List.mem_append.1 hx with h4 | h4
        · exact text_bytes l x h4
        · exact hbb x h4
      have hlen : (text l ++ b).length ≤ 5000 := by simp; omega
      refine Option.bind_eq_some_iff.mpr ⟨_, all_f (text l ++ b) hby (by omega) k (by omega), ?_⟩
      refine Option.bind_eq_some_iff.mpr ⟨_, all_f b hbb (by omega) k (by omega), ?_⟩
      rw [sg_text]
      have hle := sg_length_le _ b (Nat.le_refl _)
      have hp1 : (place 0 (sg b)).length = (sg b).length := place_length _ _
      have hp2 : (place 0 (read l ++ sg b)).length = l.length + (sg b).length := by rw [place_length]; simp [read]
      rw [if_pos (by rw [hp1, hp2, wrap64_in (by omega) (by omega)]; omega)]
      exact joins_l1 l b hl hb (sg b).length k 0 (by omega) (by omega)
  termination_by d => d

theorem ScalJoins : stanzalaw01_ScalJoins.Pure := by
  intro l b _ _ _ _ _ hwf
  have hb := bytes_of_wf hwf
  refine ⟨10001, ?_⟩
  unfold stanzalaw01_ScalJoins.f stanzalaw01_Awake.f
  refine Option.bind_eq_some_iff.mpr ⟨true, rfl, ?_⟩
  rw [if_pos rfl]
  by_cases h : (l.length : Int) > 1000
  · rw [if_pos h]
    simp only [stanzalaw01_ScalJoins.j0, if_true]
  rw [if_neg h]
  by_cases h2 : (b.length : Int) > 1000
  · rw [decide_eq_true h2]
    simp only [stanzalaw01_ScalJoins.j0, if_true]
  · rw [decide_eq_false h2]
    simp only [stanzalaw01_ScalJoins.j0]
    rw [if_neg (by decide)]
    have := joins_l0 l b (by omega) (by omega) hb l.length 10000 0 (by omega) (by omega) (by omega)
    rw [List.take_zero] at this
    exact this

end Go.Proofs.Ytdbcgeebcnlbaaa.Plain
