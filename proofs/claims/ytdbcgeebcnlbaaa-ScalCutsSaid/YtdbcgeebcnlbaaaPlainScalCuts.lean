/- ScalCuts as a statement over numbers and lists: cut between two signs, the halves have the signs of the whole. Conditions: none. -/
import Derived.Test.YtdbcgeebcnlbaaaOwnScalCuts
import Derived.Test.YtdbcgeebcnlbaaaPlainSame
import Derived.Laws.Bits64
namespace Go.Proofs.Ytdbcgeebcnlbaaa.Plain
open Go.RowKit Go.Proofs.Ytdbcgeebcnlbaaa.PScalAll Go.Proofs.YtdbcgeebcnlbaaaW.PrintWords Go.Proofs.YtdbcgeebcnlbaaaW.PrintLast Go.Proofs.YtdbcgeebcnlbaaaW.PrintMore

theorem cuts_rd : ∀ (S : List (Int × Int)) (p : Int) (i : Nat) (h : i < S.length), (place p S).getD i z29 = ⟨(S[i]'h).1, p + width (S.take i), (S[i]'h).2⟩
  | [], _, _, h => by simp at h
  | (r, n) :: t, p, 0, _ => by simp [place, width]
  | (r, n) :: t, p, i + 1, h => by
    have := cuts_rd t (p + n) i (by simpa using h)
    simp only [place, List.getD_cons_succ, this, List.take_succ_cons, width, List.getElem_cons_succ]
    congr 1
    omega

/-- A sign moved by q. -/
def moved (q : Int) (s : S29) : S29 := ⟨s.f0, s.f1 + q, s.f2⟩

theorem moved_set (q : Int) (Y : List S29) (i : Nat) (h : i < Y.length) (s : S29) (hs : s = moved q (Y[i]'h)) :
    ((Y.take i).map (moved q) ++ Y.drop i).set i s = (Y.take (i + 1)).map (moved q) ++ Y.drop (i + 1) := by
  subst hs
  have hl : ((Y.take i).map (moved q)).length = i := by simp; omega
  rw [List.set_append, if_neg (by omega), hl, Nat.sub_self, List.drop_eq_getElem_cons h, List.set_cons_zero, List.take_succ_eq_append_getElem h, List.map_append]
  simp only [List.map_cons, List.map_nil, List.append_assoc, List.cons_append, List.nil_append]

theorem cuts_l0 (L X Y : List S29) (q : Int) (hq : 0 ≤ q) (hq2 : q < 1000000) (hX : X.length < 1000000) (hY : Y.length < 1000000) (hL : L.length < 1000000)
    (hYb : ∀ s ∈ Y, 0 ≤ s.f1 ∧ s.f1 < 1000000) (hsame : X ++ Y.map (moved q) = L) :
    ∀ (d k i : Nat), Y.length - i ≤ d → d + L.length + 2 < k → i ≤ Y.length →
      stanzalaw01_ScalCuts.l0 k L q X ((Y.take i).map (moved q) ++ Y.drop i) (Y.length : Int) i = some true
  | d, k, i, hd, hk, hi => by
    obtain ⟨k, rfl⟩ : ∃ m, k = m + 1 := ⟨k - 1, by omega⟩
    simp only [stanzalaw01_ScalCuts.l0]
    have hlen : ((Y.take i).map (moved q) ++ Y.drop i).length = Y.length := by simp; omega
    by_cases h : i < Y.length
    · rw [if_pos (by omega), if_pos (by omega), hlen, if_pos (by omega)]
      have hg : rd_T29 ((Y.take i).map (moved q) ++ Y.drop i) (i : Int) = Y[i]'h := by
        unfold rd_T29
        rw [Int.toNat_natCast, List.getD_eq_getElem?_getD, List.getElem?_append_right (by simp; omega)]
        have e : i - (List.map (moved q) (List.take i Y)).length = 0 := by simp; omega
        rw [e]
        simp [h]
      have hb := hYb _ (List.getElem_mem h)
      rw [hg, wrap64_in (n := (Y[i]'h).f1 + q) (by omega) (by omega), Int.toNat_natCast, moved_set q Y i h ⟨(Y[i]'h).f0, (Y[i]'h).f1 + q, (Y[i]'h).f2⟩ rfl]
      have hw : wrap64 ((i : Int) + 1) = ((i + 1 : Nat) : Int) := by rw [wrap64_in (by omega) (by omega)]; omega
      rw [hw]
      clear hw hg
      obtain ⟨e, rfl⟩ : ∃ m, d = m + 1 := ⟨d - 1, by omega⟩
      exact cuts_l0 L X Y q hq hq2 hX hY hL hYb hsame e k (i + 1) (by omega) (by omega) (by omega)
    · have hi2 : i = Y.length := by omega
      subst hi2
      rw [if_neg (by omega), hlen, if_pos (by omega)]
      simp only [List.take_length, List.drop_length, List.append_nil]
      rw [hsame, same_f L (by omega) k (by omega)]
      rfl
  termination_by d => d

theorem place_bounds : ∀ (S : List (Int × Int)) (p : Int), (∀ x ∈ S, 1 ≤ x.2) → ∀ s ∈ place p S, p ≤ s.f1 ∧ s.f1 < p + width S
  | [], _, _, s, hs => by simp [place] at hs
  | (r, n) :: t, p, h, s, hs => by
    have h1 := h (r, n) (by simp)
    have h2 := width_nonneg t (fun x hx => h x (by simp [hx]))
    simp only [place, List.mem_cons] at hs
    simp only [width] at *
    rcases hs with rfl | hs
    · simp only []; omega
    · have := place_bounds t (p + n) (fun x hx => h x (by simp [hx])) s hs
      omega

theorem width_append : ∀ (a b : List (Int × Int)), width (a ++ b) = width a + width b
  | [], b => by simp [width]
  | (r, n) :: t, b => by
    simp only [List.cons_append, width, width_append t b]
    omega

theorem cuts_j0 (l : List Int) (hb : Bytes l) (hlen : l.length ≤ 3000) (k c : Nat) (hk : 3 * l.length + 50 < k) (hc : c ≤ (sg l).length) (q : Int) (hq : q = width ((sg l).take c)) :
    stanzalaw01_ScalCuts.j0 k l (place 0 (sg l)) q = some true := by
  obtain ⟨k, rfl⟩ : ∃ m, k = m + 1 := ⟨k - 1, by omega⟩
  have hpos : ∀ y ∈ sg l, 1 ≤ y.2 := fun y hy => (sg_pos _ l (Nat.le_refl _) y hy).1
  have hle := sg_length_le _ l (Nat.le_refl _)
  have hwl := width_sg _ l (Nat.le_refl _)
  have hcut := sg_cut c l hc
  rw [← hq] at hcut
  have hq0 : 0 ≤ q := by
    rw [hq]
    have := width_nonneg ((sg l).take c) (fun y hy => hpos y (List.mem_of_mem_take hy))
    omega
  have hq1 : q + width ((sg l).drop c) = l.length := by
    rw [hq, ← width_append, List.take_append_drop, hwl]
  have hd0 := width_nonneg ((sg l).drop c) (fun y hy => hpos y (List.mem_of_mem_drop hy))
  simp only [stanzalaw01_ScalCuts.j0]
  have ht : (l.take q.toNat).length ≤ l.length := by simp; omega
  have hd : (l.drop q.toNat).length ≤ l.length := by simp
  rw [if_pos hq0, if_pos (by omega), all_f (l.take q.toNat) (fun y hy => hb y (List.mem_of_mem_take hy)) (by omega) _ (by omega)]
  simp only [Option.bind_some]
  rw [all_f (l.drop q.toNat) (fun y hy => hb y (List.mem_of_mem_drop hy)) (by omega) _ (by omega)]
  simp only [Option.bind_some]
  rw [hcut.1, hcut.2]
  have hX : (place 0 ((sg l).take c)).length ≤ (sg l).length := by rw [place_length]; simp; omega
  have hY : (place 0 ((sg l).drop c)).length ≤ (sg l).length := by rw [place_length]; simp
  have hL : (place 0 (sg l)).length = (sg l).length := place_length _ _
  have h1 : (place 0 ((sg l).drop c)).map (moved q) = place (0 + q) ((sg l).drop c) := place_shift q 0 _
  have h2 := cuts_l0 (place 0 (sg l)) (place 0 ((sg l).take c)) (place 0 ((sg l).drop c)) q hq0 (by omega) (by omega) (by omega) (by omega)
    (fun s hs => by
      have h1 := place_bounds _ 0 (fun y hy => hpos y (List.mem_of_mem_drop hy)) s hs
      omega)
    (by rw [h1, hq, ← place_append, List.take_append_drop])
    (place 0 ((sg l).drop c)).length k 0 (by omega) (by omega) (by omega)
  rw [List.take_zero, List.map_nil, List.nil_append, List.drop_zero] at h2
  exact h2

/-- The remainder, as Go reckons it, is a place among the signs, or their number. -/
theorem cuts_rest (x : Int) (n : Nat) (hn : n < 1000000) : IntKind.u64.wrap (wrap64 ((n : Int) + 1)) ≠ 0 ∧ ∃ c : Nat, c ≤ n ∧ wrap64 (Int.tmod (IntKind.u64.wrap x) (IntKind.u64.wrap (wrap64 ((n : Int) + 1)))) = (c : Int) := by
  have hw1 : wrap64 ((n : Int) + 1) = (n : Int) + 1 := wrap64_in (by omega) (by omega)
  have hw2 : IntKind.u64.wrap ((n : Int) + 1) = (n : Int) + 1 := by rw [IntKind.wrap_u64]; omega
  rw [hw1, hw2]
  clear hw1 hw2
  have hu : 0 ≤ IntKind.u64.wrap x := by rw [IntKind.wrap_u64]; omega
  generalize IntKind.u64.wrap x = u at hu ⊢
  have hm0 : 0 ≤ Int.tmod u ((n : Int) + 1) := Int.tmod_nonneg _ hu
  have hm1 : Int.tmod u ((n : Int) + 1) < (n : Int) + 1 := Int.tmod_lt_of_pos _ (by omega)
  generalize Int.tmod u ((n : Int) + 1) = m at hm0 hm1 ⊢
  exact ⟨by omega, m.toNat, by omega, by rw [wrap64_in (by omega) (by omega)]; omega⟩

theorem ScalCuts : stanzalaw01_ScalCuts.Pure := by
  intro l x _ _ hwf hx
  have hb := bytes_of_wf hwf
  refine ⟨3 * l.length + 100, ?_⟩
  unfold stanzalaw01_ScalCuts.f stanzalaw01_Awake.f
  simp only [Option.bind_some, if_true]
  by_cases h : (l.length : Int) > 3000
  · rw [if_pos h]
  rw [if_neg h]
  refine Option.bind_eq_some_iff.mpr ⟨_, all_f l hb (by omega) _ (by omega), ?_⟩
  have hle := sg_length_le _ l (Nat.le_refl _)
  have hwl := width_sg _ l (Nat.le_refl _)
  rw [place_length]
  obtain ⟨hne, c, hcl, hce⟩ := cuts_rest x (sg l).length (by omega)
  rw [if_neg hne, hce]
  clear hne hce
  by_cases hcl2 : (c : Int) < ((sg l).length : Int)
  · rw [if_pos hcl2, if_pos (by omega)]
    refine cuts_j0 l hb (by omega) _ c (by omega) hcl _ ?_
    unfold rd_T29
    rw [Int.toNat_natCast, cuts_rd _ _ _ (by omega)]
    simp only []
    omega
  · rw [if_neg hcl2]
    refine cuts_j0 l hb (by omega) _ c (by omega) hcl _ ?_
    rw [List.take_of_length_le (by omega), hwl]

end Go.Proofs.Ytdbcgeebcnlbaaa.Plain
