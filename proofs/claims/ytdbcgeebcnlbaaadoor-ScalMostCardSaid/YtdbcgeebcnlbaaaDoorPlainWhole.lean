/- Plain numbers and lists: the sign at a list's beginning against what DecodeRune answers; the signs at their places. Conditions: bytes. -/
import Derived.Test.YtdbcgeebcnlbaaaDoorOwnV
import Derived.Test.YtdbcgeebcnlbaaaDoorPlainOne
namespace Go.Proofs.YtdbcgeebcnlbaaaDoor.Plain
open Go.RowKit Go.Proofs.YtdbcgeebcnlbaaaDoor.PScalMost Go.Proofs.YtdbcgeebcnlbaaaDoorW.PrintWords Go.Proofs.YtdbcgeebcnlbaaaDoorW.PrintLast Go.Proofs.YtdbcgeebcnlbaaaDoorW.PrintMore
open Go.Lib (firstT accLo accHi slowN)
set_option linter.unusedVariables false

/-- What a first byte says. -/
inductive Lead (c : Nat) : Prop
  | ascii (h : c < 128) (h1 : need (c : Int) = (1, 0, 0)) (h2 : firstT c = 240)
  | bad (h : 128 ≤ c) (h1 : need (c : Int) = (0, 0, 0)) (h2 : firstT c = 241)
  | two (h : 194 ≤ c ∧ c < 224) (h1 : need (c : Int) = (2, 128, 191)) (h2 : firstT c = 2)
  | e0 (h : c = 224) (h1 : need (c : Int) = (3, 160, 191)) (h2 : firstT c = 19)
  | ed (h : c = 237) (h1 : need (c : Int) = (3, 128, 159)) (h2 : firstT c = 35)
  | three (h : 224 < c ∧ c < 240 ∧ c ≠ 237) (h1 : need (c : Int) = (3, 128, 191)) (h2 : firstT c = 3)
  | f0 (h : c = 240) (h1 : need (c : Int) = (4, 144, 191)) (h2 : firstT c = 52)
  | f4 (h : c = 244) (h1 : need (c : Int) = (4, 128, 143)) (h2 : firstT c = 68)
  | four (h : 240 < c ∧ c < 244) (h1 : need (c : Int) = (4, 128, 191)) (h2 : firstT c = 4)

theorem lead_all (c : Nat) (hc : c < 256) : Lead c := by
  by_cases g1 : c < 128
  · refine .ascii g1 ?_ ?_
    · unfold need; rw [if_pos (by omega)]
    · unfold firstT; rw [if_pos g1]
  by_cases g2 : c < 194
  · refine .bad (by omega) ?_ ?_
    · unfold need; rw [if_neg (by omega), if_pos (by omega)]
    · unfold firstT; rw [if_neg g1, if_pos g2]
  by_cases g3 : 244 < c
  · refine .bad (by omega) ?_ ?_
    · unfold need; rw [if_neg (by omega), if_neg (by omega), if_pos (by omega)]
    · unfold firstT; rw [if_neg g1, if_neg g2, if_neg (by omega), if_neg (by omega), if_neg (by omega), if_neg (by omega), if_neg (by omega), if_neg (by omega), if_neg (by omega), if_neg (by omega)]
  by_cases g4 : c < 224
  · refine .two (by omega) ?_ ?_
    · unfold need; rw [if_neg (by omega), if_neg (by omega), if_neg (by omega), if_pos (by omega)]
    · unfold firstT; rw [if_neg g1, if_neg g2, if_pos g4]
  by_cases g5 : c = 224
  · subst g5; exact .e0 rfl (by decide) (by decide)
  by_cases g6 : c = 237
  · subst g6; exact .ed rfl (by decide) (by decide)
  by_cases g7 : c < 240
  · refine .three (by omega) ?_ ?_
    · unfold need; rw [if_neg (by omega), if_neg (by omega), if_neg (by omega), if_neg (by omega), if_neg (by omega), if_neg (by omega), if_pos (by omega)]
    · unfold firstT; rw [if_neg g1, if_neg g2, if_neg g4, if_neg g5]
      by_cases g8 : c < 237
      · rw [if_pos g8]
      · rw [if_neg g8, if_neg g6, if_pos g7]
  by_cases g8 : c = 240
  · subst g8; exact .f0 rfl (by decide) (by decide)
  by_cases g9 : c = 244
  · subst g9; exact .f4 rfl (by decide) (by decide)
  refine .four (by omega) ?_ ?_
  · unfold need; rw [if_neg (by omega), if_neg (by omega), if_neg (by omega), if_neg (by omega), if_neg (by omega), if_neg (by omega), if_neg (by omega), if_neg (by omega), if_neg (by omega)]
  · unfold firstT; rw [if_neg g1, if_neg g2, if_neg g4, if_neg g5, if_neg (by omega), if_neg g6, if_neg g7, if_neg g8, if_pos (by omega)]

theorem byte_nat {x : Int} (h : 0 ≤ x ∧ x < 256) : ∃ n : Nat, x = n ∧ n < 256 := by
  obtain ⟨n, rfl⟩ := Int.eq_ofNat_of_zero_le h.1
  exact ⟨n, rfl, by omega⟩

/-- What the law asks of a sign, of what DecodeRune answers. -/
def Agree (R L : Int) (d : Nat × Nat) : Prop := if (d.1 : Int) ≠ 65533 ∨ (d.2 : Int) = 3 then R = d.1 ∧ L = d.2 else R = 65533 ∧ L ≤ 3

theorem lead_two (c : Nat) (h : c < 224) : lead (c : Int) = (c : Int) % 32 := by unfold lead; rw [if_pos (by omega)]
theorem lead_three (c : Nat) (h : 224 ≤ c) (h1 : c < 240) : lead (c : Int) = (c : Int) % 16 := by unfold lead; rw [if_neg (by omega), if_pos (by omega)]
theorem lead_four (c : Nat) (h : 240 ≤ c) : lead (c : Int) = (c : Int) % 8 := by unfold lead; rw [if_neg (by omega), if_neg (by omega)]

theorem run_nil (m : Nat) (lo hi r k : Int) : run (m + 1) lo hi r k [] = (65533, k) := rfl
theorem run_cons (m : Nat) (lo hi r k b : Int) (t : List Int) : run (m + 1) lo hi r k (b :: t) = if b < lo then (65533, k) else if hi < b then (65533, k) else run m 128 191 (r * 64 + b % 64) (k + 1) t := rfl
theorem run_zero (lo hi r k : Int) (t : List Int) : run 0 lo hi r k t = (r, k) := rfl
theorem agree_bad {L : Int} (h : L ≤ 3) : Agree 65533 L (65533, 1) := by unfold Agree; rw [if_neg (by decide)]; exact ⟨rfl, h⟩
theorem agree_right {R L : Int} {r m : Nat} (h1 : R = r) (h2 : L = m) (h : (r : Int) ≠ 65533 ∨ (m : Int) = 3) : Agree R L (r, m) := by unfold Agree; rw [if_pos h]; exact ⟨h1, h2⟩
theorem slow_short {n c x1 x2 x3 sz lo hi : Nat} (h : n < sz) : slowN n c x1 x2 x3 sz lo hi = (65533, 1) := by unfold slowN; rw [if_pos h]
theorem slow_far {n c x1 x2 x3 sz lo hi : Nat} (h : x1 < lo ∨ hi < x1) : slowN n c x1 x2 x3 sz lo hi = (65533, 1) := by
  unfold slowN
  by_cases g : n < sz
  · rw [if_pos g]
  · rw [if_neg g, if_pos h]

theorem slow_2 {n c x1 x2 x3 lo hi : Nat} (h : ¬ n < 2) (g : ¬ (x1 < lo ∨ hi < x1)) : slowN n c x1 x2 x3 2 lo hi = (c % 32 * 64 + x1 % 64, 2) := by
  unfold slowN
  rw [if_neg h, if_neg g, if_pos (by decide)]
theorem slow_3 {n c x1 x2 x3 lo hi : Nat} (h : ¬ n < 3) (g : ¬ (x1 < lo ∨ hi < x1)) : slowN n c x1 x2 x3 3 lo hi = if x2 < 128 ∨ 191 < x2 then (65533, 1) else (c % 16 * 4096 + x1 % 64 * 64 + x2 % 64, 3) := by
  unfold slowN
  rw [if_neg h, if_neg g, if_neg (show ¬ 3 ≤ 2 by decide), if_pos (show 3 ≤ 3 by decide)]
theorem slow_4 {n c x1 x2 x3 lo hi : Nat} (h : ¬ n < 4) (g : ¬ (x1 < lo ∨ hi < x1)) (g2 : ¬ (x2 < 128 ∨ 191 < x2)) : slowN n c x1 x2 x3 4 lo hi = if x3 < 128 ∨ 191 < x3 then (65533, 1) else (c % 8 * 262144 + x1 % 64 * 4096 + x2 % 64 * 64 + x3 % 64, 4) := by
  unfold slowN
  rw [if_neg h, if_neg g, if_neg (by decide), if_neg g2, if_neg (by decide)]

theorem agree_two (c : Nat) (lo hi : Nat) (t : List Int) (hlo : 128 ≤ lo) (hhi : hi ≤ 191) (n x1 x2 x3 : Nat) (hn : n = t.length + 1) (h1 : ∀ y : Int, t[0]? = some y → y = x1) (hc : 194 ≤ c ∧ c < 224) :
    Agree (run 1 lo hi ((c : Int) % 32) 1 t).1 (run 1 lo hi ((c : Int) % 32) 1 t).2 (slowN n c x1 x2 x3 2 lo hi) := by
  subst hn
  rcases t with _ | ⟨b1, t⟩
  · rw [slow_short (by simp), run_nil 0]
    exact agree_bad (by decide)
  obtain rfl := h1 _ rfl
  rw [run_cons 0]
  by_cases g : x1 < lo ∨ hi < x1
  · rw [slow_far g]
    by_cases g1 : (x1 : Int) < lo
    · rw [if_pos g1]; exact agree_bad (by decide)
    · rw [if_neg g1, if_pos (by omega)]; exact agree_bad (by decide)
  rw [if_neg (by omega), if_neg (by omega), run_zero]
  rw [slow_2 (by simp) g]
  exact agree_right (by omega) rfl (.inl (by omega))

theorem agree_three (c : Nat) (lo hi : Nat) (t : List Int) (hlo : 128 ≤ lo) (hhi : hi ≤ 191) (n x1 x2 x3 : Nat) (hn : n = t.length + 1) (h1 : ∀ y : Int, t[0]? = some y → y = x1) (h2 : ∀ y : Int, t[1]? = some y → y = x2) :
    Agree (run 2 lo hi ((c : Int) % 16) 1 t).1 (run 2 lo hi ((c : Int) % 16) 1 t).2 (slowN n c x1 x2 x3 3 lo hi) := by
  subst hn
  rcases t with _ | ⟨b1, t⟩
  · rw [slow_short (by simp), run_nil 1]
    exact agree_bad (by decide)
  obtain rfl := h1 _ rfl
  rw [run_cons 1]
  by_cases g : x1 < lo ∨ hi < x1
  · rw [slow_far g]
    by_cases g1 : (x1 : Int) < lo
    · rw [if_pos g1]; exact agree_bad (by decide)
    · rw [if_neg g1, if_pos (by omega)]; exact agree_bad (by decide)
  rw [if_neg (by omega), if_neg (by omega)]
  rcases t with _ | ⟨b2, t⟩
  · rw [slow_short (by simp), run_nil 0]
    exact agree_bad (by decide)
  obtain rfl := h2 _ rfl
  rw [run_cons 0]
  rw [slow_3 (by simp) g]
  by_cases g2 : x2 < 128 ∨ 191 < x2
  · rw [if_pos g2]
    by_cases g1 : (x2 : Int) < 128
    · rw [if_pos g1]; exact agree_bad (by decide)
    · rw [if_neg g1, if_pos (by omega)]; exact agree_bad (by decide)
  rw [if_neg g2, if_neg (by omega), if_neg (by omega), run_zero]
  exact agree_right (by omega) rfl (.inr rfl)

theorem agree_four (c : Nat) (lo hi : Nat) (t : List Int) (hlo : 128 ≤ lo) (hhi : hi ≤ 191) (n x1 x2 x3 : Nat) (hn : n = t.length + 1) (h1 : ∀ y : Int, t[0]? = some y → y = x1) (h2 : ∀ y : Int, t[1]? = some y → y = x2) (h3 : ∀ y : Int, t[2]? = some y → y = x3)
    (hbig : c % 8 ≠ 0 ∨ 144 ≤ lo) :
    Agree (run 3 lo hi ((c : Int) % 8) 1 t).1 (run 3 lo hi ((c : Int) % 8) 1 t).2 (slowN n c x1 x2 x3 4 lo hi) := by
  subst hn
  rcases t with _ | ⟨b1, t⟩
  · rw [slow_short (by simp), run_nil 2]
    exact agree_bad (by decide)
  obtain rfl := h1 _ rfl
  rw [run_cons 2]
  by_cases g : x1 < lo ∨ hi < x1
  · rw [slow_far g]
    by_cases g1 : (x1 : Int) < lo
    · rw [if_pos g1]; exact agree_bad (by decide)
    · rw [if_neg g1, if_pos (by omega)]; exact agree_bad (by decide)
  rw [if_neg (by omega), if_neg (by omega)]
  rcases t with _ | ⟨b2, t⟩
  · rw [slow_short (by simp), run_nil 1]
    exact agree_bad (by decide)
  obtain rfl := h2 _ rfl
  rw [run_cons 1]
  by_cases g2 : x2 < 128 ∨ 191 < x2
  · have hs : ∀ m, slowN m c x1 x2 x3 4 lo hi = (65533, 1) := fun m => by
      unfold slowN
      by_cases g3 : m < 4
      · rw [if_pos g3]
      · rw [if_neg g3, if_neg g, if_neg (by decide), if_pos g2]
    rw [hs]
    by_cases g1 : (x2 : Int) < 128
    · rw [if_pos g1]; exact agree_bad (by decide)
    · rw [if_neg g1, if_pos (by omega)]; exact agree_bad (by decide)
  rw [if_neg (by omega), if_neg (by omega)]
  rcases t with _ | ⟨b3, t⟩
  · rw [slow_short (by simp), run_nil 0]
    exact agree_bad (by decide)
  obtain rfl := h3 _ rfl
  rw [run_cons 0]
  rw [slow_4 (by simp) g g2]
  by_cases g4 : x3 < 128 ∨ 191 < x3
  · rw [if_pos g4]
    by_cases g1 : (x3 : Int) < 128
    · rw [if_pos g1]; exact agree_bad (by decide)
    · rw [if_neg g1, if_pos (by omega)]; exact agree_bad (by decide)
  rw [if_neg g4, if_neg (by omega), if_neg (by omega), run_zero]
  exact agree_right (by omega) rfl (.inl (by omega))

/-- The sign at a list's beginning is what DecodeRune reads there, or it is Bad. -/
theorem one_agree (c : Nat) (hc : c < 256) (t : List Int) (hb : ∀ x ∈ t, 0 ≤ x ∧ x < 256) (n x1 x2 x3 : Nat) (hn : n = t.length + 1) (h1 : ∀ y : Int, t[0]? = some y → y = x1) (h2 : ∀ y : Int, t[1]? = some y → y = x2) (h3 : ∀ y : Int, t[2]? = some y → y = x3) :
    Agree (one ((c : Int) :: t)).1 (one ((c : Int) :: t)).2 (drN n c x1 x2 x3) := by
  unfold drN
  simp only [one]
  cases lead_all c hc with
  | ascii h e1 e2 => rw [e1, e2]; exact agree_right rfl rfl (.inl (by omega))
  | bad h e1 e2 => rw [e1, e2]; exact agree_bad (L := 1) (by decide)
  | two h e1 e2 =>
    rw [e1, e2, lead_two c h.2]
    exact agree_two c 128 191 t (by decide) (by decide) n x1 x2 x3 hn h1 h
  | e0 h e1 e2 =>
    rw [e1, e2, lead_three c (by omega) (by omega)]
    exact agree_three c 160 191 t (by decide) (by decide) n x1 x2 x3 hn h1 h2
  | ed h e1 e2 =>
    rw [e1, e2, lead_three c (by omega) (by omega)]
    exact agree_three c 128 159 t (by decide) (by decide) n x1 x2 x3 hn h1 h2
  | three h e1 e2 =>
    rw [e1, e2, lead_three c (by omega) (by omega)]
    exact agree_three c 128 191 t (by decide) (by decide) n x1 x2 x3 hn h1 h2
  | f0 h e1 e2 =>
    rw [e1, e2, lead_four c (by omega)]
    exact agree_four c 144 191 t (by decide) (by decide) n x1 x2 x3 hn h1 h2 h3 (.inr (by decide))
  | f4 h e1 e2 =>
    rw [e1, e2, lead_four c (by omega)]
    exact agree_four c 128 143 t (by decide) (by decide) n x1 x2 x3 hn h1 h2 h3 (.inl (by omega))
  | four h e1 e2 =>
    rw [e1, e2, lead_four c (by omega)]
    exact agree_four c 128 191 t (by decide) (by decide) n x1 x2 x3 hn h1 h2 h3 (.inl (by omega))

theorem rd_T27_cons (x : S27) (l : List S27) (i : Nat) : rd_T27 (x :: l) ((i + 1 : Nat) : Int) = rd_T27 l i := by
  unfold rd_T27
  simp only [Int.toNat_natCast, List.getD_cons_succ]

theorem rd_place : ∀ (p : Int) (l : List (Int × Int)) (i : Nat) (h : i < l.length), rd_T27 (place p l) i = ⟨(l[i]'h).1, p + width (l.take i), (l[i]'h).2⟩
  | _, [], i, h => by simp at h
  | p, (r, n) :: t, 0, h => by simp [place, rd_T27, width]
  | p, (r, n) :: t, i + 1, h => by
    have := rd_place (p + n) t i (by simpa using h)
    simp only [place, rd_T27_cons, List.take_succ_cons, List.getElem_cons_succ, width]
    rw [this, Int.add_assoc]

/-- The sign at the i-th place of all signs. -/
theorem sign_at (l : List Int) (i : Nat) (h : i < (sg l).length) (p : Int) (hp : p = width ((sg l).take i)) :
    rd_T27 (place 0 (sg l)) i = ⟨(one (l.drop p.toNat)).1, p, (one (l.drop p.toNat)).2⟩ ∧ 0 ≤ p ∧ p < l.length ∧ width ((sg l).take (i + 1)) = p + (one (l.drop p.toNat)).2 := by
  subst hp
  have hw := width_nonneg ((sg l).take i) (fun x hx => (sg_pos l.length l (Nat.le_refl _) x (List.mem_of_mem_take hx)).1)
  obtain ⟨_, hc⟩ := sg_cut i l (by omega)
  rw [List.drop_eq_getElem_cons h] at hc
  have hne : l.drop (width ((sg l).take i)).toNat ≠ [] := by
    intro h0
    rw [h0, sg_nil] at hc
    cases hc
  rw [sg_cons hne] at hc
  injection hc with h1 h2
  have hlt : (width ((sg l).take i)).toNat < l.length := by
    rcases Nat.lt_or_ge (width ((sg l).take i)).toNat l.length with h | h
    · exact h
    · exact absurd (List.drop_eq_nil_of_le h) hne
  refine ⟨?_, by omega, by omega, ?_⟩
  · rw [rd_place 0 (sg l) i h, h1, Int.zero_add]
  · rw [width_take_succ _ _ h, h1]

end Go.Proofs.YtdbcgeebcnlbaaaDoor.Plain
