/- The plain law of lines in mode First: in a wider width no line ends sooner. Conditions: no tabs, no hyphens, a short text. -/
import Derived.Test.YtkeccgkicffieaaGreatDoorTopB
namespace Go.Proofs.YtkeccgkicffieaaGreatDoor.PTopWider
open Go.RowKit Go.Proofs.YtkeccgkicffieaaGreatDoorW.PrintWords Go.Proofs.YtkeccgkicffieaaGreatDoorW.PrintLast Go.Proofs.YtkeccgkicffieaaGreatDoorW.PrintMore
set_option linter.unusedVariables false
set_option linter.unusedSimpArgs false
def Ev {α : Type} (f : Nat → Option α) (r : α) : Prop := ∃ K, ∀ k, K ≤ k → f k = some r
theorem Ev.succ {α : Type} {f g : Nat → Option α} {r : α} (h : Ev f r) (hs : ∀ k, f k = some r → g (k + 1) = some r) : Ev g r := by
 obtain ⟨K, hK⟩ := h
 refine ⟨K + 1, fun k hk => ?_⟩
 obtain ⟨j, rfl⟩ : ∃ j, k = j + 1 := ⟨k - 1, by omega⟩
 exact hs j (hK j (by omega))
theorem Ev.two {α β γ : Type} {f : Nat → Option α} {f' : Nat → Option β} {g : Nat → Option γ} {r : α} {r' : β} {s : γ} (h : Ev f r) (h' : Ev f' r') (hs : ∀ k, f k = some r → f' k = some r' → g (k + 1) = some s) : Ev g s := by
 obtain ⟨K, hK⟩ := h
 obtain ⟨K', hK'⟩ := h'
 refine ⟨K + K' + 1, fun k hk => ?_⟩
 obtain ⟨j, rfl⟩ : ∃ j, k = j + 1 := ⟨k - 1, by omega⟩
 exact hs j (hK j (by omega)) (hK' j (by omega))
theorem Ev.two0 {α β γ : Type} {f : Nat → Option α} {f' : Nat → Option β} {g : Nat → Option γ} {r : α} {r' : β} {s : γ} (h : Ev f r) (h' : Ev f' r') (hs : ∀ k, f k = some r → f' k = some r' → g k = some s) : Ev g s := by
 obtain ⟨K, hK⟩ := h
 obtain ⟨K', hK'⟩ := h'
 exact ⟨K + K', fun k hk => hs k (hK k (by omega)) (hK' k (by omega))⟩
theorem Ev.map {α β : Type} {f : Nat → Option α} {g : Nat → Option β} {r : α} {s : β} (h : Ev f r) (hs : ∀ k, f k = some r → g k = some s) : Ev g s := by
 obtain ⟨K, hK⟩ := h
 exact ⟨K, fun k hk => hs k (hK k hk)⟩
theorem Ev.now {α : Type} {g : Nat → Option α} {r : α} (h : ∀ k, g (k + 1) = some r) : Ev g r :=
 ⟨1, fun k hk => by obtain ⟨j, rfl⟩ : ∃ j, k = j + 1 := ⟨k - 1, by omega⟩; exact h j⟩
theorem w64 {x : Int} (h : -9223372036854775808 ≤ x) (k : x ≤ 9223372036854775807) : wrap64 x = x := by unfold wrap64; omega
def emp (s : S130) : Bool := if s.f3 = 1 then true else if s.f3 = 0 then s.f2 == 0 else false
def at_ (cl : List S130) (i : Nat) : S130 := rd_T130 cl (i : Int)
def col (cl : List S130) (a : Nat) : Nat → Int
 | 0 => 0
 | m + 1 => col cl a m + (at_ cl (a + m)).f2
def full (cl : List S130) (a : Nat) : Nat → Int
 | 0 => 0
 | m + 1 => if emp (at_ cl (a + m)) = true then full cl a m else col cl a (m + 1)
/-- A text's clusters without tabs, and what may be done between them, without hyphens. -/
structure Plain (cl : List S130) (op : List Int) : Prop where
 len : op.length = cl.length + 1
 small : cl.length ≤ 4096
 tab : ∀ i, i < cl.length → (at_ cl i).f3 ≠ 2
 wid : ∀ i, i < cl.length → 0 ≤ (at_ cl i).f2 ∧ (at_ cl i).f2 ≤ 2
 ops : ∀ i : Nat, i ≤ cl.length → rd op i ≠ 3
 last : rd op cl.length = 2
theorem empty_emp (s : S130) : span_empty.f s.f0 s.f1 s.f2 s.f3 = some (emp s) := by
 unfold span_empty.f emp
 split
 ·rfl
 ·split <;> rfl
theorem col_bound {cl : List S130} {op : List Int} (P : Plain cl op) (a : Nat) : ∀ m, a + m ≤ cl.length → 0 ≤ col cl a m ∧ col cl a m ≤ 2 * m
 | 0, _ => by simp [col]
 | m + 1, h => by
  have := col_bound P a m (by omega)
  have := P.wid (a + m) (by omega)
  simp only [col]
  omega
theorem col_up {cl : List S130} {op : List Int} (P : Plain cl op) (a m : Nat) (h : a + m < cl.length) : col cl a m ≤ col cl a (m + 1) := by
 have := P.wid (a + m) h
 simp only [col]
 omega
theorem full_bound {cl : List S130} {op : List Int} (P : Plain cl op) (a : Nat) : ∀ m, a + m ≤ cl.length → 0 ≤ full cl a m ∧ full cl a m ≤ col cl a m
 | 0, _ => by simp [full, col]
 | m + 1, h => by
  have := full_bound P a m (by omega)
  have := col_up P a m (by omega)
  have := (col_bound P a (m + 1) h).1
  simp only [full]
  split <;> omega
theorem full_up {cl : List S130} {op : List Int} (P : Plain cl op) (a m : Nat) (h : a + m < cl.length) : full cl a m ≤ full cl a (m + 1) := by
 have := full_bound P a m (by omega)
 have := col_up P a m h
 simp only [full]
 split <;> omega
theorem full_ups {cl : List S130} {op : List Int} (P : Plain cl op) (a m : Nat) : ∀ d, a + (m + d) ≤ cl.length → full cl a m ≤ full cl a (m + d)
 | 0, _ => Int.le_refl _
 | d + 1, h => Int.le_trans (full_ups P a m d (by omega)) (full_up P a (m + d) (by omega))
theorem col_add {cl : List S130} (a d : Nat) : ∀ m, col cl a (d + m) = col cl a d + col cl (a + d) m
 | 0 => by simp [col]
 | m + 1 => by
  have := col_add (cl := cl) a d m
  rw [← Nat.add_assoc]
  simp only [col]
  rw [this, Nat.add_assoc a d m]
  omega
theorem full_shift {cl : List S130} {op : List Int} (P : Plain cl op) (a d : Nat) : ∀ m, a + (d + m) ≤ cl.length → full cl (a + d) m ≤ full cl a (d + m)
 | 0, h => (full_bound P a (d + 0) h).1
 | m + 1, h => by
  have h1 := full_shift P a d m (by omega)
  have h2 := col_add (cl := cl) a d (m + 1)
  have h3 := col_bound P a d (by omega)
  rw [← Nat.add_assoc] at h2 ⊢
  simp only [full]
  rw [Nat.add_assoc a d m]
  split <;> omega
/-- The place i fits in a line that begins at a. -/
def Fit (cl : List S130) (W : Int) (a b i : Nat) : Prop := a < i ∧ i ≤ b ∧ full cl a (i - a) ≤ W
/-- Where the line that begins at a ends. -/
def Next (cl : List S130) (op : List Int) (W : Int) (a b e : Nat) : Prop :=
 a < e ∧ e ≤ b ∧ ((Fit cl W a b e ∧ rd op e ≠ 0 ∧ ∀ i, Fit cl W a b i → e < i → rd op i = 0) ∨ (Fit cl W a b e ∧ (∀ i, Fit cl W a b i → rd op i = 0) ∧ ∀ i, Fit cl W a b i → i ≤ e) ∨ ((∀ i, ¬ Fit cl W a b i) ∧ e = a + 1))
theorem Fit.down {cl : List S130} {op : List Int} (P : Plain cl op) {W : Int} {a b i j : Nat} (hb : b ≤ cl.length) (h : Fit cl W a b i) (h1 : a < j) (h2 : j ≤ i) : Fit cl W a b j := by
 obtain ⟨f1, f2, f3⟩ := h
 refine ⟨h1, by omega, ?_⟩
 have := full_ups P a (j - a) (i - j) (by omega)
 have e : j - a + (i - j) = i - a := by omega
 rw [e] at this
 omega
theorem Fit.wide {cl : List S130} {op : List Int} (P : Plain cl op) {W W' : Int} {a a' b i : Nat} (hb : b ≤ cl.length) (h : Fit cl W a b i) (hW : W ≤ W') (ha : a ≤ a') (hi : a' < i) : Fit cl W' a' b i := by
 obtain ⟨f1, f2, f3⟩ := h
 refine ⟨hi, f2, ?_⟩
 have := full_shift P a (a' - a) (i - a') (by omega)
 have e1 : a + (a' - a) = a' := by omega
 have e2 : a' - a + (i - a') = i - a := by omega
 rw [e1, e2] at this
 omega
theorem Next.le {cl : List S130} {op : List Int} (P : Plain cl op) {W W' : Int} {a a' b e e' : Nat} (hb : b ≤ cl.length) (h : Next cl op W a b e) (h' : Next cl op W' a' b e') (hW : W ≤ W') (ha : a ≤ a') : e ≤ e' := by
 obtain ⟨l1, l2, h⟩ := h
 obtain ⟨k1, k2, h'⟩ := h'
 apply Classical.byContradiction
 intro hn
 have ne : e' < e := by omega
 have up : Fit cl W a b e → Fit cl W' a' b e := fun hf => Fit.wide P hb hf hW ha (by omega)
 rcases h with ⟨f, z, l⟩ | ⟨f, z, l⟩ | ⟨_, he⟩
 ·rcases h' with ⟨f', z', l'⟩ | ⟨f', z', l'⟩ | ⟨n', _⟩
  ·exact z (l' e (up f) ne)
  ·have := l' e (up f); omega
  ·exact n' e (up f)
 ·rcases h' with ⟨f', z', l'⟩ | ⟨f', z', l'⟩ | ⟨n', _⟩
  ·exact z' (z e' (Fit.down P hb f (by omega) (by omega)))
  ·have := l' e (up f); omega
  ·exact n' e (up f)
 ·omega
/-- Lines one behind the other from a on, up to the end. -/
inductive Chain (cl : List S130) (op : List Int) (W : Int) : Nat → List S127 → Prop where
 | nil : Chain cl op W cl.length []
 | cons {a b e : Nat} {x : S127} {l : List S127} : b ≤ cl.length → a < b → rd op b = 2 → (∀ i, a < i → i < b → rd op i ≠ 2) → Next cl op W a b e → x.f0 = a → x.f1 = e → Chain cl op W e l → Chain cl op W a (x :: l)
theorem Chain.wider {cl : List S130} {op : List Int} (P : Plain cl op) {W W' : Int} (hW : W ≤ W') {a' : Nat} {l' : List S127} (h' : Chain cl op W' a' l') : ∀ {a : Nat} {l : List S127}, a ≤ a' → Chain cl op W a l → l'.length ≤ l.length ∧ ∀ (i : Nat) (x x' : S127), l[i]? = some x → l'[i]? = some x' → x.f1 ≤ x'.f1 := by
 induction h' with
 | nil => intro a l ha h; exact ⟨by simp, fun i x x' _ h => by simp at h⟩
 | @cons a' b' e' x' r' h1 h2 h3 h4 h5 h6 h7 h8 ih =>
  intro a l ha h
  cases h with
  | nil => omega
  | @cons _ b e x r k1 k2 k3 k4 k5 k6 k7 k8 =>
   have hee : e ≤ e' := by
    by_cases hb : b ≤ a'
    ·have := k5.2.1
     have := h5.1
     omega
    ·have hbb : b = b' := by
      rcases Nat.lt_trichotomy b b' with hl | hl | hl
      ·exact absurd k3 (h4 b (by omega) hl)
      ·exact hl
      ·exact absurd h3 (k4 b' (by omega) hl)
     subst hbb
     exact Next.le P k1 k5 h5 hW ha
   obtain ⟨i1, i2⟩ := ih hee k8
   refine ⟨by simpa using i1, fun i y y' hy hy' => ?_⟩
   cases i with
   | zero =>
    simp at hy hy'
    subst hy
    subst hy'
    rw [h7, k7]
    omega
   | succ i => exact i2 i y y' (by simpa using hy) (by simpa using hy')
theorem trim_ev {cl : List S130} {op : List Int} (P : Plain cl op) (a : Nat) : ∀ d, a + d ≤ cl.length → ∃ t : Nat, a ≤ t ∧ t ≤ a + d ∧ Ev (fun k => span_Trim.l0 k (a : Int) ((a + d : Nat) : Int) cl op) (t : Int)
 | 0, _ => ⟨a, Nat.le_refl _, Nat.le_refl _, Ev.now fun k => by
   show span_Trim.l0 (k + 1) (a : Int) (a : Int) cl op = some (a : Int)
   unfold span_Trim.l0
   rw [if_neg (by omega)]⟩
 | d + 1, h => by
  have hs := P.small
  have hw : wrap64 (((a + (d + 1) : Nat) : Int) - 1) = ((a + d : Nat) : Int) := by rw [w64 (by omega) (by omega)]; omega
  obtain ⟨t, t1, t2, ht⟩ := trim_ev P a d (by omega)
  by_cases he : emp (at_ cl (a + d)) = true
  ·refine ⟨t, t1, by omega, ht.succ fun k hk => ?_⟩
   unfold span_Trim.l0
   rw [if_pos (by omega), hw, if_pos (by omega), if_pos (by omega), empty_emp (rd_T130 cl ((a + d : Nat) : Int))]
   show (if emp (at_ cl (a + d)) = true then _ else _) = _
   rw [if_pos he]
   exact hk
  ·refine ⟨a + (d + 1), by omega, Nat.le_refl _, Ev.now fun k => ?_⟩
   unfold span_Trim.l0
   rw [if_pos (by omega), hw, if_pos (by omega), if_pos (by omega), empty_emp (rd_T130 cl ((a + d : Nat) : Int))]
   show (if emp (at_ cl (a + d)) = true then _ else _) = _
   rw [if_neg he]
theorem trim_one {cl : List S130} {op : List Int} (P : Plain cl op) (i : Nat) (h : i < cl.length) : Ev (fun k => span_Trim.f k cl op (i : Int) ((i + 1 : Nat) : Int)) (if emp (at_ cl i) = true then (i : Int) else ((i + 1 : Nat) : Int)) := by
 have hs := P.small
 have hw : wrap64 (((i + 1 : Nat) : Int) - 1) = (i : Int) := by rw [w64 (by omega) (by omega)]; omega
 refine ⟨2, fun k hk => ?_⟩
 obtain ⟨j, rfl⟩ : ∃ j, k = j + 1 + 1 := ⟨k - 2, by omega⟩
 show span_Trim.l0 (j + 1 + 1) (i : Int) ((i + 1 : Nat) : Int) cl op = _
 unfold span_Trim.l0
 rw [if_pos (by omega), hw, if_pos (by omega), if_pos (by omega), empty_emp (rd_T130 cl (i : Int))]
 show (if emp (at_ cl i) = true then _ else _) = _
 split
 ·unfold span_Trim.l0
  rw [if_neg (by omega)]
 ·rfl
theorem columns_ev {cl : List S130} {op : List Int} (P : Plain cl op) (b : Nat) (tab : Int) (hb : b ≤ cl.length) : ∀ d (i : Nat) (xs : List Int), i + d = b → 1 ≤ xs.length → xs.length + d ≤ 100000 → ∃ ys : List Int, 1 ≤ ys.length ∧ ys.length ≤ 100000 ∧ Ev (fun k => span_Columns.l0 k (b : Int) tab xs (i : Int) cl op) ys
 | 0, i, xs, h, h1, h2 => ⟨xs, h1, h2, Ev.now fun k => by
   unfold span_Columns.l0
   rw [if_neg (by omega)]⟩
 | d + 1, i, xs, h, h1, h2 => by
  have hs := P.small
  have hi : wrap64 ((i : Int) + 1) = ((i + 1 : Nat) : Int) := by rw [w64 (by omega) (by omega)]; omega
  have hl : wrap64 ((xs.length : Int) - 1) = ((xs.length - 1 : Nat) : Int) := by rw [w64 (by omega) (by omega)]; omega
  obtain ⟨ys, y1, y2, hy⟩ := columns_ev P b tab hb d (i + 1) (xs ++ [wrap64 (rd xs ((xs.length - 1 : Nat) : Int) + (at_ cl i).f2)]) (by omega) (by simp) (by simp; omega)
  refine ⟨ys, y1, y2, hy.succ fun k hk => ?_⟩
  unfold span_Columns.l0
  have hn : span_Next.f (rd_T130 cl (i : Int)).f0 (rd_T130 cl (i : Int)).f1 (rd_T130 cl (i : Int)).f2 (rd_T130 cl (i : Int)).f3 (rd xs ((xs.length - 1 : Nat) : Int)) tab = some (wrap64 (rd xs ((xs.length - 1 : Nat) : Int) + (at_ cl i).f2)) := by
   unfold span_Next.f
   have ht : (rd_T130 cl (i : Int)).f3 ≠ 2 := P.tab i (by omega)
   rw [if_neg ht]
   rfl
  rw [if_pos (by omega), if_pos (by omega), if_pos (by omega), hl, if_pos (by omega), if_pos (by omega), hn]
  show (if xs.length < 17592186044416 then _ else _) = _
  rw [if_pos (by omega), hi]
  exact hk
theorem make_ev {cl : List S130} {op : List Int} (P : Plain cl op) (a e : Nat) (he : e ≤ cl.length) (ha : a < e) (q tab : Int) : ∃ c, Ev (fun k => span_Make.f k cl op (a : Int) (e : Int) q tab) ((a : Int), (e : Int), c, q) := by
 have hs := P.small
 obtain ⟨t, t1, t2, ht⟩ := trim_ev P a (e - a) (by omega)
 rw [show a + (e - a) = e by omega] at ht t2
 obtain ⟨ys, y1, y2, hy⟩ := columns_ev P t tab (by omega) (t - a) a [0] (by omega) (by simp) (by simp; omega)
 have hl : wrap64 ((ys.length : Int) - 1) = ((ys.length - 1 : Nat) : Int) := by rw [w64 (by omega) (by omega)]; omega
 refine ⟨if q = 3 then wrap64 (rd ys ((ys.length - 1 : Nat) : Int) + 1) else rd ys ((ys.length - 1 : Nat) : Int), Ev.two0 ht hy fun k h1 h2 => ?_⟩
 unfold span_Make.f span_Cells.f span_Trim.f span_Columns.f
 rw [h1]
 show ((span_Columns.l0 k (t : Int) tab [0] (a : Int) cl op).bind _).bind _ = _
 rw [h2]
 show (if 0 ≤ wrap64 ((ys.length : Int) - 1) then _ else _ : Option Int).bind _ = _
 rw [hl, if_pos (by omega), if_pos (by omega)]
 by_cases hq : q = 3
 ·rw [if_pos hq, if_pos hq]; rfl
 ·rw [if_neg hq, if_neg hq]; rfl
theorem one_end {cl : List S130} {op : List Int} (P : Plain cl op) (a b e : Nat) (hb : b ≤ cl.length) (ha : a < e) (he : e ≤ b) (x9 x10 : Int) (h : x9 = (e : Int) ∨ (x9 = -1 ∧ x10 = (e : Int))) (W tab q2 q3 q4 : Int) (q5 : Nat) :
  ∃ c q, Ev (fun k => first_one.j2 k (a : Int) (b : Int) x9 x10 cl op W tab q2 q3 q4 q5) ((a : Int), (e : Int), c, q) := by
 have hl := P.len
 rcases h with rfl | ⟨rfl, rfl⟩
 ·obtain ⟨c, hc⟩ := make_ev P a e (by omega) ha (rd op (e : Int)) tab
  refine ⟨c, _, hc.succ fun k hk => ?_⟩
  rw [first_one.j2]
  rw [if_pos (by omega), if_pos (by omega), if_pos (by omega), hk]
  rfl
 ·have hm := fun q => make_ev P a e (by omega) ha q tab
  by_cases h1 : e = b
  ·subst h1
   obtain ⟨c, hc⟩ := hm (rd op (e : Int))
   refine ⟨c, _, hc.succ fun k hk => ?_⟩
   rw [first_one.j2]
   rw [if_neg (by omega), if_pos rfl, if_pos (by omega), if_pos (by omega), if_neg (by omega), hk]
   rfl
  ·by_cases h2 : rd op (e : Int) = 1
   ·obtain ⟨c, hc⟩ := hm 1
    refine ⟨c, _, hc.succ fun k hk => ?_⟩
    rw [first_one.j2]
    rw [if_neg (by omega), if_neg (by omega), if_pos (by omega), if_pos (by omega), if_pos (by omega), if_pos h2, hk]
    rfl
   ·obtain ⟨c, hc⟩ := hm 4
    refine ⟨c, _, hc.succ fun k hk => ?_⟩
    rw [first_one.j2]
    rw [if_neg (by omega), if_neg (by omega), if_pos (by omega), if_pos (by omega), if_pos (by omega), if_neg h2, hk]
    rfl
/-- What the loop of the next line has found behind m clusters. -/
def Found (op : List Int) (a m : Nat) (x9 x10 : Int) : Prop :=
 (m = 0 → x10 = ((a + 1 : Nat) : Int)) ∧ (0 < m → x10 = ((a + m : Nat) : Int)) ∧
 ((x9 = -1 ∧ ∀ i : Nat, a < i → i ≤ a + m → rd op i = 0) ∨ (∃ t : Nat, x9 = (t : Int) ∧ a < t ∧ t ≤ a + m ∧ rd op t ≠ 0 ∧ ∀ i : Nat, t < i → i ≤ a + m → rd op i = 0))
theorem found_end {cl : List S130} {op : List Int} (P : Plain cl op) {a b m : Nat} {x9 x10 W : Int} (hb : b ≤ cl.length) (hab : a < b) (hm : a + m ≤ b) (hf : full cl a m ≤ W) (h : Found op a m x9 x10) (ho : a + m = b ∨ W < full cl a (m + 1)) :
  ∃ e : Nat, Next cl op W a b e ∧ (x9 = (e : Int) ∨ (x9 = -1 ∧ x10 = (e : Int))) := by
 obtain ⟨h1, h2, h3⟩ := h
 have top : ∀ i, Fit cl W a b i → i ≤ a + m := fun i hi => by
  obtain ⟨f1, f2, f3⟩ := hi
  rcases ho with ho | ho
  ·omega
  ·apply Classical.byContradiction
   intro hn
   have := full_ups P a (m + 1) (i - a - (m + 1)) (by omega)
   rw [show m + 1 + (i - a - (m + 1)) = i - a by omega] at this
   omega
 have fit : ∀ i, a < i → i ≤ a + m → Fit cl W a b i := fun i i1 i2 => by
  refine ⟨i1, by omega, ?_⟩
  have := full_ups P a (i - a) (a + m - i) (by omega)
  rw [show i - a + (a + m - i) = m by omega] at this
  omega
 rcases h3 with ⟨rfl, hz⟩ | ⟨t, rfl, t1, t2, t3, t4⟩
 ·by_cases h0 : m = 0
  ·subst h0
   refine ⟨a + 1, ⟨by omega, by omega, Or.inr (Or.inr ⟨fun i hi => ?_, rfl⟩)⟩, Or.inr ⟨rfl, h1 rfl⟩⟩
   have := top i hi
   have := hi.1
   omega
  ·exact ⟨a + m, ⟨by omega, hm, Or.inr (Or.inl ⟨fit _ (by omega) (Nat.le_refl _), fun i hi => hz i hi.1 (top i hi), top⟩)⟩, Or.inr ⟨rfl, h2 (by omega)⟩⟩
 ·exact ⟨t, ⟨t1, by omega, Or.inl ⟨fit t t1 t2, t3, fun i hi ht => t4 i ht (top i hi)⟩⟩, Or.inl rfl⟩
theorem ends_at {cl : List S130} {op : List Int} (P : Plain cl op) (i : Nat) (h : i ≤ cl.length) : span_Ends.f cl op (i : Int) = some (rd op (i : Int), rd op (i : Int) != 0) := by
 have hl := P.len
 have h0 : (0 : Int) ≤ (i : Int) := by omega
 have h1 : (i : Int) < (op.length : Int) := by omega
 unfold span_Ends.f
 rw [if_pos h0, if_pos h1]
theorem full_empty {cl : List S130} {op : List Int} (P : Plain cl op) (a m : Nat) (h : emp (at_ cl (a + m)) = true) : full cl a (m + 1) = full cl a m := by
 show (if emp (at_ cl (a + m)) = true then _ else _) = _
 rw [if_pos h]
theorem full_col {cl : List S130} {op : List Int} (P : Plain cl op) (a m : Nat) (h : ¬ emp (at_ cl (a + m)) = true) : full cl a (m + 1) = col cl a (m + 1) := by
 show (if emp (at_ cl (a + m)) = true then _ else _) = _
 rw [if_neg h]
theorem next_col {cl : List S130} {op : List Int} (P : Plain cl op) (a m : Nat) (h : a + m < cl.length) (tab : Int) : span_Next.f (rd_T130 cl ((a + m : Nat) : Int)).f0 (rd_T130 cl ((a + m : Nat) : Int)).f1 (rd_T130 cl ((a + m : Nat) : Int)).f2 (rd_T130 cl ((a + m : Nat) : Int)).f3 (col cl a m) tab = some (col cl a (m + 1)) := by
 have ht : (rd_T130 cl ((a + m : Nat) : Int)).f3 ≠ 2 := P.tab (a + m) h
 have hs := P.small
 have := col_bound P a (m + 1) (by omega)
 unfold span_Next.f
 rw [if_neg ht]
 show some (wrap64 (col cl a (m + 1))) = _
 generalize col cl a (m + 1) = x at this
 rw [w64 (by omega) (by omega)]
theorem l0_step {cl : List S130} {op : List Int} (P : Plain cl op) (a b m : Nat) (hb : b ≤ cl.length) (h : a + m + 1 ≤ b) (x9 x10 W tab q2 q3 q4 : Int) (q5 : Nat) (r : Int × Int × Int × Int)
  (hj : Ev (fun k => first_one.j1 k (a : Int) (b : Int) x9 x10 (col cl a (m + 1)) (full cl a (m + 1)) ((a + m + 1 : Nat) : Int) cl op W tab q2 q3 q4 q5) r) :
  Ev (fun k => first_one.l0 k (a : Int) (b : Int) x9 x10 (col cl a m) (full cl a m) ((a + m + 1 : Nat) : Int) cl op W tab q2 q3 q4 q5) r := by
 have hs := P.small
 have hw : wrap64 (((a + m + 1 : Nat) : Int) - 1) = ((a + m : Nat) : Int) := by rw [w64 (by omega) (by omega)]; omega
 have c1 : ((a + m + 1 : Nat) : Int) ≤ (b : Int) := by clear hw; omega
 have c2 : (0 : Int) ≤ ((a + m : Nat) : Int) := by clear hw; omega
 have c3 : ((a + m : Nat) : Int) < (cl.length : Int) := by clear hw; omega
 have c4 : ¬ ((a + m : Nat) : Int) = ((a + m + 1 : Nat) : Int) := by clear hw; omega
 refine Ev.two (trim_one P (a + m) (by clear hw; omega)) hj fun k h1 h2 => ?_
 rw [first_one.l0]
 rw [if_pos c1, hw, if_pos c2, if_pos c3, next_col P a m (by clear hw; omega), h1]
 show (if (if emp (at_ cl (a + m)) = true then _ else _) = _ then _ else _) = _
 by_cases hem : emp (at_ cl (a + m)) = true
 ·rw [if_pos hem, if_neg c4]
  rw [full_empty P a m hem] at h2
  exact h2
 ·rw [if_neg hem, if_pos rfl]
  rw [full_col P a m hem] at h2
  exact h2
theorem j1_out {cl : List S130} {op : List Int} (P : Plain cl op) (a b m : Nat) (x9 x10 W tab q2 q3 q4 x : Int) (q5 : Nat) (r : Int × Int × Int × Int) (f : Int) (ho : W < f)
  (hj : Ev (fun k => first_one.j2 k (a : Int) (b : Int) x9 x10 cl op W tab q2 q3 q4 q5) r) :
  Ev (fun k => first_one.j1 k (a : Int) (b : Int) x9 x10 x f ((a + m + 1 : Nat) : Int) cl op W tab q2 q3 q4 q5) r := hj.succ fun k hk => by
 rw [first_one.j1, if_pos ho]
 exact hk
theorem j1_no {cl : List S130} {op : List Int} (P : Plain cl op) (a b m : Nat) (h : a + m + 1 ≤ cl.length) (x9 x10 W tab q2 q3 q4 x : Int) (q5 : Nat) (r : Int × Int × Int × Int) (f : Int) (ho : ¬ W < f) (hz : rd op ((a + m + 1 : Nat) : Int) = 0)
  (hj : Ev (fun k => first_one.l0 k (a : Int) (b : Int) x9 ((a + m + 1 : Nat) : Int) x f ((a + (m + 1) + 1 : Nat) : Int) cl op W tab q2 q3 q4 q5) r) :
  Ev (fun k => first_one.j1 k (a : Int) (b : Int) x9 x10 x f ((a + m + 1 : Nat) : Int) cl op W tab q2 q3 q4 q5) r := hj.succ fun k hk => by
 have hs := P.small
 have hi : wrap64 (((a + m + 1 : Nat) : Int) + 1) = ((a + (m + 1) + 1 : Nat) : Int) := by rw [w64 (by omega) (by omega)]; omega
 rw [first_one.j1, if_neg ho, ends_at P _ h, hz]
 show first_one.l0 _ _ _ _ _ _ _ (wrap64 (((a + m + 1 : Nat) : Int) + 1)) _ _ _ _ _ _ _ _ = _
 rw [hi]
 exact hk
theorem j1_may {cl : List S130} {op : List Int} (P : Plain cl op) (a b m : Nat) (h : a + m + 1 ≤ cl.length) (x9 x10 W tab q2 q3 q4 x : Int) (q5 : Nat) (r : Int × Int × Int × Int) (f : Int) (ho : ¬ W < f) (hz : rd op ((a + m + 1 : Nat) : Int) ≠ 0)
  (hj : Ev (fun k => first_one.l0 k (a : Int) (b : Int) ((a + m + 1 : Nat) : Int) ((a + m + 1 : Nat) : Int) x f ((a + (m + 1) + 1 : Nat) : Int) cl op W tab q2 q3 q4 q5) r) :
  Ev (fun k => first_one.j1 k (a : Int) (b : Int) x9 x10 x f ((a + m + 1 : Nat) : Int) cl op W tab q2 q3 q4 q5) r := hj.succ fun k hk => by
 have hs := P.small
 have hi : wrap64 (((a + m + 1 : Nat) : Int) + 1) = ((a + (m + 1) + 1 : Nat) : Int) := by rw [w64 (by omega) (by omega)]; omega
 have hb0 : (rd op ((a + m + 1 : Nat) : Int) != 0) = true := by simpa using hz
 rw [first_one.j1, if_neg ho, ends_at P _ h, hb0]
 show (if rd op ((a + m + 1 : Nat) : Int) = 3 then _ else _) = _
 rw [if_neg (P.ops (a + m + 1) h), hi]
 exact hk
theorem found_no {cl : List S130} {op : List Int} (P : Plain cl op) {a m : Nat} {x9 x10 : Int} (hF : Found op a m x9 x10) (hz : rd op ((a + m + 1 : Nat) : Int) = 0) : Found op a (m + 1) x9 ((a + m + 1 : Nat) : Int) := by
 obtain ⟨F1, F2, F3⟩ := hF
 have last : ∀ i, ¬ i ≤ a + m → i ≤ a + (m + 1) → i = a + m + 1 := fun i _ _ => by omega
 refine ⟨fun h => by omega, fun _ => rfl, ?_⟩
 rcases F3 with ⟨f1, f2⟩ | ⟨t, f1, f2, f3, f4, f5⟩
 ·exact Or.inl ⟨f1, fun i i1 i2 => if h : i ≤ a + m then f2 i i1 h else by rw [last i h i2]; exact hz⟩
 ·exact Or.inr ⟨t, f1, f2, by omega, f4, fun i i1 i2 => if h : i ≤ a + m then f5 i i1 h else by rw [last i h i2]; exact hz⟩
theorem found_may {cl : List S130} {op : List Int} (P : Plain cl op) {a m : Nat} (hz : rd op ((a + m + 1 : Nat) : Int) ≠ 0) : Found op a (m + 1) ((a + m + 1 : Nat) : Int) ((a + m + 1 : Nat) : Int) :=
 ⟨fun h => by omega, fun _ => rfl, Or.inr ⟨a + m + 1, rfl, by omega, by omega, hz, fun i i1 i2 => by omega⟩⟩
theorem one_loop {cl : List S130} {op : List Int} (P : Plain cl op) (a b : Nat) (hb : b ≤ cl.length) (hab : a < b) (W tab q2 q3 q4 : Int) (q5 : Nat) (d : Nat) : ∀ m : Nat, a + m + d = b → ∀ x9 x10 : Int, full cl a m ≤ W → Found op a m x9 x10 →
  ∃ (e : Nat) (c q : Int), Next cl op W a b e ∧ Ev (fun k => first_one.l0 k (a : Int) (b : Int) x9 x10 (col cl a m) (full cl a m) ((a + m + 1 : Nat) : Int) cl op W tab q2 q3 q4 q5) ((a : Int), (e : Int), c, q) := by
 induction d with
 | zero =>
  intro m h x9 x10 hf hF
  obtain ⟨e, he, hx⟩ := found_end P hb hab (by omega) hf hF (Or.inl (by omega))
  obtain ⟨c, q, hc⟩ := one_end P a b e hb he.1 he.2.1 x9 x10 hx W tab q2 q3 q4 q5
  have c1 : ¬ ((a + m + 1 : Nat) : Int) ≤ (b : Int) := by clear hf hF; omega
  refine ⟨e, c, q, he, hc.succ fun k hk => ?_⟩
  rw [first_one.l0, if_neg c1]
  exact hk
 | succ d ih =>
  intro m h x9 x10 hf hF
  have c1 : a + m + 1 ≤ b := by clear hf hF; omega
  have c2 : a + m + 1 ≤ cl.length := by clear hf hF; omega
  have c3 : a + (m + 1) + d = b := by clear hf hF; omega
  by_cases ho : W < full cl a (m + 1)
  ·obtain ⟨e, he, hx⟩ := found_end P hb hab (by clear hf hF ho; omega) hf hF (Or.inr ho)
   obtain ⟨c, q, hc⟩ := one_end P a b e hb he.1 he.2.1 x9 x10 hx W tab q2 q3 q4 q5
   exact ⟨e, c, q, he, l0_step P a b m hb c1 x9 x10 W tab q2 q3 q4 q5 _ (j1_out P a b m x9 x10 W tab q2 q3 q4 _ q5 _ _ ho hc)⟩
  ·by_cases hz : rd op ((a + m + 1 : Nat) : Int) = 0
   ·obtain ⟨e, c, q, he, hc⟩ := ih (m + 1) c3 x9 _ (Int.not_lt.mp ho) (found_no P hF hz)
    exact ⟨e, c, q, he, l0_step P a b m hb c1 x9 x10 W tab q2 q3 q4 q5 _ (j1_no P a b m c2 x9 x10 W tab q2 q3 q4 _ q5 _ _ ho hz hc)⟩
   ·obtain ⟨e, c, q, he, hc⟩ := ih (m + 1) c3 _ _ (Int.not_lt.mp ho) (found_may P hz)
    exact ⟨e, c, q, he, l0_step P a b m hb c1 x9 x10 W tab q2 q3 q4 q5 _ (j1_may P a b m c2 x9 x10 W tab q2 q3 q4 _ q5 _ _ ho hz hc)⟩
theorem one_ev {cl : List S130} {op : List Int} (P : Plain cl op) (a b : Nat) (hb : b ≤ cl.length) (hab : a < b) (W tab q2 q3 q4 : Int) (q5 : Nat) (hW : 0 ≤ W) :
  ∃ (e : Nat) (c q : Int), Next cl op W a b e ∧ Ev (fun k => first_one.f k cl op (a : Int) (b : Int) W tab q2 q3 q4 q5) ((a : Int), (e : Int), c, q) := by
 have hs := P.small
 obtain ⟨e, c, q, he, hc⟩ := one_loop P a b hb hab W tab q2 q3 q4 q5 (b - a) 0 (by omega) (-1) ((a + 1 : Nat) : Int) hW ⟨fun _ => rfl, fun h => by omega, Or.inl ⟨rfl, fun i i1 i2 => by omega⟩⟩
 refine ⟨e, c, q, he, hc.map fun k hk => ?_⟩
 unfold first_one.f
 rw [show wrap64 ((a : Int) + 1) = ((a + 1 : Nat) : Int) by rw [w64 (by omega) (by omega)]; omega]
 exact hk
theorem break_ev {cl : List S130} {op : List Int} (P : Plain cl op) (b : Nat) (hb : b ≤ cl.length) (hm : rd op b = 2) (W tab q3 q4 : Int) (q5 : Nat) (hW : 0 ≤ W) (d : Nat) : ∀ a : Nat, a ≤ b → b ≤ a + d → (∀ i : Nat, a < i → i < b → rd op i ≠ 2) → ∀ xs : List S127, xs.length + d ≤ 100000 →
  ∃ ls : List S127, Ev (fun k => first_Break.l0 k (a : Int) (b : Int) xs cl op W tab 0 q3 q4 q5) (xs ++ ls) ∧ ls.length ≤ b - a ∧ ∀ rest, Chain cl op W b rest → Chain cl op W a (ls ++ rest) := by
 induction d with
 | zero =>
  intro a h1 h2 h3 xs h4
  have : a = b := by omega
  subst this
  refine ⟨[], Ev.now fun k => ?_, by simp, fun rest h => h⟩
  have c1 : ¬ (a : Int) < (a : Int) := by omega
  show first_Break.l0 (k + 1) (a : Int) (a : Int) xs cl op W tab 0 q3 q4 q5 = _
  rw [first_Break.l0, if_neg c1, List.append_nil]
 | succ d ih =>
  intro a h1 h2 h3 xs h4
  by_cases hab : a < b
  ·obtain ⟨e, c, q, he, hc⟩ := one_ev P a b hb hab W tab 0 q3 q4 q5 hW
   have he1 := he.1
   have he2 := he.2.1
   obtain ⟨ls, e1, e2, e3⟩ := ih e he2 (by omega) (fun i i1 i2 => h3 i (by omega) i2) (xs ++ [⟨(a : Int), (e : Int), c, q⟩]) (by simp; omega)
   refine ⟨⟨(a : Int), (e : Int), c, q⟩ :: ls, Ev.two hc e1 fun k k1 k2 => ?_, by simp; omega, fun rest h => Chain.cons hb hab hm h3 he rfl rfl (e3 rest h)⟩
   have c1 : (a : Int) < (b : Int) := by omega
   have c2 : xs.length < 4398046511104 := by omega
   rw [first_Break.l0, if_pos c1, k1]
   show (if xs.length < 4398046511104 then _ else _) = _
   rw [if_pos c2, k2, List.append_assoc]
   rfl
  ·have : a = b := by omega
   subst this
   refine ⟨[], Ev.now fun k => ?_, by simp, fun rest h => h⟩
   have c1 : ¬ (a : Int) < (a : Int) := by omega
   show first_Break.l0 (k + 1) (a : Int) (a : Int) xs cl op W tab 0 q3 q4 q5 = _
   rw [first_Break.l0, if_neg c1, List.append_nil]
/-- The boundaries of Must from i on. -/
inductive Musts (op : List Int) (n : Nat) : Nat → List Int → Prop where
 | nil : Musts op n (n + 1) []
 | yes {i : Nat} {l : List Int} : i ≤ n → rd op i = 2 → Musts op n (i + 1) l → Musts op n i ((i : Int) :: l)
 | no {i : Nat} {l : List Int} : i ≤ n → rd op i ≠ 2 → Musts op n (i + 1) l → Musts op n i l
theorem Musts.first {op : List Int} {n i : Nat} {l : List Int} (h : Musts op n i l) : (l = [] ∧ ∀ j : Nat, i ≤ j → j ≤ n → rd op j ≠ 2) ∨ ∃ (b : Nat) (r : List Int), l = (b : Int) :: r ∧ i ≤ b ∧ b ≤ n ∧ rd op b = 2 ∧ (∀ j : Nat, i ≤ j → j < b → rd op j ≠ 2) ∧ Musts op n (b + 1) r := by
 induction h with
 | nil => exact Or.inl ⟨rfl, fun j h1 h2 => by omega⟩
 | @yes i l h1 h2 h3 ih => exact Or.inr ⟨i, l, rfl, Nat.le_refl _, h1, h2, fun j a b => by omega, h3⟩
 | @no i l h1 h2 h3 ih =>
  rcases ih with ⟨e, f⟩ | ⟨b, r, e, f1, f2, f3, f4, f5⟩
  ·exact Or.inl ⟨e, fun j a b => if hj : j = i then by rw [hj]; exact h2 else f j (by omega) b⟩
  ·exact Or.inr ⟨b, r, e, by omega, f2, f3, fun j a c => if hj : j = i then by rw [hj]; exact h2 else f4 j (by omega) c, f5⟩
theorem parts_ev {op : List Int} {n : Nat} (hl : op.length = n + 1) (hn : n ≤ 4096) (d : Nat) : ∀ i : Nat, i + d = n + 1 → ∀ xs : List Int, xs.length + d ≤ 100000 → ∃ ps : List Int, Ev (fun k => items_Parts.l0 k xs op ((n + 1 : Nat) : Int) (i : Int)) (xs ++ ps) ∧ Musts op n i ps ∧ ps.length ≤ d := by
 induction d with
 | zero =>
  intro i h xs hx
  have : i = n + 1 := by omega
  subst this
  refine ⟨[], Ev.now fun k => ?_, Musts.nil, by simp⟩
  have c1 : ¬ ((n + 1 : Nat) : Int) < ((n + 1 : Nat) : Int) := by omega
  rw [items_Parts.l0, if_neg c1, List.append_nil]
 | succ d ih =>
  intro i h xs hx
  have c1 : (i : Int) < ((n + 1 : Nat) : Int) := by omega
  have c2 : (0 : Int) ≤ (i : Int) := by omega
  have c3 : (i : Int) < (op.length : Int) := by omega
  have c4 : xs.length < 17592186044416 := by omega
  have hi : wrap64 ((i : Int) + 1) = ((i + 1 : Nat) : Int) := by rw [w64 (by omega) (by omega)]; omega
  by_cases hz : rd op (i : Int) = 2
  ·obtain ⟨ps, e1, e2, e3⟩ := ih (i + 1) (by clear hi; omega) (xs ++ [(i : Int)]) (by clear hi; simp; omega)
   refine ⟨(i : Int) :: ps, Ev.two e1 e1 fun k hk _ => ?_, Musts.yes (by clear hi; omega) hz e2, by clear hi; simp; omega⟩
   rw [items_Parts.l0, if_pos c1, if_pos c2, if_pos c3, if_pos hz, if_pos c4, hi, hk, List.append_assoc]
   rfl
  ·obtain ⟨ps, e1, e2, e3⟩ := ih (i + 1) (by clear hi; omega) xs (by clear hi; omega)
   refine ⟨ps, e1.succ fun k hk => ?_, Musts.no (by clear hi; omega) hz e2, by clear hi; omega⟩
   rw [items_Parts.l0, if_pos c1, if_pos c2, if_pos c3, if_neg hz, hi]
   exact hk
theorem part_ev {cl : List S130} {op : List Int} (P : Plain cl op) (a b : Nat) (hab : a ≤ b) (hb : b ≤ cl.length) (hm : rd op b = 2) (W tab q3 q4 : Int) (q5 : Nat) (hW : 0 ≤ W) (h : ∀ i : Nat, a < i → i < b → rd op i ≠ 2) :
  ∃ ls : List S127, Ev (fun k => lines_Part.f k cl op (a : Int) (b : Int) W tab 0 q3 q4 q5) (ls, false) ∧ ls.length ≤ b - a ∧ ∀ rest, Chain cl op W b rest → Chain cl op W a (ls ++ rest) := by
 have hs := P.small
 obtain ⟨ls, e1, e2, e3⟩ := break_ev P b hb hm W tab q3 q4 q5 hW (b - a) a hab (by omega) h [] (by simp; omega)
 refine ⟨ls, e1.map fun k hk => ?_, e2, e3⟩
 have c1 : ¬ (0 : Int) = 1 := by omega
 unfold lines_Part.f
 rw [if_neg c1]
 unfold first_Break.f
 rw [hk]
 rfl
theorem lines_ev {cl : List S130} {op : List Int} (P : Plain cl op) (W tab q3 q4 : Int) (q5 : Nat) (hW : 0 ≤ W) (ps : List Int) (hps : ps.length ≤ 100000) : ∀ (rest pre : List Int) (a : Nat) (xs : List S127), ps = pre ++ rest → a ≤ cl.length → Musts op cl.length (a + 1) rest → xs.length + (cl.length - a) ≤ 100000 →
  ∃ ls : List S127, Ev (fun k => lines_Break.l0 k xs false (a : Int) ps (ps.length : Int) (pre.length : Int) cl op W tab 0 q3 q4 q5) (xs ++ ls, false) ∧ Chain cl op W a ls
 | rest, pre, a, xs, hp, ha, hM, hx => by
  have hs := P.small
  rcases hM.first with ⟨rfl, hn⟩ | ⟨b, r, rfl, b1, b2, b3, b4, b5⟩
  ·have : a = cl.length := by
    apply Classical.byContradiction
    intro h
    exact hn cl.length (by omega) (Nat.le_refl _) P.last
   subst this
   have hp : ps = pre := by rw [hp, List.append_nil]
   subst hp
   refine ⟨[], Ev.now fun k => ?_, Chain.nil⟩
   have c1 : ¬ (ps.length : Int) < (ps.length : Int) := by omega
   rw [lines_Break.l0, if_neg c1, List.append_nil]
  ·obtain ⟨l1, e1, e2, e3⟩ := part_ev P a b (by omega) b2 b3 W tab q3 q4 q5 hW (fun i i1 i2 => b4 i (by omega) i2)
   have hpl : ps.length = pre.length + (r.length + 1) := by rw [hp]; simp
   obtain ⟨l2, f1, f2⟩ := lines_ev P W tab q3 q4 q5 hW ps hps r (pre ++ [(b : Int)]) b (xs ++ l1) (by rw [hp]; simp) b2 b5 (by simp; omega)
   refine ⟨l1 ++ l2, Ev.two e1 f1 fun k k1 k2 => ?_, e3 l2 f2⟩
   have c1 : (pre.length : Int) < (ps.length : Int) := by omega
   have c2 : (0 : Int) ≤ (pre.length : Int) := by omega
   have c3 : xs.length + l1.length < 4398046511104 := by omega
   have hr : rd ps (pre.length : Int) = (b : Int) := by
    unfold rd
    rw [hp, Int.toNat_natCast]
    simp
   have hi : wrap64 ((pre.length : Int) + 1) = ((pre ++ [(b : Int)]).length : Int) := by rw [w64 (by omega) (by omega)]; simp
   rw [lines_Break.l0, if_pos c1, if_pos c2, if_pos c1, hr, k1]
   show (if xs.length + l1.length < 4398046511104 then _ else _) = _
   rw [if_pos c3]
   show lines_Break.l0 k (xs ++ l1) false (b : Int) ps (ps.length : Int) (wrap64 ((pre.length : Int) + 1)) cl op W tab 0 q3 q4 q5 = _
   rw [hi, k2, List.append_assoc]
 termination_by rest => rest.length
theorem Chain.inside {cl : List S130} {op : List Int} {W : Int} {a : Nat} {l : List S127} (h : Chain cl op W a l) : ∀ x ∈ l, ∃ u v : Nat, x.f0 = (u : Int) ∧ x.f1 = (v : Int) ∧ u < v ∧ v ≤ cl.length := by
 induction h with
 | nil => intro x hx; cases hx
 | @cons a b e x l h1 h2 h3 h4 h5 h6 h7 h8 ih =>
  intro y hy
  rcases List.mem_cons.mp hy with rfl | hy
  ·exact ⟨a, e, h6, h7, h5.1, by have := h5.2.1; omega⟩
  ·exact ih y hy
/-- The clusters of a text each of whose signs has one byte. -/
def Bytes (cl : List S130) : Prop := ∀ i : Nat, i < cl.length → (at_ cl i).f0 = (i : Int) ∧ (at_ cl i).f1 = 1
def rowOf (x : S127) : S50 := ⟨x.f0, x.f1, x.f2, x.f3⟩
theorem rows_ev {cl : List S130} {op : List Int} (hs : cl.length ≤ 4096) (hB : Bytes cl) (ls : List S127) (hls : ls.length ≤ 100000) (hin : ∀ x ∈ ls, ∃ u v : Nat, x.f0 = (u : Int) ∧ x.f1 = (v : Int) ∧ u < v ∧ v ≤ cl.length) :
  ∀ (rest pre : List S127) (acc : List S50), ls = pre ++ rest → acc.length = pre.length → Ev (fun k => lines_Rows.l0 k acc ls (ls.length : Int) (pre.length : Int) cl op) (acc ++ rest.map rowOf)
 | [], pre, acc, hp, ha => Ev.now fun k => by
  have hp : ls = pre := by rw [hp, List.append_nil]
  subst hp
  have c1 : ¬ (ls.length : Int) < (ls.length : Int) := by omega
  rw [lines_Rows.l0, if_neg c1, List.map_nil, List.append_nil]
 | x :: rest, pre, acc, hp, ha => by
  have hpl : ls.length = pre.length + (rest.length + 1) := by rw [hp]; simp
  obtain ⟨u, v, hu, hv, huv, hvn⟩ := hin x (by rw [hp]; simp)
  have ih := rows_ev (op := op) hs hB ls hls hin rest (pre ++ [x]) (acc ++ [rowOf x]) (by rw [hp]; simp) (by simp [ha])
  refine Ev.two ih ih fun k hk _ => ?_
  have c1 : (pre.length : Int) < (ls.length : Int) := by omega
  have c2 : (0 : Int) ≤ (pre.length : Int) := by omega
  have hr : rd_T127 ls (pre.length : Int) = x := by
   unfold rd_T127
   rw [hp, Int.toNat_natCast]
   simp
  have hi : wrap64 ((pre.length : Int) + 1) = ((pre ++ [x]).length : Int) := by rw [w64 (by omega) (by omega)]; simp
  have hv1 : wrap64 ((v : Int) - 1) = ((v - 1 : Nat) : Int) := by rw [w64 (by omega) (by omega)]; omega
  have c3 : (0 : Int) ≤ ((v - 1 : Nat) : Int) := by clear hv1 hi; omega
  have c4 : ((v - 1 : Nat) : Int) < (cl.length : Int) := by clear hv1 hi; omega
  have c5 : (0 : Int) ≤ (u : Int) := by clear hv1 hi; omega
  have c6 : (u : Int) < (cl.length : Int) := by clear hv1 hi; omega
  have c7 : acc.length < 4398046511104 := by clear hv1 hi; omega
  have b1 : (rd_T130 cl (u : Int)).f0 = (u : Int) := (hB u (by clear hv1 hi; omega)).1
  have b2 : (rd_T130 cl ((v - 1 : Nat) : Int)).f0 = ((v - 1 : Nat) : Int) := (hB (v - 1) (by clear hv1 hi; omega)).1
  have b3 : (rd_T130 cl ((v - 1 : Nat) : Int)).f1 = 1 := (hB (v - 1) (by clear hv1 hi; omega)).2
  have b4 : wrap64 (((v - 1 : Nat) : Int) + 1) = (v : Int) := by clear hv1 hi; rw [w64 (by omega) (by omega)]; omega
  rw [lines_Rows.l0, if_pos c1, if_pos c2, if_pos c1, hr, hv, hu, hv1, if_pos c3, if_pos c4, if_pos c5, if_pos c6, if_pos c7, hi, b1, b2, b3, b4]
  have hx : (⟨(u : Int), (v : Int), x.f2, x.f3⟩ : S50) = rowOf x := by unfold rowOf; rw [hu, hv]
  rw [hx, hk, List.append_assoc]
  rfl
 termination_by rest => rest.length
theorem layout_ev {cl : List S130} {op : List Int} (P : Plain cl op) (h0 : 0 < cl.length → rd op 0 ≠ 2) (hB : Bytes cl) (W tab q3 q4 : Int) (q5 : Nat) (hW : 0 ≤ W) :
  ∃ (ls : List S127) (rows : List S50), Ev (fun k => lines_Break.f k cl op W tab 0 q3 q4 q5) (ls, false) ∧ Ev (fun k => lines_Rows.f k cl op ls) rows ∧ Chain cl op W 0 ls ∧ rows = if ls = [] then [⟨0, 0, 0, 2⟩] else ls.map rowOf := by
 have hs := P.small
 have hl := P.len
 obtain ⟨ps, p1, p2, p3⟩ := parts_ev hl hs (cl.length + 1) 0 (by omega) [] (by simp; omega)
 have hh : ∃ ls : List S127, Ev (fun k => lines_Break.l0 k [] false 0 ps (ps.length : Int) 0 cl op W tab 0 q3 q4 q5) (ls, false) ∧ Chain cl op W 0 ls := by
  by_cases hn : cl.length = 0
  ·rcases p2.first with ⟨_, hno⟩ | ⟨b, r, rfl, b1, b2, b3, b4, b5⟩
   ·exact absurd P.last (hno cl.length (by omega) (Nat.le_refl _))
   ·have hb : b = 0 := by omega
    subst hb
    obtain ⟨ls, e1, e2, e3⟩ := part_ev P 0 0 (Nat.le_refl _) (by omega) b3 W tab q3 q4 q5 hW (fun i i1 i2 => by omega)
    have hls : ls = [] := by
     cases ls with
     | nil => rfl
     | cons x r => simp at e2
    subst hls
    have hr : r = [] := by
     rcases b5.first with ⟨h, _⟩ | ⟨b, _, _, h1, h2, _⟩
     ·exact h
     ·omega
    subst hr
    obtain ⟨K, hK⟩ := e1
    refine ⟨[], ⟨K + 2, fun k hk => ?_⟩, by have := @Chain.nil cl op W; rw [hn] at this; exact this⟩
    obtain ⟨j, rfl⟩ : ∃ j, k = j + 1 + 1 := ⟨k - 2, by omega⟩
    have k1 : lines_Part.f (j + 1) cl op ((0 : Nat) : Int) ((0 : Nat) : Int) W tab 0 q3 q4 q5 = some ([], false) := hK (j + 1) (by omega)
    show lines_Break.l0 (j + 1 + 1) [] false ((0 : Nat) : Int) [((0 : Nat) : Int)] (1 : Int) 0 cl op W tab 0 q3 q4 q5 = _
    rw [lines_Break.l0, if_pos (by omega), if_pos (by omega), if_pos (by simp)]
    rw [show rd [((0 : Nat) : Int)] 0 = ((0 : Nat) : Int) from rfl, k1]
    show lines_Break.l0 (j + 1) [] false 0 _ 1 (wrap64 (0 + 1)) cl op W tab 0 q3 q4 q5 = _
    rw [show wrap64 (0 + 1) = 1 from w64 (by omega) (by omega), lines_Break.l0, if_neg (by omega)]
  ·have p2 : Musts op cl.length 1 ps := by
    cases p2 with
    | yes _ h => exact absurd h (h0 (by omega))
    | no _ _ h => exact h
   obtain ⟨ls, e1, e2⟩ := lines_ev P W tab q3 q4 q5 hW ps (by omega) ps [] 0 [] rfl (by omega) p2 (by simp; omega)
   exact ⟨ls, e1, e2⟩
 obtain ⟨ls, e1, e2⟩ := hh
 have hin := e2.inside
 have hlen : ls.length ≤ 100000 := by
  have : ∀ {a : Nat} {l : List S127}, Chain cl op W a l → l.length + a ≤ cl.length := by
   intro a l h
   induction h with
   | nil => simp
   | @cons a b e x l h1 h2 h3 h4 h5 h6 h7 h8 ih => have := h5.1; simp; omega
  have := this e2
  omega
 refine ⟨ls, if ls = [] then [⟨0, 0, 0, 2⟩] else ls.map rowOf, Ev.two0 p1 e1 fun k k1 k2 => ?_, ?_, e2, rfl⟩
 ·unfold lines_Break.f items_Parts.f
  rw [hl]
  have k1 : items_Parts.l0 k [] op ((cl.length + 1 : Nat) : Int) 0 = some ([] ++ ps) := k1
  rw [k1]
  exact k2
 ·by_cases hls : ls = []
  ·subst hls
   exact ⟨0, fun k _ => rfl⟩
  ·rw [if_neg hls]
   have := rows_ev hs hB ls hlen hin ls [] [] rfl rfl (op := op)
   refine this.map fun k hk => ?_
   have : ¬ (ls.length : Int) = 0 := by
    intro h
    exact hls (List.eq_nil_of_length_eq_zero (by omega))
   unfold lines_Rows.f
   rw [if_neg this]
   exact hk
/-- In a wider width there are no more rows, and none ends sooner. -/
theorem wider_ev {cl : List S130} {op : List Int} (P : Plain cl op) (h0 : 0 < cl.length → rd op 0 ≠ 2) (hB : Bytes cl) (W W' tab q3 q4 : Int) (q5 : Nat) (hW : 0 ≤ W) (hWW : W ≤ W') :
  ∃ (ls ls' : List S127) (rows rows' : List S50) (k : Nat), lines_Break.f k cl op W tab 0 q3 q4 q5 = some (ls, false) ∧ lines_Rows.f k cl op ls = some rows ∧ lines_Break.f k cl op W' tab 0 q3 q4 q5 = some (ls', false) ∧ lines_Rows.f k cl op ls' = some rows' ∧
   rows'.length ≤ rows.length ∧ rows.length ≤ 5000 ∧ ∀ i : Nat, i < rows'.length → (rd_T50 rows i).f1 ≤ (rd_T50 rows' i).f1 := by
 have hs := P.small
 obtain ⟨ls, rows, ⟨K1, h1⟩, ⟨K2, h2⟩, h3, h4⟩ := layout_ev P h0 hB W tab q3 q4 q5 hW
 obtain ⟨ls', rows', ⟨K3, g1⟩, ⟨K4, g2⟩, g3, g4⟩ := layout_ev P h0 hB W' tab q3 q4 q5 (by omega)
 refine ⟨ls, ls', rows, rows', K1 + K2 + K3 + K4, h1 _ (by omega), h2 _ (by omega), g1 _ (by omega), g2 _ (by omega), ?_⟩
 obtain ⟨w1, w2⟩ := Chain.wider P hWW g3 (Nat.le_refl 0) h3
 have hlen : ∀ {a : Nat} {l : List S127}, Chain cl op W a l → l.length + a ≤ cl.length := by
  intro a l h
  induction h with
  | nil => simp
  | @cons a b e x l h1 h2 h3 h4 h5 h6 h7 h8 ih => have := h5.1; simp; omega
 have hl := hlen h3
 have he : ls = [] ↔ ls' = [] := by
  constructor
  ·rintro rfl
   exact List.eq_nil_of_length_eq_zero (Nat.le_zero.mp w1)
  ·rintro rfl
   generalize hz : (0 : Nat) = z at h3 g3
   cases g3 with
   | nil =>
    cases h3 with
    | nil => rfl
    | cons k1 k2 => omega
 by_cases hz : ls = []
 ·have hz' := he.mp hz
  rw [if_pos hz] at h4
  rw [if_pos hz'] at g4
  subst h4
  subst g4
  exact ⟨Nat.le_refl _, by simp, fun i hi => Int.le_refl _⟩
 ·have hz' : ¬ ls' = [] := fun h => hz (he.mpr h)
  rw [if_neg hz] at h4
  rw [if_neg hz'] at g4
  subst h4
  subst g4
  refine ⟨by simpa using w1, by simp; omega, fun i hi => ?_⟩
  have hi' : i < ls'.length := by simpa using hi
  have hi2 : i < ls.length := by omega
  have := w2 i (ls[i]) (ls'[i]) (List.getElem?_eq_getElem hi2) (List.getElem?_eq_getElem hi')
  unfold rd_T50
  rw [Int.toNat_natCast, List.getD_eq_getElem?_getD, List.getD_eq_getElem?_getD, List.getElem?_map, List.getElem?_map, List.getElem?_eq_getElem hi2, List.getElem?_eq_getElem hi']
  exact this
end Go.Proofs.YtkeccgkicffieaaGreatDoor.PTopWider
