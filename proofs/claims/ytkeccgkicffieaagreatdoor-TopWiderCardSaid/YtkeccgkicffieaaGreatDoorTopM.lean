/- What seg.Run computes, in Lean; auto.Run and slices.Reverse in closed form; seg.Classes. Conditions: the machine's tables are good (Mach.Good). -/
import Derived.Test.YtkeccgkicffieaaGreatDoorTopG
import Derived.Test.YtkeccgkicffieaaGreatDoorTopH
import Derived.Test.YtkeccgkicffieaaGreatDoorTopT
namespace Go.Proofs.YtkeccgkicffieaaGreatDoor.PTopWider
open Go.RowKit Go.Proofs.YtkeccgkicffieaaGreatDoorW.PrintWords Go.Proofs.YtkeccgkicffieaaGreatDoorW.PrintLast Go.Proofs.YtkeccgkicffieaaGreatDoorW.PrintMore
set_option linter.unusedVariables false
set_option linter.unusedSimpArgs false
/-- A machine's tables: how many classes, as what each is taken, what each rule does, the two automata. -/
structure Mach where
 n : Nat
 treat : List Int
 does : List Int
 ln : List (List Int)
 lo : List Int
 rn : List (List Int)
 ro : List Int
/-- An automaton that is whole: its states' rows have n places each, all lead to states; what ends there is below 16. -/
structure GoodAuto (n : Nat) (next : List (List Int)) (out : List Int) : Prop where
 pos : 0 < next.length
 len : next.length = out.length
 row : ∀ s ∈ next, s.length = n ∧ ∀ t ∈ s, 0 ≤ t ∧ t < (next.length : Int)
 low : ∀ o ∈ out, 0 ≤ o ∧ o < 16
structure Mach.Good (M : Mach) : Prop where
 pos : 0 < M.n
 big : M.n ≤ 32
 tlen : M.treat.length = M.n
 treat : ∀ t ∈ M.treat, 0 ≤ t ∧ t < (M.n : Int)
 left : GoodAuto M.n M.ln M.lo
 right : GoodAuto M.n M.rn M.ro
 does : M.does.length = 4 ∨ ∀ o ∈ M.lo, o < 2 ^ M.does.length
/-- The states behind each of some classes, the first one ahead of all. -/
def runs (next : List (List Int)) : Int → List Int → List Int
 | s, [] => [s]
 | s, c :: r => s :: runs next (rd (rd_L4 next s) c) r
theorem runs_length (next : List (List Int)) : ∀ (l : List Int) (s : Int), (runs next s l).length = l.length + 1
 | [], _ => rfl
 | c :: r, s => by simp [runs, runs_length next r]
theorem getD_mem {α : Type} (l : List α) (i : Nat) (d : α) (h : i < l.length) : l.getD i d ∈ l := by
 rw [List.getD_eq_getElem?_getD, List.getElem?_eq_getElem h]
 exact List.getElem_mem h
theorem runs_next {n : Nat} {next : List (List Int)} {out : List Int} (hg : GoodAuto n next out) (s c : Int) (h0 : 0 ≤ s) (h1 : s < next.length) (c0 : 0 ≤ c) (c1 : c < n) :
  ((rd_L4 next s).length : Int) = n ∧ 0 ≤ rd (rd_L4 next s) c ∧ rd (rd_L4 next s) c < next.length := by
 obtain ⟨hl, ht⟩ := hg.row (rd_L4 next s) (getD_mem _ _ _ (by omega))
 have := ht (rd (rd_L4 next s) c) (getD_mem _ _ _ (by omega))
 exact ⟨by omega, this⟩
theorem runs_in {n : Nat} {next : List (List Int)} {out : List Int} (hg : GoodAuto n next out) : ∀ (l : List Int) (s : Int), 0 ≤ s → s < next.length → (∀ c ∈ l, 0 ≤ c ∧ c < (n : Int)) → ∀ t ∈ runs next s l, 0 ≤ t ∧ t < (next.length : Int)
 | [], s, h0, h1, _, t, ht => by
  simp [runs] at ht
  subst ht
  exact ⟨h0, h1⟩
 | c :: r, s, h0, h1, hl, t, ht => by
  simp only [runs, List.mem_cons] at ht
  have hc := hl c (by simp)
  obtain ⟨_, a, b⟩ := runs_next hg s c h0 h1 hc.1 hc.2
  rcases ht with rfl | ht
  ·exact ⟨h0, h1⟩
  ·exact runs_in hg r _ a b (fun x hx => hl x (by simp [hx])) t ht
theorem wrap_up (i n : Nat) (h : i < n) (hn : n ≤ 1000000) : wrap64 ((i : Int) + 1) = ((i + 1 : Nat) : Int) := by unfold wrap64; omega
theorem run_l0 {n : Nat} {next : List (List Int)} {out : List Int} (hg : GoodAuto n next out) (l : List Int) (hl : ∀ c ∈ l, 0 ≤ c ∧ c < (n : Int)) (hL : l.length ≤ 1000000) (m : Nat) :
  ∀ (k i : Nat) (s : Int) (acc : List Int), l.length - i = m → i ≤ l.length → m < k → 0 ≤ s → s < next.length → acc.length ≤ i + 1 →
   auto_Run.l0 k acc s l (l.length : Int) (i : Int) next out = some (acc ++ (runs next s (l.drop i)).tail) := by
 induction m with
 | zero =>
  intro k i s acc hm hi hk h0 h1 ha
  obtain ⟨k, rfl⟩ : ∃ k', k = k' + 1 := ⟨k - 1, by omega⟩
  unfold auto_Run.l0
  rw [if_neg (by omega), List.drop_of_length_le (by omega)]
  simp [runs]
 | succ m ih =>
  intro k i s acc hm hi hk h0 h1 ha
  obtain ⟨k, rfl⟩ : ∃ k', k = k' + 1 := ⟨k - 1, by omega⟩
  have hil : i < l.length := by omega
  have g1 : l.length - (i + 1) = m := by omega
  have g3 : m < k := by omega
  have g4 : acc.length + 1 ≤ i + 1 + 1 := by omega
  have f6 : acc.length ≤ 1000001 := by omega
  have hc := hl (rd l i) (getD_mem _ _ _ (by simpa using hil))
  obtain ⟨e, a, b⟩ := runs_next hg s (rd l i) h0 h1 hc.1 hc.2
  have f1 : (i : Int) < (l.length : Int) := Int.ofNat_lt.mpr hil
  have f2 : (0 : Int) ≤ (i : Int) := Int.natCast_nonneg i
  have f3 : ¬ rd l i < 0 := Int.not_lt.mpr hc.1
  have f4 : ¬ rd l i ≥ (n : Int) := Int.not_le.mpr hc.2
  have f5 : acc.length < 17592186044416 := Nat.lt_of_le_of_lt f6 (of_decide_eq_true rfl)
  have hw : wrap64 ((i : Int) + 1) = ((i + 1 : Nat) : Int) := wrap_up i l.length hil hL
  have hd : l.drop i = rd l i :: l.drop (i + 1) := by
   rw [List.drop_eq_getElem_cons hil]
   simp [rd, List.getD_eq_getElem?_getD, List.getElem?_eq_getElem hil]
  have ht : (runs next s (l.drop i)).tail = rd (rd_L4 next s) (rd l i) :: (runs next (rd (rd_L4 next s) (rd l i)) (l.drop (i + 1))).tail := by
   rw [hd]
   simp only [runs, List.tail_cons]
   cases l.drop (i + 1) <;> simp [runs]
  have := ih k (i + 1) (rd (rd_L4 next s) (rd l i)) (acc ++ [rd (rd_L4 next s) (rd l i)]) g1 hil g3 a b (by rw [List.length_append]; exact g4)
  rw [ht]
  unfold auto_Run.l0
  rw [if_pos f1, if_pos f2, if_pos f1, if_neg f3, if_pos h0, if_pos h1, e, if_neg f4, if_pos hc.1, if_pos hc.2, if_pos f5, hw, this]
  simp
theorem run_f {n : Nat} {next : List (List Int)} {out : List Int} (hg : GoodAuto n next out) (l : List Int) (hl : ∀ c ∈ l, 0 ≤ c ∧ c < (n : Int)) (hL : l.length ≤ 1000000) : auto_Run.f (l.length + 1) next out l = some (runs next 0 l) := by
 unfold auto_Run.f
 have hp := hg.pos
 rw [if_neg (by omega)]
 have := run_l0 hg l hl hL l.length (l.length + 1) 0 0 [0] (by omega) (by omega) (by omega) (by omega) (by omega) (by simp)
 rw [show ((0 : Nat) : Int) = 0 from rfl] at this
 rw [this]
 simp only [List.drop_zero]
 cases l <;> simp [runs]
theorem getD_set (l : List Int) (a p : Nat) (v : Int) (ha : a < l.length) : (l.set a v).getD p 0 = if p = a then v else l.getD p 0 := by
 rw [List.getD_eq_getElem?_getD, List.getElem?_set]
 by_cases h : a = p
 ·subst h
  simp [ha]
 ·rw [if_neg h, if_neg (fun q => h q.symm), List.getD_eq_getElem?_getD]
theorem rev_eq (l x : List Int) (hx : x.length = l.length) (h : ∀ p, p < l.length → x.getD p 0 = l.getD (l.length - 1 - p) 0) : x = l.reverse := by
 apply List.ext_getElem
 ·simp [hx]
 ·intro p h1 h2
  have := h p (by omega)
  rw [List.getD_eq_getElem?_getD, List.getD_eq_getElem?_getD, List.getElem?_eq_getElem h1, List.getElem?_eq_getElem (by omega)] at this
  rw [List.getElem_reverse]
  exact this
theorem rev_l0 (l : List Int) (hL : l.length ≤ 1000000) (m : Nat) : ∀ (k i : Nat) (x : List Int), l.length - i ≤ m → m < k → i ≤ l.length → x.length = l.length →
  (∀ p, p < l.length → x.getD p 0 = if p < i ∨ l.length - 1 - p < i then l.getD (l.length - 1 - p) 0 else l.getD p 0) →
  slices_Reverse_int_int.l0 k x (i : Int) ((l.length : Int) - 1 - i) = some l.reverse := by
 induction m with
 | zero =>
  intro k i x hm hk hi hx hp
  obtain ⟨k, rfl⟩ : ∃ k', k = k' + 1 := ⟨k - 1, by omega⟩
  have hq : ¬ (i : Int) < (l.length : Int) - 1 - i := by omega
  unfold slices_Reverse_int_int.l0
  rw [if_neg hq]
  refine congrArg some (rev_eq l x hx (fun p h => ?_))
  rw [hp p h, if_pos (by omega)]
 | succ m ih =>
  intro k i x hm hk hi hx hp
  obtain ⟨k, rfl⟩ : ∃ k', k = k' + 1 := ⟨k - 1, by omega⟩
  by_cases hq : (i : Int) < (l.length : Int) - 1 - i
  ·have hj : ((l.length : Int) - 1 - i).toNat = l.length - 1 - i := by omega
   have f1 : (0 : Int) ≤ (l.length : Int) - 1 - i := by omega
   have f2 : (l.length : Int) - 1 - i < (x.length : Int) := by omega
   have f3 : (0 : Int) ≤ (i : Int) := by omega
   have f4 : (i : Int) < (x.length : Int) := by omega
   have f5 : wrap64 ((i : Int) + 1) = ((i + 1 : Nat) : Int) := wrap_up i l.length (by omega) hL
   have f6 : wrap64 ((l.length : Int) - 1 - i - 1) = (l.length : Int) - 1 - ((i + 1 : Nat) : Int) := by unfold wrap64; omega
   have e1 := hp i (by omega)
   have e2 := hp (l.length - 1 - i) (by omega)
   rw [if_neg (by omega)] at e1
   rw [if_neg (by omega)] at e2
   unfold slices_Reverse_int_int.l0
   rw [if_pos hq, if_pos f1, if_pos f2, if_pos f3, if_pos f4, f5, f6]
   refine ih k (i + 1) _ (by omega) (by omega) (by omega) (by simp [hx]) (fun p h => ?_)
   have r1 : rd x ((l.length : Int) - 1 - i) = l.getD (l.length - 1 - i) 0 := by unfold rd; rw [hj, e2]
   have r2 : rd x (i : Int) = l.getD i 0 := by unfold rd; rw [Int.toNat_natCast, e1]
   rw [hj, Int.toNat_natCast, r1, r2, getD_set _ _ _ _ (by rw [List.length_set]; omega), getD_set _ _ _ _ (by omega), hp p h]
   clear r1 r2 e1 e2 f1 f2 f3 f4 f5 f6 ih hp
   by_cases h1 : p = l.length - 1 - i
   ·rw [if_pos h1, if_pos (by omega), h1, show l.length - 1 - (l.length - 1 - i) = i by omega]
   ·rw [if_neg h1]
    by_cases h2 : p = i
    ·rw [if_pos h2, if_pos (by omega), h2]
    ·rw [if_neg h2]
     by_cases h3 : p < i ∨ l.length - 1 - p < i
     ·rw [if_pos h3, if_pos (by omega)]
     ·rw [if_neg h3, if_neg (by omega)]
  ·unfold slices_Reverse_int_int.l0
   rw [if_neg hq]
   refine congrArg some (rev_eq l x hx (fun p h => ?_))
   rw [hp p h]
   by_cases h3 : p < i ∨ l.length - 1 - p < i
   ·rw [if_pos h3]
   ·rw [if_neg h3]
    congr 1
    omega
theorem rev_f (l : List Int) (hL : l.length ≤ 1000000) : slices_Reverse_int_int.f (l.length + 1) l = some l.reverse := by
 unfold slices_Reverse_int_int.f
 have f6 : wrap64 ((l.length : Int) - 1) = (l.length : Int) - 1 - ((0 : Nat) : Int) := by unfold wrap64; omega
 rw [f6]
 exact rev_l0 l hL l.length (l.length + 1) 0 l (by omega) (by omega) (by omega) rfl (fun p h => by rw [if_neg (by omega)])
/-- An automaton in two cells of a block. -/
def IsAuto (w : World) (g o : Nat) (next : List (List Int)) (out : List Int) : Prop :=
 ∃ (A : Option Addr) (c : Nat) (B : Option Addr) (d : Nat), w.cell? ⟨g, o, none⟩ = some (.slice A next.length c) ∧ next.length ≤ c ∧ Kd.C (Kd.slice 3 (Kd.int .i64)) w A next.length next ∧
  w.cell? ⟨g, o + 1, none⟩ = some (.slice B out.length d) ∧ out.length ≤ d ∧ Kd.C (Kd.int .u32) w B out.length out
theorem IsAuto.on {w w1 : World} {g o : Nat} {next : List (List Int)} {out : List Int} (h : IsAuto w g o next out) (hb : Below w.heap.size w w1) : IsAuto w1 g o next out := by
 obtain ⟨A, c, B, d, h1, h2, h3, h4, h5, h6⟩ := h
 exact ⟨A, c, B, d, pw_cell_below hb h1, h2, Kd.C_below h3 hb, pw_cell_below hb h4, h5, Kd.C_below h6 hb⟩
/-- A machine in memory: no class joins. -/
def IsMach (w : World) (g : Nat) (M : Mach) : Prop :=
 (∃ (A : Option Addr) (c : Nat), w.cell? ⟨g, 0, none⟩ = some (.slice A M.n c)) ∧ w.cell? ⟨g, 1, none⟩ = some (.int .u32 0) ∧ w.cell? ⟨g, 2, none⟩ = some (.int .u32 0) ∧
 (∃ (A : Option Addr) (c : Nat), w.cell? ⟨g, 3, none⟩ = some (.slice A M.treat.length c) ∧ M.treat.length ≤ c ∧ Kd.C (Kd.int .i64) w A M.treat.length M.treat) ∧
 (∃ (A : Option Addr) (c : Nat), w.cell? ⟨g, 4, none⟩ = some (.slice A M.does.length c) ∧ ∀ i : Int, 0 ≤ i → i < M.does.length → ∃ ad, A = some ad ∧ w.cell? (ad.add (i.toNat * 7)) = some (.int .u8 (rd M.does i))) ∧
 IsAuto w g 5 M.ln M.lo ∧ IsAuto w g 7 M.rn M.ro
theorem IsMach.on {w w1 : World} {g : Nat} {M : Mach} (h : IsMach w g M) (hb : Below w.heap.size w w1) : IsMach w1 g M := by
 obtain ⟨⟨A, c, h1⟩, h2, h3, ⟨B, d, h4, h5, h6⟩, ⟨D, f, h7, h8⟩, h9, h10⟩ := h
 refine ⟨⟨A, c, pw_cell_below hb h1⟩, pw_cell_below hb h2, pw_cell_below hb h3, ⟨B, d, pw_cell_below hb h4, h5, Kd.C_below h6 hb⟩, ⟨D, f, pw_cell_below hb h7, fun i i0 i1 => ?_⟩, h9.on hb, h10.on hb⟩
 obtain ⟨ad, e, h⟩ := h8 i i0 i1
 exact ⟨ad, e, pw_cell_below hb h⟩
set_option maxHeartbeats 4000000 in
set_option maxRecDepth 100000 in
theorem classes_calls (g : Nat) (M : Mach) (w : World) (hM : IsMach w g M) :
  Calls Tryz.prog 12 #[.pointer (some ⟨g, 0, none⟩)] w fun e w' => e = .returned (.int .i64 (M.n : Int)) ∧ Below w.heap.size w w' := by
 obtain ⟨⟨A, c, h1⟩, _⟩ := hM
 go_enter Tryz.func12, Tryz.ntmps12
 go_wp2
 go_ret
 exact ⟨rfl, Below.refl _ _⟩
/-- As what each class is taken. -/
def Mach.seq (M : Mach) (l : List Int) : List Int := l.map (rd M.treat)
/-- What Run answers at each boundary. -/
def Mach.opp (M : Mach) (l : List Int) (k : Int) : Int :=
 let both := Go.bits .and .u32 (rd M.lo (rd (runs M.ln 0 (M.seq l)) k)) (rd M.ro (rd (runs M.rn 0 (M.seq l).reverse) (l.length - k)))
 if both = 0 then 1 else rd M.does (tzOf both)
/-- The row as it stands when the boundaries ahead of j are told. -/
def Mach.outAt (M : Mach) (l : List Int) (j : Int) : List Int :=
 (List.range (l.length + 1)).map (fun (p : Nat) => if p = l.length then (2 : Int) else if 1 ≤ p ∧ (p : Int) < j then M.opp l p else 0)
def Mach.out (M : Mach) (l : List Int) : List Int := M.outAt l l.length
theorem outAt_length (M : Mach) (l : List Int) (j : Int) : (M.outAt l j).length = l.length + 1 := by simp [Mach.outAt]
theorem outAt_get (M : Mach) (l : List Int) (j : Int) (p : Nat) (hp : p < l.length + 1) : (M.outAt l j)[p]? = some (if p = l.length then (2 : Int) else if 1 ≤ p ∧ (p : Int) < j then M.opp l p else 0) := by
 simp [Mach.outAt, hp]
theorem outAt_first (M : Mach) (l : List Int) : (List.replicate (l.length + 1) (0 : Int)).set l.length 2 = M.outAt l 1 := by
 apply List.ext_getElem?
 intro p
 rw [List.getElem?_set]
 by_cases hp : p < l.length + 1
 ·rw [outAt_get M l 1 p hp]
  by_cases h : l.length = p
  ·rw [if_pos h, if_pos (by simp), if_pos h.symm]
  ·rw [if_neg h, if_neg (fun q => h q.symm), if_neg (by omega), List.getElem?_replicate, if_pos hp]
 ·rw [if_neg (by omega), List.getElem?_eq_none (by simp; omega), List.getElem?_eq_none (by rw [outAt_length]; omega)]
theorem outAt_next (M : Mach) (l : List Int) (j v : Int) (h0 : 1 ≤ j) (h1 : j < l.length) (hv : v = M.opp l j) : (M.outAt l j).set j.toNat v = M.outAt l (j + 1) := by
 subst hv
 apply List.ext_getElem?
 intro p
 rw [List.getElem?_set]
 by_cases hp : p < l.length + 1
 ·rw [outAt_get M l _ p hp, outAt_get M l _ p hp]
  by_cases h : j.toNat = p
  ·have e : (p : Int) = j := by omega
   rw [if_pos h, outAt_length, if_pos (by omega), if_neg (by omega), if_pos (by omega), e]
  ·rw [if_neg h]
   by_cases h2 : p = l.length
   ·rw [if_pos h2, if_pos h2]
   ·rw [if_neg h2, if_neg h2]
    by_cases h3 : 1 ≤ p ∧ (p : Int) < j
    ·rw [if_pos h3, if_pos (by omega)]
    ·rw [if_neg h3, if_neg (by omega)]
 ·rw [List.getElem?_eq_none (by rw [outAt_length]; omega), List.getElem?_eq_none (by rw [outAt_length]; omega), if_neg (by omega)]
theorem outAt_last (M : Mach) (l : List Int) (j : Int) (h : (l.length : Int) ≤ j) : M.outAt l j = M.out l := by
 apply List.ext_getElem?
 intro p
 unfold Mach.out
 by_cases hp : p < l.length + 1
 ·rw [outAt_get M l _ p hp, outAt_get M l _ p hp]
  by_cases h2 : p = l.length
  ·rw [if_pos h2, if_pos h2]
  ·rw [if_neg h2, if_neg h2]
   by_cases h3 : 1 ≤ p
   ·rw [if_pos (by omega), if_pos (by omega)]
   ·rw [if_neg (by omega), if_neg (by omega)]
 ·rw [List.getElem?_eq_none (by rw [outAt_length]; omega), List.getElem?_eq_none (by rw [outAt_length]; omega)]
theorem seq_in {M : Mach} (hM : M.Good) (l : List Int) (hl : ∀ c ∈ l, 0 ≤ c ∧ c < (M.n : Int)) : ∀ c ∈ M.seq l, 0 ≤ c ∧ c < (M.n : Int) := by
 intro c hc
 obtain ⟨x, hx, rfl⟩ := List.mem_map.1 hc
 have ht := hM.tlen
 have h2 := hl x hx
 exact hM.treat _ (getD_mem _ _ _ (by omega))
end Go.Proofs.YtkeccgkicffieaaGreatDoor.PTopWider
