/- What stands of a text of letters and spaces: its signs, its clusters, what may be done between them. Conditions: its bytes are those of the signs. -/
import Derived.Test.YtkeccgkicffieaaGreatDoorTopPE
import Derived.Test.YtkeccgkicffieaaGreatDoorTopPA
namespace Go.Proofs.YtkeccgkicffieaaGreatDoor.PTopWider
open Go.RowKit Go.Proofs.YtkeccgkicffieaaGreatDoorW.PrintWords Go.Proofs.YtkeccgkicffieaaGreatDoorW.PrintLast Go.Proofs.YtkeccgkicffieaaGreatDoorW.PrintMore
set_option linter.unusedVariables false
set_option linter.unusedSimpArgs false
def sgT : ByteArray := ⟨#[97, 98, 99, 97, 98, 99, 32, 32]⟩
/-- A letter or a space. -/
def Abc (x : Int) : Prop := x = 97 ∨ x = 98 ∨ x = 99 ∨ x = 32
theorem bt_abc (x : Int) (h0 : 0 ≤ x) (h1 : x < 8) : Abc (bt sgT x) := by
 have : x = 0 ∨ x = 1 ∨ x = 2 ∨ x = 3 ∨ x = 4 ∨ x = 5 ∨ x = 6 ∨ x = 7 := by omega
 unfold Abc
 rcases this with rfl | rfl | rfl | rfl | rfl | rfl | rfl | rfl <;> decide
theorem letters_ev (small : List Int) (hs : ∀ x ∈ small, 0 ≤ x ∧ x < 256) (hn : small.length ≤ 200) : ∀ (rest pre acc : List Int), small = pre ++ rest → acc.length = pre.length → (∀ x ∈ acc, Abc x) →
  ∃ text : List Int, Ev (fun k => stanzatop_letters.l0 k sgT acc small (small.length : Int) (pre.length : Int)) text ∧ text.length = small.length ∧ ∀ x ∈ text, Abc x
 | [], pre, acc, hp, ha, hA => by
  have hp : small = pre := by rw [hp, List.append_nil]
  subst hp
  refine ⟨acc, Ev.now fun k => ?_, ha, hA⟩
  have c1 : ¬ (small.length : Int) < (small.length : Int) := by omega
  rw [stanzatop_letters.l0, if_neg c1]
 | x :: rest, pre, acc, hp, ha, hA => by
  have hpl : small.length = pre.length + (rest.length + 1) := by rw [hp]; simp
  obtain ⟨x0, x1⟩ := hs x (by rw [hp]; simp)
  have t0 : 0 ≤ Int.tmod x 8 ∧ Int.tmod x 8 < 8 := by rw [Int.tmod_eq_emod_of_nonneg x0]; omega
  obtain ⟨text, e1, e2, e3⟩ := letters_ev small hs hn rest (pre ++ [x]) (acc ++ [bt sgT (Int.tmod x 8)]) (by rw [hp]; simp) (by simp [ha]) (fun y hy => by
   rcases List.mem_append.mp hy with hy | hy
   ·exact hA y hy
   ·rw [List.mem_singleton.mp hy]; exact bt_abc _ t0.1 t0.2)
  refine ⟨text, e1.succ fun k hk => ?_, e2, e3⟩
  have hr : rd small (pre.length : Int) = x := by
   unfold rd
   rw [hp, Int.toNat_natCast]
   simp
  have c1 : (pre.length : Int) < (small.length : Int) := by omega
  have c2 : (0 : Int) ≤ (pre.length : Int) := by omega
  have c3 : ¬ (sgT.size : Int) = 0 := by decide
  have c4 : 0 ≤ Int.tmod x (sgT.size : Int) := t0.1
  have c5 : Int.tmod x (sgT.size : Int) < (sgT.size : Int) := t0.2
  have c6 : acc.length < 140737488355328 := by omega
  have hi : wrap64 ((pre.length : Int) + 1) = ((pre ++ [x]).length : Int) := by rw [w64 (by omega) (by omega)]; simp
  have hx : wrap64 x = x := by clear hi; exact w64 (by omega) (by omega)
  rw [stanzatop_letters.l0, if_pos c1, if_pos c2, if_pos c1, if_neg c3, hr, hx, if_pos c4, if_pos c5, if_pos c6, hi]
  exact hk
 termination_by rest => rest.length
theorem letters_text (small : List Int) (hs : ∀ x ∈ small, 0 ≤ x ∧ x < 256) (hn : small.length ≤ 200) : ∃ (text : List Int) (k : Nat), stanzatop_letters.f k small sgT = some text ∧ text.length = small.length ∧ ∀ x ∈ text, Abc x := by
 obtain ⟨text, ⟨K, e1⟩, e2, e3⟩ := letters_ev small hs hn small [] [] rfl rfl (fun x hx => by cases hx)
 exact ⟨text, K, e1 K (Nat.le_refl _), e2, e3⟩
/-- The signs of one byte each, from i on. -/
def sg : Nat → List Int → List S149
 | _, [] => []
 | i, x :: r => ⟨x, (i : Int), 1⟩ :: sg (i + 1) r
theorem sg_length : ∀ (l : List Int) (i : Nat), (sg i l).length = l.length
 | [], _ => rfl
 | x :: r, i => by simp [sg, sg_length r]
theorem sg_get : ∀ (l : List Int) (i j : Nat) (h : j < l.length), (sg i l)[j]? = some ⟨l[j], ((i + j : Nat) : Int), 1⟩
 | x :: r, i, 0, h => rfl
 | x :: r, i, j + 1, h => by
  have := sg_get r (i + 1) j (by simpa using h)
  rw [show i + 1 + j = i + (j + 1) by omega] at this
  simpa [sg] using this
theorem sg_mem : ∀ (l : List Int) (i : Nat) (s : S149), s ∈ sg i l → s.f0 ∈ l ∧ s.f2 = 1
 | [], i, s, h => by simp [sg] at h
 | x :: r, i, s, h => by
  rcases List.mem_cons.mp h with rfl | h
  ·exact ⟨List.mem_cons_self, rfl⟩
  ·exact ⟨List.mem_cons_of_mem _ (sg_mem r _ s h).1, (sg_mem r _ s h).2⟩
theorem Abc.low {x : Int} (h : Abc x) : 0 ≤ x ∧ x < 128 := by unfold Abc at h; omega
theorem one_byte (text : List Int) (i : Nat) (hi : i < text.length) (hl : text.length ≤ 200) (h : Abc (rd text (i : Int))) (k : Nat) : scal_One.f (k + 1) text (i : Int) = some (rd text (i : Int), (i : Int), 1) := by
 have hx := h.low
 have c0 : ¬ (i : Int) < 0 := by omega
 have c1 : decide ((i : Int) ≥ (text.length : Int)) = false := by simp; omega
 have c2 : (0 : Int) ≤ (i : Int) := by omega
 have c3 : (i : Int) < (text.length : Int) := by omega
 have hn : scal_need.f k (rd text (i : Int)) = some (1, 0, 0) := by
  unfold scal_need.f
  rw [if_pos hx.2]
 have hw : wrap32 (rd text (i : Int)) = rd text (i : Int) := by
  generalize rd text (i : Int) = x at hx
  unfold wrap32
  omega
 unfold scal_One.f
 rw [if_neg c0, c1, scal_One.j0, if_neg (by decide), if_pos c2, if_pos c3, hn]
 show some (wrap32 (rd text (i : Int)), (i : Int), (1 : Int)) = _
 rw [hw]
theorem all_ev (text : List Int) (hl : text.length ≤ 200) (hA : ∀ x ∈ text, Abc x) : ∀ (rest pre : List Int) (acc : List S149), text = pre ++ rest → acc.length = pre.length → Ev (fun k => scal_All.l0 k text acc (pre.length : Int)) (acc ++ sg pre.length rest)
 | [], pre, acc, hp, ha => Ev.now fun k => by
  have hp : text = pre := by rw [hp, List.append_nil]
  subst hp
  have c1 : ¬ (text.length : Int) < (text.length : Int) := by omega
  rw [scal_All.l0, if_neg c1, sg, List.append_nil]
 | x :: rest, pre, acc, hp, ha => by
  have hpl : text.length = pre.length + (rest.length + 1) := by rw [hp]; simp
  have hr : rd text (pre.length : Int) = x := by
   unfold rd
   rw [hp, Int.toNat_natCast]
   simp
  have ih := all_ev text hl hA rest (pre ++ [x]) (acc ++ [⟨x, (pre.length : Int), 1⟩]) (by rw [hp]; simp) (by simp [ha])
  obtain ⟨K, hK⟩ := ih
  refine ⟨K + 2, fun k hk => ?_⟩
  obtain ⟨j, rfl⟩ : ∃ j, k = j + 1 + 1 := ⟨k - 2, by omega⟩
  have h1 := one_byte text pre.length (by omega) hl (by rw [hr]; exact hA x (by rw [hp]; simp)) j
  have c1 : (pre.length : Int) < (text.length : Int) := by omega
  have c2 : acc.length < 5864062014805 := by omega
  have hi : wrap64 ((pre.length : Int) + 1) = ((pre ++ [x]).length : Int) := by rw [w64 (by omega) (by omega)]; simp
  have h2 : scal_All.l0 (j + 1) text (acc ++ [⟨x, (pre.length : Int), 1⟩]) ((pre ++ [x]).length : Int) = some (acc ++ [⟨x, (pre.length : Int), 1⟩] ++ sg (pre ++ [x]).length rest) := hK (j + 1) (by omega)
  show scal_All.l0 (j + 1 + 1) text acc (pre.length : Int) = _
  rw [scal_All.l0, if_pos c1, h1, hr]
  show (if acc.length < 5864062014805 then scal_All.l0 (j + 1) text (acc ++ [⟨x, (pre.length : Int), 1⟩]) (wrap64 ((pre.length : Int) + 1)) else none) = _
  rw [if_pos c2, hi, h2, List.append_assoc]
  simp [sg]
 termination_by rest => rest.length
theorem all_text (text : List Int) (hl : text.length ≤ 200) (hA : ∀ x ∈ text, Abc x) : ∃ k, scal_All.f k text = some (sg 0 text) := by
 obtain ⟨K, h⟩ := all_ev text hl hA text [] [] rfl rfl
 exact ⟨K, h K (Nat.le_refl _)⟩
theorem opp_M (l : List Int) (k : Int) : machM.opp l k ≠ 0 := by
 have lo : ∀ s : Int, rd machM.lo s = 0 ∨ rd machM.lo s = 1 := fun s => by
  unfold rd
  generalize s.toNat = n
  match n with
  | 0 => exact Or.inl rfl
  | 1 => exact Or.inr rfl
  | n + 2 => exact Or.inl rfl
 have ro : ∀ s : Int, rd machM.ro s = 0 ∨ rd machM.ro s = 1 := lo
 unfold Mach.opp
 generalize rd (runs machM.ln 0 (machM.seq l)) k = s
 generalize rd (runs machM.rn 0 (machM.seq l).reverse) (l.length - k) = t
 rcases lo s with h | h <;> rcases ro t with h' | h' <;> rw [h, h'] <;> decide
theorem opp_P (l : List Int) (k : Int) : machP.opp l k ≠ 3 := by
 have d : ∀ s : Int, rd machP.does s ≠ 3 := fun s => by
  unfold rd
  generalize s.toNat = n
  match n with
  | 0 => decide
  | 1 => decide
  | 2 => decide
  | 3 => decide
  | n + 4 => intro h; cases h
 unfold Mach.opp
 simp only
 split
 ·decide
 ·exact d _
set_option maxRecDepth 100000
theorem tabs_abc {x : Int} (h : Abc x) : tabOf (tabF zs256) x = 0 ∧ 0 ≤ tabOf (tabF xsB) x ∧ tabOf (tabF xsB) x < 3 ∧ 0 ≤ widOf (tabF xsC) x ∧ widOf (tabF xsC) x ≤ 2 ∧ kindOf x ≠ 2 := by
 rcases h with rfl | rfl | rfl | rfl <;> decide
theorem fits_text (text : List Int) (hl : text.length ≤ 200) (hA : ∀ x ∈ text, Abc x) : Fits machM machP (tabF zs256) (tabF xsB) (sg 0 text) := by
 refine ⟨by rw [sg_length]; omega, fun s hs => ?_, fun q hq => ?_, fun q hq => ?_, fun i h0 h1 => ?_⟩
 ·have := (sg_mem _ _ _ hs).2
  omega
 ·obtain ⟨s, hs, rfl⟩ := List.mem_map.mp hq
  have := (tabs_abc (hA _ (sg_mem _ _ _ hs).1)).1
  rw [this]
  decide
 ·obtain ⟨s, hs, rfl⟩ := List.mem_map.mp hq
  have := tabs_abc (hA _ (sg_mem _ _ _ hs).1)
  exact ⟨this.2.1, this.2.2.1⟩
 ·obtain ⟨p, rfl⟩ : ∃ p : Nat, i = (p : Int) := ⟨i.toNat, by omega⟩
  have hlen : ((sg 0 text).map (fun s => tabOf (tabF zs256) s.f0)).length = (sg 0 text).length := List.length_map _
  have := out_rd machM ((sg 0 text).map (fun s => tabOf (tabF zs256) s.f0)) p (by omega)
  rw [if_neg (by omega), if_pos (by omega)] at this
  rw [this]
  exact opp_M _ _
theorem at_text (text : List Int) (fw : Int → Int) (i : Nat) (h : i < text.length) : at_ ((sg 0 text).map (clus fw)) i = clus fw ⟨text[i], (i : Int), 1⟩ := by
 unfold at_ rd_T130
 rw [Int.toNat_natCast, List.getD_eq_getElem?_getD, List.getElem?_map, sg_get text 0 i h, Nat.zero_add]
 rfl
theorem plain_text (text : List Int) (hl : text.length ≤ 200) (hA : ∀ x ∈ text, Abc x) : Plain ((sg 0 text).map (clus (tabF xsC))) (machP.out ((sg 0 text).map (fun s => tabOf (tabF xsB) s.f0))) := by
 have hlen : ((sg 0 text).map (clus (tabF xsC))).length = text.length := by rw [List.length_map, sg_length]
 have hlen2 : ((sg 0 text).map (fun s => tabOf (tabF xsB) s.f0)).length = text.length := by rw [List.length_map, sg_length]
 refine ⟨by rw [out_length, hlen, hlen2], by omega, fun i hi => ?_, fun i hi => ?_, fun i hi => ?_, ?_⟩
 ·rw [at_text text _ i (by omega)]
  exact (tabs_abc (hA _ (List.getElem_mem _))).2.2.2.2.2
 ·rw [at_text text _ i (by omega)]
  have := tabs_abc (hA _ (List.getElem_mem (l := text) (n := i) (by omega)))
  exact ⟨this.2.2.2.1, this.2.2.2.2.1⟩
 ·rw [out_rd machP _ i (by omega)]
  split
  ·decide
  ·split
   ·exact opp_P _ _
   ·decide
 ·rw [hlen, out_rd machP _ text.length (by omega), if_pos hlen2.symm]
theorem first_text (text : List Int) (h : 0 < ((sg 0 text).map (clus (tabF xsC))).length) : rd (machP.out ((sg 0 text).map (fun s => tabOf (tabF xsB) s.f0))) 0 ≠ 2 := by
 have hlen : ((sg 0 text).map (clus (tabF xsC))).length = text.length := by rw [List.length_map, sg_length]
 have hlen2 : ((sg 0 text).map (fun s => tabOf (tabF xsB) s.f0)).length = text.length := by rw [List.length_map, sg_length]
 have := out_rd machP ((sg 0 text).map (fun s => tabOf (tabF xsB) s.f0)) 0 (by omega)
 rw [if_neg (by omega), if_neg (by omega)] at this
 intro h2
 rw [show ((0 : Nat) : Int) = 0 from rfl, h2] at this
 exact absurd this (by decide)
theorem bytes_text (text : List Int) : Bytes ((sg 0 text).map (clus (tabF xsC))) := fun i hi => by
 have hlen : ((sg 0 text).map (clus (tabF xsC))).length = text.length := by rw [List.length_map, sg_length]
 rw [at_text text _ i (by omega)]
 exact ⟨rfl, rfl⟩
end Go.Proofs.YtkeccgkicffieaaGreatDoor.PTopWider
