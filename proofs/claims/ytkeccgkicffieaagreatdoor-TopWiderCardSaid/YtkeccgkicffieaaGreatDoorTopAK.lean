/- A map from sets (four words) to numbers: looks and writes. -/
import Derived.Test.YtkeccgkicffieaaGreatDoorTopRE
import Derived.WideKeyArr
namespace Go.Proofs.YtkeccgkicffieaaGreatDoor.PTopWider
open Go.RowKit Go.Proofs.YtkeccgkicffieaaGreatDoorW.PrintWords Go.Proofs.YtkeccgkicffieaaGreatDoorW.PrintLast Go.Proofs.YtkeccgkicffieaaGreatDoorW.PrintMore
open Go.WideShapes Go.WideMaps
set_option linter.unusedVariables false
theorem cells193 : Tryz.prog.cellsOf 193 = 4 := by kernel_rfl
theorem cells191 : Tryz.prog.cellsOf 191 = 1 := by kernel_rfl
theorem law193 : KeyLaw Tryz.prog 193 := ArrKey.law (e := 191) (n := 4) ⟨Tryz.underlying193, by kernel_rfl, by kernel_rfl, cells193⟩
theorem type193 : Tryz.prog.keyType 193 = true := by kernel_rfl
theorem size265 : Tryz.prog.types.size = 265 := by kernel_rfl
def setK (t : Int) : Value := .agg #[.int .u64 t, .int .u64 0, .int .u64 0, .int .u64 0]
theorem cellsV (t : Int) : (setK t).cells.toList = [.int .u64 t, .int .u64 0, .int .u64 0, .int .u64 0] := by simp [setK, Value.cells]
theorem key193 (t : Int) (h : 0 ≤ t ∧ t < 18446744073709551616) : ∃ l, keyOf Tryz.prog 193 (setK t) = some l := by
 have hf : (setK t).formed Tryz.prog 193 = true := by simp [setK, Value.formed, Tryz.underlying193, cells193]
 have hk : ∃ ls, Tryz.prog.keyLits (Tryz.prog.types.size + 1) 193 (setK t).cells.toList = some ls := by
  rw [cellsV, size265]
  have ht : (Lit.int .u64 t).wf = true := by simp [Lit.wf, show IntKind.u64.min = 0 by decide, show IntKind.u64.max = 18446744073709551615 by decide]; omega
  have h0 : (Lit.int .u64 0).wf = true := by decide
  have one : ∀ (x : Int), (Lit.int .u64 x).wf = true → Tryz.prog.keyLits 265 191 [.int .u64 x] = some [.int .u64 x] := fun x hx => by
   unfold Program.keyLits
   simp [Tryz.underlying191, hx]
  have r4 : List.range 4 = [0, 1, 2, 3] := by decide
  refine ⟨[.int .u64 t, .int .u64 0, .int .u64 0, .int .u64 0], ?_⟩
  unfold Program.keyLits
  simp [Tryz.underlying193, cells193, cells191, r4, one t ht, one 0 h0]
 obtain ⟨ls, hk⟩ := hk
 unfold keyOf
 rw [Tryz.underlying193]
 simp only [type193, hf, Bool.and_self, if_true]
 rw [hk]
 exact ⟨_, rfl⟩
/-- The entries of some sets: each with its number. -/
def entS (i : Nat) (t : Int) : MapEntry := { key := setK t, val := .int .i64 (i : Int), born := i }
def seenEs (sts : List Int) : Array MapEntry := (sts.mapIdx entS).toArray
def SeenIs (w : World) (mb : Nat) (sts : List Int) : Prop := w.heap[mb]? = some (.map (seenEs sts) sts.length)
theorem seenEs_snoc (sts : List Int) (t : Int) : (seenEs sts).push (entS sts.length t) = seenEs (sts ++ [t]) := by
 simp [seenEs, List.mapIdx_append]
theorem setK_inj {s t : Int} (h : setK s = setK t) : s = t := by simpa [setK] using h
theorem seen_keys (sts : List Int) (hr : ∀ s ∈ sts, 0 ≤ s ∧ s < 18446744073709551616) : ∀ e ∈ (seenEs sts).toList, ∃ l, keyOf Tryz.prog 193 e.key = some l := fun e he => by
 simp only [seenEs, List.mem_mapIdx] at he
 obtain ⟨i, hi, rfl⟩ := he
 exact key193 _ (hr _ (List.getElem_mem hi))
theorem seen_find (w : World) (sts : List Int) (t : Int) (hr : ∀ s ∈ sts, 0 ≤ s ∧ s < 18446744073709551616) (ht : 0 ≤ t ∧ t < 18446744073709551616) (hn : sts.Nodup) :
  (t ∉ sts → (Instr.findKey 193 (setK t) (seenEs sts).toList).run Tryz.prog w = .ok none w) ∧
  ∀ i, sts[i]? = some t → (Instr.findKey 193 (setK t) (seenEs sts).toList).run Tryz.prog w = .ok (some (i, .int .i64 (i : Int))) w := by
 obtain ⟨l, hl⟩ := key193 t ht
 rcases law193.find w hl (seenEs sts).toList (seen_keys sts hr) with ⟨h1, h2⟩ | ⟨j, e, h1, h2, h3⟩
 ·refine ⟨fun _ => h1, fun i hi => ?_⟩
  have hm : entS i t ∈ (seenEs sts).toList := by
   simp only [seenEs, List.mem_mapIdx]
   obtain ⟨hlt, he⟩ := List.getElem?_eq_some_iff.1 hi
   exact ⟨i, hlt, by rw [he]⟩
  exact absurd rfl (h2 _ hm)
 ·have hj : ∃ s, sts[j]? = some s ∧ e = entS j s := by
   simp only [seenEs, List.getElem?_mapIdx, Option.map_eq_some_iff] at h2
   obtain ⟨s, hs, he⟩ := h2
   exact ⟨s, hs, he.symm⟩
  obtain ⟨s, hs, rfl⟩ := hj
  have hst : s = t := setK_inj h3
  subst hst
  refine ⟨fun hno => absurd (List.mem_of_getElem? hs) hno, fun i hi => ?_⟩
  have hij : j = i := by
   obtain ⟨a1, a2⟩ := List.getElem?_eq_some_iff.1 hs
   obtain ⟨b1, b2⟩ := List.getElem?_eq_some_iff.1 hi
   exact (List.getElem_inj hn).1 (a2.trans b2.symm)
  subst hij
  exact h1
theorem seen_no (w : World) (mb : Nat) (sts : List Int) (t : Int) (hm : SeenIs w mb sts) (hr : ∀ s ∈ sts, 0 ≤ s ∧ s < 18446744073709551616) (ht : 0 ≤ t ∧ t < 18446744073709551616) (hn : sts.Nodup) (ho : t ∉ sts) :
  (Instr.lookup 198 (.map (some mb)) (setK t) true).run Tryz.prog w = .ok (.tuple #[.int .i64 0, .bool false]) w := by
 obtain ⟨l, hl⟩ := key193 t ht
 have hz : (zeroValue 3).run Tryz.prog w = .ok (.int .i64 0) w := by kernel_rfl
 simp [Instr.lookup, run_underlying Tryz.underlying198, MapKept.run_getObj_map hm, law193.check w _ hl, (seen_find w sts t hr ht hn).1 ho, hz, Result.andThen]
theorem seen_yes (w : World) (mb : Nat) (sts : List Int) (t : Int) (i : Nat) (hm : SeenIs w mb sts) (hr : ∀ s ∈ sts, 0 ≤ s ∧ s < 18446744073709551616) (ht : 0 ≤ t ∧ t < 18446744073709551616) (hn : sts.Nodup) (hi : sts[i]? = some t) :
  (Instr.lookup 198 (.map (some mb)) (setK t) true).run Tryz.prog w = .ok (.tuple #[.int .i64 (i : Int), .bool true]) w := by
 obtain ⟨l, hl⟩ := key193 t ht
 simp [Instr.lookup, run_underlying Tryz.underlying198, MapKept.run_getObj_map hm, law193.check w _ hl, (seen_find w sts t hr ht hn).2 i hi, Result.andThen]
theorem seen_put (w : World) (mb : Nat) (sts : List Int) (t : Int) (hm : SeenIs w mb sts) (hr : ∀ s ∈ sts, 0 ≤ s ∧ s < 18446744073709551616) (ht : 0 ≤ t ∧ t < 18446744073709551616) (hn : sts.Nodup) (ho : t ∉ sts) :
  (Instr.mapUpdate 198 (.map (some mb)) (setK t) (.int .i64 (sts.length : Int))).run Tryz.prog w = .ok () (putMap w mb (.map (seenEs (sts ++ [t])) (sts ++ [t]).length)) := by
 obtain ⟨l, hl⟩ := key193 t ht
 have h2 : (seenEs sts).push { key := setK t, val := .int .i64 (sts.length : Int), born := sts.length } = seenEs (sts ++ [t]) := seenEs_snoc sts t
 simp [Instr.mapUpdate, run_underlying Tryz.underlying198, MapKept.run_getObj_map hm, law193.check w _ hl, (seen_find w sts t hr ht hn).1 ho, MapKept.run_setObj_map _ hm, Result.andThen, putMap, h2]
end Go.Proofs.YtkeccgkicffieaaGreatDoor.PTopWider
