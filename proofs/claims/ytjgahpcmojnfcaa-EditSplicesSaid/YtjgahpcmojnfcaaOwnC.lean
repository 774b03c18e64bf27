/- The walks of fit and Awake. Conditions: rows of at most a million bytes. -/
import Derived.Test.YtjgahpcmojnfcaaOwnB
import Derived.Lib.SlBytesConst
import Derived.Laws.Bits64
import Derived.Outline
namespace Go.Proofs.Ytjgahpcmojnfcaa.PEditSplices
open Go.RowKit Go.Proofs.YtjgahpcmojnfcaaW.PrintWords Go.Proofs.YtjgahpcmojnfcaaW.PrintLast Go.Proofs.YtjgahpcmojnfcaaW.PrintMore
open Go.Proofs.Ytjgahpcmojnfcaa.Plain (chk spl check_f chk_ok chk_num)
set_option linter.unusedVariables false
set_option linter.unusedSimpArgs false

theorem rest_in (x : Int) (m : Int) (h0 : 0 < m) (h1 : m < 4611686018427387904) : ∃ r, wrap64 ((IntKind.u64.wrap x).tmod m) = r ∧ 0 ≤ r ∧ r < m := by
  have hu : 0 ≤ IntKind.u64.wrap x := by rw [IntKind.wrap_u64]; omega
  generalize IntKind.u64.wrap x = u at hu ⊢
  have hm0 : 0 ≤ Int.tmod u m := Int.tmod_nonneg _ hu
  have hm1 : Int.tmod u m < m := Int.tmod_lt_of_pos _ h0
  generalize Int.tmod u m = r at hm0 hm1 ⊢
  exact ⟨r, by unfold wrap64; omega, hm0, hm1⟩

set_option maxHeartbeats 4000000 in
set_option maxRecDepth 100000 in
theorem fit_calls (A : Option Addr) (c : Nat) (b : List Int) (a d : Int) (Ai : Option Addr) (ci : Nat) (l : List Int) (w : World) (nb : b.length ≤ 1000000) :
    Calls Try.prog 14 #[.slice A b.length c, .agg #[.int .i64 a, .int .i64 d, .slice Ai l.length ci]] w fun e w' => ∃ a' d' : Int, e = .returned (.agg #[.int .i64 a', .int .i64 d', .slice Ai l.length ci]) ∧ 0 ≤ a' ∧ 0 ≤ d' ∧ a' + d' ≤ b.length ∧ Below w.heap.size w w' := by
  have hm1 : wrap64 ((b.length : Int) + 1) = (b.length : Int) + 1 := by unfold wrap64; omega
  have hm2 : IntKind.u64.wrap ((b.length : Int) + 1) = (b.length : Int) + 1 := by rw [IntKind.wrap_u64]; omega
  obtain ⟨a', ha, ha0, ha1⟩ := rest_in a ((b.length : Int) + 1) (by omega) (by omega)
  have hs1 : wrap64 ((b.length : Int) - a') = (b.length : Int) - a' := by unfold wrap64; omega
  have hs2 : wrap64 ((b.length : Int) - a' + 1) = (b.length : Int) - a' + 1 := by unfold wrap64; omega
  have hs3 : IntKind.u64.wrap ((b.length : Int) - a' + 1) = (b.length : Int) - a' + 1 := by rw [IntKind.wrap_u64]; omega
  obtain ⟨d', hd, hd0, hd1⟩ := rest_in d ((b.length : Int) - a' + 1) (by omega) (by omega)
  have hnz : ((b.length : Int) - a' + 1 = 0) = False := eq_false (by omega)
  go_enter Try.func14, Try.ntmps14
  go_wp2
  exact bodyPost_ret (v := .agg #[.int .i64 a', .int .i64 d', .slice Ai l.length ci]) (by simp [results, Try.results14, go_sem]) rfl
    ⟨_, _, rfl, ha0, hd0, by omega, below_alloc (below_alloc (Below.refl _ _) _) _⟩

theorem lit_C (w : World) (C : Array Value) (e : TypeId) (fr : Nat × Nat) (xs : List Int) (h : C.toList = xs.map (fun x => Value.int .u8 x)) (hl : xs.length ≤ 100) :
    Kd.C (Kd.int .u8) (w.alloc (.cells C e fr)) (some ⟨w.heap.size, 0, none⟩) xs.length xs := by
  refine Kd.C_of_reads (d := (0 : Int)) (h1 := fun _ => rfl) ⟨rfl, by omega, fun _ => ⟨_, rfl, fun j hj => ?_⟩⟩
  have hC : C[j]? = some (.int .u8 (xs.getD j 0)) := by
    rw [← Array.getElem?_toList, h, List.getElem?_map, List.getD_eq_getElem?_getD, List.getElem?_eq_getElem hj]
    rfl
  have := World.cell?_alloc_mark w C e fr j
  rw [hC] at this
  rcases j with _ | j
  · simpa [Addr.add] using this
  · simpa [Addr.add] using this

theorem lit_C2 (w : World) (O : Obj) (C : Array Value) (e : TypeId) (fr : Nat × Nat) (xs : List Int) (h : C.toList = xs.map (fun x => Value.int .u8 x)) (hl : xs.length ≤ 100) :
    Kd.C (Kd.int .u8) ((w.alloc O).alloc (.cells C e fr)) (some ⟨w.heap.size + 1, 0, none⟩) xs.length xs := by
  have := lit_C (w.alloc O) C e fr xs h hl
  rwa [size_succ] at this

set_option maxHeartbeats 4000000 in
set_option maxRecDepth 100000 in
theorem awake_calls (w : World) : Calls Try.prog 9 #[] w fun e w' => e = .returned (.bool true) ∧ Below w.heap.size w w' := by
  have kc := fun (w : World) (C : Array Value) (n c : Nat) => Lib.run_convert_bytes_const (P := Try.prog) w 22 5 C n c Try.underlying22 Try.underlying5
  have kc2 : ∀ (w : World) (O : Obj) (C : Array Value) (n c : Nat), (convert 22 22 (.slice (some ⟨w.heap.size + 1, 0, none⟩) n c)).run Try.prog ((w.alloc O).alloc (.cells C 5)) = .ok (.slice (some ⟨w.heap.size + 1, 0, none⟩) n c) ((w.alloc O).alloc (.cells C 5 (C.size, C.size + 1))) := fun w O C n c => by
    have := kc (w.alloc O) C n c
    rwa [size_succ] at this
  go_enter Try.func9, Try.ntmps9
  go_wp2_with fail
  refine (splice_ok _ 4 [97, 98, 99, 100] 1 2 _ 1 [120] _ (Kd.C_alloc (lit_C _ #[.int .u8 97, .int .u8 98, .int .u8 99, .int .u8 100] 5 (4, 5) [97, 98, 99, 100] rfl (by decide)) _) (by decide) (lit_C2 _ _ #[.int .u8 120] 5 (1, 2) [120] rfl (by decide)) (by decide) (by decide) (by decide) (by decide)).mono ?_
  rintro e w1 ⟨v1, rfl, hR1, hb1⟩
  replace hR1 : Kd.R (Kd.int .u8) 5 w1 _ _ v1 [97, 120, 100] := hR1
  go_wp2_with fail
  refine (undo_ok _ 4 [97, 98, 99, 100] 1 2 _ 1 [120] _ (Kd.C_alloc (lit_C _ #[.int .u8 97, .int .u8 98, .int .u8 99, .int .u8 100] 5 (4, 5) [97, 98, 99, 100] rfl (by decide)) _) (by decide) (lit_C2 _ _ #[.int .u8 120] 5 (1, 2) [120] rfl (by decide)) (by decide) (by decide) (by decide) (by decide)).mono ?_
  rintro e w2 ⟨v2, rfl, hR2, hb2⟩
  replace hR2 : Kd.R (Kd.int .u8) 5 w2 _ _ v2 [98, 99] := hR2
  have hR1' := Kd.R_below (Kd.R_alloc (Kd.R_alloc hR1 _) _) hb2
  obtain ⟨B1, c1, rfl⟩ := Kd.R_slice hR1
  obtain ⟨B2, c2, rfl⟩ := Kd.R_slice hR2
  have hc1 := fun O : Obj => own_string (P := Try.prog) Try.underlying22 Try.underlying5 Try.underlying9 (Kd.own_of_R (Kd.R_alloc hR1' O))
  have hc2 := fun O : Obj => own_string (P := Try.prog) Try.underlying22 Try.underlying5 Try.underlying9 (Kd.own_of_R (Kd.R_alloc hR2 O))
  clear hR1 hR1' hR2
  have hs1 : strOfNums [97, 120, 100] = ⟨#[97, 120, 100]⟩ := by kernel_rfl
  have hs2 : strOfNums [98, 99] = ⟨#[98, 99]⟩ := by kernel_rfl
  simp only [hs1, hs2, List.length_cons, List.length_nil, Nat.zero_add, Nat.reduceAdd] at hc1 hc2
  clear hs1 hs2
  go_wp2_with fail
  go_ret
  exact ⟨rfl, below_alloc (below_step (below_alloc (below_alloc (below_step (below_alloc (below_alloc (Below.refl _ _) _) _) hb1) _) _) hb2) _⟩
end Go.Proofs.Ytjgahpcmojnfcaa.PEditSplices
