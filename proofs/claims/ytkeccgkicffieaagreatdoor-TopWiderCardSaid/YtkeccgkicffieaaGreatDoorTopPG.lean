/- The walk of Awake: it is true. Conditions: the table of bits stands in memory. -/
import Derived.Test.YtkeccgkicffieaaGreatDoorTopPE
import Derived.Test.YtkeccgkicffieaaGreatDoorTopPA
import Derived.Lib.SmallJoins
import Derived.Laws.IdiomStrings
namespace Go.Proofs.YtkeccgkicffieaaGreatDoor.PTopWider
open Go.RowKit Go.Proofs.YtkeccgkicffieaaGreatDoorW.PrintWords Go.Proofs.YtkeccgkicffieaaGreatDoorW.PrintLast Go.Proofs.YtkeccgkicffieaaGreatDoorW.PrintMore
attribute [local go_sem] max2_int min2_int max_two min_two max_three min_three max_four min_four
set_option linter.unusedVariables false
set_option linter.unusedSimpArgs false
def txA : List Int := [97, 98, 32, 99, 100, 10, 101]
def rsA : List S149 := [⟨97, 0, 1⟩, ⟨98, 1, 1⟩, ⟨32, 2, 1⟩, ⟨99, 3, 1⟩, ⟨100, 4, 1⟩, ⟨10, 5, 1⟩, ⟨101, 6, 1⟩]
def lsA : List S127 := [⟨0, 3, 2, 1⟩, ⟨3, 6, 2, 2⟩, ⟨6, 7, 1, 2⟩]
def rwA : List S50 := [⟨0, 3, 2, 1⟩, ⟨3, 6, 2, 2⟩, ⟨6, 7, 1, 2⟩]
set_option maxRecDepth 100000
theorem allA : scal_All.f 50 txA = some rsA := by kernel_rfl
def clA : List S130 := rsA.map (clus (tabF xsC))
def opA : List Int := machX.out (rsA.map (fun s => tabOf (tabF xsB) s.f0))
theorem breakA : lines_Break.f 100 clA opA 3 8 0 0 0 0 = some (lsA, false) := by kernel_rfl
theorem rowsA : lines_Rows.f 100 clA opA lsA = some rwA := by kernel_rfl
theorem fitsA : Fits machM machX (tabF zs256) (tabF xsB) rsA := by
 refine ⟨by decide, by decide, by decide, by decide, fun i h0 h1 => ?_⟩
 have h1 : i < 7 := h1
 have : i = 1 ∨ i = 2 ∨ i = 3 ∨ i = 4 ∨ i = 5 ∨ i = 6 := by omega
 rcases this with rfl | rfl | rfl | rfl | rfl | rfl <;> decide
theorem lit_C (w : World) (C : Array Value) (e : TypeId) (fr : Nat × Nat) (xs : List Int) (h : C.toList = xs.map (fun x => Value.int .u8 x)) (hl : xs.length ≤ 100) :
  Kd.C (Kd.int .u8) (w.alloc (.cells C e fr)) (some ⟨w.heap.size, 0, none⟩) xs.length xs := by
 refine Kd.C_of_reads (d := (0 : Int)) (h1 := fun _ => rfl) ⟨rfl, by omega, fun _ => ⟨_, rfl, fun j hj => ?_⟩⟩
 have hC : C[j]? = some (.int .u8 (xs.getD j 0)) := by
  rw [← Array.getElem?_toList, h, List.getElem?_map, List.getD_eq_getElem?_getD, List.getElem?_eq_getElem hj]
  rfl
 have := World.cell?_alloc_mark w C e fr j
 rw [hC] at this
 rcases j with _ | j
 ·simpa [Addr.add] using this
 ·simpa [Addr.add] using this
set_option maxHeartbeats 8000000 in
theorem awake_calls (w : World) (hD : IsDb w) : Calls Tryz.prog 4 #[] w fun e w' => e = .returned (.bool true) ∧ Below w.heap.size w w' := by
 have HD := Aside0.mk hD
 clear hD
 go_enter Tryz.func4, Tryz.ntmps4
 go_wp2_with fail
 refine (example_calls w).mono ?_
 rintro e w1 ⟨A1, c1, A2, c2, rfl, h1, l1, h2, l2, hb1⟩
 go_wp2_with fail
 refine (newX_calls A1 A2 c1 c2 w1 h1 l1 h2 l2).mono ?_
 rintro e w2 ⟨g, rfl, hg, hB, hb2⟩
 have W2 := Aside0.mk (And.intro (HD.out.on (below_step hb1 hb2)) (below_step hb1 hb2))
 have HB := Aside0.mk hB
 clear hg hB h1 l1 h2 l2 hb1 hb2
 have kc := fun (w : World) (C : Array Value) (n c g : Nat) (hg : g = w.heap.size) => Go.Joins.run_convert_bytes_const_at (P := Tryz.prog) w 22 5 C n c g hg Tryz.underlying22 Tryz.underlying5
 have kc := kc (w2.alloc (.cells #[.int .i64 0, .int .i64 0] 31)) #[.int .u8 97, .int .u8 98, .int .u8 32, .int .u8 99, .int .u8 100, .int .u8 10, .int .u8 101] 7 7 (w2.heap.size + 1) (by simp)
 go_wp2_with fail
 clear kc
 have hs : (w2.alloc (.cells #[.int .i64 0, .int .i64 0] 31)).heap.size = w2.heap.size + 1 := by simp
 have hC := lit_C (w2.alloc (.cells #[.int .i64 0, .int .i64 0] 31)) #[.int .u8 97, .int .u8 98, .int .u8 32, .int .u8 99, .int .u8 100, .int .u8 10, .int .u8 101] 5 (7, 8) txA rfl (by decide)
 rw [hs] at hC
 have bz := below_alloc (below_alloc (Below.refl w2.heap.size w2) (.cells #[.int .i64 0, .int .i64 0] 31)) (.cells #[.int .u8 97, .int .u8 98, .int .u8 32, .int .u8 99, .int .u8 100, .int .u8 10, .int .u8 101] 5 (7, 8))
 have kf := blk_alloc (blk_new w2 (.cells #[.int .i64 0, .int .i64 0] 31)) (.cells #[.int .u8 97, .int .u8 98, .int .u8 32, .int .u8 99, .int .u8 100, .int .u8 10, .int .u8 101] 5 (7, 8))
 refine (lay_calls g machM machX (tabF zs256) (tabF xsB) (tabF xsC) 50 100 100 (some ⟨w2.heap.size + 1, 0, none⟩) 7 txA rsA 3 8 0 0 0 0 lsA false rwA _ hC (by decide) (by decide) allA (by decide) (HB.out.on bz) good_M good_X (W2.out.1.on bz) fitsA rfl breakA rowsA).mono ?_
 rintro e w4 ⟨v, rfl, hR, hb4⟩
 obtain ⟨A5, c5, rfl⟩ := Kd.R_slice hR
 have W4 := Aside0.mk (below_step (below_step W2.out.2 bz) hb4)
 have kf := blk_below kf hb4
 have ef := blk_cell (blk_alloc kf (.cells #[.slice A5 rwA.length c5, .bool false] 45)) 0
 have ka := below_alloc (Below.refl w4.heap.size w4) (.cells #[.slice A5 rwA.length c5, .bool false] 45)
 have el := blk_cell (blk_new w4 (.cells #[.slice A5 rwA.length c5, .bool false] 45)) 0
 obtain ⟨a1, ea1, x0, x1, x2, x3⟩ := at_T50 (Kd.R_reads' hR).2.2 0 (by decide) (by decide)
 obtain ⟨a2, ea2, y0, y1, y2, y3⟩ := at_T50 (Kd.R_reads' hR).2.2 1 (by decide) (by decide)
 rw [ea1] at ea2
 obtain rfl := Option.some.inj ea2
 subst ea1
 have hu50 := Tryz.underlying50
 rw [show rwA.length = 3 from rfl] at ef ka el ⊢
 have x0 := pw_cell_below ka x0
 have x1 := pw_cell_below ka x1
 have x2 := pw_cell_below ka x2
 have x3 := pw_cell_below ka x3
 have y0 := pw_cell_below ka y0
 have y1 := pw_cell_below ka y1
 have y2 := pw_cell_below ka y2
 have y3 := pw_cell_below ka y3
 simp [Addr.add, rd_T50, rwA] at x0 x1 x2 x3 y0 y1 y2 y3
 clear hC bz hs hR hb4 kf ka
 go_wp2_with fail
 go_ret
 exact ⟨rfl, below_step W4.out (below_alloc (Below.refl w4.heap.size w4) _)⟩
end Go.Proofs.YtkeccgkicffieaaGreatDoor.PTopWider
