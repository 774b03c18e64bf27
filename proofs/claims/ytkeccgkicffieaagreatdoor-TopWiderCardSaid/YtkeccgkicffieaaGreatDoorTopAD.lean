/- The walk of auto's Turn at a leaf and at one of several leaves; maker.of at an expression. -/
import Derived.Test.YtkeccgkicffieaaGreatDoorTopT
import Derived.Test.YtkeccgkicffieaaGreatDoorTopAC
namespace Go.Proofs.YtkeccgkicffieaaGreatDoor.PTopWider
open Go.RowKit Go.Proofs.YtkeccgkicffieaaGreatDoorW.PrintWords Go.Proofs.YtkeccgkicffieaaGreatDoorW.PrintLast Go.Proofs.YtkeccgkicffieaaGreatDoorW.PrintMore
set_option linter.unusedVariables false
set_option linter.unusedSimpArgs false
/-- The elements that stand in an expression, and what of tells of it. -/
def EX.vs : EX → List Int
 | .one v => [v]
 | .two a b => [a, b]
def EX.mark (n : Nat) : EX → Int
 | .one _ => addF 0 (n : Int)
 | .two _ _ => altM n 2
theorem ofx_calls (mp base rb : Nat) (S : List Int) (X : EX) (vk : Value) (w : World) (hS : S.length + X.vs.length < 64) (hM : IsMk w mp base S) (hX : ExpIs w rb X vk) :
  Calls Tryz.prog 62 #[.pointer (some ⟨mp, 0, none⟩), .agg #[.int .u8 X.op, .int .u32 X.set, vk]] w fun e w' => OfE w mp base (S ++ X.vs) (X.mark S.length) e w' := by
 cases X with
 | one v =>
  cases hX
  exact of_leaf mp base S v w (by simp [EX.vs] at hS; omega) hM
 | two a b =>
  obtain ⟨gl, cl, rfl, h⟩ := hX
  exact of_alts mp base rb gl cl S [a, b] w (by simpa [EX.vs] using hS) hM h
set_option maxHeartbeats 40000000 in
set_option maxRecDepth 100000 in
theorem turn_leaf (v : Int) (w : World) :
  Calls Tryz.prog 36 #[.agg #[.int .u8 1, .int .u32 v, .slice none 0 0]] w fun e w' => e = .returned (.agg #[.int .u8 1, .int .u32 v, .slice none 0 0]) ∧ Below w.heap.size w w' := by
 have z1 : (w.alloc (.cells #[.int .u8 1, .int .u32 v, .slice none 0 0] 140)).heap.size = w.heap.size + 1 := by simp
 have z2 : ((w.alloc (.cells #[.int .u8 1, .int .u32 v, .slice none 0 0] 140)).alloc (.cells #[.int .u8 0, .int .u32 0, .slice none 0 0] 140)).heap.size = w.heap.size + 1 + 1 := by simp
 have B3 := below_alloc (below_alloc (below_alloc (Below.refl w.heap.size w) (.cells #[.int .u8 1, .int .u32 v, .slice none 0 0] 140)) (.cells #[.int .u8 0, .int .u32 0, .slice none 0 0] 140)) (.cells #[.int .u8 1, .int .u32 v, .slice none 0 0] 140)
 have K3 := blk_alloc (blk_new w (.cells #[.int .u8 1, .int .u32 v, .slice none 0 0] 140)) (.cells #[.int .u8 0, .int .u32 0, .slice none 0 0] 140)
 have K33 := blk_alloc K3 (.cells #[.int .u8 1, .int .u32 v, .slice none 0 0] 140)
 have e0 : ((w.alloc (.cells #[.int .u8 1, .int .u32 v, .slice none 0 0] 140)).alloc (.cells #[.int .u8 0, .int .u32 0, .slice none 0 0] 140)).cell? ⟨w.heap.size, 0, none⟩ = some (.int .u8 1) := blk_cell K3 0
 have e1 : ((w.alloc (.cells #[.int .u8 1, .int .u32 v, .slice none 0 0] 140)).alloc (.cells #[.int .u8 0, .int .u32 0, .slice none 0 0] 140)).cell? ⟨w.heap.size, 1, none⟩ = some (.int .u32 v) := blk_cell K3 1
 have e2 : (((w.alloc (.cells #[.int .u8 1, .int .u32 v, .slice none 0 0] 140)).alloc (.cells #[.int .u8 0, .int .u32 0, .slice none 0 0] 140)).alloc (.cells #[.int .u8 1, .int .u32 v, .slice none 0 0] 140)).cell? ⟨w.heap.size, 2, none⟩ = some (.slice none 0 0) := blk_cell K33 2
 have K4 := blk_alloc (blk_new (w.alloc (.cells #[.int .u8 1, .int .u32 v, .slice none 0 0] 140)) (.cells #[.int .u8 0, .int .u32 0, .slice none 0 0] 140)) (.cells #[.int .u8 1, .int .u32 v, .slice none 0 0] 140)
 rw [z1] at K4
 have K5 := blk_new ((w.alloc (.cells #[.int .u8 1, .int .u32 v, .slice none 0 0] 140)).alloc (.cells #[.int .u8 0, .int .u32 0, .slice none 0 0] 140)) (.cells #[.int .u8 1, .int .u32 v, .slice none 0 0] 140)
 rw [z2] at K5
 have g0 : (((w.alloc (.cells #[.int .u8 1, .int .u32 v, .slice none 0 0] 140)).alloc (.cells #[.int .u8 0, .int .u32 0, .slice none 0 0] 140)).alloc (.cells #[.int .u8 1, .int .u32 v, .slice none 0 0] 140)).cell? ⟨w.heap.size + 1 + 1, 0, none⟩ = some (.int .u8 1) := blk_cell K5 0
 have h0 : (((w.alloc (.cells #[.int .u8 1, .int .u32 v, .slice none 0 0] 140)).alloc (.cells #[.int .u8 0, .int .u32 0, .slice none 0 0] 140)).alloc (.cells #[.int .u8 1, .int .u32 v, .slice none 0 0] 140)).cell? ⟨w.heap.size + 1, 0, none⟩ = some (.int .u8 0) := blk_cell K4 0
 have hf0 : (((w.alloc (.cells #[.int .u8 1, .int .u32 v, .slice none 0 0] 140)).alloc (.cells #[.int .u8 0, .int .u32 0, .slice none 0 0] 140)).alloc (.cells #[.int .u8 1, .int .u32 v, .slice none 0 0] 140)).frozen? ⟨w.heap.size + 1, 0, none⟩ = false := blk_frozen K4 0
 have g1 : (((w.alloc (.cells #[.int .u8 1, .int .u32 v, .slice none 0 0] 140)).alloc (.cells #[.int .u8 0, .int .u32 0, .slice none 0 0] 140)).alloc (.cells #[.int .u8 1, .int .u32 v, .slice none 0 0] 140)).cell? ⟨w.heap.size + 1 + 1, 1, none⟩ = some (.int .u32 v) := blk_cell K5 1
 have h1 : (((w.alloc (.cells #[.int .u8 1, .int .u32 v, .slice none 0 0] 140)).alloc (.cells #[.int .u8 0, .int .u32 0, .slice none 0 0] 140)).alloc (.cells #[.int .u8 1, .int .u32 v, .slice none 0 0] 140)).cell? ⟨w.heap.size + 1, 1, none⟩ = some (.int .u32 0) := blk_cell K4 1
 have hf1 : (((w.alloc (.cells #[.int .u8 1, .int .u32 v, .slice none 0 0] 140)).alloc (.cells #[.int .u8 0, .int .u32 0, .slice none 0 0] 140)).alloc (.cells #[.int .u8 1, .int .u32 v, .slice none 0 0] 140)).frozen? ⟨w.heap.size + 1, 1, none⟩ = false := blk_frozen K4 1
 have g2 : (((w.alloc (.cells #[.int .u8 1, .int .u32 v, .slice none 0 0] 140)).alloc (.cells #[.int .u8 0, .int .u32 0, .slice none 0 0] 140)).alloc (.cells #[.int .u8 1, .int .u32 v, .slice none 0 0] 140)).cell? ⟨w.heap.size + 1 + 1, 2, none⟩ = some (.slice none 0 0) := blk_cell K5 2
 have h2 : (((w.alloc (.cells #[.int .u8 1, .int .u32 v, .slice none 0 0] 140)).alloc (.cells #[.int .u8 0, .int .u32 0, .slice none 0 0] 140)).alloc (.cells #[.int .u8 1, .int .u32 v, .slice none 0 0] 140)).cell? ⟨w.heap.size + 1, 2, none⟩ = some (.slice none 0 0) := blk_cell K4 2
 have hf2 : (((w.alloc (.cells #[.int .u8 1, .int .u32 v, .slice none 0 0] 140)).alloc (.cells #[.int .u8 0, .int .u32 0, .slice none 0 0] 140)).alloc (.cells #[.int .u8 1, .int .u32 v, .slice none 0 0] 140)).frozen? ⟨w.heap.size + 1, 2, none⟩ = false := blk_frozen K4 2
 have k4z := blk_alloc (blk_new (w.alloc (.cells #[.int .u8 1, .int .u32 v, .slice none 0 0] 140)) (.cells #[.int .u8 1, .int .u32 v, .slice none 0 0] 140)) (.cells #[.int .u8 1, .int .u32 v, .slice none 0 0] 140)
 rw [z1] at k4z
 have BZ := below_alloc (below_alloc (below_alloc (Below.refl w.heap.size w) (.cells #[.int .u8 1, .int .u32 v, .slice none 0 0] 140)) (.cells #[.int .u8 1, .int .u32 v, .slice none 0 0] 140)) (.cells #[.int .u8 1, .int .u32 v, .slice none 0 0] 140)
 have KK := Aside0.mk (And.intro k4z BZ)
 clear z1 z2 B3 K3 K33 K4 K5 k4z BZ
 go_enter Tryz.func36, Tryz.ntmps36
 go_wp2_with fail
 refine wp_loop_rounds 1 ?_
 rw [rounds_succ]
 go_wp2_with fail
 refine bodyPost_ret (results_cell_row rfl _ _ (w.heap.size + 1) 140 #[.int .u8 1, .int .u32 v, .slice none 0 0] (0, 0) _ rfl KK.out.1 Tryz.underlying140 rfl (by kernel_rfl)) rfl ⟨rfl, KK.out.2⟩
set_option maxHeartbeats 40000000 in
set_option maxRecDepth 100000 in
theorem turn_alts (rb gl cl : Nat) (L : List Int) (w : World) (hl : L.length ≤ 1000) (hL : Own1 (kcl 3) 140 rb w (.slice (some ⟨gl, 0, none⟩) L.length cl) (L.map leaf)) :
  Calls Tryz.prog 36 #[.agg #[.int .u8 3, .int .u32 0, .slice (some ⟨gl, 0, none⟩) L.length cl]] w fun e w' => ∃ A c, e = .returned (.agg #[.int .u8 3, .int .u32 0, .slice A L.length c]) ∧ Below w.heap.size w w' ∧ Own1 (kcl 3) 140 w.heap.size w' (.slice A L.length c) (L.map leaf) := by
 have z1 : (w.alloc (.cells #[.int .u8 3, .int .u32 0, .slice (some ⟨gl, 0, none⟩) L.length cl] 140)).heap.size = w.heap.size + 1 := by simp
 have z2 : ((w.alloc (.cells #[.int .u8 3, .int .u32 0, .slice (some ⟨gl, 0, none⟩) L.length cl] 140)).alloc (.cells #[.int .u8 0, .int .u32 0, .slice none 0 0] 140)).heap.size = w.heap.size + 1 + 1 := by simp
 have z3 : (((w.alloc (.cells #[.int .u8 3, .int .u32 0, .slice (some ⟨gl, 0, none⟩) L.length cl] 140)).alloc (.cells #[.int .u8 0, .int .u32 0, .slice none 0 0] 140)).alloc (.cells #[.int .u8 3, .int .u32 0, .slice none 0 0] 140)).heap.size = w.heap.size + 1 + 1 + 1 := by simp
 have B3 := below_alloc (below_alloc (below_alloc (Below.refl w.heap.size w) (.cells #[.int .u8 3, .int .u32 0, .slice (some ⟨gl, 0, none⟩) L.length cl] 140)) (.cells #[.int .u8 0, .int .u32 0, .slice none 0 0] 140)) (.cells #[.int .u8 3, .int .u32 0, .slice none 0 0] 140)
 have K3 := blk_alloc (blk_new w (.cells #[.int .u8 3, .int .u32 0, .slice (some ⟨gl, 0, none⟩) L.length cl] 140)) (.cells #[.int .u8 0, .int .u32 0, .slice none 0 0] 140)
 have K33 := blk_alloc K3 (.cells #[.int .u8 3, .int .u32 0, .slice none 0 0] 140)
 have e0 : ((w.alloc (.cells #[.int .u8 3, .int .u32 0, .slice (some ⟨gl, 0, none⟩) L.length cl] 140)).alloc (.cells #[.int .u8 0, .int .u32 0, .slice none 0 0] 140)).cell? ⟨w.heap.size, 0, none⟩ = some (.int .u8 3) := blk_cell K3 0
 have e1 : ((w.alloc (.cells #[.int .u8 3, .int .u32 0, .slice (some ⟨gl, 0, none⟩) L.length cl] 140)).alloc (.cells #[.int .u8 0, .int .u32 0, .slice none 0 0] 140)).cell? ⟨w.heap.size, 1, none⟩ = some (.int .u32 0) := blk_cell K3 1
 have e2 : (((w.alloc (.cells #[.int .u8 3, .int .u32 0, .slice (some ⟨gl, 0, none⟩) L.length cl] 140)).alloc (.cells #[.int .u8 0, .int .u32 0, .slice none 0 0] 140)).alloc (.cells #[.int .u8 3, .int .u32 0, .slice none 0 0] 140)).cell? ⟨w.heap.size, 2, none⟩ = some (.slice (some ⟨gl, 0, none⟩) L.length cl) := blk_cell K33 2
 have K4 := blk_alloc (blk_new (w.alloc (.cells #[.int .u8 3, .int .u32 0, .slice (some ⟨gl, 0, none⟩) L.length cl] 140)) (.cells #[.int .u8 0, .int .u32 0, .slice none 0 0] 140)) (.cells #[.int .u8 3, .int .u32 0, .slice none 0 0] 140)
 rw [z1] at K4
 have K5 := blk_new ((w.alloc (.cells #[.int .u8 3, .int .u32 0, .slice (some ⟨gl, 0, none⟩) L.length cl] 140)).alloc (.cells #[.int .u8 0, .int .u32 0, .slice none 0 0] 140)) (.cells #[.int .u8 3, .int .u32 0, .slice none 0 0] 140)
 rw [z2] at K5
 have KK := Aside0.mk (And.intro K33 (And.intro K4 (And.intro K5 B3)))
 have HL := Aside0.mk hL
 have Z3 := Aside0.mk z3
 clear z1 z2 z3 B3 K3 K33 K4 K5 hL
 go_enter Tryz.func36, Tryz.ntmps36
 go_wp2_with fail
 go_loopg [14] L.length (fun kq v14 w' => ∃ (i : Nat) (A : Option Addr) (c : Nat), v14 = .int .i64 (i : Int) ∧ Aside0 (i + kq = L.length) ∧ Aside0 (w'.heap[w.heap.size]? = some (.cells #[.int .u8 3, .int .u32 0, .slice (some ⟨gl, 0, none⟩) L.length cl] 140) ∧ w'.heap[w.heap.size + 1]? = some (.cells #[.int .u8 0, .int .u32 0, .slice none 0 0] 140) ∧ w'.heap[w.heap.size + 1 + 1]? = some (.cells #[.int .u8 3, .int .u32 0, .slice A i c] 140)) ∧ Aside0 (Own1 (kcl 3) 140 (w.heap.size + 1 + 1 + 1) w' (.slice A i c) ((L.take i).map leaf)) ∧ Aside0 (Below w.heap.size w w'))
 case atStart => exact ⟨0, none, 0, rfl, ⟨by omega⟩, ⟨⟨KK.out.1, KK.out.2.1, KK.out.2.2.1⟩⟩, ⟨Own1.nil _ _ _ _⟩, ⟨KK.out.2.2.2⟩⟩
 case round =>
  obtain ⟨i, A, c, rfl, HI, HB, HA, HO⟩ := hrel
  have hi := HI.out
  cases gk with
  | zero =>
   have hlt : decide ((i : Int) < (L.length : Int)) = false := by simp; omega
   have hltn : decide (i < L.length) = false := by simp; omega
   have hltp : ¬ (i < L.length) := by omega
   have hiL : Aside0 (i = L.length) := ⟨by omega⟩
   clear hi
   have q0 : wr.cell? ⟨w.heap.size + 1 + 1, 0, none⟩ = some (.int .u8 3) := blk_cell HB.out.2.2 0
   have q1 : wr.cell? ⟨w.heap.size + 1 + 1, 1, none⟩ = some (.int .u32 0) := blk_cell HB.out.2.2 1
   have q2 : wr.cell? ⟨w.heap.size + 1 + 1, 2, none⟩ = some (.slice A i c) := blk_cell HB.out.2.2 2
   have r0 : wr.cell? ⟨w.heap.size + 1, 0, none⟩ = some (.int .u8 0) := blk_cell HB.out.2.1 0
   have rf0 : wr.frozen? ⟨w.heap.size + 1, 0, none⟩ = false := blk_frozen HB.out.2.1 0
   have r1 : wr.cell? ⟨w.heap.size + 1, 1, none⟩ = some (.int .u32 0) := blk_cell HB.out.2.1 1
   have rf1 : wr.frozen? ⟨w.heap.size + 1, 1, none⟩ = false := blk_frozen HB.out.2.1 1
   have r2 : wr.cell? ⟨w.heap.size + 1, 2, none⟩ = some (.slice none 0 0) := blk_cell HB.out.2.1 2
   have rf2 : wr.frozen? ⟨w.heap.size + 1, 2, none⟩ = false := blk_frozen HB.out.2.1 2
   go_wp2
   have kz : KB wr (((wr.setCell ⟨w.heap.size + 1, 0, none⟩ (.int .u8 3)).setCell ⟨w.heap.size + 1, 1, none⟩ (.int .u32 0)).setCell ⟨w.heap.size + 1, 2, none⟩ (.slice A i c)) (w.heap.size + 1) := (kb_set (kb_set (kb_set (kb_refl _ _) 0 (.int .u8 3)) 1 (.int .u32 0)) 2 (.slice A i c))
   have k4z := (blk_set (blk_set (blk_set HB.out.2.1 0 (.int .u8 3)) 1 (.int .u32 0)) 2 (.slice A i c))
   simp only [List.setIfInBounds_toArray, List.set_cons_zero, List.set_cons_succ] at k4z
   have sz := blk_lt HB.out.2.1
   generalize (((wr.setCell ⟨w.heap.size + 1, 0, none⟩ (.int .u8 3)).setCell ⟨w.heap.size + 1, 1, none⟩ (.int .u32 0)).setCell ⟨w.heap.size + 1, 2, none⟩ (.slice A i c)) = z at kz k4z ⊢
   have hsw := HO.out.size
   have HA2 := own_kb HA.out kz (fun he => by have := Own1.base_le HA.out _ he; omega)
   rw [show L.take i = L by rw [hiL.out]; exact List.take_length, hiL.out] at HA2
   refine bodyPost_ret (results_cell_row rfl _ _ (w.heap.size + 1) 140 #[.int .u8 3, .int .u32 0, .slice A i c] (0, 0) _ rfl k4z Tryz.underlying140 rfl (by kernel_rfl)) rfl ⟨A, c, by rw [hiL.out], HO.out.trans (kb_low kz (by omega) (by omega)), HA2.lower (by omega)⟩
  | succ k1 =>
   have hlt : decide ((i : Int) < (L.length : Int)) = true := by simp; omega
   have hltn : decide (i < L.length) = true := by simp; omega
   have hltp : i < L.length := by omega
   have hC := HL.out.same (Same.of_low HO.out)
   obtain ⟨ad, had, hcl⟩ := cl_at hC.reads.2.2 (i : Int) (by omega) (by simp; omega)
   cases had
   rw [Int.toNat_natCast, show (L.map leaf).getD i (zcl 3) = leaf (L.getD i 0) by simp [List.getD, List.getElem?_eq_getElem hltp]] at hcl
   obtain ⟨v, hv⟩ : ∃ v, Aside0 (L.getD i 0 = v) := ⟨_, ⟨rfl⟩⟩
   rw [hv.out] at hcl
   have c0 : wr.cell? ⟨gl, i * 3, none⟩ = some (.int .u8 1) := by have := hcl 0 _ rfl; rwa [show (⟨gl, 0, none⟩ : Addr).add (i * 3 + 0) = ⟨gl, i * 3, none⟩ by simp only [Addr.add, Nat.zero_add, Nat.add_zero]; split <;> simp_all] at this
   have c1 : wr.cell? ⟨gl, i * 3 + 1, none⟩ = some (.int .u32 v) := by simpa [Addr.add] using hcl 1 _ rfl
   have c2 : wr.cell? ⟨gl, i * 3 + 2, none⟩ = some (.slice none 0 0) := by simpa [Addr.add] using hcl 2 _ rfl
   have k0 := blk_new wr (.cells #[.int .u8 0, .int .u32 0, .slice none 0 0] 140)
   have u2 : wr.cell? ⟨w.heap.size, 2, none⟩ = some (.slice (some ⟨gl, 0, none⟩) L.length cl) := blk_cell HB.out.1 2
   have u0 : (wr.alloc (.cells #[.int .u8 1, .int .u32 v, .slice none 0 0] 140)).cell? ⟨w.heap.size, 0, none⟩ = some (.int .u8 3) := blk_cell (blk_alloc HB.out.1 _) 0
   have d0 : (wr.alloc (.cells #[.int .u8 0, .int .u32 0, .slice none 0 0] 140)).cell? ⟨wr.heap.size, 0, none⟩ = some (.int .u8 0) := blk_cell k0 0
   have df0 : (wr.alloc (.cells #[.int .u8 0, .int .u32 0, .slice none 0 0] 140)).frozen? ⟨wr.heap.size, 0, none⟩ = false := blk_frozen k0 0
   have d1 : (wr.alloc (.cells #[.int .u8 0, .int .u32 0, .slice none 0 0] 140)).cell? ⟨wr.heap.size, 1, none⟩ = some (.int .u32 0) := blk_cell k0 1
   have df1 : (wr.alloc (.cells #[.int .u8 0, .int .u32 0, .slice none 0 0] 140)).frozen? ⟨wr.heap.size, 1, none⟩ = false := blk_frozen k0 1
   have d2 : (wr.alloc (.cells #[.int .u8 0, .int .u32 0, .slice none 0 0] 140)).cell? ⟨wr.heap.size, 2, none⟩ = some (.slice none 0 0) := blk_cell k0 2
   have df2 : (wr.alloc (.cells #[.int .u8 0, .int .u32 0, .slice none 0 0] 140)).frozen? ⟨wr.heap.size, 2, none⟩ = false := blk_frozen k0 2
   clear hC hcl k0
   go_wp2_with fail
   have k2 := blk_alloc HB.out.2.2 (.cells #[.int .u8 1, .int .u32 v, .slice none 0 0] 140)
   have k1b := blk_alloc HB.out.2.1 (.cells #[.int .u8 1, .int .u32 v, .slice none 0 0] 140)
   have k0b := blk_alloc HB.out.1 (.cells #[.int .u8 1, .int .u32 v, .slice none 0 0] 140)
   have k13 := blk_new wr (.cells #[.int .u8 1, .int .u32 v, .slice none 0 0] 140)
   have hA6 := HA.out.same (Same.alloc 140 wr (.cells #[.int .u8 1, .int .u32 v, .slice none 0 0] 140))
   have hO6 := below_alloc HO.out (.cells #[.int .u8 1, .int .u32 v, .slice none 0 0] 140)
   have h51 : w.heap.size + 1 + 1 < wr.heap.size := blk_lt HB.out.2.2
   clear c0 c1 c2 d0 d1 d2 df0 df1 df2 u0 u2
   generalize hz : wr.heap.size = b13 at k13 h51 ⊢
   generalize wr.alloc (.cells #[.int .u8 1, .int .u32 v, .slice none 0 0] 140) = w6 at k0b k1b k2 k13 hA6 hO6 ⊢
   have Q6 := Aside0.mk (And.intro k0b (And.intro k1b (And.intro k2 (And.intro k13 (And.intro hA6 hO6)))))
   have h61 : w.heap.size + 1 + 1 < w6.heap.size := blk_lt k2
   clear k0b k1b k2 k13 hA6 hO6 hz HB HA HO
   refine st 8 w6 [5, 7] fun hHeld => ?_
   generalize w6.drew = w7 at hHeld ⊢
   refine pu 0 (some 35) ?_
   refine take_ (i := 1) (N := some 36) (v := ?_) (a' := ?_) #[true, true, false, false, false, false, false, false] rfl rfl (by kernel_rfl) (fun _ _ _ h => h) (Or.inl ⟨by rfl, ?_⟩) hHeld ?_ ?_
   rotate_left
   ·intro w' s_
    have k0 : w'.cell? ⟨w.heap.size + 1 + 1, 2, none⟩ = some (.slice A i c) := blk_cell (blk_below Q6.out.2.2.1 s_) 2
    go_simp
    try (with_reducible rfl)
   rotate_left
   ·simp only [Act.put, List.setIfInBounds_toArray, List.set_cons_zero, List.set_cons_succ, i64_w, i32_w]
    rfl
   refine take_ (i := 2) (N := some 37) (v := ?_) (a' := ?_) #[true, true, true, false, false, false, false, false] rfl rfl (by kernel_rfl) (fun _ _ _ h => h) (Or.inl ⟨by rfl, ?_⟩) hHeld ?_ ?_
   rotate_left
   ·intro w' s_
    have k0 : w'.cell? ⟨b13, 0, none⟩ = some (.int .u8 1) := blk_cell (blk_below Q6.out.2.2.2.1 s_) 0
    have k1 : w'.cell? ⟨b13, 1, none⟩ = some (.int .u32 v) := blk_cell (blk_below Q6.out.2.2.2.1 s_) 1
    have k2 : w'.cell? ⟨b13, 2, none⟩ = some (.slice none 0 0) := blk_cell (blk_below Q6.out.2.2.2.1 s_) 2
    go_simp
    try (with_reducible rfl)
   rotate_left
   ·simp only [Act.put, List.setIfInBounds_toArray, List.set_cons_zero, List.set_cons_succ, i64_w, i32_w]
    rfl
   refine on 3 (some 38) fun K hK => ?_
   refine gs Tryz.func36 #[.agg #[.int .u8 1, .int .u32 v, .slice none 0 0]] ?_
   with_reducible refine (turn_leaf v _).mono ?_
   rintro e w_ ⟨rfl, hb_⟩
   refine ⟨_, rfl, ?_⟩
   refine hK.out _ _ (below_step hHeld hb_) (fun hHeld => ?_)
   clear hK K
   refine nrm 38 ?_
   refine on 4 (some 39) fun K hK => ?_
   refine Kd.R_lit_step (kcl 3) (w0 := w6) w6.heap.size 140 (by rfl) (N := 39) rfl (xs := [leaf v]) (inner := [.int .u8 1, .int .u32 v, .slice none 0 0]) (ok := fun _ => True) (okp := fun _ => True) ?hrun ?hrep (fun _ hk => hk) trivial hHeld hHeld.size (by simp) ?_
   case hrun => first | (go_simp; done) | (go_simp; rfl)
   case hrep => exact (Reps.c3 (show (kcl 3).M _ _ _ (leaf v) [.int .u8 1, .int .u32 v, .slice none 0 0] from rfl) (Reps.none _ _))
   intro v1 x1 hr_ hb_ hg_ hat_
   refine hK.out _ _ hb_ (fun hHeld => ?_)
   clear hK K
   refine nrm 39 ?_
   refine la 5 (some 40) fun K hK => ?_
   obtain ⟨A_, c_, e_⟩ := Kd.R_slice hr_
   have hc_ := hr_
   rw [e_] at hc_
   refine Kd.R_append_rows_step (kcl 3) (w0 := w6) (w.heap.size + 1 + 1 + 1) (by rfl) (.tmp 36) (.tmp 39) 137 140 (.agg #[.int .u8 0, .int .u32 0, .slice none 0 0]) 32 rfl Tryz.underlying137 info140v rfl (by decide) (by decide) (.slice A i c) ((L.take i).map leaf) _ A_ 1 c_ (fun _ => True) (fun _ => False) rfl (by first | exact e_ | rfl) (Q6.out.2.2.2.2.1.below hHeld).loose (Kd.R_reads' hc_).2.2 (fun p cs hk => hk) (fun _ hk => hk.elim) (fun _ _ => trivial) ?hbb ?hbz ?hl ?_
   case hbb => exact hHeld.mono (by omega)
   case hbz => have := hHeld.size; omega
   case hl => simp; omega
   intro v4 x4 hr4 hb4 hg4 hat4
   refine hK.out _ _ ?_
   clear hK K
   refine nrm 40 ?_
   obtain ⟨gn, cn, e4, gn0, gn1, _⟩ := Kd.R_form hr4 (by simp)
   rw [show ((L.take i).map leaf ++ [leaf v]).length = i + 1 by simp; omega] at e4
   subst e4
   have kM : x4.heap[w.heap.size + 1 + 1]? = some (.cells #[.int .u8 3, .int .u32 0, .slice A i c] 140) := (hb4.block _ (by omega)).trans Q6.out.2.2.1
   have y1 : x4.cell? ⟨w.heap.size + 1 + 1, 2, none⟩ = some (.slice A i c) := blk_cell kM 2
   have y2 := blk_frozen kM 2
   refine pu 6 (some 41) ?_
   refine la 7 none fun K hK => ?_
   refine skip_ (w1 := ?_) (by rfl) rfl ?_ ?_
   rotate_left
   ·go_simp
    rfl
   refine hK.out _ _ ?_
   clear hK K
   refine done_ (by kernel_rfl) ?_
   have k2z := blk_set kM 2 (.slice (some ⟨gn, 0, none⟩) (i + 1) cn)
   simp only [List.setIfInBounds_toArray, List.set_cons_zero, List.set_cons_succ] at k2z
   have k1z := blk_far ((hb4.block (w.heap.size + 1) (by omega)).trans Q6.out.2.1) (p := ⟨w.heap.size + 1 + 1, 2, none⟩) (by simp) (.slice (some ⟨gn, 0, none⟩) (i + 1) cn)
   have k0z := blk_far ((hb4.block (w.heap.size) (by omega)).trans Q6.out.1) (p := ⟨w.heap.size + 1 + 1, 2, none⟩) (by simp; omega) (.slice (some ⟨gn, 0, none⟩) (i + 1) cn)
   have oz := own_far (i := 2) (u := (.slice (some ⟨gn, 0, none⟩) (i + 1) cn)) (a := w.heap.size + 1 + 1) (Own1.flat (flatCl 3) hr4) (by simp [Value.ownBlock]; omega)
   rw [show (L.take i).map leaf ++ [leaf v] = (L.take (i + 1)).map leaf by rw [← hv.out]; have := take_next L (i : Int) 0 (by omega) (by omega); rw [show ((i : Int) + 1).toNat = i + 1 by omega, Int.toNat_natCast] at this; rw [this, List.map_append]; rfl] at oz
   have bz := (Q6.out.2.2.2.2.2.trans (hb4.mono (by omega))).setCell (p := ⟨w.heap.size + 1 + 1, 2, none⟩) (by simp; omega) (.slice (some ⟨gn, 0, none⟩) (i + 1) cn)
   generalize x4.setCell ⟨w.heap.size + 1 + 1, 2, none⟩ (.slice (some ⟨gn, 0, none⟩) (i + 1) cn) = z at k2z k1z k0z oz bz ⊢
   have R1 := Aside0.mk (And.intro k0z (And.intro k1z k2z))
   have R2 := Aside0.mk oz
   have R3 := Aside0.mk bz
   clear k2z k1z k0z oz bz hr4 hb4 hg4 hat4 hr_ hb_ hg_ hat_ hHeld e_ hc_ kM y1 y2 Q6
   go_wp2
   go_roundg k1
   case measure => omega
   case rel => exact ⟨i + 1, _, cn, by simp, ⟨by omega⟩, R1, R2, R3⟩
theorem turnx_calls (rb : Nat) (X : EX) (vk : Value) (w : World) (hX : ExpIs w rb X vk) :
  Calls Tryz.prog 36 #[.agg #[.int .u8 X.op, .int .u32 X.set, vk]] w fun e w' => ∃ vk', e = .returned (.agg #[.int .u8 X.op, .int .u32 X.set, vk']) ∧ Below w.heap.size w w' ∧ ExpIs w' w.heap.size X vk' := by
 cases X with
 | one v =>
  cases hX
  exact (turn_leaf v w).mono fun e w' h => ⟨_, h.1, h.2, rfl⟩
 | two a b =>
  obtain ⟨gl, cl, rfl, h⟩ := hX
  refine (turn_alts rb gl cl [a, b] w (by simp) h).mono fun e w' h => ?_
  obtain ⟨A, c, he, hb, ho⟩ := h
  obtain ⟨gn, cn, e4, _, _, _⟩ := Kd.R_form ho (by simp)
  injection e4 with e5 e6 e7
  subst e5
  exact ⟨_, he, hb, gn, c, rfl, ho⟩
end Go.Proofs.YtkeccgkicffieaaGreatDoor.PTopWider
