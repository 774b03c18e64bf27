/- The walk of auto's maker.of at one of several leaves. Conditions: the maker lies in memory as IsMk tells. -/
import Derived.Test.YtkeccgkicffieaaGreatDoorTopT
import Derived.Test.YtkeccgkicffieaaGreatDoorTopAB
namespace Go.Proofs.YtkeccgkicffieaaGreatDoor.PTopWider
open Go.RowKit Go.Proofs.YtkeccgkicffieaaGreatDoorW.PrintWords Go.Proofs.YtkeccgkicffieaaGreatDoorW.PrintLast Go.Proofs.YtkeccgkicffieaaGreatDoorW.PrintMore
set_option linter.unusedVariables false
set_option linter.unusedSimpArgs false
theorem IsMk.same {w w1 : World} {mp base : Nat} {S : List Int} (h : IsMk w mp base S) (a : Same 189 w w1) (b : Same 82 w w1) (c : Same 193 w w1) : IsMk w1 mp base S := by
 obtain ⟨A, c1, B, d, hK, h0, h1, hb⟩ := h
 exact ⟨A, c1, B, d, (a _ _ _ hK).trans hK, h0.same b, h1.same c, hb⟩
/-- The marks of n, n + 1, .. k of them. -/
def altM (n : Nat) : Nat → Int
 | 0 => 0
 | k + 1 => Go.bits .or .u64 (altM n k) (addF 0 ((n + k : Nat) : Int))
theorem or_callsr (x y r : Int) (w : World) (h : Go.bits .or .u64 x y = r) :
  Calls Tryz.prog 63 #[.agg #[.int .u64 x, .int .u64 0, .int .u64 0, .int .u64 0], .agg #[.int .u64 y, .int .u64 0, .int .u64 0, .int .u64 0]] w fun e w' => e = .returned (.agg #[.int .u64 r, .int .u64 0, .int .u64 0, .int .u64 0]) ∧ Below w.heap.size w w' := by
 rw [← h]
 exact or_calls x y w
def OfA (w : World) (mp base : Nat) (S L : List Int) (i : Nat) (w' : World) : Prop :=
 IsMk w' mp base (S ++ L.take i) ∧ Below base w w' ∧ ∀ t, t ≠ 189 → t ≠ 82 → t ≠ 193 → Same t w w'
set_option maxHeartbeats 40000000 in
set_option maxRecDepth 100000 in
theorem of_alts (mp base rb gl cl : Nat) (S L : List Int) (w : World) (hS : S.length + L.length < 64) (hM : IsMk w mp base S) (hL : Own1 (kcl 3) 140 rb w (.slice (some ⟨gl, 0, none⟩) L.length cl) (L.map leaf)) :
  Calls Tryz.prog 62 #[.pointer (some ⟨mp, 0, none⟩), .agg #[.int .u8 3, .int .u32 0, .slice (some ⟨gl, 0, none⟩) L.length cl]] w fun e w' => OfE w mp base (S ++ L) (altM S.length L.length) e w' := by
 have hmp : mp < w.heap.size := by obtain ⟨A, c, B, d, hK, _⟩ := hM; exact blk_lt hK
 have hb : base ≤ mp := by obtain ⟨A, c, B, d, hK, h0, h1, hb⟩ := hM; exact hb
 have z1 : (w.alloc (.cells #[.int .u8 3, .int .u32 0, .slice (some ⟨gl, 0, none⟩) L.length cl] 140)).heap.size = w.heap.size + 1 := by simp
 have z2 : ((w.alloc (.cells #[.int .u8 3, .int .u32 0, .slice (some ⟨gl, 0, none⟩) L.length cl] 140)).alloc (.cells #[.bool false, .int .u64 0, .int .u64 0, .int .u64 0, .int .u64 0, .int .u64 0, .int .u64 0, .int .u64 0, .int .u64 0] 195)).heap.size = w.heap.size + 1 + 1 := by simp
 have z3 : (((w.alloc (.cells #[.int .u8 3, .int .u32 0, .slice (some ⟨gl, 0, none⟩) L.length cl] 140)).alloc (.cells #[.bool false, .int .u64 0, .int .u64 0, .int .u64 0, .int .u64 0, .int .u64 0, .int .u64 0, .int .u64 0, .int .u64 0] 195)).alloc (.cells #[.bool false, .int .u64 0, .int .u64 0, .int .u64 0, .int .u64 0, .int .u64 0, .int .u64 0, .int .u64 0, .int .u64 0] 195)).heap.size = w.heap.size + 1 + 1 + 1 := by simp
 have B1 := below_alloc (Below.refl w.heap.size w) (.cells #[.int .u8 3, .int .u32 0, .slice (some ⟨gl, 0, none⟩) L.length cl] 140)
 have B2 := below_alloc B1 (.cells #[.bool false, .int .u64 0, .int .u64 0, .int .u64 0, .int .u64 0, .int .u64 0, .int .u64 0, .int .u64 0, .int .u64 0] 195)
 have B3 := below_alloc B2 (.cells #[.bool false, .int .u64 0, .int .u64 0, .int .u64 0, .int .u64 0, .int .u64 0, .int .u64 0, .int .u64 0, .int .u64 0] 195)
 have K3 := blk_new w (.cells #[.int .u8 3, .int .u32 0, .slice (some ⟨gl, 0, none⟩) L.length cl] 140)
 have K33 := blk_alloc (blk_alloc K3 (.cells #[.bool false, .int .u64 0, .int .u64 0, .int .u64 0, .int .u64 0, .int .u64 0, .int .u64 0, .int .u64 0, .int .u64 0] 195)) (.cells #[.bool false, .int .u64 0, .int .u64 0, .int .u64 0, .int .u64 0, .int .u64 0, .int .u64 0, .int .u64 0, .int .u64 0] 195)
 have e0 : ((w.alloc (.cells #[.int .u8 3, .int .u32 0, .slice (some ⟨gl, 0, none⟩) L.length cl] 140)).alloc (.cells #[.bool false, .int .u64 0, .int .u64 0, .int .u64 0, .int .u64 0, .int .u64 0, .int .u64 0, .int .u64 0, .int .u64 0] 195)).cell? ⟨w.heap.size, 0, none⟩ = some (.int .u8 3) := blk_cell (blk_alloc K3 _) 0
 have e2 : (((w.alloc (.cells #[.int .u8 3, .int .u32 0, .slice (some ⟨gl, 0, none⟩) L.length cl] 140)).alloc (.cells #[.bool false, .int .u64 0, .int .u64 0, .int .u64 0, .int .u64 0, .int .u64 0, .int .u64 0, .int .u64 0, .int .u64 0] 195)).alloc (.cells #[.bool false, .int .u64 0, .int .u64 0, .int .u64 0, .int .u64 0, .int .u64 0, .int .u64 0, .int .u64 0, .int .u64 0] 195)).cell? ⟨w.heap.size, 2, none⟩ = some (.slice (some ⟨gl, 0, none⟩) L.length cl) := blk_cell K33 2
 have K4 := blk_new (w.alloc (.cells #[.int .u8 3, .int .u32 0, .slice (some ⟨gl, 0, none⟩) L.length cl] 140)) (.cells #[.bool false, .int .u64 0, .int .u64 0, .int .u64 0, .int .u64 0, .int .u64 0, .int .u64 0, .int .u64 0, .int .u64 0] 195)
 rw [z1] at K4
 have K43 := blk_alloc K4 (.cells #[.bool false, .int .u64 0, .int .u64 0, .int .u64 0, .int .u64 0, .int .u64 0, .int .u64 0, .int .u64 0, .int .u64 0] 195)
 have K5 := blk_new ((w.alloc (.cells #[.int .u8 3, .int .u32 0, .slice (some ⟨gl, 0, none⟩) L.length cl] 140)).alloc (.cells #[.bool false, .int .u64 0, .int .u64 0, .int .u64 0, .int .u64 0, .int .u64 0, .int .u64 0, .int .u64 0, .int .u64 0] 195)) (.cells #[.bool false, .int .u64 0, .int .u64 0, .int .u64 0, .int .u64 0, .int .u64 0, .int .u64 0, .int .u64 0, .int .u64 0] 195)
 rw [z2] at K5
 have KK := Aside0.mk (And.intro K43 (And.intro K5 B3))
 have Z3 := Aside0.mk z3
 have HL := Aside0.mk hL
 have HM := Aside0.mk hM
 clear z1 z2 z3 B1 B2 B3 K3 K33 K4 K43 K5 hL hM
 go_enter Tryz.func62, Tryz.ntmps62
 go_wp2_with fail
 go_loopg [113] L.length (fun kq v113 w' => ∃ i : Nat, v113 = .int .i64 (i : Int) ∧ Aside0 (i + kq = L.length) ∧ Aside0 (w'.heap[w.heap.size + 1 + 1]? = some (.cells #[.bool false, .int .u64 (altM S.length i), .int .u64 0, .int .u64 0, .int .u64 0, .int .u64 (altM S.length i), .int .u64 0, .int .u64 0, .int .u64 0] 195 (0, 0)) ∧ w'.heap[w.heap.size + 1]? = some (.cells #[.bool false, .int .u64 0, .int .u64 0, .int .u64 0, .int .u64 0, .int .u64 0, .int .u64 0, .int .u64 0, .int .u64 0] 195 (0, 0))) ∧ Aside0 (OfA w mp base S L i w'))
 case atStart => exact ⟨0, rfl, ⟨by omega⟩, ⟨⟨KK.out.2.1, KK.out.1⟩⟩, ⟨by rw [show S ++ L.take 0 = S by simp]; exact HM.out.same (Same.of_low KK.out.2.2) (Same.of_low KK.out.2.2) (Same.of_low KK.out.2.2), KK.out.2.2.mono (by omega), fun t _ _ _ => Same.of_low KK.out.2.2⟩⟩
 case round =>
  obtain ⟨i, rfl, HI, HB, HO⟩ := hrel
  have hi := HI.out
  obtain ⟨m, hmi⟩ : ∃ m, Aside0 (altM S.length i = m) := ⟨_, ⟨rfl⟩⟩
  rw [hmi.out] at HB
  cases gk with
  | zero =>
   have hlt : decide ((i : Int) < (L.length : Int)) = false := by simp; omega
   have hltn : decide (i < L.length) = false := by simp; omega
   have hltp : ¬ (i < L.length) := by omega
   have hiL : Aside0 (i = L.length) := ⟨by omega⟩
   have q0 : wr.cell? ⟨w.heap.size + 1 + 1, 0, none⟩ = some (.bool false) := blk_cell HB.out.1 0
   have q1 : wr.cell? ⟨w.heap.size + 1 + 1, 1, none⟩ = some (.int .u64 m) := blk_cell HB.out.1 1
   have q2 : wr.cell? ⟨w.heap.size + 1 + 1, 2, none⟩ = some (.int .u64 0) := blk_cell HB.out.1 2
   have q3 : wr.cell? ⟨w.heap.size + 1 + 1, 3, none⟩ = some (.int .u64 0) := blk_cell HB.out.1 3
   have q4 : wr.cell? ⟨w.heap.size + 1 + 1, 4, none⟩ = some (.int .u64 0) := blk_cell HB.out.1 4
   have q5 : wr.cell? ⟨w.heap.size + 1 + 1, 5, none⟩ = some (.int .u64 m) := blk_cell HB.out.1 5
   have q6 : wr.cell? ⟨w.heap.size + 1 + 1, 6, none⟩ = some (.int .u64 0) := blk_cell HB.out.1 6
   have q7 : wr.cell? ⟨w.heap.size + 1 + 1, 7, none⟩ = some (.int .u64 0) := blk_cell HB.out.1 7
   have q8 : wr.cell? ⟨w.heap.size + 1 + 1, 8, none⟩ = some (.int .u64 0) := blk_cell HB.out.1 8
   have r0 : wr.cell? ⟨w.heap.size + 1, 0, none⟩ = some (.bool false) := blk_cell HB.out.2 0
   have rf0 : wr.frozen? ⟨w.heap.size + 1, 0, none⟩ = false := blk_frozen HB.out.2 0
   have r1 : wr.cell? ⟨w.heap.size + 1, 1, none⟩ = some (.int .u64 0) := blk_cell HB.out.2 1
   have rf1 : wr.frozen? ⟨w.heap.size + 1, 1, none⟩ = false := blk_frozen HB.out.2 1
   have r2 : wr.cell? ⟨w.heap.size + 1, 2, none⟩ = some (.int .u64 0) := blk_cell HB.out.2 2
   have rf2 : wr.frozen? ⟨w.heap.size + 1, 2, none⟩ = false := blk_frozen HB.out.2 2
   have r3 : wr.cell? ⟨w.heap.size + 1, 3, none⟩ = some (.int .u64 0) := blk_cell HB.out.2 3
   have rf3 : wr.frozen? ⟨w.heap.size + 1, 3, none⟩ = false := blk_frozen HB.out.2 3
   have r4 : wr.cell? ⟨w.heap.size + 1, 4, none⟩ = some (.int .u64 0) := blk_cell HB.out.2 4
   have rf4 : wr.frozen? ⟨w.heap.size + 1, 4, none⟩ = false := blk_frozen HB.out.2 4
   have r5 : wr.cell? ⟨w.heap.size + 1, 5, none⟩ = some (.int .u64 0) := blk_cell HB.out.2 5
   have rf5 : wr.frozen? ⟨w.heap.size + 1, 5, none⟩ = false := blk_frozen HB.out.2 5
   have r6 : wr.cell? ⟨w.heap.size + 1, 6, none⟩ = some (.int .u64 0) := blk_cell HB.out.2 6
   have rf6 : wr.frozen? ⟨w.heap.size + 1, 6, none⟩ = false := blk_frozen HB.out.2 6
   have r7 : wr.cell? ⟨w.heap.size + 1, 7, none⟩ = some (.int .u64 0) := blk_cell HB.out.2 7
   have rf7 : wr.frozen? ⟨w.heap.size + 1, 7, none⟩ = false := blk_frozen HB.out.2 7
   have r8 : wr.cell? ⟨w.heap.size + 1, 8, none⟩ = some (.int .u64 0) := blk_cell HB.out.2 8
   have rf8 : wr.frozen? ⟨w.heap.size + 1, 8, none⟩ = false := blk_frozen HB.out.2 8
   clear hi
   go_wp2
   have kz : KB wr (((((((((wr.setCell ⟨w.heap.size + 1, 0, none⟩ (.bool false)).setCell ⟨w.heap.size + 1, 1, none⟩ (.int .u64 m)).setCell ⟨w.heap.size + 1, 2, none⟩ (.int .u64 0)).setCell ⟨w.heap.size + 1, 3, none⟩ (.int .u64 0)).setCell ⟨w.heap.size + 1, 4, none⟩ (.int .u64 0)).setCell ⟨w.heap.size + 1, 5, none⟩ (.int .u64 m)).setCell ⟨w.heap.size + 1, 6, none⟩ (.int .u64 0)).setCell ⟨w.heap.size + 1, 7, none⟩ (.int .u64 0)).setCell ⟨w.heap.size + 1, 8, none⟩ (.int .u64 0)) (w.heap.size + 1) := (kb_set (kb_set (kb_set (kb_set (kb_set (kb_set (kb_set (kb_set (kb_set (kb_refl _ _) 0 (.bool false)) 1 (.int .u64 m)) 2 (.int .u64 0)) 3 (.int .u64 0)) 4 (.int .u64 0)) 5 (.int .u64 m)) 6 (.int .u64 0)) 7 (.int .u64 0)) 8 (.int .u64 0))
   have k4z : (((((((((wr.setCell ⟨w.heap.size + 1, 0, none⟩ (.bool false)).setCell ⟨w.heap.size + 1, 1, none⟩ (.int .u64 m)).setCell ⟨w.heap.size + 1, 2, none⟩ (.int .u64 0)).setCell ⟨w.heap.size + 1, 3, none⟩ (.int .u64 0)).setCell ⟨w.heap.size + 1, 4, none⟩ (.int .u64 0)).setCell ⟨w.heap.size + 1, 5, none⟩ (.int .u64 m)).setCell ⟨w.heap.size + 1, 6, none⟩ (.int .u64 0)).setCell ⟨w.heap.size + 1, 7, none⟩ (.int .u64 0)).setCell ⟨w.heap.size + 1, 8, none⟩ (.int .u64 0)).heap[w.heap.size + 1]? = some (.cells #[.bool false, .int .u64 m, .int .u64 0, .int .u64 0, .int .u64 0, .int .u64 m, .int .u64 0, .int .u64 0, .int .u64 0] 195 (0, 0)) := (blk_set (blk_set (blk_set (blk_set (blk_set (blk_set (blk_set (blk_set (blk_set HB.out.2 0 (.bool false)) 1 (.int .u64 m)) 2 (.int .u64 0)) 3 (.int .u64 0)) 4 (.int .u64 0)) 5 (.int .u64 m)) 6 (.int .u64 0)) 7 (.int .u64 0)) 8 (.int .u64 0))
   have sz := blk_lt HB.out.2
   generalize (((((((((wr.setCell ⟨w.heap.size + 1, 0, none⟩ (.bool false)).setCell ⟨w.heap.size + 1, 1, none⟩ (.int .u64 m)).setCell ⟨w.heap.size + 1, 2, none⟩ (.int .u64 0)).setCell ⟨w.heap.size + 1, 3, none⟩ (.int .u64 0)).setCell ⟨w.heap.size + 1, 4, none⟩ (.int .u64 0)).setCell ⟨w.heap.size + 1, 5, none⟩ (.int .u64 m)).setCell ⟨w.heap.size + 1, 6, none⟩ (.int .u64 0)).setCell ⟨w.heap.size + 1, 7, none⟩ (.int .u64 0)).setCell ⟨w.heap.size + 1, 8, none⟩ (.int .u64 0)) = z at kz k4z ⊢
   have hsw := HO.out.2.1.size
   have IM := HO.out.1.same (Same.kb kz HB.out.2 (by decide)) (Same.kb kz HB.out.2 (by decide)) (Same.kb kz HB.out.2 (by decide))
   rw [show L.take i = L by rw [hiL.out]; exact List.take_length] at IM
   refine bodyPost_ret (results_cell_row rfl _ _ (w.heap.size + 1) 195 #[.bool false, .int .u64 m, .int .u64 0, .int .u64 0, .int .u64 0, .int .u64 m, .int .u64 0, .int .u64 0, .int .u64 0] (0, 0) _ rfl k4z Tryz.underlying195 rfl (by kernel_rfl)) rfl ⟨by rw [← hiL.out, hmi.out], IM, HO.out.2.1.trans (kb_low kz (by omega) (by omega)), fun t h1 h2 h3 g cs fr hc => ?_⟩
   have hlt := blk_lt hc
   have e1 := HO.out.2.2 t h1 h2 h3 g cs fr hc
   have hlt2 : g < wr.heap.size := by have := HO.out.2.1.size; omega
   exact (kz.k.2 g (by omega) (by omega) (by simp)).trans e1
  | succ k1 =>
   have hlt : decide ((i : Int) < (L.length : Int)) = true := by simp; omega
   have hltn : decide (i < L.length) = true := by simp; omega
   have hltp : i < L.length := by omega
   have hC := HL.out.same (HO.out.2.2 140 (by decide) (by decide) (by decide))
   obtain ⟨ad, had, hcl⟩ := cl_at hC.reads.2.2 (i : Int) (by omega) (by simp; omega)
   cases had
   rw [Int.toNat_natCast, show (L.map leaf).getD i (zcl 3) = leaf (L.getD i 0) by simp [List.getD, List.getElem?_eq_getElem hltp]] at hcl
   obtain ⟨v, hv⟩ : ∃ v, Aside0 (L.getD i 0 = v) := ⟨_, ⟨rfl⟩⟩
   rw [hv.out] at hcl
   have c0 : wr.cell? ⟨gl, i * 3, none⟩ = some (.int .u8 1) := by have := hcl 0 _ rfl; rwa [show (⟨gl, 0, none⟩ : Addr).add (i * 3 + 0) = ⟨gl, i * 3, none⟩ by simp only [Addr.add, Nat.zero_add, Nat.add_zero]; split <;> simp_all] at this
   have c1 : wr.cell? ⟨gl, i * 3 + 1, none⟩ = some (.int .u32 v) := by simpa [Addr.add] using hcl 1 _ rfl
   have c2 : wr.cell? ⟨gl, i * 3 + 2, none⟩ = some (.slice none 0 0) := by simpa [Addr.add] using hcl 2 _ rfl
   have k0 := blk_new wr (.cells #[.int .u8 0, .int .u32 0, .slice none 0 0] 140)
   have d0 : (wr.alloc (.cells #[.int .u8 0, .int .u32 0, .slice none 0 0] 140)).cell? ⟨wr.heap.size, 0, none⟩ = some (.int .u8 0) := blk_cell k0 0
   have df0 : (wr.alloc (.cells #[.int .u8 0, .int .u32 0, .slice none 0 0] 140)).frozen? ⟨wr.heap.size, 0, none⟩ = false := blk_frozen k0 0
   have d1 : (wr.alloc (.cells #[.int .u8 0, .int .u32 0, .slice none 0 0] 140)).cell? ⟨wr.heap.size, 1, none⟩ = some (.int .u32 0) := blk_cell k0 1
   have df1 : (wr.alloc (.cells #[.int .u8 0, .int .u32 0, .slice none 0 0] 140)).frozen? ⟨wr.heap.size, 1, none⟩ = false := blk_frozen k0 1
   have d2 : (wr.alloc (.cells #[.int .u8 0, .int .u32 0, .slice none 0 0] 140)).cell? ⟨wr.heap.size, 2, none⟩ = some (.slice none 0 0) := blk_cell k0 2
   have df2 : (wr.alloc (.cells #[.int .u8 0, .int .u32 0, .slice none 0 0] 140)).frozen? ⟨wr.heap.size, 2, none⟩ = false := blk_frozen k0 2
   have k1b : ((((wr.alloc (.cells #[.int .u8 0, .int .u32 0, .slice none 0 0] 140)).setCell ⟨wr.heap.size, 0, none⟩ (.int .u8 1)).setCell ⟨wr.heap.size, 1, none⟩ (.int .u32 v)).setCell ⟨wr.heap.size, 2, none⟩ (.slice none 0 0)).heap[wr.heap.size]? = _ := (blk_set (blk_set (blk_set k0 0 (.int .u8 1)) 1 (.int .u32 v)) 2 (.slice none 0 0))
   have g0 : ((((wr.alloc (.cells #[.int .u8 0, .int .u32 0, .slice none 0 0] 140)).setCell ⟨wr.heap.size, 0, none⟩ (.int .u8 1)).setCell ⟨wr.heap.size, 1, none⟩ (.int .u32 v)).setCell ⟨wr.heap.size, 2, none⟩ (.slice none 0 0)).cell? ⟨wr.heap.size, 0, none⟩ = some (.int .u8 1) := blk_cell k1b 0
   have g1 : ((((wr.alloc (.cells #[.int .u8 0, .int .u32 0, .slice none 0 0] 140)).setCell ⟨wr.heap.size, 0, none⟩ (.int .u8 1)).setCell ⟨wr.heap.size, 1, none⟩ (.int .u32 v)).setCell ⟨wr.heap.size, 2, none⟩ (.slice none 0 0)).cell? ⟨wr.heap.size, 1, none⟩ = some (.int .u32 v) := blk_cell k1b 1
   have g2 : ((((wr.alloc (.cells #[.int .u8 0, .int .u32 0, .slice none 0 0] 140)).setCell ⟨wr.heap.size, 0, none⟩ (.int .u8 1)).setCell ⟨wr.heap.size, 1, none⟩ (.int .u32 v)).setCell ⟨wr.heap.size, 2, none⟩ (.slice none 0 0)).cell? ⟨wr.heap.size, 2, none⟩ = some (.slice none 0 0) := blk_cell k1b 2
   clear hC hcl k0 k1b
   go_wp2_with fail
   have hlen : (S ++ L.take i).length = S.length + i := by simp; omega
   have hML := HO.out.1.same (Same.of_low (below_alloc (Below.refl wr.heap.size wr) (.cells #[.int .u8 1, .int .u32 v, .slice none 0 0] 140))) (Same.of_low (below_alloc (Below.refl wr.heap.size wr) _)) (Same.of_low (below_alloc (Below.refl wr.heap.size wr) _))
   refine (of_leaf mp base (S ++ L.take i) v _ (by rw [hlen]; omega) hML).mono ?_
   rw [hlen]
   rintro e w5 ⟨rfl, hM5, hB5, hT5⟩
   obtain ⟨q, hq⟩ : ∃ q, Aside0 (addF 0 ((S.length + i : Nat) : Int) = q) := ⟨_, ⟨rfl⟩⟩
   rw [hq.out]
   go_wp2_with fail
   have s195 : Same 195 wr (w5.alloc (.cells #[.bool false, .int .u64 q, .int .u64 0, .int .u64 0, .int .u64 0, .int .u64 q, .int .u64 0, .int .u64 0, .int .u64 0] 195)) := ((Same.of_low (below_alloc (Below.refl wr.heap.size wr) (.cells #[.int .u8 1, .int .u32 v, .slice none 0 0] 140))).trans (hT5 195 (by decide) (by decide) (by decide))).trans (Same.alloc _ _ _)
   have k10 : (w5.alloc (.cells #[.bool false, .int .u64 q, .int .u64 0, .int .u64 0, .int .u64 0, .int .u64 q, .int .u64 0, .int .u64 0, .int .u64 0] 195)).heap[w.heap.size + 1 + 1]? = _ := (s195 _ _ _ HB.out.1).trans HB.out.1
   have k4 : (w5.alloc (.cells #[.bool false, .int .u64 q, .int .u64 0, .int .u64 0, .int .u64 0, .int .u64 q, .int .u64 0, .int .u64 0, .int .u64 0] 195)).heap[w.heap.size + 1]? = _ := (s195 _ _ _ HB.out.2).trans HB.out.2
   have k13 := blk_new w5 (.cells #[.bool false, .int .u64 q, .int .u64 0, .int .u64 0, .int .u64 0, .int .u64 q, .int .u64 0, .int .u64 0, .int .u64 0] 195)
   have hM6 := hM5.same (Same.alloc 189 w5 (.cells #[.bool false, .int .u64 q, .int .u64 0, .int .u64 0, .int .u64 0, .int .u64 q, .int .u64 0, .int .u64 0, .int .u64 0] 195)) (Same.alloc 82 w5 (.cells #[.bool false, .int .u64 q, .int .u64 0, .int .u64 0, .int .u64 0, .int .u64 q, .int .u64 0, .int .u64 0, .int .u64 0] 195)) (Same.alloc 193 w5 (.cells #[.bool false, .int .u64 q, .int .u64 0, .int .u64 0, .int .u64 0, .int .u64 q, .int .u64 0, .int .u64 0, .int .u64 0] 195))
   have hB6 : Below base w (w5.alloc (.cells #[.bool false, .int .u64 q, .int .u64 0, .int .u64 0, .int .u64 0, .int .u64 q, .int .u64 0, .int .u64 0, .int .u64 0] 195)) := (HO.out.2.1.trans (((below_alloc (Below.refl wr.heap.size wr) (.cells #[.int .u8 1, .int .u32 v, .slice none 0 0] 140)).mono (by have := HO.out.2.1.size; omega)).trans hB5)).trans ((below_alloc (Below.refl w5.heap.size w5) _).mono (by have := HO.out.2.1.size; have := hB5.size; simp at this; omega))
   have hT6 : ∀ t, t ≠ 189 → t ≠ 82 → t ≠ 193 → Same t w (w5.alloc (.cells #[.bool false, .int .u64 q, .int .u64 0, .int .u64 0, .int .u64 0, .int .u64 q, .int .u64 0, .int .u64 0, .int .u64 0] 195)) := fun t h1 h2 h3 => (((HO.out.2.2 t h1 h2 h3).trans (Same.of_low (below_alloc (Below.refl wr.heap.size wr) (.cells #[.int .u8 1, .int .u32 v, .slice none 0 0] 140)))).trans (hT5 t h1 h2 h3)).trans (Same.alloc _ _ _)
   have h51 : w.heap.size + 1 + 1 < w5.heap.size := by have := blk_lt HB.out.1; have := hB5.size; simp at this; omega
   clear s195 hML c0 c1 c2 d0 d1 d2 df0 df1 df2 g0 g1 g2
   generalize hz : w5.heap.size = b13 at k13 h51 ⊢
   generalize w5.alloc (.cells #[.bool false, .int .u64 q, .int .u64 0, .int .u64 0, .int .u64 0, .int .u64 q, .int .u64 0, .int .u64 0, .int .u64 0] 195) = w6 at k10 k4 k13 hM6 hB6 hT6 ⊢
   have Q6 := Aside0.mk (And.intro k10 (And.intro k4 (And.intro k13 (And.intro hM6 (And.intro hB6 (And.intro hT6 h51))))))
   clear k10 k4 k13 hM6 hB6 hT6 hM5 hB5 hT5 hz h51 HB HO
   obtain ⟨r, hr⟩ : ∃ r, Aside0 (Go.bits .or .u64 m q = r) := ⟨_, ⟨rfl⟩⟩
   refine st 18 w6 [17] fun hHeld => ?_
   generalize w6.drew = w7 at hHeld ⊢
   refine pu 0 (some 120) ?_
   refine pu 6 (some 126) ?_
   refine pu 8 (some 128) ?_
   refine pu 11 (some 131) ?_
   refine pu 13 (some 133) ?_
   refine take_ (i := 1) (N := some 121) (v := ?_) (a' := ?_) #[true, true, false, false, false, false, true, false, true, false, false, true, false, true, false, false, false, false] rfl rfl (by kernel_rfl) (fun _ _ _ h => h) (Or.inl ⟨by rfl, ?_⟩) hHeld ?_ ?_
   rotate_left
   ·intro w' s_
    have k0 : w'.cell? ⟨w.heap.size + 1 + 1, 0, none⟩ = some (.bool false) := blk_cell (blk_below Q6.out.1 s_) 0
    go_simp
    try (with_reducible rfl)
   rotate_left
   ·simp only [Act.put, List.setIfInBounds_toArray, List.set_cons_zero, List.set_cons_succ, i64_w, i32_w]
    rfl
   refine pu 2 (some 122) ?_
   refine pu 3 (some 123) ?_
   refine take_ (i := 4) (N := some 124) (v := ?_) (a' := ?_) #[true, true, true, true, true, false, true, false, true, false, false, true, false, true, false, false, false, false] rfl rfl (by kernel_rfl) (fun _ _ _ h => h) (Or.inl ⟨by rfl, ?_⟩) hHeld ?_ ?_
   rotate_left
   ·intro w' s_
    have k0 : w'.cell? ⟨b13, 0, none⟩ = some (.bool false) := blk_cell (blk_below Q6.out.2.2.1 s_) 0
    go_simp
    try (with_reducible rfl)
   rotate_left
   ·simp only [Act.put, List.setIfInBounds_toArray, List.set_cons_zero, List.set_cons_succ, i64_w, i32_w]
    rfl
   refine pu 5 (some 125) ?_
   refine take_ (i := 7) (N := some 127) (v := ?_) (a' := ?_) #[true, true, true, true, true, true, true, true, true, false, false, true, false, true, false, false, false, false] rfl rfl (by kernel_rfl) (fun _ _ _ h => h) (Or.inl ⟨by rfl, ?_⟩) hHeld ?_ ?_
   rotate_left
   ·intro w' s_
    have k0 : w'.cell? ⟨w.heap.size + 1 + 1, 1, none⟩ = some (.int .u64 m) := blk_cell (blk_below Q6.out.1 s_) 1
    have k1 : w'.cell? ⟨w.heap.size + 1 + 1, 2, none⟩ = some (.int .u64 0) := blk_cell (blk_below Q6.out.1 s_) 2
    have k2 : w'.cell? ⟨w.heap.size + 1 + 1, 3, none⟩ = some (.int .u64 0) := blk_cell (blk_below Q6.out.1 s_) 3
    have k3 : w'.cell? ⟨w.heap.size + 1 + 1, 4, none⟩ = some (.int .u64 0) := blk_cell (blk_below Q6.out.1 s_) 4
    go_simp
    try (with_reducible rfl)
   rotate_left
   ·simp only [Act.put, List.setIfInBounds_toArray, List.set_cons_zero, List.set_cons_succ, i64_w, i32_w]
    rfl
   refine take_ (i := 9) (N := some 129) (v := ?_) (a' := ?_) #[true, true, true, true, true, true, true, true, true, true, false, true, false, true, false, false, false, false] rfl rfl (by kernel_rfl) (fun _ _ _ h => h) (Or.inl ⟨by rfl, ?_⟩) hHeld ?_ ?_
   rotate_left
   ·intro w' s_
    have k0 : w'.cell? ⟨b13, 1, none⟩ = some (.int .u64 q) := blk_cell (blk_below Q6.out.2.2.1 s_) 1
    have k1 : w'.cell? ⟨b13, 2, none⟩ = some (.int .u64 0) := blk_cell (blk_below Q6.out.2.2.1 s_) 2
    have k2 : w'.cell? ⟨b13, 3, none⟩ = some (.int .u64 0) := blk_cell (blk_below Q6.out.2.2.1 s_) 3
    have k3 : w'.cell? ⟨b13, 4, none⟩ = some (.int .u64 0) := blk_cell (blk_below Q6.out.2.2.1 s_) 4
    go_simp
    try (with_reducible rfl)
   rotate_left
   ·simp only [Act.put, List.setIfInBounds_toArray, List.set_cons_zero, List.set_cons_succ, i64_w, i32_w]
    rfl
   refine take_ (i := 12) (N := some 132) (v := ?_) (a' := ?_) #[true, true, true, true, true, true, true, true, true, true, false, true, true, true, false, false, false, false] rfl rfl (by kernel_rfl) (fun _ _ _ h => h) (Or.inl ⟨by rfl, ?_⟩) hHeld ?_ ?_
   rotate_left
   ·intro w' s_
    have k0 : w'.cell? ⟨w.heap.size + 1 + 1, 5, none⟩ = some (.int .u64 m) := blk_cell (blk_below Q6.out.1 s_) 5
    have k1 : w'.cell? ⟨w.heap.size + 1 + 1, 6, none⟩ = some (.int .u64 0) := blk_cell (blk_below Q6.out.1 s_) 6
    have k2 : w'.cell? ⟨w.heap.size + 1 + 1, 7, none⟩ = some (.int .u64 0) := blk_cell (blk_below Q6.out.1 s_) 7
    have k3 : w'.cell? ⟨w.heap.size + 1 + 1, 8, none⟩ = some (.int .u64 0) := blk_cell (blk_below Q6.out.1 s_) 8
    go_simp
    try (with_reducible rfl)
   rotate_left
   ·simp only [Act.put, List.setIfInBounds_toArray, List.set_cons_zero, List.set_cons_succ, i64_w, i32_w]
    rfl
   refine take_ (i := 14) (N := some 134) (v := ?_) (a' := ?_) #[true, true, true, true, true, true, true, true, true, true, false, true, true, true, true, false, false, false] rfl rfl (by kernel_rfl) (fun _ _ _ h => h) (Or.inl ⟨by rfl, ?_⟩) hHeld ?_ ?_
   rotate_left
   ·intro w' s_
    have k0 : w'.cell? ⟨b13, 5, none⟩ = some (.int .u64 q) := blk_cell (blk_below Q6.out.2.2.1 s_) 5
    have k1 : w'.cell? ⟨b13, 6, none⟩ = some (.int .u64 0) := blk_cell (blk_below Q6.out.2.2.1 s_) 6
    have k2 : w'.cell? ⟨b13, 7, none⟩ = some (.int .u64 0) := blk_cell (blk_below Q6.out.2.2.1 s_) 7
    have k3 : w'.cell? ⟨b13, 8, none⟩ = some (.int .u64 0) := blk_cell (blk_below Q6.out.2.2.1 s_) 8
    go_simp
    try (with_reducible rfl)
   rotate_left
   ·simp only [Act.put, List.setIfInBounds_toArray, List.set_cons_zero, List.set_cons_succ, i64_w, i32_w]
    rfl
   refine on 10 (some 130) fun K hK => ?_
   refine gs Tryz.func63 #[.agg #[.int .u64 m, .int .u64 0, .int .u64 0, .int .u64 0], .agg #[.int .u64 q, .int .u64 0, .int .u64 0, .int .u64 0]] ?_
   with_reducible refine (or_callsr m q r _ hr.out).mono ?_
   rintro e w_ ⟨rfl, hb_⟩
   refine ⟨_, rfl, ?_⟩
   refine hK.out _ _ (below_step hHeld hb_) (fun hHeld => ?_)
   clear hK K
   refine nrm 130 ?_
   refine on 15 (some 135) fun K hK => ?_
   refine gs Tryz.func63 #[.agg #[.int .u64 m, .int .u64 0, .int .u64 0, .int .u64 0], .agg #[.int .u64 q, .int .u64 0, .int .u64 0, .int .u64 0]] ?_
   with_reducible refine (or_callsr m q r _ hr.out).mono ?_
   rintro e w_ ⟨rfl, hb_⟩
   refine ⟨_, rfl, ?_⟩
   refine hK.out _ _ (below_step hHeld hb_) (fun hHeld => ?_)
   clear hK K
   refine nrm 135 ?_
   refine pu 16 (some 136) ?_
   refine la 17 none fun K hK => ?_
   have kk := blk_below Q6.out.1 hHeld
   have t0 : w_.cell? ⟨w.heap.size + 1 + 1, 0, none⟩ = some (.bool false) := blk_cell kk 0
   have tf0 : w_.frozen? ⟨w.heap.size + 1 + 1, 0, none⟩ = false := blk_frozen kk 0
   have t1 : w_.cell? ⟨w.heap.size + 1 + 1, 1, none⟩ = some (.int .u64 m) := blk_cell kk 1
   have tf1 : w_.frozen? ⟨w.heap.size + 1 + 1, 1, none⟩ = false := blk_frozen kk 1
   have t2 : w_.cell? ⟨w.heap.size + 1 + 1, 2, none⟩ = some (.int .u64 0) := blk_cell kk 2
   have tf2 : w_.frozen? ⟨w.heap.size + 1 + 1, 2, none⟩ = false := blk_frozen kk 2
   have t3 : w_.cell? ⟨w.heap.size + 1 + 1, 3, none⟩ = some (.int .u64 0) := blk_cell kk 3
   have tf3 : w_.frozen? ⟨w.heap.size + 1 + 1, 3, none⟩ = false := blk_frozen kk 3
   have t4 : w_.cell? ⟨w.heap.size + 1 + 1, 4, none⟩ = some (.int .u64 0) := blk_cell kk 4
   have tf4 : w_.frozen? ⟨w.heap.size + 1 + 1, 4, none⟩ = false := blk_frozen kk 4
   have t5 : w_.cell? ⟨w.heap.size + 1 + 1, 5, none⟩ = some (.int .u64 m) := blk_cell kk 5
   have tf5 : w_.frozen? ⟨w.heap.size + 1 + 1, 5, none⟩ = false := blk_frozen kk 5
   have t6 : w_.cell? ⟨w.heap.size + 1 + 1, 6, none⟩ = some (.int .u64 0) := blk_cell kk 6
   have tf6 : w_.frozen? ⟨w.heap.size + 1 + 1, 6, none⟩ = false := blk_frozen kk 6
   have t7 : w_.cell? ⟨w.heap.size + 1 + 1, 7, none⟩ = some (.int .u64 0) := blk_cell kk 7
   have tf7 : w_.frozen? ⟨w.heap.size + 1 + 1, 7, none⟩ = false := blk_frozen kk 7
   have t8 : w_.cell? ⟨w.heap.size + 1 + 1, 8, none⟩ = some (.int .u64 0) := blk_cell kk 8
   have tf8 : w_.frozen? ⟨w.heap.size + 1 + 1, 8, none⟩ = false := blk_frozen kk 8
   refine skip_ (w1 := ?_) (by rfl) rfl ?_ ?_
   rotate_left
   ·go_simp
    rfl
   refine hK.out _ _ ?_
   clear hK K
   refine done_ (by kernel_rfl) ?_
   have kq : KB w_ (((((((((w_.setCell ⟨w.heap.size + 1 + 1, 0, none⟩ (.bool false)).setCell ⟨w.heap.size + 1 + 1, 1, none⟩ (.int .u64 r)).setCell ⟨w.heap.size + 1 + 1, 2, none⟩ (.int .u64 0)).setCell ⟨w.heap.size + 1 + 1, 3, none⟩ (.int .u64 0)).setCell ⟨w.heap.size + 1 + 1, 4, none⟩ (.int .u64 0)).setCell ⟨w.heap.size + 1 + 1, 5, none⟩ (.int .u64 r)).setCell ⟨w.heap.size + 1 + 1, 6, none⟩ (.int .u64 0)).setCell ⟨w.heap.size + 1 + 1, 7, none⟩ (.int .u64 0)).setCell ⟨w.heap.size + 1 + 1, 8, none⟩ (.int .u64 0)) (w.heap.size + 1 + 1) := (kb_set (kb_set (kb_set (kb_set (kb_set (kb_set (kb_set (kb_set (kb_set (kb_refl _ _) 0 (.bool false)) 1 (.int .u64 r)) 2 (.int .u64 0)) 3 (.int .u64 0)) 4 (.int .u64 0)) 5 (.int .u64 r)) 6 (.int .u64 0)) 7 (.int .u64 0)) 8 (.int .u64 0))
   have k10z := (blk_set (blk_set (blk_set (blk_set (blk_set (blk_set (blk_set (blk_set (blk_set kk 0 (.bool false)) 1 (.int .u64 r)) 2 (.int .u64 0)) 3 (.int .u64 0)) 4 (.int .u64 0)) 5 (.int .u64 r)) 6 (.int .u64 0)) 7 (.int .u64 0)) 8 (.int .u64 0))
   simp only [List.setIfInBounds_toArray, List.set_cons_zero, List.set_cons_succ] at k10z
   have k4z := kb_blk kq (blk_below Q6.out.2.1 hHeld) (by omega)
   have sq := blk_lt kk
   generalize (((((((((w_.setCell ⟨w.heap.size + 1 + 1, 0, none⟩ (.bool false)).setCell ⟨w.heap.size + 1 + 1, 1, none⟩ (.int .u64 r)).setCell ⟨w.heap.size + 1 + 1, 2, none⟩ (.int .u64 0)).setCell ⟨w.heap.size + 1 + 1, 3, none⟩ (.int .u64 0)).setCell ⟨w.heap.size + 1 + 1, 4, none⟩ (.int .u64 0)).setCell ⟨w.heap.size + 1 + 1, 5, none⟩ (.int .u64 r)).setCell ⟨w.heap.size + 1 + 1, 6, none⟩ (.int .u64 0)).setCell ⟨w.heap.size + 1 + 1, 7, none⟩ (.int .u64 0)).setCell ⟨w.heap.size + 1 + 1, 8, none⟩ (.int .u64 0)) = z at kq k10z k4z ⊢
   have IM := (Q6.out.2.2.2.1.same (Same.below hHeld) (Same.below hHeld) (Same.below hHeld)).same (Same.kb kq kk (by decide)) (Same.kb kq kk (by decide)) (Same.kb kq kk (by decide))
   rw [List.append_assoc, show L.take i ++ [v] = L.take (i + 1) by rw [← hv.out]; exact (take_next L (i : Int) 0 (by omega) (by omega)).symm] at IM
   have hb1 := Q6.out.2.2.2.2.1.size
   have hb2 := hHeld.size
   have BZ : Below base w z := (Q6.out.2.2.2.2.1.trans (hHeld.mono (by omega))).trans (kb_low kq (by omega) (by omega))
   have TZ : ∀ t, t ≠ 189 → t ≠ 82 → t ≠ 193 → Same t w z := fun t h1 h2 h3 g cs fr hc => by
    have hlt := blk_lt hc
    have e1 := Q6.out.2.2.2.2.2.1 t h1 h2 h3 g cs fr hc
    have hlt2 : g < w_.heap.size := by omega
    exact (kq.k.2 g (by omega) (by omega) (by simp)).trans ((hHeld.block g (by omega)).trans e1)
   have hm1 : altM S.length (i + 1) = r := by simp only [altM]; rw [hmi.out, hq.out, hr.out]
   rw [← hm1] at k10z
   have R1 : Aside0 (z.heap[w.heap.size + 1 + 1]? = some (.cells #[.bool false, .int .u64 (altM S.length (i + 1)), .int .u64 0, .int .u64 0, .int .u64 0, .int .u64 (altM S.length (i + 1)), .int .u64 0, .int .u64 0, .int .u64 0] 195 (0, 0)) ∧ z.heap[w.heap.size + 1]? = some (.cells #[.bool false, .int .u64 0, .int .u64 0, .int .u64 0, .int .u64 0, .int .u64 0, .int .u64 0, .int .u64 0, .int .u64 0] 195 (0, 0))) := ⟨⟨k10z, k4z⟩⟩
   have R2 : Aside0 (OfA w mp base S L (i + 1) z) := ⟨⟨IM, BZ, TZ⟩⟩
   clear kk sq t0 tf0 t1 tf1 t2 tf2 t3 tf3 t4 tf4 t5 tf5 t6 tf6 t7 tf7 t8 tf8 hHeld Q6 kq k10z k4z IM BZ TZ hm1 hb1 hb2
   go_wp2
   go_roundg k1
   case measure => omega
   case rel => exact ⟨i + 1, by simp, ⟨by omega⟩, R1, R2⟩
end Go.Proofs.YtkeccgkicffieaaGreatDoor.PTopWider
