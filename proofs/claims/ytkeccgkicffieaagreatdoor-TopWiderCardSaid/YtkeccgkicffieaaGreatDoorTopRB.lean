/- The walks of the rules' parser: named, thing, often, row, either. Conditions: the parser lies in memory as IsPar tells, what stands next is right. -/
import Derived.Test.YtkeccgkicffieaaGreatDoorTopR
import Derived.Test.YtkeccgkicffieaaGreatDoorTopT
import Derived.Test.YtkeccgkicffieaaGreatDoorTopV
namespace Go.Proofs.YtkeccgkicffieaaGreatDoor.PTopWider
open Go.RowKit Go.Proofs.YtkeccgkicffieaaGreatDoorW.PrintWords Go.Proofs.YtkeccgkicffieaaGreatDoorW.PrintLast Go.Proofs.YtkeccgkicffieaaGreatDoorW.PrintMore
set_option linter.unusedVariables false
set_option linter.unusedSimpArgs false
theorem check_str {P : Program} {w : World} {kt : TypeId} (b : Bool) (n : Nat) (s : ByteArray) (hk : P.underlying kt = some .string) : (Instr.checkKey b (n + 1) kt (.string s)).run P w = .ok () w := by
 simp [Instr.checkKey, underlying, hk, program, Sem.run, Sem.run_bind]
/-- A look into a map whose keys are strings. -/
theorem lookup_str {P : Program} {w : World} {t kt et : TypeId} {mb clock : Nat} {es : Array MapEntry} {name : ByteArray} {v : Value} {i : Nat} (hm : P.underlying t = some (.map kt et)) (hk : P.underlying kt = some .string) (h : w.heap[mb]? = some (.map es clock))
  (hf : Instr.findNow .string (.string name) es.toList 0 = some (some (i, v))) : (Instr.lookup t (.map (some mb)) (.string name) true).run P w = .ok (.tuple #[v, .bool true]) w := by
 have hc := check_str (w := w) es.isEmpty 9999 name hk
 simp only [Nat.reduceAdd] at hc
 simp [Instr.lookup, underlying, hm, program, Sem.run, getObj, h, hc, Instr.findKey, hk, hf]
theorem lookup_str_none {P : Program} {w : World} {t kt et : TypeId} {mb clock : Nat} {es : Array MapEntry} {name : ByteArray} {z : Value} (hm : P.underlying t = some (.map kt et)) (hk : P.underlying kt = some .string) (h : w.heap[mb]? = some (.map es clock))
  (hf : Instr.findNow .string (.string name) es.toList 0 = some none) (hz : (zeroValue et).run P w = .ok z w) : (Instr.lookup t (.map (some mb)) (.string name) true).run P w = .ok (.tuple #[z, .bool false]) w := by
 have hc := check_str (w := w) es.isEmpty 9999 name hk
 simp only [Nat.reduceAdd] at hc
 simp [Instr.lookup, underlying, hm, program, Sem.run, getObj, h, hc, Instr.findKey, hk, hf, hz]
theorem hereF_again (s : ByteArray) : ∀ (n : Nat) (k j c : Int), hereF s n k = some (j, c) → hereF s 1 j = some (j, c)
 | 0, k, j, c, h => by simp [hereF] at h
 | n + 1, k, j, c, h => by
  unfold hereF at h
  by_cases h1 : k < (s.size : Int)
  ·rw [if_pos h1] at h
   by_cases h2 : bt s k = 35
   ·rw [if_pos h2] at h; cases h
   ·rw [if_neg h2] at h
    by_cases h3 : blankB (bt s k) = true
    ·rw [if_pos h3] at h
     exact hereF_again s n _ _ _ h
    ·rw [if_neg h3] at h
     by_cases h4 : letterB (bt s k) = true
     ·rw [if_pos h4] at h
      injection h with h
      injection h with ha hb
      subst ha hb
      unfold hereF
      rw [if_pos h1, if_neg h2, if_neg h3, if_pos h4]
     ·rw [if_neg h4] at h
      by_cases h5 : 0 ≤ Lib.indexByte [40, 41, 91, 93, 94, 124, 42, 43, 63, 46, 59, 47, 61] (bt s k).toNat.toUInt8
      ·rw [if_pos h5] at h
       injection h with h
       injection h with ha hb
       subst ha hb
       unfold hereF
       rw [if_pos h1, if_neg h2, if_neg h3, if_neg h4, if_pos h5]
      ·rw [if_neg h5] at h; cases h
  ·rw [if_neg h1] at h
   injection h with h
   injection h with ha hb
   subst ha hb
   unfold hereF
   rw [if_neg h1]
theorem hereF_ge (s : ByteArray) : ∀ (n : Nat) (k j c : Int), hereF s n k = some (j, c) → k ≤ j ∧ (k ≤ (s.size : Int) → j ≤ (s.size : Int))
 | 0, k, j, c, h => by simp [hereF] at h
 | n + 1, k, j, c, h => by
  unfold hereF at h
  split at h
  ·split at h
   ·cases h
   ·split at h
    ·have := hereF_ge s n _ _ _ h
     omega
    ·split at h
     ·injection h with h; injection h with ha hb; omega
     ·split at h
      ·injection h with h; injection h with ha hb; omega
      ·cases h
  ·injection h with h; injection h with ha hb; omega
theorem kb_new {w w1 : World} {gp b i : Nat} {v : Value} (h : KB w w1 gp) (hb : w.heap.size ≤ b) : KB w (w1.setCell ⟨b, i, none⟩ v) gp :=
 ⟨⟨by simpa using h.k.1, fun q hq hg hr => (Below.heap_setCell w1 ⟨b, i, none⟩ v q (fun he => by simp at he; omega)).trans (h.k.2 q hq hg hr)⟩, h.os, h.tape, h.out⟩
theorem IsPar.far {w : World} {gp b i : Nat} {P : Ps} {k pl : Int} {v : Value} (h : IsPar w gp P k pl) (hb : gp ≠ b) : IsPar (w.setCell ⟨b, i, none⟩ v) gp P k pl := blk_far h (p := ⟨b, i, none⟩) hb v
set_option maxHeartbeats 40000000 in
set_option maxRecDepth 100000 in
theorem named_calls (gp : Nat) (P : Ps) (n n2 : Nat) (k pl j c j2 v : Int) (i clock : Nat) (name : ByteArray) (es : Array MapEntry) (w : World) (hk : 0 ≤ k) (hs : P.s.size ≤ 1000000) (hj : 0 ≤ j) (hj2 : j ≤ j2 ∧ j2 ≤ (P.s.size : Int)) (hP : IsPar w gp P k pl) (hF : hereF P.s n k = some (j, c)) (hl : letterB c = true) (hW : wordF P.s n2 j = some j2)
  (hn : P.s.extract j.toNat j2.toNat = name) (hm : w.heap[P.mb]? = some (.map es clock)) (hg : P.mb ≠ gp) (hf : Instr.findNow .string (.string name) es.toList 0 = some (some (i, .int .u32 v))) :
  Calls Tryz.prog 101 #[.pointer (some ⟨gp, 0, none⟩)] w fun e w' => ParE (.int .u32 v) gp P w pl j2 e w' := by
 have hw := pword_calls gp P n n2 k pl j c j2 w hk hs hj hj2 hP hF hl hW
 rw [hn] at hw
 have HW := Aside0.mk hw
 have HM := Aside0.mk hm
 clear hw hP hF hl hW hn hm
 go_enter Tryz.func101, Tryz.ntmps101
 go_wp2_with fail
 refine HW.out.mono ?_
 rintro e w1 ⟨rfl, hQ, hB⟩
 have y7 := hQ.c7
 have hlk := lookup_str (P := Tryz.prog) Tryz.underlying132 Tryz.underlying9 (kb_blk hB HM.out hg) hf
 have QQ := Aside0.mk (And.intro hQ hB)
 clear hQ hB hf
 go_wp2
 go_ret
 exact ⟨rfl, QQ.out⟩
set_option maxHeartbeats 40000000 in
set_option maxRecDepth 100000 in
theorem thing_dot1 (gp : Nat) (P : Ps) (n : Nat) (k pl j : Int) (A : Option Addr) (c : Nat) (w : World) (hk : 0 ≤ k) (hs : P.s.size ≤ 1000000) (hj : j ≤ 1000000 ∧ 0 ≤ j) (hpl : 0 ≤ pl ∧ pl < 200) (hC : P.vC = .slice A 1 c) (hP : IsPar w gp P k pl) (hF : hereF P.s n k = some (j, 46)) :
  Calls Tryz.prog 114 #[.pointer (some ⟨gp, 0, none⟩)] w fun e w' => ParE (.agg #[.int .u8 1, .int .u32 1, .slice none 0 0]) gp P w (pl + 1) (j + 1) e w' := by
 have hgp := hP.lt
 have hw1 : wrap64 (pl + 1) = pl + 1 := by unfold wrap64; omega
 have hba := below_alloc (Below.refl w.heap.size w) (.cells #[.int .u8 0, .int .u32 0, .slice none 0 0] 140)
 have K2 := blk_new w (.cells #[.int .u8 0, .int .u32 0, .slice none 0 0] 140)
 have hP0 := hP.on hba
 have y1 := hP0.c1
 have hFa := hereF_again _ _ _ _ _ hF
 have hne : w.heap.size ≠ gp := by omega
 have HP0 := Aside0.mk (And.intro hP0 (And.intro hF hFa))
 have HBA := Aside0.mk (And.intro hba K2)
 clear hP hF hFa hP0 hba K2
 go_enter Tryz.func114, Tryz.ntmps114
 go_wp2_with fail
 refine (sign_no gp P n k pl j 40 46 _ hk hs HP0.out.1 HP0.out.2.1 (by decide)).mono ?_
 rintro e w1 ⟨rfl, hQ1, hB1⟩
 have hB1w := kb_then (kb_of_below HBA.out.1 gp) hB1
 have K21 := kb_blk hB1 HBA.out.2 hne
 have hP2 := hQ1.places (pl + 1)
 have hB2 := kb_set hB1w 8 (.int .i64 (pl + 1))
 have K22 := blk_far K21 (p := ⟨gp, 8, none⟩) hne (.int .i64 (pl + 1))
 have hbb := below_alloc (Below.refl _ (w1.setCell ⟨gp, 8, none⟩ (.int .i64 (pl + 1)))) (.cells #[.int .u8 1, .int .u32 0, .slice none 0 0] 140)
 have K5 := blk_new (w1.setCell ⟨gp, 8, none⟩ (.int .i64 (pl + 1))) (.cells #[.int .u8 1, .int .u32 0, .slice none 0 0] 140)
 have hP3 := hP2.on hbb
 have hB3 := kb_below hB2 hbb
 have K23 := blk_below K22 hbb
 have hsz : w.heap.size < (w1.setCell ⟨gp, 8, none⟩ (.int .i64 (pl + 1))).heap.size := blk_lt K22
 have hsz1 : (w1.setCell ⟨gp, 8, none⟩ (.int .i64 (pl + 1))).heap.size = w1.heap.size := by simp
 rw [hsz1] at hsz K5
 have hgp1 : gp < w1.heap.size := hQ1.lt
 have y8 := hQ1.c8
 have y8f := blk_frozen hQ1 8
 have z8 := hP2.c8
 have z2 := hP3.c2
 rw [hC] at z2
 have X3 := Aside0.mk (And.intro hP3 (And.intro hB3 (And.intro K23 K5)))
 clear hP2 hB2 hbb hP3 hB3 K22 K23 K21 hQ1 hB1 hB1w K5 y1 hsz1
 go_wp2_with fail
 generalize (w1.setCell ⟨gp, 8, none⟩ (.int .i64 (pl + 1))).alloc (.cells #[.int .u8 1, .int .u32 0, .slice none 0 0] 140) = w3 at X3 ⊢
 generalize w1.heap.size = b5 at X3 hsz hgp1 ⊢
 clear y8 y8f z8 z2
 refine (sign_yes gp P 1 j (pl + 1) j 46 w3 hj.2 hs hj X3.out.1 HP0.out.2.2).mono ?_
 rintro e w4 ⟨rfl, hQ4, hB4⟩
 have K24 := kb_blk hB4 X3.out.2.2.1 hne
 have K54 := kb_blk hB4 X3.out.2.2.2 (by omega)
 have hBw := kb_then X3.out.2.1 hB4
 have x0 : w4.cell? ⟨b5, 1, none⟩ = some (.int .u32 0) := blk_cell K54 1
 have x1 := blk_frozen K54 1
 have K55 := blk_set K54 1 (.int .u32 1)
 have K25 := blk_far K24 (p := ⟨b5, 1, none⟩) (by show w.heap.size ≠ b5; omega) (.int .u32 1)
 have hQ5 := hQ4.far (b := b5) (i := 1) (v := .int .u32 1) (by omega)
 have hB5 := kb_new (b := b5) (i := 1) (v := .int .u32 1) hBw (by omega)
 have u0 : (w4.setCell ⟨b5, 1, none⟩ (.int .u32 1)).cell? ⟨b5, 0, none⟩ = some (.int .u8 1) := blk_cell K55 0
 have u1 : (w4.setCell ⟨b5, 1, none⟩ (.int .u32 1)).cell? ⟨b5, 1, none⟩ = some (.int .u32 1) := blk_cell K55 1
 have u2 : (w4.setCell ⟨b5, 1, none⟩ (.int .u32 1)).cell? ⟨b5, 2, none⟩ = some (.slice none 0 0) := blk_cell K55 2
 have X5 := Aside0.mk (And.intro hQ5 (And.intro hB5 K25))
 clear hQ4 hB4 K24 K54 hBw K55 hQ5 hB5 K25
 go_upto_region 23 with fail
 generalize w4.setCell ⟨b5, 1, none⟩ (.int .u32 1) = w5 at X5 u0 u1 u2 ⊢
 clear x0 x1
 have t0 : w5.cell? ⟨w.heap.size, 0, none⟩ = some (.int .u8 0) := blk_cell X5.out.2.2 0
 have t1 : w5.cell? ⟨w.heap.size, 1, none⟩ = some (.int .u32 0) := blk_cell X5.out.2.2 1
 have t2 : w5.cell? ⟨w.heap.size, 2, none⟩ = some (.slice none 0 0) := blk_cell X5.out.2.2 2
 have t3 := blk_frozen X5.out.2.2 0
 have t4 := blk_frozen X5.out.2.2 1
 have t5 := blk_frozen X5.out.2.2 2
 have K26 := blk_set (blk_set (blk_set X5.out.2.2 0 (.int .u8 1)) 1 (.int .u32 1)) 2 (.slice none 0 0)
 have hQ6 := ((X5.out.1.far (b := w.heap.size) (i := 0) (v := .int .u8 1) (by omega)).far (b := w.heap.size) (i := 1) (v := .int .u32 1) (by omega)).far (b := w.heap.size) (i := 2) (v := .slice none 0 0) (by omega)
 have hB6 := kb_new (b := w.heap.size) (i := 2) (v := .slice none 0 0) (kb_new (b := w.heap.size) (i := 1) (v := .int .u32 1) (kb_new (b := w.heap.size) (i := 0) (v := .int .u8 1) X5.out.2.1 (Nat.le_refl _)) (Nat.le_refl _)) (Nat.le_refl _)
 have X6 := Aside0.mk (And.intro hQ6 (And.intro hB6 K26))
 clear hQ6 hB6 K26
 go_wp2
 refine bodyPost_ret (results_cell_row rfl _ _ w.heap.size 140 #[.int .u8 1, .int .u32 1, .slice none 0 0] (0, 0) _ rfl X6.out.2.2 Tryz.underlying140 rfl (by kernel_rfl)) rfl ⟨rfl, X6.out.1, X6.out.2.1⟩
set_option maxHeartbeats 40000000 in
set_option maxRecDepth 100000 in
theorem thing_dot3 (gp : Nat) (P : Ps) (n : Nat) (k pl j : Int) (A : Option Addr) (c : Nat) (w : World) (hk : 0 ≤ k) (hs : P.s.size ≤ 1000000) (hj : j ≤ 1000000 ∧ 0 ≤ j) (hpl : 0 ≤ pl ∧ pl < 200) (hC : P.vC = .slice A 3 c) (hP : IsPar w gp P k pl) (hF : hereF P.s n k = some (j, 46)) :
  Calls Tryz.prog 114 #[.pointer (some ⟨gp, 0, none⟩)] w fun e w' => ParE (.agg #[.int .u8 1, .int .u32 7, .slice none 0 0]) gp P w (pl + 1) (j + 1) e w' := by
 have hgp := hP.lt
 have hw1 : wrap64 (pl + 1) = pl + 1 := by unfold wrap64; omega
 have hba := below_alloc (Below.refl w.heap.size w) (.cells #[.int .u8 0, .int .u32 0, .slice none 0 0] 140)
 have K2 := blk_new w (.cells #[.int .u8 0, .int .u32 0, .slice none 0 0] 140)
 have hP0 := hP.on hba
 have y1 := hP0.c1
 have hFa := hereF_again _ _ _ _ _ hF
 have hne : w.heap.size ≠ gp := by omega
 have HP0 := Aside0.mk (And.intro hP0 (And.intro hF hFa))
 have HBA := Aside0.mk (And.intro hba K2)
 clear hP hF hFa hP0 hba K2
 go_enter Tryz.func114, Tryz.ntmps114
 go_wp2_with fail
 refine (sign_no gp P n k pl j 40 46 _ hk hs HP0.out.1 HP0.out.2.1 (by decide)).mono ?_
 rintro e w1 ⟨rfl, hQ1, hB1⟩
 have hB1w := kb_then (kb_of_below HBA.out.1 gp) hB1
 have K21 := kb_blk hB1 HBA.out.2 hne
 have hP2 := hQ1.places (pl + 1)
 have hB2 := kb_set hB1w 8 (.int .i64 (pl + 1))
 have K22 := blk_far K21 (p := ⟨gp, 8, none⟩) hne (.int .i64 (pl + 1))
 have hbb := below_alloc (Below.refl _ (w1.setCell ⟨gp, 8, none⟩ (.int .i64 (pl + 1)))) (.cells #[.int .u8 1, .int .u32 0, .slice none 0 0] 140)
 have K5 := blk_new (w1.setCell ⟨gp, 8, none⟩ (.int .i64 (pl + 1))) (.cells #[.int .u8 1, .int .u32 0, .slice none 0 0] 140)
 have hP3 := hP2.on hbb
 have hB3 := kb_below hB2 hbb
 have K23 := blk_below K22 hbb
 have hsz : w.heap.size < (w1.setCell ⟨gp, 8, none⟩ (.int .i64 (pl + 1))).heap.size := blk_lt K22
 have hsz1 : (w1.setCell ⟨gp, 8, none⟩ (.int .i64 (pl + 1))).heap.size = w1.heap.size := by simp
 rw [hsz1] at hsz K5
 have hgp1 : gp < w1.heap.size := hQ1.lt
 have y8 := hQ1.c8
 have y8f := blk_frozen hQ1 8
 have z8 := hP2.c8
 have z2 := hP3.c2
 rw [hC] at z2
 have X3 := Aside0.mk (And.intro hP3 (And.intro hB3 (And.intro K23 K5)))
 clear hP2 hB2 hbb hP3 hB3 K22 K23 K21 hQ1 hB1 hB1w K5 y1 hsz1
 go_wp2_with fail
 generalize (w1.setCell ⟨gp, 8, none⟩ (.int .i64 (pl + 1))).alloc (.cells #[.int .u8 1, .int .u32 0, .slice none 0 0] 140) = w3 at X3 ⊢
 generalize w1.heap.size = b5 at X3 hsz hgp1 ⊢
 clear y8 y8f z8 z2
 refine (sign_yes gp P 1 j (pl + 1) j 46 w3 hj.2 hs hj X3.out.1 HP0.out.2.2).mono ?_
 rintro e w4 ⟨rfl, hQ4, hB4⟩
 have K24 := kb_blk hB4 X3.out.2.2.1 hne
 have K54 := kb_blk hB4 X3.out.2.2.2 (by omega)
 have hBw := kb_then X3.out.2.1 hB4
 have x0 : w4.cell? ⟨b5, 1, none⟩ = some (.int .u32 0) := blk_cell K54 1
 have x1 := blk_frozen K54 1
 have K55 := blk_set K54 1 (.int .u32 7)
 have K25 := blk_far K24 (p := ⟨b5, 1, none⟩) (by show w.heap.size ≠ b5; omega) (.int .u32 7)
 have hQ5 := hQ4.far (b := b5) (i := 1) (v := .int .u32 7) (by omega)
 have hB5 := kb_new (b := b5) (i := 1) (v := .int .u32 7) hBw (by omega)
 have u0 : (w4.setCell ⟨b5, 1, none⟩ (.int .u32 7)).cell? ⟨b5, 0, none⟩ = some (.int .u8 1) := blk_cell K55 0
 have u1 : (w4.setCell ⟨b5, 1, none⟩ (.int .u32 7)).cell? ⟨b5, 1, none⟩ = some (.int .u32 7) := blk_cell K55 1
 have u2 : (w4.setCell ⟨b5, 1, none⟩ (.int .u32 7)).cell? ⟨b5, 2, none⟩ = some (.slice none 0 0) := blk_cell K55 2
 have X5 := Aside0.mk (And.intro hQ5 (And.intro hB5 K25))
 clear hQ4 hB4 K24 K54 hBw K55 hQ5 hB5 K25
 go_upto_region 23 with fail
 generalize w4.setCell ⟨b5, 1, none⟩ (.int .u32 7) = w5 at X5 u0 u1 u2 ⊢
 clear x0 x1
 have t0 : w5.cell? ⟨w.heap.size, 0, none⟩ = some (.int .u8 0) := blk_cell X5.out.2.2 0
 have t1 : w5.cell? ⟨w.heap.size, 1, none⟩ = some (.int .u32 0) := blk_cell X5.out.2.2 1
 have t2 : w5.cell? ⟨w.heap.size, 2, none⟩ = some (.slice none 0 0) := blk_cell X5.out.2.2 2
 have t3 := blk_frozen X5.out.2.2 0
 have t4 := blk_frozen X5.out.2.2 1
 have t5 := blk_frozen X5.out.2.2 2
 have K26 := blk_set (blk_set (blk_set X5.out.2.2 0 (.int .u8 1)) 1 (.int .u32 7)) 2 (.slice none 0 0)
 have hQ6 := ((X5.out.1.far (b := w.heap.size) (i := 0) (v := .int .u8 1) (by omega)).far (b := w.heap.size) (i := 1) (v := .int .u32 7) (by omega)).far (b := w.heap.size) (i := 2) (v := .slice none 0 0) (by omega)
 have hB6 := kb_new (b := w.heap.size) (i := 2) (v := .slice none 0 0) (kb_new (b := w.heap.size) (i := 1) (v := .int .u32 7) (kb_new (b := w.heap.size) (i := 0) (v := .int .u8 1) X5.out.2.1 (Nat.le_refl _)) (Nat.le_refl _)) (Nat.le_refl _)
 have X6 := Aside0.mk (And.intro hQ6 (And.intro hB6 K26))
 clear hQ6 hB6 K26
 go_wp2
 refine bodyPost_ret (results_cell_row rfl _ _ w.heap.size 140 #[.int .u8 1, .int .u32 7, .slice none 0 0] (0, 0) _ rfl X6.out.2.2 Tryz.underlying140 rfl (by kernel_rfl)) rfl ⟨rfl, X6.out.1, X6.out.2.1⟩
set_option maxHeartbeats 40000000 in
set_option maxRecDepth 100000 in
theorem thing_name1 (gp : Nat) (P : Ps) (n n2 : Nat) (k pl j d j2 v: Int) (i clock : Nat) (name : ByteArray) (es : Array MapEntry) (A : Option Addr) (c : Nat) (w : World) (hk : 0 ≤ k) (hs : P.s.size ≤ 1000000) (hj : j ≤ 1000000 ∧ 0 ≤ j) (hpl : 0 ≤ pl ∧ pl < 200) (hC : P.vC = .slice A 1 c) (hP : IsPar w gp P k pl) (hF : hereF P.s n k = some (j, d)) (hj2 : j ≤ j2 ∧ j2 ≤ (P.s.size : Int)) (hl : letterB d = true) (hW : wordF P.s n2 j = some j2) (hn : P.s.extract j.toNat j2.toNat = name) (hm : w.heap[P.mb]? = some (.map es clock)) (hg : P.mb ≠ gp) (hf : Instr.findNow .string (.string name) es.toList 0 = some (some (i, .int .u32 v))) :
  Calls Tryz.prog 114 #[.pointer (some ⟨gp, 0, none⟩)] w fun e w' => ParE (.agg #[.int .u8 1, .int .u32 v, .slice none 0 0]) gp P w (pl + 1) j2 e w' := by
 have hgp := hP.lt
 have hw1 : wrap64 (pl + 1) = pl + 1 := by unfold wrap64; omega
 have hba := below_alloc (Below.refl w.heap.size w) (.cells #[.int .u8 0, .int .u32 0, .slice none 0 0] 140)
 have K2 := blk_new w (.cells #[.int .u8 0, .int .u32 0, .slice none 0 0] 140)
 have hP0 := hP.on hba
 have y1 := hP0.c1
 have hFa := hereF_again _ _ _ _ _ hF
 have hne : w.heap.size ≠ gp := by omega
 have HP0 := Aside0.mk (And.intro hP0 (And.intro hF hFa))
 have HBA := Aside0.mk (And.intro hba K2)
 have HM := Aside0.mk hm
 clear hP hF hFa hP0 hba K2 hm
 go_enter Tryz.func114, Tryz.ntmps114
 go_wp2_with fail
 refine (sign_no gp P n k pl j 40 d _ hk hs HP0.out.1 HP0.out.2.1 (fun he => by rw [he] at hl; exact absurd hl (by decide))).mono ?_
 rintro e w1 ⟨rfl, hQ1, hB1⟩
 have hB1w := kb_then (kb_of_below HBA.out.1 gp) hB1
 have K21 := kb_blk hB1 HBA.out.2 hne
 have hP2 := hQ1.places (pl + 1)
 have hB2 := kb_set hB1w 8 (.int .i64 (pl + 1))
 have K22 := blk_far K21 (p := ⟨gp, 8, none⟩) hne (.int .i64 (pl + 1))
 have hbb := below_alloc (Below.refl _ (w1.setCell ⟨gp, 8, none⟩ (.int .i64 (pl + 1)))) (.cells #[.int .u8 1, .int .u32 0, .slice none 0 0] 140)
 have K5 := blk_new (w1.setCell ⟨gp, 8, none⟩ (.int .i64 (pl + 1))) (.cells #[.int .u8 1, .int .u32 0, .slice none 0 0] 140)
 have hP3 := hP2.on hbb
 have hB3 := kb_below hB2 hbb
 have K23 := blk_below K22 hbb
 have hsz : w.heap.size < (w1.setCell ⟨gp, 8, none⟩ (.int .i64 (pl + 1))).heap.size := blk_lt K22
 have hsz1 : (w1.setCell ⟨gp, 8, none⟩ (.int .i64 (pl + 1))).heap.size = w1.heap.size := by simp
 rw [hsz1] at hsz K5
 have hgp1 : gp < w1.heap.size := hQ1.lt
 have y8 := hQ1.c8
 have y8f := blk_frozen hQ1 8
 have z8 := hP2.c8
 have z2 := hP3.c2
 rw [hC] at z2
 have X3 := Aside0.mk (And.intro hP3 (And.intro hB3 (And.intro K23 K5)))
 clear hP2 hB2 hbb hP3 hB3 K22 K23 K21 hQ1 hB1 hB1w K5 y1 hsz1
 go_wp2_with fail
 generalize (w1.setCell ⟨gp, 8, none⟩ (.int .i64 (pl + 1))).alloc (.cells #[.int .u8 1, .int .u32 0, .slice none 0 0] 140) = w3 at X3 ⊢
 generalize w1.heap.size = b5 at X3 hsz hgp1 ⊢
 clear y8 y8f z8 z2
 refine (sign_no gp P 1 j (pl + 1) j 46 d w3 hj.2 hs X3.out.1 HP0.out.2.2 (fun he => by rw [he] at hl; exact absurd hl (by decide))).mono ?_
 rintro e w31 ⟨rfl, hQ31, hB31⟩
 go_wp2_with fail
 refine (sign_no gp P 1 j (pl + 1) j 91 d w31 hj.2 hs hQ31 HP0.out.2.2 (fun he => by rw [he] at hl; exact absurd hl (by decide))).mono ?_
 rintro e w32 ⟨rfl, hQ32, hB32⟩
 go_wp2_with fail
 refine (named_calls gp P 1 n2 j (pl + 1) j d j2 v i clock name es w32 hj.2 hs hj.2 hj2 hQ32 HP0.out.2.2 hl hW hn (kb_blk (kb_then (kb_then X3.out.2.1 hB31) hB32) HM.out hg) hg hf).mono ?_
 rintro e w4 ⟨rfl, hQ4, hB4a⟩
 have hB4 := kb_then (kb_then hB31 hB32) hB4a
 clear hB4a hB31 hB32 hQ31 hQ32
 have K24 := kb_blk hB4 X3.out.2.2.1 hne
 have K54 := kb_blk hB4 X3.out.2.2.2 (by omega)
 have hBw := kb_then X3.out.2.1 hB4
 have x0 : w4.cell? ⟨b5, 1, none⟩ = some (.int .u32 0) := blk_cell K54 1
 have x1 := blk_frozen K54 1
 have K55 := blk_set K54 1 (.int .u32 v)
 have K25 := blk_far K24 (p := ⟨b5, 1, none⟩) (by show w.heap.size ≠ b5; omega) (.int .u32 v)
 have hQ5 := hQ4.far (b := b5) (i := 1) (v := .int .u32 v) (by omega)
 have hB5 := kb_new (b := b5) (i := 1) (v := .int .u32 v) hBw (by omega)
 have u0 : (w4.setCell ⟨b5, 1, none⟩ (.int .u32 v)).cell? ⟨b5, 0, none⟩ = some (.int .u8 1) := blk_cell K55 0
 have u1 : (w4.setCell ⟨b5, 1, none⟩ (.int .u32 v)).cell? ⟨b5, 1, none⟩ = some (.int .u32 v) := blk_cell K55 1
 have u2 : (w4.setCell ⟨b5, 1, none⟩ (.int .u32 v)).cell? ⟨b5, 2, none⟩ = some (.slice none 0 0) := blk_cell K55 2
 have X5 := Aside0.mk (And.intro hQ5 (And.intro hB5 K25))
 clear hQ4 hB4 K24 K54 hBw K55 hQ5 hB5 K25
 go_upto_region 23 with fail
 generalize w4.setCell ⟨b5, 1, none⟩ (.int .u32 v) = w5 at X5 u0 u1 u2 ⊢
 clear x0 x1
 have t0 : w5.cell? ⟨w.heap.size, 0, none⟩ = some (.int .u8 0) := blk_cell X5.out.2.2 0
 have t1 : w5.cell? ⟨w.heap.size, 1, none⟩ = some (.int .u32 0) := blk_cell X5.out.2.2 1
 have t2 : w5.cell? ⟨w.heap.size, 2, none⟩ = some (.slice none 0 0) := blk_cell X5.out.2.2 2
 have t3 := blk_frozen X5.out.2.2 0
 have t4 := blk_frozen X5.out.2.2 1
 have t5 := blk_frozen X5.out.2.2 2
 have K26 := blk_set (blk_set (blk_set X5.out.2.2 0 (.int .u8 1)) 1 (.int .u32 v)) 2 (.slice none 0 0)
 have hQ6 := ((X5.out.1.far (b := w.heap.size) (i := 0) (v := .int .u8 1) (by omega)).far (b := w.heap.size) (i := 1) (v := .int .u32 v) (by omega)).far (b := w.heap.size) (i := 2) (v := .slice none 0 0) (by omega)
 have hB6 := kb_new (b := w.heap.size) (i := 2) (v := .slice none 0 0) (kb_new (b := w.heap.size) (i := 1) (v := .int .u32 v) (kb_new (b := w.heap.size) (i := 0) (v := .int .u8 1) X5.out.2.1 (Nat.le_refl _)) (Nat.le_refl _)) (Nat.le_refl _)
 have X6 := Aside0.mk (And.intro hQ6 (And.intro hB6 K26))
 clear hQ6 hB6 K26
 go_wp2
 refine bodyPost_ret (results_cell_row rfl _ _ w.heap.size 140 #[.int .u8 1, .int .u32 v, .slice none 0 0] (0, 0) _ rfl X6.out.2.2 Tryz.underlying140 rfl (by kernel_rfl)) rfl ⟨rfl, X6.out.1, X6.out.2.1⟩
set_option maxHeartbeats 40000000 in
set_option maxRecDepth 100000 in
theorem thing_name3 (gp : Nat) (P : Ps) (n n2 : Nat) (k pl j d j2 v: Int) (i clock : Nat) (name : ByteArray) (es : Array MapEntry) (A : Option Addr) (c : Nat) (w : World) (hk : 0 ≤ k) (hs : P.s.size ≤ 1000000) (hj : j ≤ 1000000 ∧ 0 ≤ j) (hpl : 0 ≤ pl ∧ pl < 200) (hC : P.vC = .slice A 3 c) (hP : IsPar w gp P k pl) (hF : hereF P.s n k = some (j, d)) (hj2 : j ≤ j2 ∧ j2 ≤ (P.s.size : Int)) (hl : letterB d = true) (hW : wordF P.s n2 j = some j2) (hn : P.s.extract j.toNat j2.toNat = name) (hm : w.heap[P.mb]? = some (.map es clock)) (hg : P.mb ≠ gp) (hf : Instr.findNow .string (.string name) es.toList 0 = some (some (i, .int .u32 v))) :
  Calls Tryz.prog 114 #[.pointer (some ⟨gp, 0, none⟩)] w fun e w' => ParE (.agg #[.int .u8 1, .int .u32 v, .slice none 0 0]) gp P w (pl + 1) j2 e w' := by
 have hgp := hP.lt
 have hw1 : wrap64 (pl + 1) = pl + 1 := by unfold wrap64; omega
 have hba := below_alloc (Below.refl w.heap.size w) (.cells #[.int .u8 0, .int .u32 0, .slice none 0 0] 140)
 have K2 := blk_new w (.cells #[.int .u8 0, .int .u32 0, .slice none 0 0] 140)
 have hP0 := hP.on hba
 have y1 := hP0.c1
 have hFa := hereF_again _ _ _ _ _ hF
 have hne : w.heap.size ≠ gp := by omega
 have HP0 := Aside0.mk (And.intro hP0 (And.intro hF hFa))
 have HBA := Aside0.mk (And.intro hba K2)
 have HM := Aside0.mk hm
 clear hP hF hFa hP0 hba K2 hm
 go_enter Tryz.func114, Tryz.ntmps114
 go_wp2_with fail
 refine (sign_no gp P n k pl j 40 d _ hk hs HP0.out.1 HP0.out.2.1 (fun he => by rw [he] at hl; exact absurd hl (by decide))).mono ?_
 rintro e w1 ⟨rfl, hQ1, hB1⟩
 have hB1w := kb_then (kb_of_below HBA.out.1 gp) hB1
 have K21 := kb_blk hB1 HBA.out.2 hne
 have hP2 := hQ1.places (pl + 1)
 have hB2 := kb_set hB1w 8 (.int .i64 (pl + 1))
 have K22 := blk_far K21 (p := ⟨gp, 8, none⟩) hne (.int .i64 (pl + 1))
 have hbb := below_alloc (Below.refl _ (w1.setCell ⟨gp, 8, none⟩ (.int .i64 (pl + 1)))) (.cells #[.int .u8 1, .int .u32 0, .slice none 0 0] 140)
 have K5 := blk_new (w1.setCell ⟨gp, 8, none⟩ (.int .i64 (pl + 1))) (.cells #[.int .u8 1, .int .u32 0, .slice none 0 0] 140)
 have hP3 := hP2.on hbb
 have hB3 := kb_below hB2 hbb
 have K23 := blk_below K22 hbb
 have hsz : w.heap.size < (w1.setCell ⟨gp, 8, none⟩ (.int .i64 (pl + 1))).heap.size := blk_lt K22
 have hsz1 : (w1.setCell ⟨gp, 8, none⟩ (.int .i64 (pl + 1))).heap.size = w1.heap.size := by simp
 rw [hsz1] at hsz K5
 have hgp1 : gp < w1.heap.size := hQ1.lt
 have y8 := hQ1.c8
 have y8f := blk_frozen hQ1 8
 have z8 := hP2.c8
 have z2 := hP3.c2
 rw [hC] at z2
 have X3 := Aside0.mk (And.intro hP3 (And.intro hB3 (And.intro K23 K5)))
 clear hP2 hB2 hbb hP3 hB3 K22 K23 K21 hQ1 hB1 hB1w K5 y1 hsz1
 go_wp2_with fail
 generalize (w1.setCell ⟨gp, 8, none⟩ (.int .i64 (pl + 1))).alloc (.cells #[.int .u8 1, .int .u32 0, .slice none 0 0] 140) = w3 at X3 ⊢
 generalize w1.heap.size = b5 at X3 hsz hgp1 ⊢
 clear y8 y8f z8 z2
 refine (sign_no gp P 1 j (pl + 1) j 46 d w3 hj.2 hs X3.out.1 HP0.out.2.2 (fun he => by rw [he] at hl; exact absurd hl (by decide))).mono ?_
 rintro e w31 ⟨rfl, hQ31, hB31⟩
 go_wp2_with fail
 refine (sign_no gp P 1 j (pl + 1) j 91 d w31 hj.2 hs hQ31 HP0.out.2.2 (fun he => by rw [he] at hl; exact absurd hl (by decide))).mono ?_
 rintro e w32 ⟨rfl, hQ32, hB32⟩
 go_wp2_with fail
 refine (named_calls gp P 1 n2 j (pl + 1) j d j2 v i clock name es w32 hj.2 hs hj.2 hj2 hQ32 HP0.out.2.2 hl hW hn (kb_blk (kb_then (kb_then X3.out.2.1 hB31) hB32) HM.out hg) hg hf).mono ?_
 rintro e w4 ⟨rfl, hQ4, hB4a⟩
 have hB4 := kb_then (kb_then hB31 hB32) hB4a
 clear hB4a hB31 hB32 hQ31 hQ32
 have K24 := kb_blk hB4 X3.out.2.2.1 hne
 have K54 := kb_blk hB4 X3.out.2.2.2 (by omega)
 have hBw := kb_then X3.out.2.1 hB4
 have x0 : w4.cell? ⟨b5, 1, none⟩ = some (.int .u32 0) := blk_cell K54 1
 have x1 := blk_frozen K54 1
 have K55 := blk_set K54 1 (.int .u32 v)
 have K25 := blk_far K24 (p := ⟨b5, 1, none⟩) (by show w.heap.size ≠ b5; omega) (.int .u32 v)
 have hQ5 := hQ4.far (b := b5) (i := 1) (v := .int .u32 v) (by omega)
 have hB5 := kb_new (b := b5) (i := 1) (v := .int .u32 v) hBw (by omega)
 have u0 : (w4.setCell ⟨b5, 1, none⟩ (.int .u32 v)).cell? ⟨b5, 0, none⟩ = some (.int .u8 1) := blk_cell K55 0
 have u1 : (w4.setCell ⟨b5, 1, none⟩ (.int .u32 v)).cell? ⟨b5, 1, none⟩ = some (.int .u32 v) := blk_cell K55 1
 have u2 : (w4.setCell ⟨b5, 1, none⟩ (.int .u32 v)).cell? ⟨b5, 2, none⟩ = some (.slice none 0 0) := blk_cell K55 2
 have X5 := Aside0.mk (And.intro hQ5 (And.intro hB5 K25))
 clear hQ4 hB4 K24 K54 hBw K55 hQ5 hB5 K25
 go_upto_region 23 with fail
 generalize w4.setCell ⟨b5, 1, none⟩ (.int .u32 v) = w5 at X5 u0 u1 u2 ⊢
 clear x0 x1
 have t0 : w5.cell? ⟨w.heap.size, 0, none⟩ = some (.int .u8 0) := blk_cell X5.out.2.2 0
 have t1 : w5.cell? ⟨w.heap.size, 1, none⟩ = some (.int .u32 0) := blk_cell X5.out.2.2 1
 have t2 : w5.cell? ⟨w.heap.size, 2, none⟩ = some (.slice none 0 0) := blk_cell X5.out.2.2 2
 have t3 := blk_frozen X5.out.2.2 0
 have t4 := blk_frozen X5.out.2.2 1
 have t5 := blk_frozen X5.out.2.2 2
 have K26 := blk_set (blk_set (blk_set X5.out.2.2 0 (.int .u8 1)) 1 (.int .u32 v)) 2 (.slice none 0 0)
 have hQ6 := ((X5.out.1.far (b := w.heap.size) (i := 0) (v := .int .u8 1) (by omega)).far (b := w.heap.size) (i := 1) (v := .int .u32 v) (by omega)).far (b := w.heap.size) (i := 2) (v := .slice none 0 0) (by omega)
 have hB6 := kb_new (b := w.heap.size) (i := 2) (v := .slice none 0 0) (kb_new (b := w.heap.size) (i := 1) (v := .int .u32 v) (kb_new (b := w.heap.size) (i := 0) (v := .int .u8 1) X5.out.2.1 (Nat.le_refl _)) (Nat.le_refl _)) (Nat.le_refl _)
 have X6 := Aside0.mk (And.intro hQ6 (And.intro hB6 K26))
 clear hQ6 hB6 K26
 go_wp2
 refine bodyPost_ret (results_cell_row rfl _ _ w.heap.size 140 #[.int .u8 1, .int .u32 v, .slice none 0 0] (0, 0) _ rfl X6.out.2.2 Tryz.underlying140 rfl (by kernel_rfl)) rfl ⟨rfl, X6.out.1, X6.out.2.1⟩
/-- Some cells, told one by one. -/
structure Cl (n : Nat) where
 l : List Value
 len : l.length = n
 one : l.all Value.oneCell' = true
def kcl (n : Nat) : Kd (Cl n) where
 sz := n
 E := []
 K := fun _ x cs => cs = x.l
 M := fun _ _ _ x cs => cs = x.l
 K_len := fun {_ x _} h => by rw [h]; exact x.len
 K_one := fun {_ x _} h u hu => by
  rw [h] at hu
  exact List.all_eq_true.1 x.one u hu
 K_below := fun _ h => h
 K_of_M := fun h => h
 M_mono := fun _ h => h
 M_bound := fun h => h
 M_move := fun _ h => h
 M_lower := fun _ h => h
theorem flatCl (n : Nat) : Flat (kcl n) := fun W base ok ok' x cs h => h
def zcl (n : Nat) : Cl n := ⟨List.replicate n (.bool false), by simp, by simp [List.all_replicate, Value.oneCell']⟩
theorem cl_at {n : Nat} {w : World} {A : Option Addr} {m : Nat} {xs : List (Cl n)} (h : Kd.C (kcl n) w A m xs) (i : Int) (h0 : 0 ≤ i) (h1 : i < m) : ∃ ad, A = some ad ∧ ∀ j u, (xs.getD i.toNat (zcl n)).l[j]? = some u → w.cell? (ad.add (i.toNat * n + j)) = some u := by
 obtain ⟨ad, c, e, _, hK, hc0⟩ := Kd.C_get h (zcl n) i h0 h1
 have hK : c = (xs.getD i.toNat (zcl n)).l := hK
 subst hK
 exact ⟨ad, e, hc0⟩
/-- One leaf. -/
def leaf (v : Int) : Cl 3 := ⟨[.int .u8 1, .int .u32 v, .slice none 0 0], rfl, rfl⟩
theorem info140v : (Tryz.prog.info? 140).map (fun i => (i.zero, i.size, i.bytes)) = some (some (.agg #[(.int .u8 0), (.int .u32 0), (.slice none 0 0)]), 3, 32) := by kernel_rfl
/-- The map of names. -/
def MapOk (w : World) (P : Ps) (es : Array MapEntry) (clock : Nat) : Prop := w.heap[P.mb]? = some (.map es clock)
theorem MapOk.keep {w w1 : World} {P : Ps} {es : Array MapEntry} {clock gp : Nat} (h : MapOk w P es clock) (hk : KB w w1 gp) (hg : P.mb ≠ gp) : MapOk w1 P es clock := kb_blk hk h hg
/-- What thing comes to, in any world where the parser stands at j. -/
def Things (gp : Nat) (P : Ps) (es : Array MapEntry) (clock : Nat) (j pl v j2 : Int) : Prop :=
 ∀ w, IsPar w gp P j pl → MapOk w P es clock → Calls Tryz.prog 114 #[.pointer (some ⟨gp, 0, none⟩)] w fun e w' => ParE (.agg #[.int .u8 1, .int .u32 v, .slice none 0 0]) gp P w (pl + 1) j2 e w'
set_option maxHeartbeats 40000000 in
set_option maxRecDepth 100000 in
theorem often_calls (gp : Nat) (P : Ps) (es : Array MapEntry) (clock : Nat) (n : Nat) (j pl v j2 j3 d : Int) (w : World) (hs : P.s.size ≤ 1000000) (hj2 : 0 ≤ j2) (hP : IsPar w gp P j pl) (hM : MapOk w P es clock) (hg : P.mb ≠ gp) (hT : Things gp P es clock j pl v j2) (hF : hereF P.s n j2 = some (j3, d)) (hd : d ≠ 42 ∧ d ≠ 43 ∧ d ≠ 63) :
  Calls Tryz.prog 111 #[.pointer (some ⟨gp, 0, none⟩)] w fun e w' => ParE (.agg #[.int .u8 1, .int .u32 v, .slice none 0 0]) gp P w (pl + 1) j3 e w' := by
 have hgp := hP.lt
 have hba := below_alloc (Below.refl w.heap.size w) (.cells #[.int .u8 0, .int .u32 0, .slice none 0 0] 140)
 have K2 := blk_new w (.cells #[.int .u8 0, .int .u32 0, .slice none 0 0] 140)
 have hne : w.heap.size ≠ gp := by omega
 have hTw := hT _ (hP.on hba) (MapOk.keep hM (kb_of_below hba gp) hg)
 have hj3 := (hereF_ge _ _ _ _ _ hF).1
 have HF := Aside0.mk (And.intro hF (hereF_again _ _ _ _ _ hF))
 have HT := Aside0.mk hTw
 have HD := Aside0.mk hd
 have HBA := Aside0.mk (And.intro hba K2)
 clear hP hM hT hTw hF hba K2 hd
 have i0 : ∀ w : World, (Instr.index 248 (.agg #[.int .u8 0, .int .u8 0, .int .u8 0, .int .u8 0, .int .u8 42, .int .u8 43, .int .u8 63]) (.int .i64 0)).run Tryz.prog w = .ok (.int .u8 0) w := fun _ => by kernel_rfl
 have i1 : ∀ w : World, (Instr.index 248 (.agg #[.int .u8 0, .int .u8 0, .int .u8 0, .int .u8 0, .int .u8 42, .int .u8 43, .int .u8 63]) (.int .i64 1)).run Tryz.prog w = .ok (.int .u8 0) w := fun _ => by kernel_rfl
 have i2 : ∀ w : World, (Instr.index 248 (.agg #[.int .u8 0, .int .u8 0, .int .u8 0, .int .u8 0, .int .u8 42, .int .u8 43, .int .u8 63]) (.int .i64 2)).run Tryz.prog w = .ok (.int .u8 0) w := fun _ => by kernel_rfl
 have i3 : ∀ w : World, (Instr.index 248 (.agg #[.int .u8 0, .int .u8 0, .int .u8 0, .int .u8 0, .int .u8 42, .int .u8 43, .int .u8 63]) (.int .i64 3)).run Tryz.prog w = .ok (.int .u8 0) w := fun _ => by kernel_rfl
 have i4 : ∀ w : World, (Instr.index 248 (.agg #[.int .u8 0, .int .u8 0, .int .u8 0, .int .u8 0, .int .u8 42, .int .u8 43, .int .u8 63]) (.int .i64 4)).run Tryz.prog w = .ok (.int .u8 42) w := fun _ => by kernel_rfl
 have i5 : ∀ w : World, (Instr.index 248 (.agg #[.int .u8 0, .int .u8 0, .int .u8 0, .int .u8 0, .int .u8 42, .int .u8 43, .int .u8 63]) (.int .i64 5)).run Tryz.prog w = .ok (.int .u8 43) w := fun _ => by kernel_rfl
 have i6 : ∀ w : World, (Instr.index 248 (.agg #[.int .u8 0, .int .u8 0, .int .u8 0, .int .u8 0, .int .u8 42, .int .u8 43, .int .u8 63]) (.int .i64 6)).run Tryz.prog w = .ok (.int .u8 63) w := fun _ => by kernel_rfl
 go_enter Tryz.func111, Tryz.ntmps111
 go_wp2_with fail
 refine HT.out.mono ?_
 rintro e w1 ⟨rfl, hQ1, hB1⟩
 have hB1w := kb_then (kb_of_below HBA.out.1 gp) hB1
 have K21 := kb_blk hB1 HBA.out.2 hne
 have hbb := below_alloc (Below.refl _ w1) (.cells #[.int .u8 1, .int .u32 v, .slice none 0 0] 140)
 have K3 := blk_new w1 (.cells #[.int .u8 1, .int .u32 v, .slice none 0 0] 140)
 have hgp1 : gp < w1.heap.size := hQ1.lt
 have hs1 : w.heap.size < w1.heap.size := blk_lt K21
 have X1 := Aside0.mk (And.intro (hQ1.on hbb) (And.intro (kb_below hB1w hbb) (And.intro (blk_below K21 hbb) K3)))
 clear hQ1 hB1 hB1w K21 hbb K3
 go_wp2
 generalize w1.alloc (.cells #[.int .u8 1, .int .u32 v, .slice none 0 0] 140) = w2 at X1 ⊢
 generalize w1.heap.size = b3 at X1 hgp1 hs1 ⊢
 refine wp_loop_rounds 8 ?_
 rw [rounds_succ]
 go_wp2
 rw [rounds_succ]
 go_wp2
 rw [rounds_succ]
 go_wp2
 rw [rounds_succ]
 go_wp2
 rw [rounds_succ]
 go_wp2_with fail
 refine (sign_no gp P n j2 (pl + 1) j3 42 d w2 hj2 hs X1.out.1 HF.out.1 HD.out.1).mono ?_
 rintro e w3 ⟨rfl, hQ3, hB3⟩
 go_wp2
 rw [rounds_succ]
 go_wp2_with fail
 refine (sign_no gp P 1 j3 (pl + 1) j3 43 d w3 (by omega) hs hQ3 HF.out.2 HD.out.2.1).mono ?_
 rintro e w4 ⟨rfl, hQ4, hB4⟩
 go_wp2
 rw [rounds_succ]
 go_wp2_with fail
 refine (sign_no gp P 1 j3 (pl + 1) j3 63 d w4 (by omega) hs hQ4 HF.out.2 HD.out.2.2).mono ?_
 rintro e w5 ⟨rfl, hQ5, hB5⟩
 have hBB := kb_then (kb_then hB3 hB4) hB5
 have K25 := kb_blk hBB X1.out.2.2.1 hne
 have K35 := kb_blk hBB X1.out.2.2.2 (by omega)
 have hBw := kb_then X1.out.2.1 hBB
 have u0 : w5.cell? ⟨b3, 0, none⟩ = some (.int .u8 1) := blk_cell K35 0
 have u1 : w5.cell? ⟨b3, 1, none⟩ = some (.int .u32 v) := blk_cell K35 1
 have u2 : w5.cell? ⟨b3, 2, none⟩ = some (.slice none 0 0) := blk_cell K35 2
 have t0 : w5.cell? ⟨w.heap.size, 0, none⟩ = some (.int .u8 0) := blk_cell K25 0
 have t1 : w5.cell? ⟨w.heap.size, 1, none⟩ = some (.int .u32 0) := blk_cell K25 1
 have t2 : w5.cell? ⟨w.heap.size, 2, none⟩ = some (.slice none 0 0) := blk_cell K25 2
 have t3 := blk_frozen K25 0
 have t4 := blk_frozen K25 1
 have t5 := blk_frozen K25 2
 have K26 := blk_set (blk_set (blk_set K25 0 (.int .u8 1)) 1 (.int .u32 v)) 2 (.slice none 0 0)
 have hQ6 := ((hQ5.far (b := w.heap.size) (i := 0) (v := .int .u8 1) (by omega)).far (b := w.heap.size) (i := 1) (v := .int .u32 v) (by omega)).far (b := w.heap.size) (i := 2) (v := .slice none 0 0) (by omega)
 have hB6 := kb_new (b := w.heap.size) (i := 2) (v := .slice none 0 0) (kb_new (b := w.heap.size) (i := 1) (v := .int .u32 v) (kb_new (b := w.heap.size) (i := 0) (v := .int .u8 1) hBw (Nat.le_refl _)) (Nat.le_refl _)) (Nat.le_refl _)
 have X6 := Aside0.mk (And.intro hQ6 (And.intro hB6 K26))
 clear hQ6 hB6 K26 hBw hBB hQ3 hB3 hQ4 hB4 hQ5 hB5 K25 K35
 go_wp2
 rw [rounds_succ]
 go_wp2
 refine bodyPost_ret (results_cell_row rfl _ _ w.heap.size 140 #[.int .u8 1, .int .u32 v, .slice none 0 0] (0, 0) _ rfl X6.out.2.2 Tryz.underlying140 rfl (by kernel_rfl)) rfl ⟨rfl, X6.out.1, X6.out.2.1⟩
theorem kb_cell {w w1 : World} {gp : Nat} {a : Addr} {v : Value} (h : KB w w1 gp) (hc : w.cell? a = some v) (hn : a.block ≠ gp) : w1.cell? a = some v :=
 (World.cell?_of_block (w := w) (h.k.2 a.block (World.block_lt_of_cell? w a hc) hn (by simp))).trans hc
theorem own_kb {α : Type} {d : Kd α} {e base gp : Nat} {W w1 : World} {v : Value} {xs : List α} (h : Own1 d e base W v xs) (hk : KB W w1 gp) (hn : v.ownBlock ≠ some gp) : Own1 d e base w1 v xs :=
 Kd.R_kept h (Kept.of_keep (Kept.refl W (fun k => k = gp)) hk.k (.inl rfl)) (fun k ho he => hn (by rw [ho, he]))
theorem own_far {α : Type} {d : Kd α} {e base a i : Nat} {W : World} {v u : Value} {xs : List α} (h : Own1 d e base W v xs) (hn : v.ownBlock ≠ some a) : Own1 d e base (W.setCell ⟨a, i, none⟩ u) v xs :=
 Kd.R_kept h ((Kept.refl W (fun k => k = a)).setCell (.inl rfl) u) (fun k ho he => hn (by rw [ho, he]))
theorem own_far3 {α : Type} {d : Kd α} {e base a : Nat} {W : World} {v : Value} {xs : List α} (h : Own1 d e base W v xs) (hn : v.ownBlock ≠ some a) (x y z : Value) : Own1 d e base (((W.setCell ⟨a, 0, none⟩ x).setCell ⟨a, 1, none⟩ y).setCell ⟨a, 2, none⟩ z) v xs :=
 own_far (own_far (own_far h hn) hn) hn
/-- No thing begins with it. -/
def NoThing (d : Int) : Prop := letterB d = false ∧ (d == 40) = false ∧ (d == 91) = false ∧ (d == 46) = false
set_option maxHeartbeats 40000000 in
set_option maxRecDepth 100000 in
theorem row_calls (gp : Nat) (P : Ps) (es : Array MapEntry) (clock : Nat) (n n2 : Nat) (k j c pl v j2 j3 d : Int) (w : World) (hs : P.s.size ≤ 1000000) (hk : 0 ≤ k) (hj2 : 0 ≤ j2) (hP : IsPar w gp P k pl) (hM : MapOk w P es clock) (hg : P.mb ≠ gp) (hF1 : hereF P.s n k = some (j, c)) (hc : letterB c = true ∨ c = 46)
  (hT : Things gp P es clock j pl v j2) (hF : hereF P.s n2 j2 = some (j3, d)) (hd : d ≠ 42 ∧ d ≠ 43 ∧ d ≠ 63) (hd2 : NoThing d) :
  Calls Tryz.prog 104 #[.pointer (some ⟨gp, 0, none⟩)] w fun e w' => ParE (.agg #[.int .u8 1, .int .u32 v, .slice none 0 0]) gp P w (pl + 1) j3 e w' := by
 have hgp := hP.lt
 have hba := below_alloc (Below.refl w.heap.size w) (.cells #[.int .u8 0, .int .u32 0, .slice none 0 0] 140)
 have K2 := blk_new w (.cells #[.int .u8 0, .int .u32 0, .slice none 0 0] 140)
 have hne : w.heap.size ≠ gp := by omega
 have hj3 := (hereF_ge _ _ _ _ _ hF).1
 have HF := Aside0.mk (And.intro hF1 (And.intro hF (hereF_again _ _ _ _ _ hF)))
 have HD := Aside0.mk (And.intro hd hd2)
 have HBA := Aside0.mk (And.intro hba (And.intro K2 (And.intro (hP.on hba) (MapOk.keep hM (kb_of_below hba gp) hg))))
 obtain ⟨b1, b2, b3, b4⟩ := hd2
 clear hP hM hF hF1 hba K2 hd
 go_enter Tryz.func104, Tryz.ntmps104
 go_wp2_with fail
 refine (here_calls gp P n k pl j c _ hk hs HBA.out.2.2.1 HF.out.1).mono ?_
 rintro e w1 ⟨rfl, hQ1, hB1⟩
 have hB1w := kb_then (kb_of_below HBA.out.1 gp) hB1
 have X1 := Aside0.mk (And.intro hQ1 (And.intro hB1w (And.intro (kb_blk hB1 HBA.out.2.1 hne) (MapOk.keep HBA.out.2.2.2 hB1 hg))))
 clear hQ1 hB1 hB1w
 go_wp2
 refine wp_loop_rounds 3 ?_
 rw [rounds_succ]
 go_wp2_with fail
 refine (letterB_calls c w1).mono ?_
 rintro e w2 ⟨rfl, hb2⟩
 have hgo : ∀ (R : Prop), (letterB c = true → R) → (letterB c = false → (c == 40) = false → (c == 91) = false → (c == 46) = true → R) → R := by
  intro R h1 h2
  rcases hc with h | h
  ·exact h1 h
  ·subst h; exact h2 (by decide) (by decide) (by decide) (by decide)
 refine hgo _ (fun e1 => ?_) (fun e1 e2 e3 e4 => ?_)
 all_goals
  rw [e1]
  clear hgo
  go_wp2_with fail
  have X2 := Aside0.mk (And.intro (X1.out.1.on hb2) (And.intro (kb_below X1.out.2.1 hb2) (And.intro (blk_below X1.out.2.2.1 hb2) (MapOk.keep X1.out.2.2.2 (kb_of_below hb2 gp) hg))))
  clear X1 hb2
  refine (often_calls gp P es clock n2 j pl v j2 j3 d w2 hs hj2 X2.out.1 X2.out.2.2.2 hg hT HF.out.2.1 HD.out.1).mono ?_
  rintro e w3 ⟨rfl, hQ3, hB3⟩
  have X3 := Aside0.mk (And.intro hQ3 (And.intro (kb_then X2.out.2.1 hB3) (kb_blk hB3 X2.out.2.2.1 hne)))
  have hsz3 : w.heap.size ≤ w3.heap.size := Nat.le_of_lt (blk_lt X3.out.2.2)
  clear hQ3 hB3 X2
  go_wp2_with (at_builtin; refine Kd.R_append (kcl 3) (w0 := w3) w3.heap.size rfl (.tmp 23) (.tmp 26) 137 140 (.agg #[.int .u8 0, .int .u32 0, .slice none 0 0]) 32 rfl Tryz.underlying137 info140v rfl (by decide) (by decide) (.slice none 0 0) [] (leaf v) [.int .u8 1, .int .u32 v, .slice none 0 0] (fun _ => True) (fun _ => False) rfl rfl rfl (fun _ hk => hk.elim) (fun _ _ => trivial) (Kd.R_nil _ _ _ _ _) (Below.refl _ _) (Nat.le_refl _) ?hl2 ?_; (case hl2 => simp); intro v4 w4 hR4 hb4 hg4 hat4)
  clear hg4 hat4
  obtain ⟨gl, cl, e4, gl0, gl1, _⟩ := Kd.R_form hR4 (by simp)
  rw [show (([] : List (Cl 3)) ++ [leaf v]).length = 1 from rfl] at e4
  subst e4
  have hz := Kd.R_elem hR4 (zcl 3) 0 (by omega) (by simp)
  obtain ⟨cs, hcl, hM4, hcc, _⟩ := hz
  have hM4 : cs = (leaf v).l := hM4
  subst hM4
  have X4 := Aside0.mk (And.intro (X3.out.1.on hb4) (And.intro (kb_below X3.out.2.1 hb4) (And.intro (blk_below X3.out.2.2 hb4) (And.intro (hcc 0 _ rfl) (And.intro (hcc 1 _ rfl) (hcc 2 _ rfl))))))
  have hgl : gl ≠ gp := by have := X3.out.1.lt; omega
  have hgl2 : w.heap.size < w4.heap.size := blk_lt X4.out.2.2.1
  clear hR4 hb4 hcc X3
  go_wp2_with fail
  refine (here_calls gp P 1 j3 (pl + 1) j3 d w4 (by omega) hs X4.out.1 HF.out.2.2).mono ?_
  rintro e w5 ⟨rfl, hQ5, hB5⟩
  have X5 := Aside0.mk (And.intro hQ5 (And.intro (kb_then X4.out.2.1 hB5) (And.intro (kb_blk hB5 X4.out.2.2.1 hne) (And.intro (kb_cell hB5 X4.out.2.2.2.1 hgl) (And.intro (kb_cell hB5 X4.out.2.2.2.2.1 hgl) (kb_cell hB5 X4.out.2.2.2.2.2 hgl))))))
  clear hQ5 hB5 X4
  go_wp2
  rw [rounds_succ]
  go_wp2_with fail
  refine (letterB_calls d w5).mono ?_
  rintro e w6 ⟨rfl, hb6⟩
  rw [b1]
  have hQ5 := X5.out.1.on hb6
  have hBw := kb_below X5.out.2.1 hb6
  have K25 := blk_below X5.out.2.2.1 hb6
  have u0 : w6.cell? ⟨gl, 0, none⟩ = some (.int .u8 1) := pw_cell_below hb6 X5.out.2.2.2.1
  have u1 : w6.cell? ⟨gl, 1, none⟩ = some (.int .u32 v) := pw_cell_below hb6 X5.out.2.2.2.2.1
  have u2 : w6.cell? ⟨gl, 2, none⟩ = some (.slice none 0 0) := pw_cell_below hb6 X5.out.2.2.2.2.2
  have t0 : w6.cell? ⟨w.heap.size, 0, none⟩ = some (.int .u8 0) := blk_cell K25 0
  have t1 : w6.cell? ⟨w.heap.size, 1, none⟩ = some (.int .u32 0) := blk_cell K25 1
  have t2 : w6.cell? ⟨w.heap.size, 2, none⟩ = some (.slice none 0 0) := blk_cell K25 2
  have t3 := blk_frozen K25 0
  have t4 := blk_frozen K25 1
  have t5 := blk_frozen K25 2
  have K26 := blk_set (blk_set (blk_set K25 0 (.int .u8 1)) 1 (.int .u32 v)) 2 (.slice none 0 0)
  have hQ6 := ((hQ5.far (b := w.heap.size) (i := 0) (v := .int .u8 1) (by omega)).far (b := w.heap.size) (i := 1) (v := .int .u32 v) (by omega)).far (b := w.heap.size) (i := 2) (v := .slice none 0 0) (by omega)
  have hB6 := kb_new (b := w.heap.size) (i := 2) (v := .slice none 0 0) (kb_new (b := w.heap.size) (i := 1) (v := .int .u32 v) (kb_new (b := w.heap.size) (i := 0) (v := .int .u8 1) hBw (Nat.le_refl _)) (Nat.le_refl _)) (Nat.le_refl _)
  have X6 := Aside0.mk (And.intro hQ6 (And.intro hB6 K26))
  clear hQ6 hB6 K26 hBw hQ5 K25 hb6 X5
  go_wp2
  refine bodyPost_ret (results_cell_row rfl _ _ w.heap.size 140 #[.int .u8 1, .int .u32 v, .slice none 0 0] (0, 0) _ rfl X6.out.2.2 Tryz.underlying140 rfl (by kernel_rfl)) rfl ⟨rfl, X6.out.1, X6.out.2.1⟩
theorem own_lit1 {n : Nat} (w : World) (x : Cl n) (e : Nat) : Own1 (kcl n) e w.heap.size (w.alloc (.cells x.l.toArray e)) (.slice (some ⟨w.heap.size, 0, none⟩) 1 1) [x] := by
 have h2 := World.ownsRow_lit (base := w.heap.size) (e := e) (size := n) w x.l.toArray 1 (Nat.le_refl _) (by decide) (by simpa using x.len)
 have h4 : (w.alloc (.cells x.l.toArray e)).ownsRow w.heap.size e n (.slice (some ⟨w.heap.size, 0, none⟩) 1 1) 1 x.l := by simpa using h2
 have h3 := (Reps.none (fun (p : Cl n) cs => cs = p.l) n).snoc (p := x) rfl x.len
 have h5 : Reps (fun (p : Cl n) cs => cs = p.l) n [x] x.l := by simpa using h3
 exact ⟨fun k hk => hk, x.l, h4, h5⟩
theorem kb_grown {w w1 w2 : World} {gp : Nat} {row : Option Nat} (h : KB w w1 gp) (hg : w1.grownBy w2 row) (hr : ∀ k, row = some k → w.heap.size ≤ k) : KB w w2 gp :=
 ⟨⟨Nat.le_trans h.k.1 hg.size, fun i hi hn _ => (hg.block i (Nat.lt_of_lt_of_le hi h.k.1) (fun he => by have := hr i he.symm; omega)).trans (h.k.2 i hi hn (by simp))⟩, hg.os.trans h.os, hg.tape.trans h.tape, hg.output.trans h.out⟩
/-- One row of one leaf, in any world where the parser stands at k. -/
def Rows1 (gp : Nat) (P : Ps) (es : Array MapEntry) (clock : Nat) (k pl v j3 : Int) : Prop :=
 ∀ w, IsPar w gp P k pl → MapOk w P es clock → Calls Tryz.prog 104 #[.pointer (some ⟨gp, 0, none⟩)] w fun e w' => ParE (.agg #[.int .u8 1, .int .u32 v, .slice none 0 0]) gp P w (pl + 1) j3 e w'
set_option maxHeartbeats 40000000 in
set_option maxRecDepth 100000 in
theorem either_one (gp : Nat) (P : Ps) (es : Array MapEntry) (clock : Nat) (n : Nat) (k pl v j3 d : Int) (w : World) (hs : P.s.size ≤ 1000000) (hj3 : 0 ≤ j3) (hP : IsPar w gp P k pl) (hM : MapOk w P es clock) (hg : P.mb ≠ gp) (hR : Rows1 gp P es clock k pl v j3) (hF : hereF P.s n j3 = some (j3, d)) (hd : d ≠ 124) :
  Calls Tryz.prog 93 #[.pointer (some ⟨gp, 0, none⟩)] w fun e w' => ParE (.agg #[.int .u8 1, .int .u32 v, .slice none 0 0]) gp P w (pl + 1) j3 e w' := by
 have hgp := hP.lt
 have hba := below_alloc (Below.refl w.heap.size w) (.cells #[.int .u8 0, .int .u32 0, .slice none 0 0] 140)
 have K2 := blk_new w (.cells #[.int .u8 0, .int .u32 0, .slice none 0 0] 140)
 have hne : w.heap.size ≠ gp := by omega
 have hRw := Aside0.mk (hR _ (hP.on hba) (MapOk.keep hM (kb_of_below hba gp) hg))
 have HF := Aside0.mk hF
 have HBA := Aside0.mk (And.intro hba K2)
 clear hP hM hF hba K2
 go_enter Tryz.func93, Tryz.ntmps93
 go_wp2_with fail
 refine hRw.out.mono ?_
 rintro e w1 ⟨rfl, hQ1, hB1⟩
 have hba1 := below_alloc (Below.refl w1.heap.size w1) (.cells #[.int .u8 1, .int .u32 v, .slice none 0 0] 140)
 have K3 := blk_new w1 (.cells #[.int .u8 1, .int .u32 v, .slice none 0 0] 140)
 have hgp1 : gp < w1.heap.size := hQ1.lt
 have X1 := Aside0.mk (And.intro (hQ1.on hba1) (And.intro (kb_below (kb_then (kb_of_below HBA.out.1 gp) hB1) hba1) (And.intro (blk_below (kb_blk hB1 HBA.out.2 hne) hba1) K3)))
 clear hQ1 hB1 hba1 K3
 go_wp2
 generalize w1.alloc (.cells #[.int .u8 1, .int .u32 v, .slice none 0 0] 140) = w2 at X1 ⊢
 generalize w1.heap.size = b3 at X1 hgp1 ⊢
 refine wp_loop_rounds 2 ?_
 rw [rounds_succ]
 go_wp2_with fail
 refine (sign_no gp P n j3 (pl + 1) j3 124 d w2 hj3 hs X1.out.1 HF.out hd).mono ?_
 rintro e w6 ⟨rfl, hQ5, hB5⟩
 have hBw := kb_then X1.out.2.1 hB5
 have K25 := kb_blk hB5 X1.out.2.2.1 hne
 have K35 := kb_blk hB5 X1.out.2.2.2 (by omega)
 have u0 : w6.cell? ⟨b3, 0, none⟩ = some (.int .u8 1) := blk_cell K35 0
 have u1 : w6.cell? ⟨b3, 1, none⟩ = some (.int .u32 v) := blk_cell K35 1
 have u2 : w6.cell? ⟨b3, 2, none⟩ = some (.slice none 0 0) := blk_cell K35 2
 have t0 : w6.cell? ⟨w.heap.size, 0, none⟩ = some (.int .u8 0) := blk_cell K25 0
 have t1 : w6.cell? ⟨w.heap.size, 1, none⟩ = some (.int .u32 0) := blk_cell K25 1
 have t2 : w6.cell? ⟨w.heap.size, 2, none⟩ = some (.slice none 0 0) := blk_cell K25 2
 have t3 := blk_frozen K25 0
 have t4 := blk_frozen K25 1
 have t5 := blk_frozen K25 2
 have K26 := blk_set (blk_set (blk_set K25 0 (.int .u8 1)) 1 (.int .u32 v)) 2 (.slice none 0 0)
 have hQ6 := ((hQ5.far (b := w.heap.size) (i := 0) (v := .int .u8 1) (by omega)).far (b := w.heap.size) (i := 1) (v := .int .u32 v) (by omega)).far (b := w.heap.size) (i := 2) (v := .slice none 0 0) (by omega)
 have hB6 := kb_new (b := w.heap.size) (i := 2) (v := .slice none 0 0) (kb_new (b := w.heap.size) (i := 1) (v := .int .u32 v) (kb_new (b := w.heap.size) (i := 0) (v := .int .u8 1) hBw (Nat.le_refl _)) (Nat.le_refl _)) (Nat.le_refl _)
 have X6 := Aside0.mk (And.intro hQ6 (And.intro hB6 K26))
 clear hQ6 hB6 K26 hBw hQ5 K25 K35 hB5 X1
 go_wp2
 refine bodyPost_ret (results_cell_row rfl _ _ w.heap.size 140 #[.int .u8 1, .int .u32 v, .slice none 0 0] (0, 0) _ rfl X6.out.2.2 Tryz.underlying140 rfl (by kernel_rfl)) rfl ⟨rfl, X6.out.1, X6.out.2.1⟩
/-- Two leaves, and the parser behind them. -/
def ParE2 (a b : Int) (gp : Nat) (P : Ps) (w : World) (pl j : Int) (e : Ending) (w' : World) : Prop :=
 ∃ gl cl, e = .returned (.agg #[.int .u8 3, .int .u32 0, .slice (some ⟨gl, 0, none⟩) 2 cl]) ∧ Own1 (kcl 3) 140 w.heap.size w' (.slice (some ⟨gl, 0, none⟩) 2 cl) [leaf a, leaf b] ∧ IsPar w' gp P j pl ∧ KB w w' gp
set_option maxHeartbeats 40000000 in
set_option maxRecDepth 100000 in
theorem either_two (gp : Nat) (P : Ps) (es : Array MapEntry) (clock : Nat) (n n4 : Nat) (k pl v v2 j3 j4 d : Int) (w : World) (hs : P.s.size ≤ 1000000) (hj3 : 0 ≤ j3 ∧ j3 ≤ 1000000) (hj4 : 0 ≤ j4) (hP : IsPar w gp P k pl) (hM : MapOk w P es clock) (hg : P.mb ≠ gp) (hR : Rows1 gp P es clock k pl v j3) (hF : hereF P.s n j3 = some (j3, 124)) (hR2 : Rows1 gp P es clock (j3 + 1) (pl + 1) v2 j4)
  (hF4 : hereF P.s n4 j4 = some (j4, d)) (hd : d ≠ 124) :
  Calls Tryz.prog 93 #[.pointer (some ⟨gp, 0, none⟩)] w fun e w' => ParE2 v v2 gp P w (pl + 1 + 1) j4 e w' := by
 have hgp := hP.lt
 have hba := below_alloc (Below.refl w.heap.size w) (.cells #[.int .u8 0, .int .u32 0, .slice none 0 0] 140)
 have K2 := blk_new w (.cells #[.int .u8 0, .int .u32 0, .slice none 0 0] 140)
 have hne : w.heap.size ≠ gp := by omega
 have hRw := Aside0.mk (hR _ (hP.on hba) (MapOk.keep hM (kb_of_below hba gp) hg))
 have HF := Aside0.mk (And.intro hF hF4)
 have HBA := Aside0.mk (And.intro hba (And.intro K2 (MapOk.keep hM (kb_of_below hba gp) hg)))
 clear hP hM hF hba K2 hF4
 go_enter Tryz.func93, Tryz.ntmps93
 go_wp2_with fail
 refine hRw.out.mono ?_
 rintro e w1 ⟨rfl, hQ1, hB1⟩
 have hgp1 : gp < w1.heap.size := hQ1.lt
 have hsz1 : w.heap.size < w1.heap.size := blk_lt (kb_blk hB1 HBA.out.2.1 hne)
 have X1 := Aside0.mk (And.intro hQ1 (And.intro (kb_then (kb_of_below HBA.out.1 gp) hB1) (And.intro (kb_blk hB1 HBA.out.2.1 hne) (MapOk.keep HBA.out.2.2 hB1 hg))))
 clear hQ1 hB1
 go_wp2
 have hba1 := below_alloc (Below.refl w1.heap.size w1) (.cells #[.int .u8 1, .int .u32 v, .slice none 0 0] 140)
 have hL : Own1 (kcl 3) 140 w1.heap.size (w1.alloc (.cells #[.int .u8 1, .int .u32 v, .slice none 0 0] 140)) (.slice (some ⟨w1.heap.size, 0, none⟩) 1 1) [leaf v] := own_lit1 w1 (leaf v) 140
 have X2 := Aside0.mk (And.intro (X1.out.1.on hba1) (And.intro (kb_below X1.out.2.1 hba1) (And.intro (blk_below X1.out.2.2.1 hba1) (And.intro (MapOk.keep X1.out.2.2.2 (kb_of_below hba1 gp) hg) hL))))
 clear X1 hba1 hL
 generalize w1.alloc (.cells #[.int .u8 1, .int .u32 v, .slice none 0 0] 140) = w2 at X2 ⊢
 have hsz2 : w1.heap.size < w2.heap.size := by
  obtain ⟨g, c, e, h1, h2, _⟩ := Kd.R_form X2.out.2.2.2.2 (by simp)
  injection e with e
  injection e with e
  injection e with e
  omega
 generalize w1.heap.size = b1 at X2 hgp1 hsz1 hsz2 ⊢
 refine wp_loop_rounds 3 ?_
 rw [rounds_succ]
 go_wp2_with fail
 refine (sign_yes gp P n j3 (pl + 1) j3 124 w2 hj3.1 hs ⟨hj3.2, hj3.1⟩ X2.out.1 HF.out.1).mono ?_
 rintro e w3 ⟨rfl, hQ3, hB3⟩
 have X3 := Aside0.mk (And.intro hQ3 (And.intro (kb_then X2.out.2.1 hB3) (And.intro (kb_blk hB3 X2.out.2.2.1 hne) (And.intro (MapOk.keep X2.out.2.2.2.1 hB3 hg) (own_kb X2.out.2.2.2.2 hB3 (by simp [Value.ownBlock]; omega))))))
 clear hQ3 hB3 X2
 go_wp2_with fail
 refine (hR2 w3 X3.out.1 X3.out.2.2.2.1).mono ?_
 rintro e w4 ⟨rfl, hQ4, hB4⟩
 have hLL := Aside0.mk (own_kb X3.out.2.2.2.2 hB4 (by simp [Value.ownBlock]; omega))
 have X4 := Aside0.mk (And.intro hQ4 (And.intro (kb_then X3.out.2.1 hB4) (kb_blk hB4 X3.out.2.2.1 hne)))
 have hb14 : b1 ≤ w4.heap.size := by have := kb_size hB4; have := X3.out.2.1; have := Kd.R_lt hLL.out b1 (by simp [Value.ownBlock]); omega
 clear hQ4 hB4 X3
 go_wp2_with (at_builtin; refine Kd.R_append (kcl 3) (w0 := w4) b1 rfl (.tmp 9) (.tmp 12) 137 140 (.agg #[.int .u8 0, .int .u32 0, .slice none 0 0]) 32 rfl Tryz.underlying137 info140v rfl (by decide) (by decide) (.slice (some ⟨b1, 0, none⟩) 1 1) [leaf v] (leaf v2) [.int .u8 1, .int .u32 v2, .slice none 0 0] (fun _ => True) (fun _ => False) rfl rfl rfl (fun _ hk => hk.elim) (fun _ _ => trivial) hLL.out.loose ?hb0 hb14 ?hl2 ?_; (case hl2 => simp); (case hb0 => exact Below.refl _ _); intro v5 w5 hR5 hb5 hg5 hat5)
 obtain ⟨gl, cl, e5, gl0, gl1, _⟩ := Kd.R_form hR5 (by simp)
 rw [show ([leaf v] ++ [leaf v2]).length = 2 from rfl] at e5
 subst e5
 have hL5 := Own1.flat (flatCl 3) hR5
 have hgne : ∀ k, (Value.slice (some ⟨b1, 0, none⟩) 1 1).ownBlock = some k → k = b1 := fun k hk => by simp [Value.ownBlock] at hk; omega
 have X5 := Aside0.mk (And.intro (blk_grown X4.out.1 hg5 (fun he => by have := hgne _ he.symm; omega)) (And.intro (kb_grown X4.out.2.1 hg5 (fun q hq => by have := hgne _ hq; omega)) (And.intro (blk_grown X4.out.2.2 hg5 (fun he => by have := hgne _ he.symm; omega)) hL5)))
 clear hR5 hb5 hg5 hat5 hL5 X4 hLL hgne
 go_wp2
 rw [rounds_succ]
 go_wp2_with fail
 refine (sign_no gp P n4 j4 (pl + 1 + 1) j4 124 d w5 hj4 hs X5.out.1 HF.out.2 hd).mono ?_
 rintro e w6 ⟨rfl, hQ6, hB6⟩
 have hBw := kb_then X5.out.2.1 hB6
 have K25 := kb_blk hB6 X5.out.2.2.1 hne
 have hL6 := own_kb X5.out.2.2.2 hB6 (by simp [Value.ownBlock]; omega)
 have t0 : w6.cell? ⟨w.heap.size, 0, none⟩ = some (.int .u8 0) := blk_cell K25 0
 have t1 : w6.cell? ⟨w.heap.size, 1, none⟩ = some (.int .u32 0) := blk_cell K25 1
 have t2 : w6.cell? ⟨w.heap.size, 2, none⟩ = some (.slice none 0 0) := blk_cell K25 2
 have t3 := blk_frozen K25 0
 have t4 := blk_frozen K25 1
 have t5 := blk_frozen K25 2
 have K26 := blk_set (blk_set (blk_set K25 0 (.int .u8 3)) 1 (.int .u32 0)) 2 (.slice (some ⟨gl, 0, none⟩) 2 cl)
 have hQ7 := ((hQ6.far (b := w.heap.size) (i := 0) (v := .int .u8 3) (by omega)).far (b := w.heap.size) (i := 1) (v := .int .u32 0) (by omega)).far (b := w.heap.size) (i := 2) (v := .slice (some ⟨gl, 0, none⟩) 2 cl) (by omega)
 have hB7 := kb_new (b := w.heap.size) (i := 2) (v := .slice (some ⟨gl, 0, none⟩) 2 cl) (kb_new (b := w.heap.size) (i := 1) (v := .int .u32 0) (kb_new (b := w.heap.size) (i := 0) (v := .int .u8 3) hBw (Nat.le_refl _)) (Nat.le_refl _)) (Nat.le_refl _)
 have hL7 := own_far3 (a := w.heap.size) hL6 (by simp [Value.ownBlock]; omega) (.int .u8 3) (.int .u32 0) (.slice (some ⟨gl, 0, none⟩) 2 cl)
 have X7 := Aside0.mk (And.intro hQ7 (And.intro hB7 (And.intro K26 (hL7.lower (b' := w.heap.size) (by omega)))))
 clear hQ7 hB7 K26 hL7 hQ6 hB6 hBw K25 hL6 X5
 go_wp2
 refine bodyPost_ret (results_cell_row rfl _ _ w.heap.size 140 #[.int .u8 3, .int .u32 0, .slice (some ⟨gl, 0, none⟩) 2 cl] (0, 0) _ rfl X7.out.2.2.1 Tryz.underlying140 rfl (by kernel_rfl)) rfl ⟨gl, cl, rfl, X7.out.2.2.2, X7.out.1, X7.out.2.1⟩
end Go.Proofs.YtkeccgkicffieaaGreatDoor.PTopWider
