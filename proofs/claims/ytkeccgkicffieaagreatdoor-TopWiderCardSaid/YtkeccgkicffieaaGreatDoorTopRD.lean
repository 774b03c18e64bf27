/- The walk of the rules' parser: rule. Conditions: the parser lies in memory as Full tells, what stands next is right. -/
import Derived.Test.YtkeccgkicffieaaGreatDoorTopT
import Derived.Test.YtkeccgkicffieaaGreatDoorTopRB
namespace Go.Proofs.YtkeccgkicffieaaGreatDoor.PTopWider
open Go.RowKit Go.Proofs.YtkeccgkicffieaaGreatDoorW.PrintWords Go.Proofs.YtkeccgkicffieaaGreatDoorW.PrintLast Go.Proofs.YtkeccgkicffieaaGreatDoorW.PrintMore
set_option linter.unusedVariables false
set_option linter.unusedSimpArgs false
/-- All blocks of a type are as they were. -/
def Same (t : Nat) (w w1 : World) : Prop := ∀ (g : Nat) (cs : Array Value) (fr : Nat × Nat), w.heap[g]? = some (Obj.cells cs t fr) → w1.heap[g]? = w.heap[g]?
theorem Same.refl (t : Nat) (w : World) : Same t w w := fun _ _ _ _ => rfl
theorem Same.trans {t : Nat} {w w1 w2 : World} (h : Same t w w1) (k : Same t w1 w2) : Same t w w2 := fun g cs fr hg => (k g cs fr ((h g cs fr hg).trans hg)).trans (h g cs fr hg)
theorem Same.kb {t : Nat} {w w1 : World} {gp : Nat} (h : KB w w1 gp) {cs : Array Value} {q : Nat} (hg : w.heap[gp]? = some (.cells cs q (0, 0))) (hn : t ≠ q) : Same t w w1 := fun g cs' fr hc =>
 h.k.2 g (blk_lt hc) (fun he => by subst he; rw [hg] at hc; injection hc with hc; injection hc with _ hc _; exact hn hc.symm) (by simp)
theorem Same.set {t : Nat} {w : World} {gp : Nat} {cs : Array Value} {q : Nat} (hg : w.heap[gp]? = some (.cells cs q (0, 0))) (hn : t ≠ q) (i : Nat) (u : Value) : Same t w (w.setCell ⟨gp, i, none⟩ u) := fun g cs' fr hc =>
 Below.heap_setCell w ⟨gp, i, none⟩ u g (fun he => by simp at he; subst he; rw [hg] at hc; injection hc with hc; injection hc with _ hc _; exact hn hc.symm)
theorem Same.below {t : Nat} {w w1 : World} (h : Below w.heap.size w w1) : Same t w w1 := fun g cs fr hc => h.block g (blk_lt hc)
theorem Same.grown {t : Nat} {w w1 : World} {α : Type} {d : Kd α} {e base : Nat} {v : Value} {xs : List α} (h : Own1 d e base w v xs) (hg : w.grownBy w1 v.ownBlock) (hn : t ≠ e) : Same t w w1 := fun g cs fr hc =>
 hg.block g (blk_lt hc) (fun he => by
  obtain ⟨inner, ho⟩ := Kd.R_own h
  obtain ⟨cells, h2⟩ := own_typed ho g he.symm
  rw [h2] at hc
  injection hc with hc
  injection hc with _ hc _
  exact hn hc.symm)
theorem Own1.same {α : Type} {d : Kd α} {e base : Nat} {w w1 : World} {v : Value} {xs : List α} (h : Own1 d e base w v xs) (hs : Same e w w1) : Own1 d e base w1 v xs :=
 Kd.R_step h (fun k hk _ => by
  obtain ⟨inner, ho⟩ := Kd.R_own h
  obtain ⟨cells, hc⟩ := own_typed ho k hk
  exact hs k cells _ hc)
/-- All maps but one are as they were. -/
def SameMaps (mb : Nat) (w w1 : World) : Prop := ∀ (g : Nat) (es : Array MapEntry) (c : Nat), g ≠ mb → w.heap[g]? = some (Obj.map es c) → w1.heap[g]? = w.heap[g]?
theorem SameMaps.refl (mb : Nat) (w : World) : SameMaps mb w w := fun _ _ _ _ _ => rfl
theorem SameMaps.trans {mb : Nat} {w w1 w2 : World} (h : SameMaps mb w w1) (k : SameMaps mb w1 w2) : SameMaps mb w w2 := fun g es c hn hg => (k g es c hn ((h g es c hn hg).trans hg)).trans (h g es c hn hg)
theorem SameMaps.kb {mb : Nat} {w w1 : World} {gp : Nat} (h : KB w w1 gp) {cs : Array Value} {q : Nat} (hg : w.heap[gp]? = some (.cells cs q (0, 0))) : SameMaps mb w w1 := fun g es c hn hc =>
 h.k.2 g (blk_lt hc) (fun he => by subst he; rw [hg] at hc; cases hc) (by simp)
theorem SameMaps.set {mb : Nat} {w : World} {gp : Nat} {cs : Array Value} {q : Nat} (hg : w.heap[gp]? = some (.cells cs q (0, 0))) (i : Nat) (u : Value) : SameMaps mb w (w.setCell ⟨gp, i, none⟩ u) := fun g es c hn hc =>
 Below.heap_setCell w ⟨gp, i, none⟩ u g (fun he => by simp at he; subst he; rw [hg] at hc; cases hc)
theorem SameMaps.below {mb : Nat} {w w1 : World} (h : Below w.heap.size w w1) : SameMaps mb w w1 := fun g es c hn hc => h.block g (blk_lt hc)
theorem SameMaps.grown {mb : Nat} {w w1 : World} {α : Type} {d : Kd α} {e base : Nat} {v : Value} {xs : List α} (h : Own1 d e base w v xs) (hg : w.grownBy w1 v.ownBlock) : SameMaps mb w w1 := fun g es c hn hc =>
 hg.block g (blk_lt hc) (fun he => by
  obtain ⟨inner, ho⟩ := Kd.R_own h
  obtain ⟨cells, h2⟩ := own_typed ho g he.symm
  rw [h2] at hc
  cases hc)
/-- An expression: a leaf, or one of two. -/
inductive EX where
 | one (v : Int)
 | two (a b : Int)
def EX.op : EX → Int
 | .one _ => 1
 | .two _ _ => 3
def EX.set : EX → Int
 | .one v => v
 | .two _ _ => 0
/-- What stands in its kids' cell. -/
def ExpIs (w : World) (base : Nat) (X : EX) (vk : Value) : Prop :=
 match X with
 | .one _ => vk = .slice none 0 0
 | .two a b => ∃ gl cl, vk = .slice (some ⟨gl, 0, none⟩) 2 cl ∧ Own1 (kcl 3) 140 base w vk [leaf a, leaf b]
theorem ExpIs.slice {w : World} {base : Nat} {X : EX} {vk : Value} (h : ExpIs w base X vk) : ∃ A n c, vk = .slice A n c := by
 cases X with
 | one v => exact ⟨_, _, _, h⟩
 | two a b => obtain ⟨gl, cl, h, _⟩ := h; exact ⟨_, _, _, h⟩
theorem ExpIs.same {w w1 : World} {base : Nat} {X : EX} {vk : Value} (h : ExpIs w base X vk) (hs : Same 140 w w1) : ExpIs w1 base X vk := by
 cases X with
 | one v => exact h
 | two a b => obtain ⟨gl, cl, h1, h2⟩ := h; exact ⟨gl, cl, h1, h2.same hs⟩
theorem ExpIs.lower {w : World} {base b' : Nat} {X : EX} {vk : Value} (h : ExpIs w base X vk) (hb : b' ≤ base) : ExpIs w b' X vk := by
 cases X with
 | one v => exact h
 | two a b => obtain ⟨gl, cl, h1, h2⟩ := h; exact ⟨gl, cl, h1, h2.lower hb⟩
/-- A rule. -/
structure RX where
 does : Int
 l : EX
 r : EX
def rcl (does : Int) (X : EX) (A : Option Addr) (n c : Nat) (Y : EX) (B : Option Addr) (m d : Nat) : Cl 7 := ⟨[.int .u8 does, .int .u8 X.op, .int .u32 X.set, .slice A n c, .int .u8 Y.op, .int .u32 Y.set, .slice B m d], rfl, rfl⟩
def RuleIs (w : World) (base : Nat) (r : RX) (c : Cl 7) : Prop := ∃ A n c1 B m d, c = rcl r.does r.l A n c1 r.r B m d ∧ ExpIs w base r.l (.slice A n c1) ∧ ExpIs w base r.r (.slice B m d)
def RsOk (w : World) (base : Nat) : List RX → List (Cl 7) → Prop
 | [], [] => True
 | r :: rs, c :: cs => RuleIs w base r c ∧ RsOk w base rs cs
 | _, _ => False
theorem RsOk.len {w : World} {base : Nat} : ∀ {rs : List RX} {cs : List (Cl 7)}, RsOk w base rs cs → cs.length = rs.length
 | [], [], _ => rfl
 | _ :: _, _ :: _, h => by simp [RsOk.len h.2]
 | [], _ :: _, h => h.elim
 | _ :: _, [], h => h.elim
theorem RsOk.same {w w1 : World} {base : Nat} (hs : Same 140 w w1) : ∀ {rs : List RX} {cs : List (Cl 7)}, RsOk w base rs cs → RsOk w1 base rs cs
 | [], [], _ => trivial
 | _ :: _, _ :: _, ⟨⟨A, n, c, B, m, d, h1, h2, h3⟩, h4⟩ => ⟨⟨A, n, c, B, m, d, h1, h2.same hs, h3.same hs⟩, RsOk.same hs h4⟩
 | [], _ :: _, h => h.elim
 | _ :: _, [], h => h.elim
theorem RsOk.snoc {w : World} {base : Nat} {r : RX} {c : Cl 7} (hr : RuleIs w base r c) : ∀ {rs : List RX} {cs : List (Cl 7)}, RsOk w base rs cs → RsOk w base (rs ++ [r]) (cs ++ [c])
 | [], [], _ => ⟨hr, trivial⟩
 | _ :: _, _ :: _, h => ⟨h.1, RsOk.snoc hr h.2⟩
 | [], _ :: _, h => h.elim
 | _ :: _, [], h => h.elim
/-- The parser and all that it has made. -/
def Full (w : World) (gp base : Nat) (P : Ps) (k pl : Int) (n : Nat) (rs : List RX) (es : Array MapEntry) (clock : Nat) : Prop :=
 IsPar w gp P k pl ∧ MapOk w P es clock ∧ P.mb ≠ gp ∧ base ≤ gp ∧ base ≤ P.mb ∧ (∃ ns, ns.length = n ∧ Own1 Kd.string 9 base w P.vC ns) ∧ Own1 (Kd.int .i64) 3 base w P.vT (cnt n) ∧ ∃ cs, Own1 (kcl 7) 142 base w P.vL cs ∧ RsOk w base rs cs
theorem Full.keep {w w1 : World} {gp base : Nat} {P : Ps} {k pl k1 pl1 : Int} {n : Nat} {rs : List RX} {es : Array MapEntry} {clock : Nat} (h : Full w gp base P k pl n rs es clock) (hk : KB w w1 gp) (hP : IsPar w1 gp P k1 pl1) : Full w1 gp base P k1 pl1 n rs es clock := by
 obtain ⟨h1, h2, h3, h4, h5, ⟨ns, h6, h7⟩, h8, cs, h9, h10⟩ := h
 exact ⟨hP, MapOk.keep h2 hk h3, h3, h4, h5, ⟨ns, h6, h7.same (Same.kb hk h1 (by decide))⟩, h8.same (Same.kb hk h1 (by decide)), cs, h9.same (Same.kb hk h1 (by decide)), RsOk.same (Same.kb hk h1 (by decide)) h10⟩
/-- What either comes to. -/
def EitE (X : EX) (gp : Nat) (P : Ps) (w : World) (pl j : Int) (e : Ending) (w' : World) : Prop :=
 ∃ vk, e = .returned (.agg #[.int .u8 X.op, .int .u32 X.set, vk]) ∧ ExpIs w' w.heap.size X vk ∧ IsPar w' gp P j pl ∧ KB w w' gp
def EitC (gp : Nat) (P : Ps) (es : Array MapEntry) (clock : Nat) (k pl : Int) (X : EX) (pl1 j : Int) : Prop :=
 ∀ w, IsPar w gp P k pl → MapOk w P es clock → Calls Tryz.prog 93 #[.pointer (some ⟨gp, 0, none⟩)] w fun e w' => EitE X gp P w pl1 j e w'
/-- What rule comes to. -/
def RuleE (gp base : Nat) (P : Ps) (w : World) (k pl : Int) (n : Nat) (rs : List RX) (es : Array MapEntry) (clock : Nat) (e : Ending) (w' : World) : Prop :=
 e = .returned (.tuple #[]) ∧ ∃ vL, Full w' gp base ⟨P.s, P.vC, P.vT, vL, P.mb⟩ k pl n rs es clock ∧ Below base w w' ∧ SameMaps P.mb w w'
theorem info142 : (Tryz.prog.info? 142).map (fun i => (i.zero, i.size, i.bytes)) = some (some (.agg #[(.int .u8 0), (.int .u8 0), (.int .u32 0), (.slice none 0 0), (.int .u8 0), (.int .u32 0), (.slice none 0 0)]), 7, 72) := by kernel_rfl
set_option maxHeartbeats 40000000 in
set_option maxRecDepth 100000 in
theorem rule_calls (gp base : Nat) (P : Ps) (es : Array MapEntry) (clock : Nat) (n n1 n2 : Nat) (k pl does at_ pl1 pl2 j1 j1' j2 j2' : Int) (rs : List RX) (X Y : EX) (w : World) (hs : P.s.size ≤ 1000000) (hF : Full w gp base P k pl n rs es clock) (hrs : rs.length < 24)
  (hX : EitC gp P es clock k pl X pl1 j1) (h1 : hereF P.s n1 j1 = some (j1', 47)) (hj1 : 0 ≤ j1 ∧ j1' ≤ 1000000) (hY : EitC gp P es clock (j1' + 1) pl1 Y pl2 j2) (h2 : hereF P.s n2 j2 = some (j2', 59)) (hj2 : 0 ≤ j2 ∧ j2' ≤ 1000000) :
  Calls Tryz.prog 61 #[.pointer (some ⟨gp, 0, none⟩), .int .u8 does, .int .i64 at_] w fun e w' => RuleE gp base P w (j2' + 1) pl2 n (rs ++ [⟨does, X, Y⟩]) es clock e w' := by
 have hP := hF.1
 have hM := hF.2.1
 have hmg := hF.2.2.1
 have hgp := hP.lt
 have hbg := hF.2.2.2.1
 obtain ⟨cs, hL, hR⟩ := hF.2.2.2.2.2.2.2
 obtain ⟨AL, cL, eL⟩ := Kd.R_slice hL
 rw [hR.len] at eL
 have y6 := hP.c6
 rw [eL] at y6
 have hj1a := (hereF_ge _ _ _ _ _ h1).1
 have hj2a := (hereF_ge _ _ _ _ _ h2).1
 have hba := below_alloc (Below.refl w.heap.size w) (.cells #[.int .u8 does, .int .u8 0, .int .u32 0, .slice none 0 0, .int .u8 0, .int .u32 0, .slice none 0 0] 142)
 have K6 := blk_new w (.cells #[.int .u8 does, .int .u8 0, .int .u32 0, .slice none 0 0, .int .u8 0, .int .u32 0, .slice none 0 0] 142)
 have hne : w.heap.size ≠ gp := by omega
 have hlen : decide ((24 : Int) ≤ (rs.length : Int)) = false := by simp; omega
 have X0 := Aside0.mk (And.intro (hP.on hba) (And.intro (MapOk.keep hM (kb_of_below hba gp) hmg) (And.intro K6 (kb_of_below hba gp))))
 have HF := Aside0.mk hF
 have HEL := Aside0.mk eL
 have H12 := Aside0.mk (And.intro h1 h2)
 clear hP hM hF hL hR K6 hba eL h1 h2
 go_enter Tryz.func61, Tryz.ntmps61
 go_wp2_with fail
 refine (hX _ X0.out.1 X0.out.2.1).mono ?_
 rintro e w2 ⟨vk, rfl, hE, hQ2, hB2⟩
 obtain ⟨Ak, nk, ck, ek⟩ := hE.slice
 subst ek
 have K62 := kb_blk hB2 X0.out.2.2.1 hne
 have y0 : w2.cell? ⟨w.heap.size, 1, none⟩ = some (.int .u8 0) := blk_cell K62 1
 have y1 : w2.cell? ⟨w.heap.size, 2, none⟩ = some (.int .u32 0) := blk_cell K62 2
 have y2 : w2.cell? ⟨w.heap.size, 3, none⟩ = some (.slice none 0 0) := blk_cell K62 3
 have y3 := blk_frozen K62 1
 have y4 := blk_frozen K62 2
 have y5 := blk_frozen K62 3
 clear y6
 have hsz1 : w.heap.size ≤ (w.alloc (.cells #[.int .u8 does, .int .u8 0, .int .u32 0, .slice none 0 0, .int .u8 0, .int .u32 0, .slice none 0 0] 142)).heap.size := by simp
 have K63 := blk_set K62 1 (.int .u8 X.op)
 have K64 := blk_set K63 2 (.int .u32 X.set)
 have K65 := blk_set K64 3 (.slice Ak nk ck)
 have hE3 := ((((hE.lower hsz1).same (Same.set K62 (by decide) 1 (.int .u8 X.op))).same (Same.set K63 (by decide) 2 (.int .u32 X.set))).same (Same.set K64 (by decide) 3 (.slice Ak nk ck)))
 have hQ3 := ((hQ2.far (b := w.heap.size) (i := 1) (v := .int .u8 X.op) (by omega)).far (b := w.heap.size) (i := 2) (v := .int .u32 X.set) (by omega)).far (b := w.heap.size) (i := 3) (v := .slice Ak nk ck) (by omega)
 have hB3 := kb_new (b := w.heap.size) (i := 3) (v := .slice Ak nk ck) (kb_new (b := w.heap.size) (i := 2) (v := .int .u32 X.set) (kb_new (b := w.heap.size) (i := 1) (v := .int .u8 X.op) (kb_then X0.out.2.2.2 hB2) (Nat.le_refl _)) (Nat.le_refl _)) (Nat.le_refl _)
 have X3 := Aside0.mk (And.intro hQ3 (And.intro hB3 (And.intro K65 hE3)))
 clear hE hQ2 hB2 K62 K63 K64 K65 hE3 hQ3 hB3 X0 hsz1
 go_wp2_with fail
 generalize ((w2.setCell ⟨w.heap.size, 1, none⟩ (.int .u8 X.op)).setCell ⟨w.heap.size, 2, none⟩ (.int .u32 X.set)).setCell ⟨w.heap.size, 3, none⟩ (.slice Ak nk ck) = w3 at X3 ⊢
 clear y0 y1 y2 y3 y4 y5
 refine (want_yes gp P n1 j1 pl1 j1' 47 w3 hj1.1 hs ⟨hj1.2, by omega⟩ X3.out.1 H12.out.1).mono ?_
 rintro e w4 ⟨rfl, hQ4, hB4⟩
 have hB4w := kb_then X3.out.2.1 hB4
 have X4 := Aside0.mk (And.intro hQ4 (And.intro hB4w (And.intro (kb_blk hB4 X3.out.2.2.1 hne) (And.intro (X3.out.2.2.2.same (Same.kb hB4 X3.out.1 (by decide))) (MapOk.keep HF.out.2.1 hB4w hmg)))))
 clear hQ4 hB4 hB4w X3
 go_wp2_with fail
 refine (hY _ X4.out.1 X4.out.2.2.2.2).mono ?_
 rintro e w5 ⟨vm, rfl, hE, hQ2, hB2⟩
 obtain ⟨Am, nm, cm, em⟩ := hE.slice
 subst em
 have K62 := kb_blk hB2 X4.out.2.2.1 hne
 have y0 : w5.cell? ⟨w.heap.size, 4, none⟩ = some (.int .u8 0) := blk_cell K62 4
 have y1 : w5.cell? ⟨w.heap.size, 5, none⟩ = some (.int .u32 0) := blk_cell K62 5
 have y2 : w5.cell? ⟨w.heap.size, 6, none⟩ = some (.slice none 0 0) := blk_cell K62 6
 have y3 := blk_frozen K62 4
 have y4 := blk_frozen K62 5
 have y5 := blk_frozen K62 6
 have K63 := blk_set K62 4 (.int .u8 Y.op)
 have K64 := blk_set K63 5 (.int .u32 Y.set)
 have K65 := blk_set K64 6 (.slice Am nm cm)
 have hE3 := ((((hE.lower (kb_size X4.out.2.1)).same (Same.set K62 (by decide) 4 (.int .u8 Y.op))).same (Same.set K63 (by decide) 5 (.int .u32 Y.set))).same (Same.set K64 (by decide) 6 (.slice Am nm cm)))
 have hE4 := ((((X4.out.2.2.2.1.same (Same.kb hB2 X4.out.1 (by decide))).same (Same.set K62 (by decide) 4 (.int .u8 Y.op))).same (Same.set K63 (by decide) 5 (.int .u32 Y.set))).same (Same.set K64 (by decide) 6 (.slice Am nm cm)))
 have hQ3 := ((hQ2.far (b := w.heap.size) (i := 4) (v := .int .u8 Y.op) (by omega)).far (b := w.heap.size) (i := 5) (v := .int .u32 Y.set) (by omega)).far (b := w.heap.size) (i := 6) (v := .slice Am nm cm) (by omega)
 have hB3 := kb_new (b := w.heap.size) (i := 6) (v := .slice Am nm cm) (kb_new (b := w.heap.size) (i := 5) (v := .int .u32 Y.set) (kb_new (b := w.heap.size) (i := 4) (v := .int .u8 Y.op) (kb_then X4.out.2.1 hB2) (Nat.le_refl _)) (Nat.le_refl _)) (Nat.le_refl _)
 have X6 := Aside0.mk (And.intro hQ3 (And.intro hB3 (And.intro K65 (And.intro hE4 hE3))))
 clear hE hQ2 hB2 K62 K63 K64 K65 hE3 hE4 hQ3 hB3 X4
 go_wp2_with fail
 generalize ((w5.setCell ⟨w.heap.size, 4, none⟩ (.int .u8 Y.op)).setCell ⟨w.heap.size, 5, none⟩ (.int .u32 Y.set)).setCell ⟨w.heap.size, 6, none⟩ (.slice Am nm cm) = w6 at X6 ⊢
 clear y0 y1 y2 y3 y4 y5
 refine (want_yes gp P n2 j2 pl2 j2' 59 w6 hj2.1 hs ⟨hj2.2, by omega⟩ X6.out.1 H12.out.2).mono ?_
 rintro e w7 ⟨rfl, hQ7, hB7⟩
 have hB7w := kb_then X6.out.2.1 hB7
 have X7 := Aside0.mk (And.intro (HF.out.keep hB7w hQ7) (And.intro hB7w (And.intro (kb_blk hB7 X6.out.2.2.1 hne) (And.intro (X6.out.2.2.2.1.same (Same.kb hB7 X6.out.1 (by decide))) (X6.out.2.2.2.2.same (Same.kb hB7 X6.out.1 (by decide)))))))
 clear hQ7 hB7 hB7w X6
 go_wp2
 have K67 := X7.out.2.2.1
 have q0 : w7.cell? ⟨w.heap.size, 0, none⟩ = some (.int .u8 does) := blk_cell K67 0
 have q1 : w7.cell? ⟨w.heap.size, 1, none⟩ = some (.int .u8 X.op) := blk_cell K67 1
 have q2 : w7.cell? ⟨w.heap.size, 2, none⟩ = some (.int .u32 X.set) := blk_cell K67 2
 have q3 : w7.cell? ⟨w.heap.size, 3, none⟩ = some (.slice Ak nk ck) := blk_cell K67 3
 have q4 : w7.cell? ⟨w.heap.size, 4, none⟩ = some (.int .u8 Y.op) := blk_cell K67 4
 have q5 : w7.cell? ⟨w.heap.size, 5, none⟩ = some (.int .u32 Y.set) := blk_cell K67 5
 have q6 : w7.cell? ⟨w.heap.size, 6, none⟩ = some (.slice Am nm cm) := blk_cell K67 6
 have qL := X7.out.1.1.c6
 rw [HEL.out] at qL
 have QQ := Aside0.mk (And.intro q0 (And.intro q1 (And.intro q2 (And.intro q3 (And.intro q4 (And.intro q5 (And.intro q6 qL)))))))
 obtain ⟨cs7, hL7, hR7⟩ := X7.out.1.2.2.2.2.2.2.2
 rw [HEL.out] at hL7
 have HL7 := Aside0.mk hL7
 have HR7 := Aside0.mk hR7
 have hcl7 := hR7.len
 have hbs : base ≤ w7.heap.size := by have := kb_size X7.out.2.1; omega
 have HB7 := Aside0.mk (kb_low X7.out.2.1 hbg (by omega))
 clear K67 q0 q1 q2 q3 q4 q5 q6 qL hL7 hR7
 refine st 13 w7 [8, 12] fun hHeld => ?_
 generalize w7.drew = w8 at hHeld ⊢
 refine pu 0 (some 29) ?_
 refine pu 1 (some 30) ?_
 refine pu 2 (some 31) ?_
 refine pu 3 (some 32) ?_
 refine pu 4 (some 33) ?_
 refine ta 5 (some 34) (fun _ s => pw_cell_below s QQ.out.2.2.2.2.2.2.2) hHeld ?_
 refine take_ (i := 6) (N := some 35) (v := ?_) (a' := ?_) #[true, true, true, true, true, true, true, false, false, false, false, false, false] rfl rfl (by kernel_rfl) (fun _ _ _ h => h) (Or.inl ⟨by rfl, ?_⟩) hHeld ?_ ?_
 rotate_left
 ·intro w' s_
  have k0 := pw_cell_below s_ QQ.out.1
  have k1 := pw_cell_below s_ QQ.out.2.1
  have k2 := pw_cell_below s_ QQ.out.2.2.1
  have k3 := pw_cell_below s_ QQ.out.2.2.2.1
  have k4 := pw_cell_below s_ QQ.out.2.2.2.2.1
  have k5 := pw_cell_below s_ QQ.out.2.2.2.2.2.1
  have k6 := pw_cell_below s_ QQ.out.2.2.2.2.2.2.1
  go_simp
  try (with_reducible rfl)
 rotate_left
 ·simp only [Act.put, List.setIfInBounds_toArray, List.set_cons_zero, List.set_cons_succ, i64_w, i32_w]
  rfl
 refine on 7 (some 36) fun K hK => ?_
 refine Kd.R_lit_step (kcl 7) (w0 := w7) w7.heap.size 142 (by rfl) (N := 36) rfl (xs := [rcl does X Ak nk ck Y Am nm cm]) (inner := [.int .u8 does, .int .u8 X.op, .int .u32 X.set, .slice Ak nk ck, .int .u8 Y.op, .int .u32 Y.set, .slice Am nm cm]) (ok := fun _ => True) (okp := fun _ => True) ?hrun ?hrep (fun _ hk => hk) trivial hHeld hHeld.size (by simp) ?_
 case hrun => first | (go_simp; done) | (go_simp; rfl)
 case hrep => exact (Reps.c7 (show (kcl 7).M _ _ _ (rcl does X Ak nk ck Y Am nm cm) [.int .u8 does, .int .u8 X.op, .int .u32 X.set, .slice Ak nk ck, .int .u8 Y.op, .int .u32 Y.set, .slice Am nm cm] from rfl) (Reps.none _ _))
 intro v1 x1 hr_ hb_ hg_ hat_
 refine hK.out _ _ hb_ (fun hHeld => ?_)
 clear hK K
 refine nrm 36 ?_
 refine la 8 (some 37) fun K hK => ?_
 obtain ⟨A_, c_, e_⟩ := Kd.R_slice hr_
 have hc_ := hr_
 rw [e_] at hc_
 refine Kd.R_append_rows_step (kcl 7) (w0 := w7) base (by rfl) (.tmp 34) (.tmp 36) 84 142 (.agg #[(.int .u8 0), (.int .u8 0), (.int .u32 0), (.slice none 0 0), (.int .u8 0), (.int .u32 0), (.slice none 0 0)]) 72 rfl Tryz.underlying84 info142 rfl (by decide) (by decide) _ _ _ A_ 1 c_ (fun _ => True) (fun _ => False) rfl (by first | exact e_ | rfl) (HL7.out.below hHeld).loose (Kd.R_reads' hc_).2.2 (fun p cs hk => hk) (fun _ hk => hk.elim) (fun _ _ => trivial) ?hbb ?hbz ?hl ?_
 case hbb => exact ⟨hHeld.os, hHeld.tape, hHeld.output, hHeld.size, fun i hi => hHeld.block i (by omega)⟩
 case hbz => have := hHeld.size; omega
 case hl => omega
 intro v4 x4 hr4 hb4 hg4 hat4
 refine hK.out _ _ ?_
 clear hK K
 refine nrm 37 ?_
 obtain ⟨gl, cl, e4, gl0, gl1, _⟩ := Kd.R_form hr4 (by simp)
 rw [show (cs7 ++ [rcl does X Ak nk ck Y Am nm cm]).length = rs.length + 1 by rw [List.length_append, hcl7]; rfl] at e4
 subst e4
 have hN := Same.grown (t := 134) (HL7.out.below hHeld) hg4 (by decide)
 have hQ8 := hN gp _ _ (blk_below X7.out.1.1 hHeld)
 have hP8 : IsPar x4 gp P (j2' + 1) pl2 := hQ8.trans (blk_below X7.out.1.1 hHeld)
 have y1 := hP8.c6
 rw [HEL.out] at y1
 have y2 := blk_frozen hP8 6
 refine pu 9 (some 38) ?_
 refine pu 10 (some 39) ?_
 refine pu 11 (some 40) ?_
 refine la 12 none fun K hK => ?_
 refine skip_ (w1 := ?_) (by rfl) rfl ?_ ?_
 rotate_left
 ·go_simp
  rfl
 refine hK.out _ _ ?_
 clear hK K
 refine done_ (by kernel_rfl) ?_
 have hBx := (HL7.out.below hHeld)
 have s9 : Same 9 w7 x4 := (Same.below hHeld).trans (Same.grown hBx hg4 (by decide))
 have s3 : Same 3 w7 x4 := (Same.below hHeld).trans (Same.grown hBx hg4 (by decide))
 have s140 : Same 140 w7 x4 := (Same.below hHeld).trans (Same.grown hBx hg4 (by decide))
 have t9 := Same.set (t := 9) hP8 (by decide) 6 (.slice (some ⟨gl, 0, none⟩) (rs.length + 1) cl)
 have t3 := Same.set (t := 3) hP8 (by decide) 6 (.slice (some ⟨gl, 0, none⟩) (rs.length + 1) cl)
 have t140 := Same.set (t := 140) hP8 (by decide) 6 (.slice (some ⟨gl, 0, none⟩) (rs.length + 1) cl)
 have t142 := Same.set (t := 142) hP8 (by decide) 6 (.slice (some ⟨gl, 0, none⟩) (rs.length + 1) cl)
 obtain ⟨_, m2, m3, m4, m5, ⟨ns, m6, m7⟩, m8, _⟩ := X7.out.1
 have hm8 : MapOk x4 P es clock := (hg4.block P.mb (blk_lt (blk_below m2 hHeld)) (fun he => by
  obtain ⟨inner, ho⟩ := Kd.R_own hBx
  obtain ⟨cells, h2⟩ := own_typed ho P.mb he.symm
  have h3 := blk_below m2 hHeld
  rw [h2] at h3
  cases h3)).trans (blk_below m2 hHeld)
 have FZ : Full (x4.setCell ⟨gp, 6, none⟩ (.slice (some ⟨gl, 0, none⟩) (rs.length + 1) cl)) gp base ⟨P.s, P.vC, P.vT, .slice (some ⟨gl, 0, none⟩) (rs.length + 1) cl, P.mb⟩ (j2' + 1) pl2 n (rs ++ [⟨does, X, Y⟩]) es clock :=
  ⟨blk_set hP8 6 (.slice (some ⟨gl, 0, none⟩) (rs.length + 1) cl), (Below.heap_setCell _ _ _ _ (by exact m3)).trans hm8, m3, m4, m5, ⟨ns, m6, m7.same (s9.trans t9)⟩, m8.same (s3.trans t3), cs7 ++ [rcl does X Ak nk ck Y Am nm cm], (Own1.flat (flatCl 7) hr4).same t142,
   RsOk.same t140 (RsOk.snoc ⟨_, _, _, _, _, _, rfl, (X7.out.2.2.2.1.lower (b' := base) (by omega)).same s140, (X7.out.2.2.2.2.lower (b' := base) (by omega)).same s140⟩ (HR7.out.same s140))⟩
 have FB : Below base w (x4.setCell ⟨gp, 6, none⟩ (.slice (some ⟨gl, 0, none⟩) (rs.length + 1) cl)) := (HB7.out.trans hb4).setCell hbg _
 have FM : SameMaps P.mb w (x4.setCell ⟨gp, 6, none⟩ (.slice (some ⟨gl, 0, none⟩) (rs.length + 1) cl)) := ((SameMaps.kb X7.out.2.1 HF.out.1).trans ((SameMaps.below hHeld).trans (SameMaps.grown hBx hg4))).trans (SameMaps.set hP8 6 _)
 have ZZ := Aside0.mk (And.intro FZ (And.intro FB FM))
 clear FZ FB FM hm8 t9 t3 t140 t142 s9 s3 s140 hBx m2 m3 m4 m5 m6 m7 m8 y1 y2 hP8 hQ8 hN hr4 hb4 hg4 hat4 hr_ hb_ hg_ hat_ hHeld e_ hc_
 go_wp2
 refine bodyPost_ret (v := .tuple #[]) (by simp [results, Tryz.results61, go_sem]) rfl ⟨rfl, _, ZZ.out⟩
end Go.Proofs.YtkeccgkicffieaaGreatDoor.PTopWider
