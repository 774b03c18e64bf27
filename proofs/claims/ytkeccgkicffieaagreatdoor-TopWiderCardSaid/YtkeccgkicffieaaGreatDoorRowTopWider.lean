/- The tied card of TopWider holds of the given program for every input: a text of words without tabs and hyphens, laid out in mode First, has in a wider width no more rows, and each ends no sooner. Conditions: the table of math/bits holds what the library's text lays (tied by the card). -/
import Derived.Test.YtkeccgkicffieaaGreatDoorRows
import Derived.Test.YtkeccgkicffieaaGreatDoorCards
import Derived.Test.YtkeccgkicffieaaGreatDoorTie
import Derived.Test.YtkeccgkicffieaaGreatDoorTopPH
import Derived.WalkKit
import Derived.ProofKit
import Derived.OpenShut
import Derived.ShutString
import Derived.ChangeOld
import Derived.ChangeVars
import Derived.Below
import Derived.SizedLaws
import Derived.LaidMore
import Derived.Lib.LaidIn
import Derived.Lib.LaidTab
import Derived.Lib.LaidU8
import Derived.SevenTiedAt
namespace Go.Proofs.YtkeccgkicffieaaGreatDoor.topWider
open Go.ChangeShapes Go.WideShapes Go.ChangeAt Go.RowKit
open Go.ChangeMaps (open_string shut_string)
open Go.Proofs.YtkeccgkicffieaaGreatDoorW.PrintWords
set_option linter.unusedVariables false
set_option linter.unusedSimpArgs false
theorem own : ownKnob Tryz.prog.godebug = none := by kernel_rfl
theorem laidOut : laidOutB Tryz.prog = true := by kernel_rfl
def IsRow (k : IntKind) (w : World) (a : Option Addr) (len cap : Nat) (zs : List Int) : Prop :=
 (a = none ∧ len = 0 ∧ cap = 0 ∧ zs = []) ∨
 ∃ x, a = some x ∧ len ≤ cap ∧ cap ≤ maxLen ∧ zs.length = cap ∧ (∀ i, i < zs.length → w.cell? (x.add i) = some (.int k (zs.getD i 0))) ∧ ∀ n ∈ zs, (Lit.int k n).wf = true
theorem wf_u8 {n : Int} (h : (Lit.int .u8 n).wf = true) : 0 ≤ n ∧ n < 256 := by
 simp only [Lit.wf, IntKind.min, IntKind.max, IntKind.signed, IntKind.bits, Bool.and_eq_true] at h
 simp at h
 omega
theorem wf_u16 {n : Int} (h : (Lit.int .u16 n).wf = true) : 0 ≤ n ∧ n < 65536 := by
 simp only [Lit.wf, IntKind.min, IntKind.max, IntKind.signed, IntKind.bits, Bool.and_eq_true] at h
 simp at h
 omega
theorem row_C {w : World} {a : Option Addr} {len cap : Nat} {zs : List Int} (h : IsRow .u8 w a len cap zs) : ∃ l : List Int, len = l.length ∧ l.length ≤ cap ∧ Kd.C (Kd.int .u8) w a l.length l ∧ ∀ x ∈ l, 0 ≤ x ∧ x < 256 := by
 obtain ⟨l, e, hr, hm, hw, hc⟩ := ReadsInt.ofRowC h
 exact ⟨l, e, hc, Kd.C_of_reads (d := (0 : Int)) (h1 := fun _ => rfl) hr, fun x hx => wf_u8 (hw x hx)⟩
abbrev laidL : List (String × DataW Unit) := Rows.topWiderRow.laid
theorem db_eq : (Rows.laid_math_bits_deBruijn32tab : DataW Unit) = Lib.tabData .u8 PTopWider.dbTab := by kernel_rfl
theorem db_of {W : World} (h : laidMetH Tryz.prog laidL W) : PTopWider.IsDb W := by
 rw [MakeChecks.laidMetH_plain _ _ _ (by kernel_rfl)] at h
 have h1 := Lib.laidMet.reads h (.head _)
 rw [db_eq] at h1
 intro c hc
 obtain ⟨g, t, cs, fuel, p, hg, hty, hvar, hd⟩ := h1
 obtain rfl := Option.some.inj ((show Tryz.prog.globalNamed "math/bits.deBruijn32tab" = some 0 by kernel_rfl).symm.trans hg)
 obtain rfl := Option.some.inj ((show (Tryz.prog.globals[0]?).map (·.type) = some 214 by kernel_rfl).symm.trans hty)
 have hcs := Lib.cells_of_tab Tryz.underlying214 Tryz.underlying5 (by kernel_rfl) (by kernel_rfl) hd
 have := World.var?_cell hg hvar c
 rw [this, ← Array.getElem?_toList, hcs, List.getElem?_map, List.getD_eq_getElem?_getD]
 have hl : c < PTopWider.dbTab.length := hc
 rw [List.getElem?_eq_getElem hl]
 rfl
/-- A world that meets the condition: the settled one, the table laid. -/
noncomputable def laidWorld (os : Os) : World :=
 let w0 := World.holding Tryz.prog os ⟨#[], #[], []⟩
 let put (h : Array Obj) (g : Nat) (cs : Array Value) : Array Obj := h.modify g fun
  | .cells _ t frozen => .cells cs t frozen
  | o => o
 { w0 with heap := put w0.heap 0 (PTopWider.dbTab.map fun z => Value.int .u8 z).toArray }
theorem laid_met (os : Os) (args : Array Value) : laidMetH Tryz.prog laidL ((laidWorld os).forCall (fun _ _ => 0) ⟨#[], args, []⟩).memory := by
 rw [MakeChecks.laidMetH_plain _ _ _ (by kernel_rfl)]
 exact (LaidIn.of_run (l := laidL) [0] 8 (by kernel_rfl) (by kernel_rfl) (by kernel_rfl) (by kernel_rfl)).met
section
variable {H : Type} {enc : TypeId × Value → H} {W : World}
set_option maxRecDepth 100000 in
theorem float_of {sp : Nat → Bool} {held : Bool} {b n : Nat} {v : Value} {x : DataW H × List MemPlace} (h : DataW.trod enc Tryz.prog W b sp held n 24 [v] = some x) : ∃ f, v = .float .f64 f := by
 cases n with
 | zero => simp [DataW.trod] at h
 | succ n =>
  unfold DataW.trod at h
  rw [Tryz.underlying24] at h
  cases v <;> simp_all
set_option maxRecDepth 100000 in
/-- A way by value, opened: five numbers and a float. -/
theorem way_open {b0 : Nat} {v : Value} {d : DataW H} {p : List MemPlace} (hv : Value.okWide Tryz.prog W .any b0 26 v) (h : DataW.Trod enc Tryz.prog W 0 (fun _ => true) true 26 v d p) :
  ∃ (q0 q1 q2 q3 q4 : Int) (q5 : Nat), v = .agg #[.int .u8 q0, .int .u8 q1, .int .u8 q2, .int .u16 q3, .int .u16 q4, .float .f64 q5] ∧ (0 ≤ q0 ∧ q0 < 256) ∧ (0 ≤ q1 ∧ q1 < 256) ∧ (0 ≤ q2 ∧ q2 < 256) ∧ (0 ≤ q3 ∧ q3 < 65536) ∧ (0 ≤ q4 ∧ q4 < 65536) := by
 have c26 : Tryz.prog.cellsOf 26 = 6 := by kernel_rfl
 have c5 : Tryz.prog.cellsOf 5 = 1 := by kernel_rfl
 have c23 : Tryz.prog.cellsOf 23 = 1 := by kernel_rfl
 have c24 : Tryz.prog.cellsOf 24 = 1 := by kernel_rfl
 obtain ⟨cs, rfl, hsz⟩ := okWide_struct Tryz.underlying26 hv
 rw [c26] at hsz
 obtain ⟨l⟩ := cs
 match l, hsz with
 | [a0, a1, a2, a3, a4, a5], _ =>
 obtain ⟨fuel, hf⟩ := h
 obtain ⟨xs, n, _, hx, _, hlen, hg⟩ := DataW.trod_struct Tryz.underlying26 hf
 match xs, hlen with
 | [y0, y1, y2, y3, y4, y5], _ =>
 have g0 : DataW.trod enc Tryz.prog W 0 (fun _ => true) true n 5 [a0] = some y0 := by simpa [Value.cells, c5] using hg 0 _ rfl
 have g1 : DataW.trod enc Tryz.prog W 0 (fun _ => true) true n 5 [a1] = some y1 := by simpa [Value.cells, c5] using hg 1 _ rfl
 have g2 : DataW.trod enc Tryz.prog W 0 (fun _ => true) true n 5 [a2] = some y2 := by simpa [Value.cells, c5] using hg 2 _ rfl
 have g3 : DataW.trod enc Tryz.prog W 0 (fun _ => true) true n 23 [a3] = some y3 := by simpa [Value.cells, c23] using hg 3 _ rfl
 have g4 : DataW.trod enc Tryz.prog W 0 (fun _ => true) true n 23 [a4] = some y4 := by simpa [Value.cells, c23] using hg 4 _ rfl
 have g5 : DataW.trod enc Tryz.prog W 0 (fun _ => true) true n 24 [a5] = some y5 := by simpa [Value.cells, c24] using hg 5 _ rfl
 obtain ⟨q0, e0, _, w0⟩ := DataW.trod_int Tryz.underlying5 g0
 obtain ⟨q1, e1, _, w1⟩ := DataW.trod_int Tryz.underlying5 g1
 obtain ⟨q2, e2, _, w2⟩ := DataW.trod_int Tryz.underlying5 g2
 obtain ⟨q3, e3, _, w3⟩ := DataW.trod_int Tryz.underlying23 g3
 obtain ⟨q4, e4, _, w4⟩ := DataW.trod_int Tryz.underlying23 g4
 obtain ⟨q5, e5⟩ := float_of g5
 simp only [List.cons.injEq, and_true] at e0 e1 e2 e3 e4
 subst e0 e1 e2 e3 e4 e5
 exact ⟨q0, q1, q2, q3, q4, q5, rfl, wf_u8 w0, wf_u8 w1, wf_u8 w2, wf_u16 w3, wf_u16 w4⟩
end
set_option maxRecDepth 100000 in
theorem lifted (os : Os) (started : os.Started) (H : Type) (enc : TypeId × Value → H) :
  ReturnsInHanded {} Tryz.checked os 3 .any (fun w args => (Rows.topWiderSpec.pre enc Tryz.prog Tryz.f3 [] false w args ∧ laidMetH Tryz.prog laidL w) ∧ sizedMet enc Tryz.prog Tryz.f3 (OpenSpec.ofChange Rows.topWiderSpec) false w args)
   (Rows.topWiderSpec.post enc Tryz.prog Tryz.f3 false true false false) := by
 refine returnsInHanded_of_change_and (C := Tryz.checked) (X := fun w _ => laidMetH Tryz.prog laidL w) (fun _ _ _ hh h => h.of_heap hh) own started (by kernel_rfl) Tryz.func3
  (ChangeSpec.witness_at (enc := enc) (C := Tryz.checked) (os := os) (X := fun w _ => laidMetH Tryz.prog laidL w) false (laidWorld os) #[.slice none 0 0, .agg #[.int .u8 0, .int .u8 0, .int .u8 0, .int .u16 0, .int .u16 0, .float .f64 0], .int .u8 0] 8 rfl (by kernel_rfl) (by kernel_rfl) (by kernel_rfl) (by kernel_rfl) (by kernel_rfl) (laid_met os _)) ?_
 intro W base args ds gs before hval0 hW _ _ hL _
 have hval : ∀ (j : Nat) t v, Tryz.f3.params[j]? = some t → args[j]? = some v → Value.okWide Tryz.prog W .any base t v := hval0
 have hW' := hW
 obtain ⟨p, q, hA0, hV, rfl, hfz, hnd⟩ := hW
 have hA : DataW.TrodAll enc Tryz.prog W 0 (fun _ => true) true Tryz.f3.params.toList args.toList ds p := hA0
 rw [Tryz.params3] at hA hval
 obtain ⟨v0, vs0, d0, ds0, p0, q0, hargs, rfl, rfl, h0, r0⟩ := trodAll_cons hA
 obtain ⟨v1, vs1, d1, ds1, p1, q1, rfl, rfl, rfl, h1, r1⟩ := trodAll_cons r0
 obtain ⟨v2, vs2, d2, ds2, p2, q2, rfl, rfl, rfl, h2, r2⟩ := trodAll_cons r1
 obtain ⟨rfl, rfl, rfl⟩ := trodAll_nil r2
 obtain rfl : args = #[v0, v1, v2] := by cases args; simp_all
 obtain ⟨rfl, rfl⟩ := trodVars_none hV
 obtain ⟨a0, len0, cap0, rfl⟩ := okWide_slice Tryz.underlying22 (hval 0 22 v0 rfl rfl)
 have k0 := h0
 have k1 := h1
 have k2 := h2
 have lt0 : ∀ x ∈ p0, x.block < W.heap.size := by obtain ⟨m, hm⟩ := k0; exact DataW.trod_lt m _ _ _ hm
 have lt1 : ∀ x ∈ p1, x.block < W.heap.size := by obtain ⟨m, hm⟩ := k1; exact DataW.trod_lt m _ _ _ hm
 have lt2 : ∀ x ∈ p2, x.block < W.heap.size := by obtain ⟨m, hm⟩ := k2; exact DataW.trod_lt m _ _ _ hm
 obtain ⟨z0, w0⟩ : ∃ zs, IsRow .u8 W a0 len0 cap0 zs := by
  obtain ⟨fuel, hf⟩ := h0
  rcases open_ints Tryz.underlying22 Tryz.underlying5 (by kernel_rfl) hf with ⟨hcs, _⟩ | ⟨x, l, c, zs, hcs, _, hl, hm, hz, _, hcell, hwz⟩
  ·simp [Value.cells] at hcs
   obtain ⟨rfl, rfl, rfl⟩ := hcs
   exact ⟨[], .inl ⟨rfl, rfl, rfl, rfl⟩⟩
  ·simp [Value.cells] at hcs
   obtain ⟨rfl, rfl, rfl⟩ := hcs
   exact ⟨zs, .inr ⟨_, rfl, hl, hm, by simpa using hz, hcell, hwz⟩⟩
 obtain ⟨l0, rfl, hc0, hC0, hby⟩ := row_C w0
 obtain ⟨q0, q1, q2, q3, q4, q5, rfl, b0, b1, b2, b3, b4⟩ := way_open (hval 1 26 v1 rfl rfl) h1
 obtain ⟨m, rfl, bm⟩ : ∃ m, v2 = .int .u8 m ∧ 0 ≤ m ∧ m < 256 := by
  obtain ⟨fuel, hf⟩ := h2
  obtain ⟨m, e, _, hw⟩ := DataW.trod_int Tryz.underlying5 hf
  obtain ⟨n, rfl⟩ := okWide_int Tryz.underlying5 (hval 2 5 v2 rfl rfl)
  simp [Value.cells] at e
  subst e
  exact ⟨_, rfl, wf_u8 hw⟩
 have hdb := db_of hL
 clear hA0 hval0
 refine (PTopWider.topwider_calls a0 cap0 l0 q0 q1 q2 q3 q4 q5 m W hC0 hc0 hby b0 b1 b2 b3 b4 bm hdb).mono fun e W' ⟨he, bel⟩ => ?_
 subst he
 exact ⟨_, rfl, _, _, _, [], _, [], hW', trodAll_mk1 (shut_bool Tryz.underlying4 _), (trodAll_cons_mk (Below.trod laidOut (by kernel_rfl) (of_decide_eq_true (by kernel_rfl)) k0 bel lt0) (trodAll_cons_mk (Below.trod laidOut (by kernel_rfl) (of_decide_eq_true (by kernel_rfl)) k1 bel lt1) (trodAll_cons_mk (Below.trod laidOut (by kernel_rfl) (of_decide_eq_true (by kernel_rfl)) k2 bel lt2) trodAll_mk0))), rfl, bel.frame _, fun h => by cases h⟩
theorem over : Rows.TopWiderSaid :=
 OpenClaim.holds_of_wide 3 Tryz.f3 rfl rfl rfl rfl rfl rfl rfl ⟨rfl, rfl, rfl, rfl, rfl⟩ rfl rfl rfl rfl rfl (by kernel_rfl) Tryz.func3 (by kernel_rfl)
  (of_decide_eq_true (by kernel_rfl)) (by unfold Func.isWrapper; first | (rw [if_pos (by decide +kernel)]; kernel_rfl) | (rw [if_neg (by decide +kernel)]; exact ⟨rfl, rfl⟩))
  (fun os started H enc _ => lifted os started H enc)
theorem card : Rows.TopWiderCardSaid :=
 Claim7.holds_tied_plain_at .later [] [.data] true (true, "3643fa7c00646d1e804824544bb6e51ef710c14580b1f501e51705c4f9d39fe2") true
  over (fun _ h => by cases h) (by kernel_rfl) (fun _ h => by cases h) topWider_row_tie rfl ⟨rfl, rfl⟩ (by kernel_rfl) rfl
  (fun f g hf hfn => by
   obtain rfl : f = 3 := Option.some.inj ((show Tryz.prog.funcNamed "stanza/stanzatop.TopWider" = some 3 by kernel_rfl).symm.trans hf) |>.symm
   obtain rfl : g = Tryz.f3 := (Option.some.inj (Tryz.func3.symm.trans hfn)).symm
   exact ⟨by kernel_rfl, fun j t ht => by
    rw [Tryz.params3] at ht
    have hm : t ∈ [22, 26, 5] := by simpa using Array.mem_of_getElem? ht
    have hall : ([22, 26, 5].all fun u => !Tryz.prog.wantsStandIn u) = true := by kernel_rfl
    exact (show Tryz.prog.wantsStandIn t = false by simpa using List.all_eq_true.1 hall t hm)⟩)
  (by kernel_rfl)
#print axioms card
end Go.Proofs.YtkeccgkicffieaaGreatDoor.topWider
namespace Go.Proofs.YtkeccgkicffieaaGreatDoor
/-- The tied card, under a short name, for the claim. -/
theorem topWider_card_holds : Rows.TopWiderCardSaid := topWider.card
end Go.Proofs.YtkeccgkicffieaaGreatDoor
