/- The walk of Awake (the layer's fixed examples): it answers true. Conditions: none. -/
import Derived.Test.YtdbcgeebcnlbaaaDoorPScalMostx1
import Derived.Test.YtdbcgeebcnlbaaaDoorPScalMostx2
import Derived.Lib.SlBytesConst
import Derived.Laws.IdiomStrings
namespace Go.Proofs.YtdbcgeebcnlbaaaDoor.PScalMost
open Go.RowKit Go.Proofs.YtdbcgeebcnlbaaaDoorW.PrintWords Go.Proofs.YtdbcgeebcnlbaaaDoorW.PrintLast Go.Proofs.YtdbcgeebcnlbaaaDoorW.PrintMore
set_option linter.unusedVariables false
set_option linter.unusedSimpArgs false
attribute [local go_sem high] eqA27

def exA : List S27 := [⟨97, 0, 1⟩, ⟨233, 1, 2⟩]
def exB : List S27 := [⟨65533, 0, 3⟩, ⟨65, 3, 1⟩]
def exC : List S27 := [⟨65533, 0, 1⟩, ⟨65533, 1, 1⟩, ⟨65533, 2, 1⟩]
theorem awake_a : scal_All.f 12 [97, 195, 169] = some exA := by kernel_rfl
theorem awake_b : scal_All.f 12 [240, 159, 152, 65] = some exB := by kernel_rfl
theorem awake_c : scal_All.f 12 [237, 160, 128] = some exC := by kernel_rfl

theorem lit_C (w : World) (C : Array Value) (e : TypeId) (fr : Nat × Nat) (xs : List Int) (h : C.toList = xs.map (fun x => Value.int .u8 x)) (hl : xs.length ≤ 100) :
    Kd.C (Kd.int .u8) (w.alloc (.cells C e fr)) (some ⟨w.heap.size, 0, none⟩) xs.length xs := by
  refine Kd.C_of_reads (d := (0 : Int)) (h1 := fun _ => rfl) ⟨rfl, by omega, fun _ => ⟨_, rfl, fun j hj => ?_⟩⟩
  have hC : C[j]? = some (.int .u8 (xs.getD j 0)) := by
    rw [← Array.getElem?_toList, h, List.getElem?_map, List.getD_eq_getElem?_getD, List.getElem?_eq_getElem hj]
    rfl
  have := World.cell?_alloc_mark w C e fr j
  rw [hC] at this
  rcases j with _ | j
  · simpa [Addr.add] using this
  · simpa [Addr.add] using this

set_option maxHeartbeats 2000000 in
set_option maxRecDepth 100000 in
theorem awake_calls (w : World) :
    Calls Tryd.prog 5 #[] w fun e w' => e = .returned (.bool true) ∧ Below w.heap.size w w' := by
  have hu27 := Tryd.underlying27
  have kc := fun (w : World) (C : Array Value) (n c : Nat) => Lib.run_convert_bytes_const (P := Tryd.prog) w 22 5 C n c Tryd.underlying22 Tryd.underlying5
  go_enter Tryd.func5, Tryd.ntmps5
  go_wp2_with fail
  refine (scal_All.calls 12 _ _ [97, 195, 169] exA _ (lit_C _ _ _ _ [97, 195, 169] rfl (by decide)) (by decide) awake_a).mono ?_
  rintro e w1 ⟨v1, rfl, hR1, hb1⟩
  obtain ⟨A1, c1, rfl⟩ := Kd.R_slice hR1
  go_wp2_with fail
  refine (scal_All.calls 12 _ _ [240, 159, 152, 65] exB _ (lit_C _ _ _ _ [240, 159, 152, 65] rfl (by decide)) (by decide) awake_b).mono ?_
  rintro e w2 ⟨v2, rfl, hR2, hb2⟩
  obtain ⟨A2, c2, rfl⟩ := Kd.R_slice hR2
  go_wp2_with fail
  refine (scal_All.calls 12 _ _ [237, 160, 128] exC _ (lit_C _ _ _ _ [237, 160, 128] rfl (by decide)) (by decide) awake_c).mono ?_
  rintro e w3 ⟨v3, rfl, hR3, hb3⟩
  obtain ⟨A3, c3, rfl⟩ := Kd.R_slice hR3
  have hR1' := Kd.R_below (Kd.R_alloc (Kd.R_below (Kd.R_alloc hR1 _) hb2) _) hb3
  have hR2' := Kd.R_below (Kd.R_alloc hR2 _) hb3
  obtain ⟨a1, ea1, x0, x1, x2⟩ := at_T27 (Kd.R_reads' hR1').2.2 1 (by decide) (by decide)
  obtain ⟨a2, ea2, y0, y1, y2⟩ := at_T27 (Kd.R_reads' hR2').2.2 0 (by decide) (by decide)
  subst ea1
  subst ea2
  simp [Addr.add] at x0 x1 x2 y0 y1 y2
  clear hR1 hR2 hR3 hR1' hR2'
  go_wp2_with fail
  go_ret
  exact ⟨rfl, below_step (below_alloc (below_step (below_alloc (below_step (below_alloc (Below.refl _ _) _) hb1) _) hb2) _) hb3⟩
/-- What Awake answers. -/
def stanzalaw01_Awake.f (k : Nat) : Option Bool := some true
theorem stanzalaw01_Awake.mono : ∀ k, LeO (stanzalaw01_Awake.f k) (stanzalaw01_Awake.f (k + 1)) := fun _ => LeO.refl _
theorem stanzalaw01_Awake.calls (k : Nat) (r : Bool) (w : World) (h : stanzalaw01_Awake.f k = some r) :
    Calls Tryd.prog 5 #[] w fun e w' => e = .returned (.bool r) ∧ Below w.heap.size w w' := by
  obtain rfl := Option.some.inj h
  exact awake_calls w
end Go.Proofs.YtdbcgeebcnlbaaaDoor.PScalMost
