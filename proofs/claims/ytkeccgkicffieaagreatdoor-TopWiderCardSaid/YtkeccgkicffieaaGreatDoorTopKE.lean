/- The walk of least's Make. Conditions: the automaton lies in memory as stated. -/
import Derived.Test.YtkeccgkicffieaaGreatDoorTopT
import Derived.Test.YtkeccgkicffieaaGreatDoorTopKD
namespace Go.Proofs.YtkeccgkicffieaaGreatDoor.PTopWider
open Go.RowKit Go.Proofs.YtkeccgkicffieaaGreatDoorW.PrintWords Go.Proofs.YtkeccgkicffieaaGreatDoorW.PrintLast Go.Proofs.YtkeccgkicffieaaGreatDoorW.PrintMore
set_option linter.unusedVariables false
set_option linter.unusedSimpArgs false
/-- What least's Make reckons. -/
def keyF (next : List (List Int)) (kind : List Int) (s : Nat) : List Int := rd kind s :: (rd_L4 next s).map (rd kind)
def kindL (next : List (List Int)) (fu : Nat) : Nat → List Int → Option (List Int)
 | 0, _ => none
 | f + 1, kind =>
  if kind.length = next.length then
   match least_most.f fu (splitF (keysF (keyF next kind) kind.length) [] []), least_most.f fu kind with
   | some a, some b => if a = b then some kind else kindL next fu f (splitF (keysF (keyF next kind) kind.length) [] [])
   | _, _ => none
  else none
def okB (next : List (List Int)) (out : List Int) : Bool :=
 decide (next.length = out.length) && decide (1 ≤ next.length) && decide (next.length ≤ 900) && next.all (fun row => decide (row.length ≤ 900) && row.all (fun t => decide (0 ≤ t) && decide (t < next.length))) && out.all (fun x => decide (0 ≤ x) && decide (x < 4294967296))
def leastF (fu : Nat) (next : List (List Int)) (out : List Int) : Option (List (List Int) × List Int) :=
 if least_Check.f fu next out = some true ∧ okB next out = true then
  match kindL next fu fu (splitF (keysF (fun s => [rd out s]) out.length) [] []) with
  | none => none
  | some kind => numF fu kind next out
 else none
theorem callFunc69 (az : Array Value) (w : World) : (callFunc 69 az).run Tryz.prog w = .ok (.enter 69 az) w := by
 go_simp
theorem callFunc70 (az : Array Value) (w : World) : (callFunc 70 az).run Tryz.prog w = .ok (.enter 70 az) w := by
 go_simp
set_option maxHeartbeats 40000000 in
set_option maxRecDepth 100000 in
theorem leastmake_calls (fu ca cb : Nat) (A B : Option Addr) (next : List (List Int)) (out : List Int) (res : List (List Int) × List Int) (w : World) (hA : next.length ≤ ca) (hN : Kd.C (Kd.slice 3 (Kd.int .i64)) w A next.length next) (hB : out.length ≤ cb) (hO : Kd.C (Kd.int .u32) w B out.length out)
  (h : leastF fu next out = some res) :
  Calls Tryz.prog 38 #[.agg #[.slice A next.length ca, .slice B out.length cb]] w fun e w' => LeastE w res e w' := by
 unfold leastF at h
 by_cases hc : least_Check.f fu next out = some true ∧ okB next out = true
 ·rw [if_pos hc] at h
  cases hkl : kindL next fu fu (splitF (keysF (fun s => [rd out s]) out.length) [] []) with
  | none => rw [hkl] at h; cases h
  | some kindR =>
   rw [hkl] at h
   simp only at h
   have HF := Aside0.mk (And.intro hkl h)
   obtain ⟨hck, hok⟩ := hc
   simp only [okB, Bool.and_eq_true, decide_eq_true_eq, List.all_eq_true] at hok
   obtain ⟨⟨⟨⟨hlen, hn1⟩, hn2⟩, hrows⟩, houts⟩ := hok
   have OK := Aside0.mk (And.intro hlen (And.intro hrows houts))
   have hol : out.length ≤ 900 := by omega
   have ho1 : 1 ≤ out.length := by omega
   obtain ⟨g, hg⟩ : ∃ g, Aside0 (w.heap.size = g) := ⟨_, ⟨rfl⟩⟩
   have z1 : (w.alloc (.cells #[.slice A next.length ca, .slice B out.length cb] 94)).heap.size = w.heap.size + 1 := by simp
   have b0 := blk_alloc (blk_new w (.cells #[.slice A next.length ca, .slice B out.length cb] 94)) (.cells #[.slice none 0 0, .slice none 0 0] 94)
   have b1 := blk_new (w.alloc (.cells #[.slice A next.length ca, .slice B out.length cb] 94)) (.cells #[.slice none 0 0, .slice none 0 0] 94)
   rw [z1] at b1
   have b3 := below_alloc (below_alloc (Below.refl w.heap.size w) (.cells #[.slice A next.length ca, .slice B out.length cb] 94)) (.cells #[.slice none 0 0, .slice none 0 0] 94)
   have Q0 := Aside0.mk (And.intro b0 (And.intro b1 b3))
   have HN := Aside0.mk (And.intro hN hO)
   have hmc := least_Check.calls fu A ca next B cb out true ((w.alloc (.cells #[.slice A next.length ca, .slice B out.length cb] 94)).alloc (.cells #[.slice none 0 0, .slice none 0 0] 94)) (Kd.C_below hN b3) hA (Kd.C_below hO b3) hB hck
   have HC := Aside0.mk hmc
   have l0 := blk_cell b0 0
   have l1 := blk_cell b0 1
   clear z1 b0 b1 b3 hN hO hmc h hkl hck hrows houts hlen
   go_enter Tryz.func38, Tryz.ntmps38
   go_wp2_with fail
   refine HC.out.mono ?_
   rintro e w1 ⟨rfl, hb1⟩
   have hgs := Q0.out.2.2.size
   rw [hg.out] at Q0 ⊢
   have b31 := Q0.out.2.2.trans (hb1.mono (by have := hg.out; omega))
   have Q1 := Aside0.mk (And.intro (blk_below Q0.out.1 hb1) (And.intro (blk_below Q0.out.2.1 hb1) b31))
   have l1 : w1.cell? ⟨g, 1, none⟩ = some (.slice B out.length cb) := blk_cell Q1.out.1 1
   clear b31 hb1 Q0 HC hgs l0
   go_wp2_with fail
   have hkC : ∀ (s : Nat) (w2 : World) (v : Value), s < out.length → Below w1.heap.size w1 w2 → Own1 (Kd.int .i64) 3 w1.heap.size w2 v [] → Calls Tryz.prog 69 (#[.int .i64 (s : Int), v] ++ #[.pointer (some ⟨g, 0, none⟩)]) w2 fun e w' => KeyE w1.heap.size w2 v [rd out s] e w' := fun s w2 v hs hB hv =>
    key1_calls g cb B out s v w1 w2 hB l1 (C_low Q1.out.2.2 hg.out HN.out.2) hs (OK.out.2.2 _ (getD_mem _ _ _ (by omega))) hv
   refine (split_calls 69 out.length #[.pointer (some ⟨g, 0, none⟩)] (fun s => [rd out s]) w1 callFunc69 ⟨ho1, by omega⟩ (fun s hs => by simp) hkC).mono ?_
   rintro e w2 ⟨v2, rfl, hv2, hb2⟩
   obtain ⟨k0, hk0⟩ : ∃ k0, Aside0 (splitF (keysF (fun s => [rd out s]) out.length) [] [] = k0) := ⟨_, ⟨rfl⟩⟩
   rw [hk0.out] at hv2 HF
   obtain ⟨K0, c0, e0⟩ := Kd.R_slice hv2
   subst e0
   have r2 := Own1.reads hv2
   have hg1 : g ≤ w1.heap.size := by have := blk_lt Q1.out.1; omega
   have bK := blk_new w2 (.cells #[.slice K0 k0.length c0] 83)
   have ba := below_alloc (Below.refl w2.heap.size w2) (.cells #[.slice K0 k0.length c0] 83)
   have hg2 : g ≤ w2.heap.size := by have := hb2.size; omega
   have HG2 := Aside0.mk hg2
   have Q3 := Aside0.mk (And.intro (blk_below (blk_below Q1.out.1 hb2) ba) (And.intro (blk_below (blk_below Q1.out.2.1 hb2) ba) ((Q1.out.2.2.trans (hb2.mono hg1)).trans (ba.mono hg2))))
   have R3 := Aside0.mk (And.intro bK (And.intro r2.2.1 (Kd.C_below r2.2.2 ba)))
   clear hkC hv2 hb2 r2 bK ba l1 Q1
   go_wp2_with fail
   obtain ⟨kp, hkp⟩ : ∃ kp, Aside0 (w2.heap.size = kp) := ⟨_, ⟨rfl⟩⟩
   generalize hw3 : w2.alloc (.cells #[.slice K0 k0.length c0] 83) = w3 at Q3 R3 ⊢
   clear hw3
   rw [hkp.out] at R3 ⊢
   go_loopg [5] fu (fun kq v5 w' => ∃ (kind : List Int) (Ka : Option Addr) (ck : Nat), Aside0 (w'.heap[kp]? = some (.cells #[.slice Ka kind.length ck] 83 (0, 0)) ∧ kind.length ≤ ck ∧ Kd.C (Kd.int .i64) w' Ka kind.length kind) ∧ Aside0 (kindL next fu kq kind = some kindR) ∧ Aside0 (w'.heap[g]? = some (.cells #[.slice A next.length ca, .slice B out.length cb] 94) ∧ w'.heap[g + 1]? = some (.cells #[.slice none 0 0, .slice none 0 0] 94) ∧ Below g w w'))
   case atStart => exact ⟨k0, K0, c0, R3, ⟨HF.out.1⟩, Q3⟩
   case round =>
    obtain ⟨kind, Ka, ck, HK, HKL, HQ⟩ := hrel
    have h := HKL.out
    cases gk with
    | zero => exact absurd h (by simp [kindL])
    | succ k1 =>
     unfold kindL at h
     by_cases hkn : kind.length = next.length
     ·rw [if_pos hkn] at h
      obtain ⟨n2, hn2⟩ : ∃ n2, Aside0 (splitF (keysF (keyF next kind) kind.length) [] [] = n2) := ⟨_, ⟨rfl⟩⟩
      rw [hn2.out] at h
      cases e1 : least_most.f fu n2 with
      | none => rw [e1] at h; cases h
      | some a =>
       cases e2 : least_most.f fu kind with
       | none => rw [e1, e2] at h; cases h
       | some b =>
        rw [e1, e2] at h
        simp only at h
        have HE := Aside0.mk (And.intro e1 e2)
        have HH := Aside0.mk h
        obtain ⟨w4, hw4⟩ : ∃ w4, w4 = wr := ⟨_, rfl⟩
        subst hw4
        have y0 : w4.cell? ⟨kp, 0, none⟩ = some (.slice Ka kind.length ck) := blk_cell HK.out.1 0
        have hkl : kind.length ≤ 900 := by omega
        have hk1 : 1 ≤ kind.length := by omega
        have hNN := Aside0.mk (C_low HQ.out.2.2 hg.out HN.out.1)
        have c0' := blk_cell HQ.out.1 0
        have hkC : ∀ (s : Nat) (w2 : World) (v : Value), s < kind.length → Below w4.heap.size w4 w2 → Own1 (Kd.int .i64) 3 w4.heap.size w2 v [] → Calls Tryz.prog 70 (#[.int .i64 (s : Int), v] ++ #[.pointer (some ⟨kp, 0, none⟩), .pointer (some ⟨g, 0, none⟩)]) w2 fun e w' => KeyE w4.heap.size w2 v (keyF next kind s) e w' := fun s w2 v hs hB hv => by
         have hrow := OK.out.2.1 (rd_L4 next s) (getD_mem _ _ _ (by omega))
         exact key2_calls kp g ck ca Ka A kind next s v w4 w2 hB y0 HK.out.2.2 c0' hNN.out (by omega) hkn (fun t ht => by have := hrow.2 t ht; omega) (by omega) hv
        have HKC := Aside0.mk hkC
        have hkB : Aside0 (∀ s, s < kind.length → (keyF next kind s).length ≤ 1000) := ⟨fun s hs => by
         have hrow := OK.out.2.1 (rd_L4 next s) (getD_mem _ _ _ (by omega))
         simp only [keyF, List.length_cons, List.length_map]
         omega⟩
        replace hkn := Aside0.mk hkn
        clear hkC c0' h e1 e2
        go_wp2_with fail
        refine (split_calls 70 kind.length #[.pointer (some ⟨kp, 0, none⟩), .pointer (some ⟨g, 0, none⟩)] (keyF next kind) w4 callFunc70 ⟨hk1, by omega⟩ hkB.out HKC.out).mono ?_
        rintro e w5 ⟨v5, rfl, hv5, hb5⟩
        rw [hn2.out] at hv5
        obtain ⟨K2, c2, e5⟩ := Kd.R_slice hv5
        subst e5
        have r5 := Own1.reads hv5
        have hg4 : g ≤ w4.heap.size := by have := blk_lt HQ.out.1; omega
        have Q5 := Aside0.mk (And.intro (blk_below HQ.out.1 hb5) (And.intro (blk_below HQ.out.2.1 hb5) (HQ.out.2.2.trans (hb5.mono hg4))))
        have K5 := Aside0.mk (And.intro (blk_below HK.out.1 hb5) (And.intro HK.out.2.1 (Kd.C_below HK.out.2.2 hb5)))
        have R5 := Aside0.mk (And.intro r5.2.1 r5.2.2)
        have O5 := Aside0.mk hv5
        have z0 : w5.cell? ⟨kp, 0, none⟩ = some (.slice Ka kind.length ck) := blk_cell K5.out.1 0
        clear hv5 hb5 r5 y0 HKC hkB hNN
        go_upto_region 5 with fail
        refine st 5 w5 [] fun hHeld => ?_
        generalize w5.drew = w6 at hHeld ⊢
        refine pu 0 (some 19) ?_
        refine ta 2 (some 21) (fun _ s => pw_cell_below s z0) hHeld ?_
        refine on 1 (some 20) fun K hK => ?_
        refine gs Tryz.func71 #[.slice K2 n2.length c2] ?_
        with_reducible refine (least_most.calls fu K2 c2 n2 a _ (Kd.C_below R5.out.2 hHeld) R5.out.1 HE.out.1).mono ?_
        rintro e w_ ⟨rfl, hb_⟩
        refine ⟨_, rfl, ?_⟩
        refine hK.out _ _ (below_step hHeld hb_) (fun hHeld => ?_)
        clear hK K
        refine nrm 20 ?_
        refine on 3 (some 22) fun K hK => ?_
        refine gs Tryz.func71 #[.slice Ka kind.length ck] ?_
        with_reducible refine (least_most.calls fu Ka ck kind b _ (Kd.C_below K5.out.2.2 hHeld) K5.out.2.1 HE.out.2).mono ?_
        rintro e w_ ⟨rfl, hb_⟩
        refine ⟨_, rfl, ?_⟩
        refine hK.out _ _ (below_step hHeld hb_) (fun hHeld => ?_)
        clear hK K
        refine nrm 22 ?_
        refine pu 4 (some 23) ?_
        refine done_ (by kernel_rfl) ?_
        by_cases hab : a = b
        ·have hb1 : (a == b) = true := by simp [hab]
         have hh := HH.out
         rw [if_pos hab] at hh
         have hkk : kind = kindR := by simpa using hh
         have HF5 := Aside0.mk HF.out.2
         have hg5 : g ≤ w5.heap.size := by have := blk_lt Q5.out.1; omega
         have Q9 := Aside0.mk (And.intro (blk_below Q5.out.1 hHeld) (And.intro (blk_below Q5.out.2.1 hHeld) (Q5.out.2.2.trans (hHeld.mono hg5))))
         have K9 := Aside0.mk (And.intro (blk_below K5.out.1 hHeld) (Kd.C_below K5.out.2.2 hHeld))
         have t0 := blk_cell Q9.out.1 0
         have t1 := blk_cell Q9.out.1 1
         have t2 := blk_cell K9.out.1 0
         have tN := Aside0.mk (number_calls fu ca cb ck A B Ka next out kind res w_ hA (C_low Q9.out.2.2 hg.out HN.out.1) hB (C_low Q9.out.2.2 hg.out HN.out.2) K5.out.2.1 K9.out.2 hkn.out (by rw [hkk]; exact HF5.out))
         clear hh hab z0 hkk
         go_wp2_with fail
         refine tN.out.mono ?_
         rintro e w9 ⟨A9, c9, B9, d9, rfl, h1, hb9⟩
         have hgw9 : g ≤ w_.heap.size := by have := blk_lt Q9.out.1; omega
         have k9 := blk_below Q9.out.2.1 hb9
         have x0 : w9.cell? ⟨g + 1, 0, none⟩ = some (.slice none 0 0) := blk_cell k9 0
         have x1 : w9.cell? ⟨g + 1, 1, none⟩ = some (.slice none 0 0) := blk_cell k9 1
         have f0 := blk_frozen k9 0
         have f1 := blk_frozen k9 1
         have low9 := Q9.out.2.2.trans (hb9.mono hgw9)
         have U9 := Aside0.mk (And.intro h1 low9)
         clear h1 low9 t0 t1 t2 tN hb9
         go_wp2
         have kz : KB w9 ((w9.setCell ⟨g + 1, 0, none⟩ (.slice A9 res.1.length c9)).setCell ⟨g + 1, 1, none⟩ (.slice B9 res.2.length d9)) (g + 1) := (kb_set (kb_set (kb_refl _ _) 0 _) 1 _)
         have k4z : ((w9.setCell ⟨g + 1, 0, none⟩ (.slice A9 res.1.length c9)).setCell ⟨g + 1, 1, none⟩ (.slice B9 res.2.length d9)).heap[g + 1]? = some (.cells #[.slice A9 res.1.length c9, .slice B9 res.2.length d9] 94 (0, 0)) := blk_set (blk_set k9 0 _) 1 _
         have bz : Below g w ((w9.setCell ⟨g + 1, 0, none⟩ (.slice A9 res.1.length c9)).setCell ⟨g + 1, 1, none⟩ (.slice B9 res.2.length d9)) := U9.out.2.trans (kb_low kz (by omega) (by have := blk_lt k9; omega))
         have q1 := (U9.out.1.same (Same.kb kz k9 (by decide)) (Same.kb kz k9 (by decide)) (Same.kb kz k9 (by decide))).lower (show g ≤ w_.heap.size from hgw9)
         generalize ((w9.setCell ⟨g + 1, 0, none⟩ (.slice A9 res.1.length c9)).setCell ⟨g + 1, 1, none⟩ (.slice B9 res.2.length d9)) = z at kz k4z bz q1 ⊢
         have e1 : (loadVar 94 ⟨g + 1, 0, none⟩).run Tryz.prog z = .ok (.agg #[.slice A9 res.1.length c9, .slice B9 res.2.length d9]) z := run_loadVar_row z (g + 1) 94 94 _ (0, 0) _ k4z Tryz.underlying94 rfl (by kernel_rfl)
         refine bodyPost_ret (v := .tuple #[.agg #[.slice A9 res.1.length c9, .slice B9 res.2.length d9], .int .i64 0]) ?_ rfl ?_
         ·rw [results_cell_tmp (p := 2) (u := 3) (ty := 94) rfl]
          show (((asAddr (.pointer (some ⟨g + 1, 0, none⟩))).run Tryz.prog z).andThen fun a w₁ => ((loadVar 94 a).run Tryz.prog w₁).andThen fun v w₂ => Result.ok (Value.tuple #[v, .int .i64 0]) w₂) = _
          simp [asAddr, Result.andThen, e1]
         ·exact ⟨A9, c9, B9, d9, rfl, by rw [hg.out]; exact q1, by rw [hg.out]; exact bz⟩
        ·have hb1 : (a == b) = false := by simp [hab]
         have hh := HH.out
         rw [if_neg hab] at hh
         have H6 := Aside0.mk hh
         have hg5 : g ≤ w5.heap.size := by have := blk_lt Q5.out.1; omega
         have k9 := blk_below K5.out.1 hHeld
         have t0 := blk_cell k9 0
         have tf0 := blk_frozen k9 0
         have Q9 := Aside0.mk (And.intro (blk_below Q5.out.1 hHeld) (And.intro (blk_below Q5.out.2.1 hHeld) (Q5.out.2.2.trans (hHeld.mono hg5))))
         have O9 := O5.out.same (Same.of_low hHeld)
         have kz : KB w_ (w_.setCell ⟨kp, 0, none⟩ (.slice K2 n2.length c2)) kp := kb_set (kb_refl _ _) 0 _
         have k9z : (w_.setCell ⟨kp, 0, none⟩ (.slice K2 n2.length c2)).heap[kp]? = some (.cells #[.slice K2 n2.length c2] 83 (0, 0)) := blk_set k9 0 _
         have O9z := (O9.same (Same.kb kz k9 (by decide))).reads
         have hkg : g ≠ kp := fun he => by have h1 := Q9.out.1; rw [he, k9] at h1; injection h1 with h1; injection h1 with _ h1 _; cases h1
         have hkg1 : g + 1 ≠ kp := fun he => by have h1 := Q9.out.2.1; rw [he, k9] at h1; injection h1 with h1; injection h1 with _ h1 _; cases h1
         have hgk : g ≤ kp := by have := HG2.out; have := hkp.out; omega
         have ZQ := Aside0.mk (And.intro (kb_blk kz Q9.out.1 hkg) (And.intro (kb_blk kz Q9.out.2.1 hkg1) (Q9.out.2.2.trans (kb_low kz hgk (by have := blk_lt Q9.out.1; omega)))))
         have ZK := Aside0.mk (And.intro k9z (And.intro O9z.2.1 O9z.2.2))
         clear hh hab z0 O9 kz k9z O9z hkg hkg1 hgk k9
         go_wp2_with fail
         go_roundg k1
         case measure => omega
         case rel => exact ⟨n2, K2, c2, ZK, H6, ZQ⟩
     ·rw [if_neg hkn] at h
      cases h
 ·rw [if_neg hc] at h
  cases h
end Go.Proofs.YtkeccgkicffieaaGreatDoor.PTopWider
