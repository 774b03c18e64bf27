/- The walk of least's number. Conditions: the automaton and the kinds lie in memory as stated. -/
import Derived.Test.YtkeccgkicffieaaGreatDoorTopT
import Derived.Test.YtkeccgkicffieaaGreatDoorTopKC
namespace Go.Proofs.YtkeccgkicffieaaGreatDoor.PTopWider
open Go.RowKit Go.Proofs.YtkeccgkicffieaaGreatDoorW.PrintWords Go.Proofs.YtkeccgkicffieaaGreatDoorW.PrintLast Go.Proofs.YtkeccgkicffieaaGreatDoorW.PrintMore
set_option linter.unusedVariables false
set_option linter.unusedSimpArgs false
set_option maxHeartbeats 40000000 in
set_option maxRecDepth 100000 in
theorem number_calls (fuel ca cb ck : Nat) (A B K : Option Addr) (next : List (List Int)) (out kind : List Int) (res : List (List Int) × List Int) (w : World) (hA : next.length ≤ ca) (hN : Kd.C (Kd.slice 3 (Kd.int .i64)) w A next.length next) (hB : out.length ≤ cb) (hO : Kd.C (Kd.int .u32) w B out.length out) (hk : kind.length ≤ ck) (hK : Kd.C (Kd.int .i64) w K kind.length kind) (hkn : kind.length = next.length)
  (h : numF fuel kind next out = some res) :
  Calls Tryz.prog 72 #[.agg #[.slice A next.length ca, .slice B out.length cb], .slice K kind.length ck] w fun e w' => NumE w res e w' := by
 unfold numF at h
 cases hm : least_most.f fuel kind with
 | none => rw [hm] at h; cases h
 | some m =>
  rw [hm] at h
  simp only at h
  by_cases hc : 0 ≤ m ∧ m < 1000 ∧ 0 < kind.length ∧ 0 ≤ rd kind 0 ∧ rd kind 0 ≤ m
  ·rw [if_pos hc] at h
   have HF := Aside0.mk h
   obtain ⟨m0, m1, hk0, k00, k01⟩ := hc
   obtain ⟨M, hM⟩ : ∃ M : Nat, m + 1 = (M : Int) := ⟨(m + 1).toNat, by omega⟩
   have hMn : (m + 1).toNat = M := by omega
   rw [hMn] at HF
   obtain ⟨g, hg⟩ : ∃ g, Aside0 (w.heap.size = g) := ⟨_, ⟨rfl⟩⟩
   obtain ⟨adk, eK, kz⟩ := Kd.at_int hK 0 (by omega) (by omega)
   subst eK
   have z1 : (w.alloc (.cells #[.slice A next.length ca, .slice B out.length cb] 94)).heap.size = w.heap.size + 1 := by simp
   have z2 : ((w.alloc (.cells #[.slice A next.length ca, .slice B out.length cb] 94)).alloc (.cells #[.slice none 0 0, .slice none 0 0] 94)).heap.size = w.heap.size + 1 + 1 := by simp
   have b0 := blk_alloc (blk_alloc (blk_new w (.cells #[.slice A next.length ca, .slice B out.length cb] 94)) (.cells #[.slice none 0 0, .slice none 0 0] 94)) (.cells #[.slice none 0 0, .slice none 0 0] 94)
   have b1 := blk_alloc (blk_new (w.alloc (.cells #[.slice A next.length ca, .slice B out.length cb] 94)) (.cells #[.slice none 0 0, .slice none 0 0] 94)) (.cells #[.slice none 0 0, .slice none 0 0] 94)
   have b2 := blk_new ((w.alloc (.cells #[.slice A next.length ca, .slice B out.length cb] 94)).alloc (.cells #[.slice none 0 0, .slice none 0 0] 94)) (.cells #[.slice none 0 0, .slice none 0 0] 94)
   rw [z1] at b1
   rw [z2] at b2
   have b3 := below_alloc (below_alloc (below_alloc (Below.refl w.heap.size w) (.cells #[.slice A next.length ca, .slice B out.length cb] 94)) (.cells #[.slice none 0 0, .slice none 0 0] 94)) (.cells #[.slice none 0 0, .slice none 0 0] 94)
   have Q0 := Aside0.mk (And.intro b0 (And.intro b1 (And.intro b2 b3)))
   have HN := Aside0.mk (And.intro hN hO)
   have HK := Aside0.mk hK
   have hmc := least_most.calls fuel (some adk) ck kind m (((w.alloc (.cells #[.slice A next.length ca, .slice B out.length cb] 94)).alloc (.cells #[.slice none 0 0, .slice none 0 0] 94)).alloc (.cells #[.slice none 0 0, .slice none 0 0] 94)) (Kd.C_below hK b3) hk hm
   have HC := Aside0.mk hmc
   have hw1 : wrap64 (m + 1) = (M : Int) := by unfold wrap64; omega
   replace hMn := Aside0.mk hMn
   replace hM := Aside0.mk hM
   replace hkn := Aside0.mk hkn
   replace hm := Aside0.mk hm
   clear z1 z2 b0 b1 b2 b3 hN hO hK hmc h
   go_enter Tryz.func72, Tryz.ntmps72
   go_wp2_with fail
   refine HC.out.mono ?_
   rintro e w1 ⟨rfl, hb1⟩
   have hgs := Q0.out.2.2.2.size
   rw [hg.out] at Q0 ⊢
   have b31 := Q0.out.2.2.2.trans (hb1.mono (by have := hg.out; omega))
   have Q1 := Aside0.mk (And.intro (blk_below Q0.out.1 hb1) (And.intro (blk_below Q0.out.2.1 hb1) (And.intro (blk_below Q0.out.2.2.1 hb1) b31)))
   have hgw : g ≤ w1.heap.size := by have := blk_lt Q1.out.1; omega
   clear b31 hb1 Q0 HC hgs
   go_wp2_with (at_make; refine Kd.R_make (Kd.int .i64) (w0 := w) g 3 rfl (N := 16) rfl 83 (.tmp 15) (.tmp 15) rfl (m + 1) rfl rfl Tryz.underlying83 (.int .i64 0) 8 info3 rfl (by decide) (by decide) 0 (ok := fun _ => True) (okp := fun _ => True) ?hz (fun _ _ => trivial) trivial (by omega) (by omega) Q1.out.2.2.2 hgw ?_; (case hz => rfl); intro v6 w2 hr2 hb2 hg2 hat2; obtain ⟨b6, c6, e6, b6a, b6b, _⟩ := Kd.R_form hr2 (by rw [List.length_replicate, hMn.out]; have := hM.out; omega); rw [List.length_replicate, hMn.out] at e6; subst e6)
   have R2 : Aside0 (Own1 (Kd.int .i64) 3 g w2 (.slice (some ⟨b6, 0, none⟩) M c6) (List.replicate 0 (-1) ++ List.replicate (M - 0) 0)) := ⟨by rw [hMn.out] at hr2; exact Own1.flat (flatInt .i64) hr2⟩
   have hb12 : Below w1.heap.size w1 w2 := ⟨hg2.os, hg2.tape, hg2.output, hg2.size, fun i hi => hg2.block i hi (by simp)⟩
   have Q2 := Aside0.mk (And.intro (blk_below Q1.out.1 hb12) (And.intro (blk_below Q1.out.2.1 hb12) (And.intro (blk_below Q1.out.2.2.1 hb12) hb2)))
   clear hr2 hb2 hg2 hat2 hb12 Q1 hw1
   go_loopg [19] M (fun kq v19 w' => ∃ i : Nat, v19 = .int .i64 (i : Int) ∧ Aside0 (i + kq = M) ∧ Aside0 (Own1 (Kd.int .i64) 3 g w' (.slice (some ⟨b6, 0, none⟩) M c6) (List.replicate i (-1) ++ List.replicate (M - i) 0) ∧ (∀ t, t ≠ 3 → Same t w2 w') ∧ Below g w w'))
   case atStart => exact ⟨0, rfl, ⟨by omega⟩, ⟨R2.out, fun t _ => Same.refl _ _, Q2.out.2.2.2⟩⟩
   case round =>
    obtain ⟨i, rfl, HI, HP⟩ := hrel
    have hi := HI.out
    have hM1 : M < 1000000 := by have := hM.out; omega
    cases gk with
    | zero =>
     have hltn : decide (i < M) = false := by simp; omega
     have hltz : decide ((i : Int) < (M : Int)) = false := by simp; omega
     have hltp : ¬ (i < M) := by omega
     obtain ⟨w3, hw3⟩ : ∃ w3, w3 = wr := ⟨_, rfl⟩
     subst hw3
     have hrp : List.replicate i (-1 : Int) ++ List.replicate (M - i) 0 = List.replicate M (-1) := by rw [show M - i = 0 by omega, List.replicate_zero, List.append_nil, show i = M by omega]
     rw [hrp] at HP
     obtain ⟨x0, hx0⟩ : ∃ x0, Aside0 (rd kind 0 = x0) := ⟨_, ⟨rfl⟩⟩
     rw [hx0.out] at kz k00 k01 HF
     have hx1 : x0 < (M : Int) := by have := hM.out; omega
     have hz0 : adk.add (0 : Int).toNat = adk := by simp [Addr.add]
     rw [hz0] at kz
     have ba := below_alloc (Below.refl w3.heap.size w3) (.cells #[.int .i64 0] 3)
     have kza := cell_low ((HP.out.2.2).trans (ba.mono (by have := HP.out.2.2.size; have := hg.out; omega))) hg.out kz
     have oa := HP.out.1.same (Same.of_low ba)
     obtain ⟨n0, n1⟩ := own_cell oa x0 k00 hx1
     have s2 : ∀ t, t ≠ 3 → Same t w2 (w3.alloc (.cells #[.int .i64 0] 3)) := fun t ht => (HP.out.2.1 t ht).trans (Same.of_low ba)
     have hgl : g ≤ w3.heap.size := by have := HP.out.2.2.size; have := hg.out; omega
     have lw := HP.out.2.2.trans (ba.mono hgl)
     have L1 : Own1 (Kd.int .i64) 3 g (w3.alloc (.cells #[.int .i64 0] 3)) (.slice (some ⟨w3.heap.size, 0, none⟩) 1 1) [0] := Own1.lower (own_litI .i64 w3 [0] 3 (by simp)) hgl
     have RP : Rows3 w3 g [⟨some ⟨b6, 0, none⟩, c6, List.replicate M (-1)⟩] := ⟨fun e he => by rw [List.mem_singleton.1 he]; have h := HP.out.1; rw [show Ent.v ⟨some ⟨b6, 0, none⟩, c6, List.replicate M (-1)⟩ = .slice (some ⟨b6, 0, none⟩) M c6 by simp [Ent.v]]; exact h, by simp⟩
     obtain ⟨AL, cL, eL, RL⟩ := RP.add L1 ba ⟨_, rfl, Nat.le_refl _⟩
     injection eL with eA eb ec
     clear eb
     subst eA ec
     have RS := (RL.perm (List.Perm.swap _ _ _)).store (i := x0.toNat) 0
     have SZ := own_put oa (show x0.toNat < M by omega) lw 0
     have ZQ := Aside0.mk (And.intro RS (And.intro (fun t ht => (s2 t ht).trans (SZ.2.1 t ht)) SZ.2.2))
     clear ba oa s2 lw L1 RP RL RS SZ hz0 hrp
     go_wp2_with fail
     clear hltn hltz hltp n0 n1 kza kz hi
     generalize (w3.alloc (.cells #[.int .i64 0] 3)).setCell ⟨b6, x0.toNat, none⟩ (.int .i64 0) = w4 at ZQ ⊢
     have s94 := ZQ.out.2.1 94 (by decide)
     have NA : Aside0 (NumAt g w w4 #[.slice A next.length ca, .slice B out.length cb] [] (.slice none 0 0) (.slice none 0 0) []) := ⟨⟨(s94 _ _ _ Q2.out.1).trans Q2.out.1, (s94 _ _ _ Q2.out.2.1).trans Q2.out.2.1, (s94 _ _ _ Q2.out.2.2.1).trans Q2.out.2.2.1, Own1.nil _ _ _ _, Own1.nil _ _ _ _, ZQ.out.2.2⟩⟩
     clear s94
     go_loopg [8, 9] fuel (fun kq v8 v9 w' => ∃ (i : Nat) (place line : List Int) (A8 : Option Addr) (c8 : Nat) (rs : List Ent) (os : List Int) (vN vO : Value), v8 = .slice A8 line.length c8 ∧ v9 = .int .i64 (i : Int) ∧ Aside0 (place.length = M) ∧ Aside0 (numL kind next out kq i place line (rs.map Ent.xs) os = some res) ∧ Aside0 (Rows3 w' g (⟨some ⟨b6, 0, none⟩, c6, place⟩ :: ⟨A8, c8, line⟩ :: rs)) ∧ Aside0 (NumAt g w w' #[.slice A next.length ca, .slice B out.length cb] rs vN vO os))
     case atStart => exact ⟨0, (List.replicate M (-1)).set x0.toNat 0, [0], _, _, [], [], _, _, rfl, rfl, ⟨by simp⟩, HF, ⟨ZQ.out.1⟩, NA⟩
     case round =>
      obtain ⟨i, place, line, A8, c8, rs, os, vN, vO, rfl, rfl, HPL, HF2, HR, HNA⟩ := hrel
      have h := HF2.out
      cases gk with
      | zero => exact absurd h (by simp [numL])
      | succ k3 =>
       unfold numL at h
       by_cases hil : i < line.length
       ·rw [if_pos hil] at h
        by_cases hcc : 0 ≤ rd line i ∧ rd line i < next.length ∧ rd line i < out.length ∧ i < 1000 ∧ (rs.map Ent.xs).length < 1000 ∧ os.length < 1000 ∧ (rd_L4 next (rd line i)).length < 1000
        ·rw [if_pos hcc] at h
         obtain ⟨li, hli⟩ : ∃ li, Aside0 (rd line i = li) := ⟨_, ⟨rfl⟩⟩
         rw [hli.out] at hcc h
         obtain ⟨l0, l1, l2, hi1, hnl, hol, hrl⟩ := hcc
         obtain ⟨nr, hnr⟩ : ∃ nr, Aside0 (rd_L4 next li = nr) := ⟨_, ⟨rfl⟩⟩
         rw [hnr.out] at h hrl
         cases ht : turnF kind nr place line [] with
         | none => rw [ht] at h; cases h
         | some q =>
          obtain ⟨p2, q2, rw2⟩ := q
          rw [ht] at h
          simp only at h
          have HF3 := Aside0.mk (And.intro ht h)
          clear ht h HF2
          obtain ⟨w5, hw5⟩ : ∃ w5, w5 = wr := ⟨_, rfl⟩
          subst hw5
          obtain ⟨b8, c8', e8, _, _, cs8, hb8⟩ := Kd.R_form (HR.out.1 ⟨A8, c8, line⟩ (by simp)) (by show 0 < line.length; omega)
          injection e8 with e8 _ e8c
          subst e8 e8c
          obtain ⟨y8, _⟩ := HR.out.get (b := b8) (c := c8) (xs := line) (by simp) (i : Int) (by omega) (by omega)
          rw [hli.out, Int.toNat_natCast] at y8
          obtain ⟨adn, A0, c0, eN, n0, hc0, n2⟩ := at_L4 HN.out.1 li l0 l1
          subst eN
          rw [hnr.out] at n0 n2 hc0
          have nn := cell_low HNA.out.low hg.out n0
          have y0 := blk_cell HNA.out.bx 0
          have y1 := blk_cell HNA.out.bx 1
          have CR := Aside0.mk n2
          have B8 := Aside0.mk hb8
          clear n0 n2 hb8
          have hltn : decide (i < line.length) = true := by simp; omega
          have hltz : decide ((i : Int) < (line.length : Int)) = true := by simp; omega
          go_wp2_with fail
          go_region
          have bd := below_drew1 (Below.refl w5.heap.size w5)
          have hgl5 : g ≤ w5.heap.size := by have := blk_lt HNA.out.bx; omega
          have NB := Aside0.mk (HNA.out.step (fun t _ => Same.of_low bd) (HNA.out.low.trans (bd.mono hgl5)))
          have rot : ∀ (a b c : Ent) (l : List Ent), (a :: b :: c :: l).Perm (b :: c :: a :: l) := fun a b c l => (List.Perm.swap _ _ _).trans ((List.Perm.swap _ _ _).cons _)
          have RB := Aside0.mk (((HR.out.same (Same.of_low bd)).nil).perm (rot _ _ _ _))
          clear bd y8 y0 y1 nn
          generalize w5.drew = w6 at NB RB ⊢
          go_wp2_with fail
          clear hltn hltz
          go_loopg [8, 10, 47] nr.length (fun kq v8 v10 v47 w' => ∃ (j : Nat) (place line row : List Int) (A8 : Option Addr) (c8 : Nat) (A10 : Option Addr) (c10 : Nat), v8 = .slice A8 line.length c8 ∧ v10 = .slice A10 row.length c10 ∧ v47 = .int .i64 (j : Int) ∧ Aside0 (j + kq = nr.length) ∧ Aside0 (place.length = M) ∧ Aside0 (i < line.length ∧ rd line i = li) ∧ Aside0 (turnF kind (nr.drop j) place line row = some (p2, q2, rw2)) ∧ Aside0 (Rows3 w' g (⟨some ⟨b6, 0, none⟩, c6, place⟩ :: ⟨A8, c8, line⟩ :: ⟨A10, c10, row⟩ :: rs)) ∧ Aside0 (Below g w w' ∧ ∀ t, t ≠ 3 → Same t w6 w'))
          case atStart => exact ⟨0, place, line, [], _, _, _, _, rfl, rfl, rfl, ⟨by omega⟩, HPL, ⟨hil, hli.out⟩, ⟨by rw [List.drop_zero]; exact HF3.out.1⟩, RB, ⟨NB.out.low, fun t _ => Same.refl _ _⟩⟩
          case round =>
           obtain ⟨j, place, line, row, A8, c8, A10, c10, rfl, rfl, rfl, HJ, HPL, HLI, HT, HR, HB⟩ := hrel
           have hj := HJ.out
           cases gk with
           | zero =>
            have hltn : decide (j < nr.length) = false := by simp; omega
            have hltz : decide ((j : Int) < (nr.length : Int)) = false := by simp; omega
            have hltp : ¬ (j < nr.length) := by omega
            have ht := HT.out
            rw [List.drop_eq_nil_of_le (by omega)] at ht
            simp only [turnF, Option.some.injEq, Prod.mk.injEq] at ht
            obtain ⟨hp2, hq2, hr2⟩ := ht
            subst hp2 hq2 hr2
            have NA := NB.out.step HB.out.2 HB.out.1
            have bd := below_drew1 (Below.refl wr.heap.size wr)
            have hglr : g ≤ wr.heap.size := by have := blk_lt NA.bx; omega
            have NA3 := NA.step (fun t _ => Same.of_low bd) (NA.low.trans (bd.mono hglr))
            have RA3 := HR.out.same (Same.of_low bd)
            obtain ⟨b8', c8', e8, _, _, cs8, hb8⟩ := Kd.R_form (RA3.1 ⟨A8, c8, line⟩ (by simp)) (by show 0 < line.length; have := HLI.out.1; omega)
            injection e8 with e8 _ e8c
            subst e8 e8c
            obtain ⟨y8, _⟩ := RA3.get (b := b8') (c := c8) (xs := line) (by simp) (i : Int) (by omega) (by have := HLI.out.1; omega)
            rw [HLI.out.2, Int.toNat_natCast] at y8
            obtain ⟨ado, eO, o0⟩ := Kd.at_int HN.out.2 li l0 l2
            subst eO
            obtain ⟨ov, hov⟩ : ∃ ov, Aside0 (rd out li = ov) := ⟨_, ⟨rfl⟩⟩
            rw [hov.out] at o0
            have Q3 := Aside0.mk (And.intro NA3 (And.intro RA3 (And.intro hb8 (And.intro y8 o0))))
            have F0 := FourK.start (d := kcl 1) (d' := Kd.int .u32) (w0 := wr.drew) NA3.next NA3.outs (Below.refl g _) (Below.refl _ _)
            have hg3 : g ≤ wr.drew.heap.size := by have := bd.size; omega
            have hxl : (rs.map Ent.cl).length < 1000 := by rw [List.length_map] at hnl ⊢; exact hnl
            have hi2 : i < line.length := HLI.out.1
            clear hltz NA NA3 RA3 hb8 y8 o0 bd
            go_upto_region 22 with fail
            refine start_ (n := 21) (S := fun w' => Below g wr.drew w' ∧ ∀ (i : Nat) (cs : Array Value) (t : Nat) (fr : Nat × Nat), t ≠ 83 → t ≠ 82 → wr.drew.heap[i]? = some (.cells cs t fr) → w'.heap[i]? = some (.cells cs t fr)) (ds := [18, 20]) #[false, false, false, false, false, false, false, false, false, false, false, false, false, false, false, false, false, false, false, false, false] (by kernel_rfl) rfl rfl ?hS0 (fun hHeld => ?_)
            case hS0 => exact ⟨Below.refl _ _, fun _ _ _ _ _ _ h => h⟩
            generalize wr.drew = w7 at hHeld F0 Q3 hg3 ⊢
            refine pu 0 (some 82) ?_
            refine pu 2 (some 84) ?_
            refine pu 5 (some 87) ?_
            refine pu 7 (some 89) ?_
            refine pu 9 (some 91) ?_
            refine pu 10 (some 92) ?_
            refine pu 11 (some 93) ?_
            refine take_ (i := 1) (N := some 83) (v := ?_) (a' := ?_) #[true, true, true, false, false, true, false, true, false, true, true, true, false, false, false, false, false, false, false, false, false] rfl rfl (by kernel_rfl) (fun _ _ _ h => h) (Or.inl ⟨by rfl, ?_⟩) hHeld ?_ ?_
            rotate_left
            ·intro w' s_
             have k0 := blk_cell (s_.2 _ _ _ _ (by decide) (by decide) Q3.out.1.out) 0
             go_simp
             try (with_reducible rfl)
            rotate_left
            ·simp only [Act.put, List.setIfInBounds_toArray, List.set_cons_zero, List.set_cons_succ, i64_w, i32_w]
             rfl
            refine take_ (i := 6) (N := some 88) (v := ?_) (a' := ?_) #[true, true, true, false, false, true, true, true, false, true, true, true, false, false, false, false, false, false, false, false, false] rfl rfl (by kernel_rfl) (fun _ _ _ h => h) (Or.inl ⟨by rfl, ?_⟩) hHeld ?_ ?_
            rotate_left
            ·intro w' s_
             have k0 := blk_cell (s_.2 _ _ _ _ (by decide) (by decide) Q3.out.1.out) 1
             go_simp
             try (with_reducible rfl)
            rotate_left
            ·simp only [Act.put, List.setIfInBounds_toArray, List.set_cons_zero, List.set_cons_succ, i64_w, i32_w]
             rfl
            refine take_ (i := 8) (N := some 90) (v := ?_) (a' := ?_) #[true, true, true, false, false, true, true, true, true, true, true, true, false, false, false, false, false, false, false, false, false] rfl rfl (by kernel_rfl) (fun _ _ _ h => h) (Or.inl ⟨by rfl, ?_⟩) hHeld ?_ ?_
            rotate_left
            ·intro w' s_
             have k0 := blk_cell (s_.2 _ _ _ _ (by decide) (by decide) Q3.out.1.bx) 1
             go_simp
             try (with_reducible rfl)
            rotate_left
            ·simp only [Act.put, List.setIfInBounds_toArray, List.set_cons_zero, List.set_cons_succ, i64_w, i32_w]
             rfl
            refine take_ (i := 12) (N := some 94) (v := ?_) (a' := ?_) #[true, true, true, false, false, true, true, true, true, true, true, true, true, false, false, false, false, false, false, false, false] rfl rfl (by kernel_rfl) (fun _ _ _ h => h) (Or.inl ⟨by rfl, ?_⟩) hHeld ?_ ?_
            rotate_left
            ·intro w' s_
             have k0 : w'.cell? ⟨b8', i, none⟩ = some (.int .i64 li) := (World.cell?_of_block ((s_.2 _ _ _ _ (by decide) (by decide) Q3.out.2.2.1).trans Q3.out.2.2.1.symm)).trans Q3.out.2.2.2.1
             go_simp
             try (with_reducible rfl)
            rotate_left
            ·simp only [Act.put, List.setIfInBounds_toArray, List.set_cons_zero, List.set_cons_succ, i64_w, i32_w]
             rfl
            refine pu 13 (some 95) ?_
            refine take_ (i := 14) (N := some 96) (v := ?_) (a' := ?_) #[true, true, true, false, false, true, true, true, true, true, true, true, true, true, true, false, false, false, false, false, false] rfl rfl (by kernel_rfl) (fun _ _ _ h => h) (Or.inl ⟨by rfl, ?_⟩) hHeld ?_ ?_
            rotate_left
            ·intro w' s_
             have k0 := cell_low (Q3.out.1.low.trans s_.1) hg.out Q3.out.2.2.2.2
             go_simp
             try (with_reducible rfl)
            rotate_left
            ·simp only [Act.put, List.setIfInBounds_toArray, List.set_cons_zero, List.set_cons_succ, i64_w, i32_w]
             rfl
            refine two_ (i := 3) (j := 15) (Ni := some 85) (Nj := some 97) #[true, true, true, true, false, true, true, true, true, true, true, true, true, true, true, false, false, false, false, false, false] #[true, true, true, false, false, true, true, true, true, true, true, true, true, true, true, true, false, false, false, false, false] rfl rfl rfl rfl (by kernel_rfl) (by decide) (by decide) (fun K hK => ?_) (fun K hK => ?_)
            ·refine Kd.R_lit_step (kcl 1) (w0 := w7) g 83 (by rfl) (N := 85) rfl (xs := [(rowC A10 row.length c10)]) (inner := [.slice A10 row.length c10]) (ok := fun _ => True) (okp := fun _ => True) ?hrun ?hrep (fun _ hk => hk) trivial F0.low (Nat.le_trans hg3 F0.low.size) (by simp) ?_
             case hrun => first | (go_simp; done) | (go_simp; rfl)
             case hrep => exact (Reps.one (show Kd.M (kcl 1) _ _ _ (rowC A10 row.length c10) [.slice A10 row.length c10] from rfl) (Reps.none _ _))
             intro v1 x1 hr_ hb_ hg_ hat_
             have F1 := F0.lit (flatCl 1) hr_ hb_ hg_ hat_
             clear hr_ hb_ hg_ hat_
             refine hK.out _ _ ⟨F1.low, fun _ _ _ _ h1 h2 h => F1.blk h h1 h2⟩ (fun hHeld => ?_)
             clear hK K
             refine nrm 85 ?_
             refine two_ (i := 4) (j := 15) (Ni := some 86) (Nj := some 97) #[true, true, true, true, true, true, true, true, true, true, true, true, true, true, true, false, false, false, false, false, false] #[true, true, true, true, false, true, true, true, true, true, true, true, true, true, true, true, false, false, false, false, false] rfl rfl rfl rfl (by kernel_rfl) (by decide) (by decide) (fun K hK => ?_) (fun K hK => ?_)
             ·obtain ⟨A_, c_, e_⟩ := Kd.R_slice F1.ra
              have hc_ := F1.ra
              rw [e_] at hc_
              refine Kd.R_append_rows_step (kcl 1) (w0 := w7) g (by rfl) (.tmp 83) (.tmp 85) 91 83 (.slice none 0 0) 24 rfl Tryz.underlying91 info83v rfl (by decide) (by decide) _ _ _ A_ 1 c_ (fun _ => True) (fun _ => False) rfl (by first | exact e_ | rfl) (F1.ru.mono (fun _ _ => trivial)) (Kd.R_reads' hc_).2.2 (fun _ _ hk => hk) (fun _ hk => hk.elim) (fun _ _ => trivial) F1.low (Nat.le_trans hg3 F1.low.size) ?hl ?_
              case hl => omega
              intro v2 x2 hr_ hb_ hg_ hat_
              have F2 := F1.grow (flatCl 1) (by decide) hr_ hb_ hg_ hat_
              clear hr_ hb_ hg_ hat_ hc_
              refine hK.out _ _ ⟨F2.low, fun _ _ _ _ h1 h2 h => F2.blk h h1 h2⟩ (fun hHeld => ?_)
              clear hK K
              refine nrm 86 ?_
              refine pu 17 (some 99) ?_
              refine on 15 (some 97) fun K hK => ?_
              refine Kd.R_lit_step (Kd.int .u32) (w0 := w7) g 82 (by rfl) (N := 97) rfl (xs := [ov]) (inner := [.int .u32 ov]) (ok := fun _ => True) (okp := fun _ => True) ?hrun ?hrep (fun _ hk => hk) trivial F2.low (Nat.le_trans hg3 F2.low.size) (by simp) ?_
              case hrun => first | (go_simp; done) | (go_simp; rfl)
              case hrep => exact (Reps.one (show Kd.M (Kd.int .u32) _ _ _ ov [.int .u32 ov] from rfl) (Reps.none _ _))
              intro v3 x3 hr_ hb_ hg_ hat_
              have F3 := (F2.swap.lit (flatInt .u32) hr_ hb_ hg_ hat_).swap
              clear hr_ hb_ hg_ hat_
              refine hK.out _ _ ⟨F3.low, fun _ _ _ _ h1 h2 h => F3.blk h h1 h2⟩ (fun hHeld => ?_)
              clear hK K
              refine nrm 97 ?_
              refine on 16 (some 98) fun K hK => ?_
              obtain ⟨A_, c_, e_⟩ := Kd.R_slice F3.rb
              have hc_ := F3.rb
              rw [e_] at hc_
              refine Kd.R_append_rows_step (Kd.int .u32) (w0 := w7) g (by rfl) (.tmp 88) (.tmp 97) 92 82 (.int .u32 0) 4 rfl Tryz.underlying92 info82 rfl (by decide) (by decide) _ _ _ A_ 1 c_ (fun _ => True) (fun _ => False) rfl (by first | exact e_ | rfl) (F3.rv.mono (fun _ _ => trivial)) (Kd.R_reads' hc_).2.2 (fun _ _ hk => hk) (fun _ hk => hk.elim) (fun _ _ => trivial) F3.low (Nat.le_trans hg3 F3.low.size) ?hl ?_
              case hl => omega
              intro v4 x4 hr_ hb_ hg_ hat_
              have F4 := (F3.swap.grow (flatInt .u32) (by decide) hr_ hb_ hg_ hat_).swap
              clear hr_ hb_ hg_ hat_ hc_
              refine hK.out _ _ ⟨F4.low, fun _ _ _ _ h1 h2 h => F4.blk h h1 h2⟩ (fun hHeld => ?_)
              clear hK K
              refine nrm 98 ?_
              refine la 18 none fun K hK => ?_
              obtain ⟨Au, cu, eu⟩ := Kd.R_slice F4.ru
              obtain ⟨Av, cv, ev⟩ := Kd.R_slice F4.rv
              rw [List.length_append, List.length_singleton, List.length_map] at eu
              rw [List.length_append, List.length_singleton] at ev
              subst eu
              subst ev
              have kk := F4.blk Q3.out.1.out (by decide) (by decide)
              have g0 := blk_cell kk 0
              have gf0 := blk_frozen kk 0
              have g1 := blk_cell kk 1
              have gf1 := blk_frozen kk 1
              refine skip_ (w1 := ?_) (by rfl) rfl ?_ ?_
              rotate_left
              ·go_simp
               rfl
              refine hK.out _ _ ?_
              clear hK K
              refine pu 19 (some 100) ?_
              refine la 20 none fun K hK => ?_
              refine skip_ (w1 := ?_) (by rfl) rfl ?_ ?_
              rotate_left
              ·go_simp
               rfl
              refine hK.out _ _ ?_
              clear hK K
              refine done_ (by kernel_rfl) ?_
              obtain ⟨Z, Z3⟩ := num_end ov Q3.out.1 F4
              have ZR := Q3.out.2.1.same Z3
              have ZQ := Aside0.mk (And.intro Z (ZR.perm (((List.perm_append_comm (l₁ := [(⟨A10, c10, row⟩ : Ent)]) (l₂ := rs)).cons _).cons _)))
              clear Z Z3 ZR kk g0 gf0 g1 gf1 F4
              generalize ((x4.setCell ⟨g + 1 + 1, 0, none⟩ (.slice Au (rs.length + 1) cu)).setCell ⟨g + 1 + 1, 1, none⟩ (.slice Av (os.length + 1) cv)) = z at ZQ ⊢
              go_wp2
              go_roundg k3
              case measure => omega
              case rel => exact ⟨i + 1, place, line, _, _, rs ++ [⟨A10, c10, row⟩], os ++ [ov], _, _, rfl, by first | (rw [w64s i (by omega)]) | (simp; done), HPL, ⟨by rw [List.map_append, ← hov.out]; exact HF3.out.2⟩, ⟨ZQ.out.2⟩, ⟨ZQ.out.1⟩⟩
             ·refine Kd.R_lit_step (Kd.int .u32) (w0 := w7) g 82 (by rfl) (N := 97) rfl (xs := [ov]) (inner := [.int .u32 ov]) (ok := fun _ => True) (okp := fun _ => True) ?hrun ?hrep (fun _ hk => hk) trivial F1.low (Nat.le_trans hg3 F1.low.size) (by simp) ?_
              case hrun => first | (go_simp; done) | (go_simp; rfl)
              case hrep => exact (Reps.one (show Kd.M (Kd.int .u32) _ _ _ ov [.int .u32 ov] from rfl) (Reps.none _ _))
              intro v2 x2 hr_ hb_ hg_ hat_
              have F2 := (F1.swap.lit (flatInt .u32) hr_ hb_ hg_ hat_).swap
              clear hr_ hb_ hg_ hat_
              refine hK.out _ _ ⟨F2.low, fun _ _ _ _ h1 h2 h => F2.blk h h1 h2⟩ (fun hHeld => ?_)
              clear hK K
              refine nrm 97 ?_
              refine on 4 (some 86) fun K hK => ?_
              obtain ⟨A_, c_, e_⟩ := Kd.R_slice F2.ra
              have hc_ := F2.ra
              rw [e_] at hc_
              refine Kd.R_append_rows_step (kcl 1) (w0 := w7) g (by rfl) (.tmp 83) (.tmp 85) 91 83 (.slice none 0 0) 24 rfl Tryz.underlying91 info83v rfl (by decide) (by decide) _ _ _ A_ 1 c_ (fun _ => True) (fun _ => False) rfl (by first | exact e_ | rfl) (F2.ru.mono (fun _ _ => trivial)) (Kd.R_reads' hc_).2.2 (fun _ _ hk => hk) (fun _ hk => hk.elim) (fun _ _ => trivial) F2.low (Nat.le_trans hg3 F2.low.size) ?hl ?_
              case hl => omega
              intro v3 x3 hr_ hb_ hg_ hat_
              have F3 := F2.grow (flatCl 1) (by decide) hr_ hb_ hg_ hat_
              clear hr_ hb_ hg_ hat_ hc_
              refine hK.out _ _ ⟨F3.low, fun _ _ _ _ h1 h2 h => F3.blk h h1 h2⟩ (fun hHeld => ?_)
              clear hK K
              refine nrm 86 ?_
              refine pu 17 (some 99) ?_
              refine on 16 (some 98) fun K hK => ?_
              obtain ⟨A_, c_, e_⟩ := Kd.R_slice F3.rb
              have hc_ := F3.rb
              rw [e_] at hc_
              refine Kd.R_append_rows_step (Kd.int .u32) (w0 := w7) g (by rfl) (.tmp 88) (.tmp 97) 92 82 (.int .u32 0) 4 rfl Tryz.underlying92 info82 rfl (by decide) (by decide) _ _ _ A_ 1 c_ (fun _ => True) (fun _ => False) rfl (by first | exact e_ | rfl) (F3.rv.mono (fun _ _ => trivial)) (Kd.R_reads' hc_).2.2 (fun _ _ hk => hk) (fun _ hk => hk.elim) (fun _ _ => trivial) F3.low (Nat.le_trans hg3 F3.low.size) ?hl ?_
              case hl => omega
              intro v4 x4 hr_ hb_ hg_ hat_
              have F4 := (F3.swap.grow (flatInt .u32) (by decide) hr_ hb_ hg_ hat_).swap
              clear hr_ hb_ hg_ hat_ hc_
              refine hK.out _ _ ⟨F4.low, fun _ _ _ _ h1 h2 h => F4.blk h h1 h2⟩ (fun hHeld => ?_)
              clear hK K
              refine nrm 98 ?_
              refine la 18 none fun K hK => ?_
              obtain ⟨Au, cu, eu⟩ := Kd.R_slice F4.ru
              obtain ⟨Av, cv, ev⟩ := Kd.R_slice F4.rv
              rw [List.length_append, List.length_singleton, List.length_map] at eu
              rw [List.length_append, List.length_singleton] at ev
              subst eu
              subst ev
              have kk := F4.blk Q3.out.1.out (by decide) (by decide)
              have g0 := blk_cell kk 0
              have gf0 := blk_frozen kk 0
              have g1 := blk_cell kk 1
              have gf1 := blk_frozen kk 1
              refine skip_ (w1 := ?_) (by rfl) rfl ?_ ?_
              rotate_left
              ·go_simp
               rfl
              refine hK.out _ _ ?_
              clear hK K
              refine pu 19 (some 100) ?_
              refine la 20 none fun K hK => ?_
              refine skip_ (w1 := ?_) (by rfl) rfl ?_ ?_
              rotate_left
              ·go_simp
               rfl
              refine hK.out _ _ ?_
              clear hK K
              refine done_ (by kernel_rfl) ?_
              obtain ⟨Z, Z3⟩ := num_end ov Q3.out.1 F4
              have ZR := Q3.out.2.1.same Z3
              have ZQ := Aside0.mk (And.intro Z (ZR.perm (((List.perm_append_comm (l₁ := [(⟨A10, c10, row⟩ : Ent)]) (l₂ := rs)).cons _).cons _)))
              clear Z Z3 ZR kk g0 gf0 g1 gf1 F4
              generalize ((x4.setCell ⟨g + 1 + 1, 0, none⟩ (.slice Au (rs.length + 1) cu)).setCell ⟨g + 1 + 1, 1, none⟩ (.slice Av (os.length + 1) cv)) = z at ZQ ⊢
              go_wp2
              go_roundg k3
              case measure => omega
              case rel => exact ⟨i + 1, place, line, _, _, rs ++ [⟨A10, c10, row⟩], os ++ [ov], _, _, rfl, by first | (rw [w64s i (by omega)]) | (simp; done), HPL, ⟨by rw [List.map_append, ← hov.out]; exact HF3.out.2⟩, ⟨ZQ.out.2⟩, ⟨ZQ.out.1⟩⟩
            ·refine Kd.R_lit_step (Kd.int .u32) (w0 := w7) g 82 (by rfl) (N := 97) rfl (xs := [ov]) (inner := [.int .u32 ov]) (ok := fun _ => True) (okp := fun _ => True) ?hrun ?hrep (fun _ hk => hk) trivial F0.low (Nat.le_trans hg3 F0.low.size) (by simp) ?_
             case hrun => first | (go_simp; done) | (go_simp; rfl)
             case hrep => exact (Reps.one (show Kd.M (Kd.int .u32) _ _ _ ov [.int .u32 ov] from rfl) (Reps.none _ _))
             intro v1 x1 hr_ hb_ hg_ hat_
             have F1 := (F0.swap.lit (flatInt .u32) hr_ hb_ hg_ hat_).swap
             clear hr_ hb_ hg_ hat_
             refine hK.out _ _ ⟨F1.low, fun _ _ _ _ h1 h2 h => F1.blk h h1 h2⟩ (fun hHeld => ?_)
             clear hK K
             refine nrm 97 ?_
             refine on 3 (some 85) fun K hK => ?_
             refine Kd.R_lit_step (kcl 1) (w0 := w7) g 83 (by rfl) (N := 85) rfl (xs := [(rowC A10 row.length c10)]) (inner := [.slice A10 row.length c10]) (ok := fun _ => True) (okp := fun _ => True) ?hrun ?hrep (fun _ hk => hk) trivial F1.low (Nat.le_trans hg3 F1.low.size) (by simp) ?_
             case hrun => first | (go_simp; done) | (go_simp; rfl)
             case hrep => exact (Reps.one (show Kd.M (kcl 1) _ _ _ (rowC A10 row.length c10) [.slice A10 row.length c10] from rfl) (Reps.none _ _))
             intro v2 x2 hr_ hb_ hg_ hat_
             have F2 := F1.lit (flatCl 1) hr_ hb_ hg_ hat_
             clear hr_ hb_ hg_ hat_
             refine hK.out _ _ ⟨F2.low, fun _ _ _ _ h1 h2 h => F2.blk h h1 h2⟩ (fun hHeld => ?_)
             clear hK K
             refine nrm 85 ?_
             refine on 4 (some 86) fun K hK => ?_
             obtain ⟨A_, c_, e_⟩ := Kd.R_slice F2.ra
             have hc_ := F2.ra
             rw [e_] at hc_
             refine Kd.R_append_rows_step (kcl 1) (w0 := w7) g (by rfl) (.tmp 83) (.tmp 85) 91 83 (.slice none 0 0) 24 rfl Tryz.underlying91 info83v rfl (by decide) (by decide) _ _ _ A_ 1 c_ (fun _ => True) (fun _ => False) rfl (by first | exact e_ | rfl) (F2.ru.mono (fun _ _ => trivial)) (Kd.R_reads' hc_).2.2 (fun _ _ hk => hk) (fun _ hk => hk.elim) (fun _ _ => trivial) F2.low (Nat.le_trans hg3 F2.low.size) ?hl ?_
             case hl => omega
             intro v3 x3 hr_ hb_ hg_ hat_
             have F3 := F2.grow (flatCl 1) (by decide) hr_ hb_ hg_ hat_
             clear hr_ hb_ hg_ hat_ hc_
             refine hK.out _ _ ⟨F3.low, fun _ _ _ _ h1 h2 h => F3.blk h h1 h2⟩ (fun hHeld => ?_)
             clear hK K
             refine nrm 86 ?_
             refine pu 17 (some 99) ?_
             refine on 16 (some 98) fun K hK => ?_
             obtain ⟨A_, c_, e_⟩ := Kd.R_slice F3.rb
             have hc_ := F3.rb
             rw [e_] at hc_
             refine Kd.R_append_rows_step (Kd.int .u32) (w0 := w7) g (by rfl) (.tmp 88) (.tmp 97) 92 82 (.int .u32 0) 4 rfl Tryz.underlying92 info82 rfl (by decide) (by decide) _ _ _ A_ 1 c_ (fun _ => True) (fun _ => False) rfl (by first | exact e_ | rfl) (F3.rv.mono (fun _ _ => trivial)) (Kd.R_reads' hc_).2.2 (fun _ _ hk => hk) (fun _ hk => hk.elim) (fun _ _ => trivial) F3.low (Nat.le_trans hg3 F3.low.size) ?hl ?_
             case hl => omega
             intro v4 x4 hr_ hb_ hg_ hat_
             have F4 := (F3.swap.grow (flatInt .u32) (by decide) hr_ hb_ hg_ hat_).swap
             clear hr_ hb_ hg_ hat_ hc_
             refine hK.out _ _ ⟨F4.low, fun _ _ _ _ h1 h2 h => F4.blk h h1 h2⟩ (fun hHeld => ?_)
             clear hK K
             refine nrm 98 ?_
             refine la 18 none fun K hK => ?_
             obtain ⟨Au, cu, eu⟩ := Kd.R_slice F4.ru
             obtain ⟨Av, cv, ev⟩ := Kd.R_slice F4.rv
             rw [List.length_append, List.length_singleton, List.length_map] at eu
             rw [List.length_append, List.length_singleton] at ev
             subst eu
             subst ev
             have kk := F4.blk Q3.out.1.out (by decide) (by decide)
             have g0 := blk_cell kk 0
             have gf0 := blk_frozen kk 0
             have g1 := blk_cell kk 1
             have gf1 := blk_frozen kk 1
             refine skip_ (w1 := ?_) (by rfl) rfl ?_ ?_
             rotate_left
             ·go_simp
              rfl
             refine hK.out _ _ ?_
             clear hK K
             refine pu 19 (some 100) ?_
             refine la 20 none fun K hK => ?_
             refine skip_ (w1 := ?_) (by rfl) rfl ?_ ?_
             rotate_left
             ·go_simp
              rfl
             refine hK.out _ _ ?_
             clear hK K
             refine done_ (by kernel_rfl) ?_
             obtain ⟨Z, Z3⟩ := num_end ov Q3.out.1 F4
             have ZR := Q3.out.2.1.same Z3
             have ZQ := Aside0.mk (And.intro Z (ZR.perm (((List.perm_append_comm (l₁ := [(⟨A10, c10, row⟩ : Ent)]) (l₂ := rs)).cons _).cons _)))
             clear Z Z3 ZR kk g0 gf0 g1 gf1 F4
             generalize ((x4.setCell ⟨g + 1 + 1, 0, none⟩ (.slice Au (rs.length + 1) cu)).setCell ⟨g + 1 + 1, 1, none⟩ (.slice Av (os.length + 1) cv)) = z at ZQ ⊢
             go_wp2
             go_roundg k3
             case measure => omega
             case rel => exact ⟨i + 1, place, line, _, _, rs ++ [⟨A10, c10, row⟩], os ++ [ov], _, _, rfl, by first | (rw [w64s i (by omega)]) | (simp; done), HPL, ⟨by rw [List.map_append, ← hov.out]; exact HF3.out.2⟩, ⟨ZQ.out.2⟩, ⟨ZQ.out.1⟩⟩
           | succ k4 =>
            have hltn : decide (j < nr.length) = true := by simp; omega
            have hltz : decide ((j : Int) < (nr.length : Int)) = true := by simp; omega
            have hltp : j < nr.length := by omega
            have ht := HT.out
            have hdr : nr.drop j = rd nr j :: nr.drop (j + 1) := by
             rw [List.drop_eq_getElem_cons hltp]
             simp [rd, List.getD, List.getElem?_eq_getElem hltp]
            rw [hdr] at ht
            obtain ⟨adr, eR, r0⟩ := Kd.at_int (C_low HB.out.1 hg.out CR.out) (j : Int) (by omega) (by omega)
            rw [Int.toNat_natCast] at r0
            subst eR
            generalize rd nr j = t at ht r0
            unfold turnF at ht
            by_cases hcc : 0 ≤ t ∧ t < kind.length ∧ 0 ≤ rd kind t ∧ rd kind t < place.length ∧ line.length < 1000 ∧ row.length < 1000
            ·rw [if_pos hcc] at ht
             obtain ⟨t0, t1, kt0, kt1, hll, hrl2⟩ := hcc
             obtain ⟨adk2, eK2, z1⟩ := Kd.at_int (C_low HB.out.1 hg.out HK.out) t t0 t1
             injection eK2 with eK2
             subst eK2
             obtain ⟨kt, hkt⟩ : ∃ kt, Aside0 (rd kind t = kt) := ⟨_, ⟨rfl⟩⟩
             rw [hkt.out] at ht kt0 kt1 z1
             have hktM : kt < (M : Int) := by have := HPL.out; omega
             obtain ⟨pc, pf⟩ := HR.out.get (b := b6) (c := c6) (xs := place) (by simp) kt kt0 kt1
             clear kt1
             by_cases hneg : rd place kt < 0
             ·rw [if_pos hneg] at ht
              obtain ⟨x, hx⟩ : ∃ x, Aside0 (rd place kt = x) := ⟨_, ⟨rfl⟩⟩
              rw [hx.out] at pc hneg
              have dn : decide (x < 0) = true := by simp; omega
              have HT2 := Aside0.mk ht
              have hgl6 : g ≤ wr.heap.size := by have := HB.out.1.size; have := hg.out; omega
              have ZR := HR.out.store (i := kt.toNat) (line.length : Int)
              have Zp := own_put (show Own1 (Kd.int .i64) 3 g wr (.slice (some ⟨b6, 0, none⟩) place.length c6) place from HR.out.1 ⟨some ⟨b6, 0, none⟩, c6, place⟩ List.mem_cons_self) (show kt.toNat < place.length by have := HPL.out; omega) HB.out.1 (line.length : Int)
              have ZL := Aside0.mk (And.intro (ZR.perm (List.Perm.swap _ _ _)) (And.intro (fun t ht => (HB.out.2 t ht).trans (Zp.2.1 t ht)) Zp.2.2))
              have hgz : g ≤ (wr.setCell ⟨b6, kt.toNat, none⟩ (.int .i64 (line.length : Int))).heap.size := by simp; exact hgl6
              have rds := Aside0.mk (rd_set_self place kt (line.length : Int) kt0 (by have := HPL.out; omega))
              have psl : Aside0 ((place.set kt.toNat (line.length : Int)).length = M) := ⟨by rw [List.length_set]; exact HPL.out⟩
              have LI2 : Aside0 (i < (line ++ [t]).length ∧ rd (line ++ [t]) i = li) := ⟨by rw [List.length_append]; have := HLI.out.1; omega, by rw [rd_snoc _ _ _ HLI.out.1]; exact HLI.out.2⟩
              have hln : Aside0 ((line ++ [t]).length = line.length + 1) := ⟨by simp⟩
              clear ht hdr ZR Zp
              go_upto_region 19 with fail
              generalize wr.setCell ⟨b6, kt.toNat, none⟩ (.int .i64 (line.length : Int)) = z1 at ZL hgz ⊢
              go_wp2_with (at_builtin; first | (go_loud (refine Kd.R_append (Kd.int .i64) (w0 := w) g rfl (.tmp 67) (.tmp 69) 83 3 (.int .i64 0) 8 rfl Tryz.underlying83 info3 rfl (by decide) (by decide) (.slice A8 line.length c8) line t [.int .i64 t] (fun _ => True) (fun _ => False) rfl rfl rfl (fun _ hk => hk.elim) (fun _ _ => trivial) (ZL.out.1.1 ⟨A8, c8, line⟩ List.mem_cons_self).loose ZL.out.2.2 hgz ?hl2 ?_; (case hl2 => omega); intro v7 w7 hr7 hb7 hg7 hat7; obtain ⟨A7, c7, e7, R7⟩ := ZL.out.1.step (Own1.flat (flatInt .i64) hr7) hg7 hat7; rw [hln.out] at e7; subst e7; obtain ⟨adk3, eK3, k7⟩ := Kd.at_int (C_low hb7 hg.out HK.out) t t0 t1; injection eK3 with eK3; subst eK3; rw [hkt.out] at k7; obtain ⟨p7, _⟩ := R7.get (b := b6) (c := c6) (xs := place.set kt.toNat (line.length : Int)) (by simp) kt kt0 (by rw [psl.out]; exact hktM); rw [rds.out] at p7; have Q7 := Aside0.mk (And.intro (R7.perm ((List.Perm.swap _ _ _).trans (rot _ _ _ _).symm)) (And.intro hb7 (fun t ht => (ZL.out.2.1 t ht).trans (Same.grown (ZL.out.1.1 ⟨A8, c8, line⟩ List.mem_cons_self) hg7 ht)))); have hg7s : g ≤ w7.heap.size := (by have := hg7.size; omega); clear hr7 hb7 hg7 hat7 R7)) | (go_loud (refine Kd.R_append (Kd.int .i64) (w0 := w) g rfl (.tmp 71) (.tmp 79) 83 3 (.int .i64 0) 8 rfl Tryz.underlying83 info3 rfl (by decide) (by decide) (.slice A10 row.length c10) row (line.length : Int) [.int .i64 (line.length : Int)] (fun _ => True) (fun _ => False) rfl rfl rfl (fun _ hk => hk.elim) (fun _ _ => trivial) (Q7.out.1.1 ⟨A10, c10, row⟩ List.mem_cons_self).loose Q7.out.2.1 hg7s ?hl2 ?_; (case hl2 => omega); intro v9 w9 hr9 hb9 hg9 hat9; obtain ⟨A9, c9, e9, R9⟩ := Q7.out.1.step (Own1.flat (flatInt .i64) hr9) hg9 hat9; subst e9; have Q9 := Aside0.mk (And.intro (R9.perm (rot _ _ _ _)) (And.intro hb9 (fun t ht => (Q7.out.2.2 t ht).trans (Same.grown (Q7.out.1.1 ⟨A10, c10, row⟩ List.mem_cons_self) hg9 ht)))); clear hr9 hb9 hg9 hat9 R9)))
              go_roundg k4
              case measure => omega
              case rel => exact ⟨j + 1, place.set kt.toNat (line.length : Int), line ++ [t], row ++ [(line.length : Int)], _, _, _, _, by rw [hln.out], by first | rfl | simp, by first | (rw [w64s j (by omega)]) | (simp; done), ⟨by omega⟩, psl, LI2, HT2, ⟨Q9.out.1⟩, ⟨Q9.out.2⟩⟩
             ·rw [if_neg hneg] at ht
              obtain ⟨x, hx⟩ : ∃ x, Aside0 (rd place kt = x) := ⟨_, ⟨rfl⟩⟩
              rw [hx.out] at pc hneg ht
              have dn : decide (x < 0) = false := by simp; omega
              have HT2 := Aside0.mk ht
              have R0 := Aside0.mk (HR.out.perm (rot _ _ _ _).symm)
              have hgl6 : g ≤ wr.heap.size := by have := HB.out.1.size; have := hg.out; omega
              clear ht hdr pf
              go_wp2_with (at_builtin; go_loud (refine Kd.R_append (Kd.int .i64) (w0 := w) g rfl (.tmp 71) (.tmp 79) 83 3 (.int .i64 0) 8 rfl Tryz.underlying83 info3 rfl (by decide) (by decide) (.slice A10 row.length c10) row x [.int .i64 x] (fun _ => True) (fun _ => False) rfl rfl rfl (fun _ hk => hk.elim) (fun _ _ => trivial) (R0.out.1 ⟨A10, c10, row⟩ List.mem_cons_self).loose HB.out.1 hgl6 ?hl2 ?_; (case hl2 => omega); intro v7 w7 hr7 hb7 hg7 hat7; obtain ⟨A7, c7, e7, R7⟩ := R0.out.step (Own1.flat (flatInt .i64) hr7) hg7 hat7; subst e7; have Q7 := Aside0.mk (And.intro (R7.perm (rot _ _ _ _)) (And.intro hb7 (fun t ht => (HB.out.2 t ht).trans (Same.grown (R0.out.1 ⟨A10, c10, row⟩ List.mem_cons_self) hg7 ht)))); clear hr7 hb7 hg7 hat7 R7))
              go_roundg k4
              case measure => omega
              case rel => exact ⟨j + 1, place, line, row ++ [x], _, _, _, _, rfl, by first | rfl | simp, by first | (rw [w64s j (by omega)]) | (simp; done), ⟨by omega⟩, HPL, HLI, HT2, ⟨Q7.out.1⟩, ⟨Q7.out.2⟩⟩
            ·rw [if_neg hcc] at ht
             cases ht
        ·rw [if_neg hcc] at h
         cases h
       ·rw [if_neg hil] at h
        have hres : (rs.map Ent.xs, os) = res := by simpa using h
        have hkn : decide (i < line.length) = false := by simp; omega
        have hkz : decide ((i : Int) < (line.length : Int)) = false := by simp; omega
        have hkp : ¬ (i < line.length) := hil
        obtain ⟨AN, cN, eN⟩ := Kd.R_slice HNA.out.next
        obtain ⟨AO, cO, eO⟩ := Kd.R_slice HNA.out.outs
        rw [List.length_map] at eN
        subst eN eO
        have hq := HNA.out.out
        have K4 := HNA.out.rb
        have y0 : wr.cell? ⟨g + 1 + 1, 0, none⟩ = some (.slice AN rs.length cN) := blk_cell hq 0
        have y1 : wr.cell? ⟨g + 1 + 1, 1, none⟩ = some (.slice AO os.length cO) := blk_cell hq 1
        have x0 : wr.cell? ⟨g + 1, 0, none⟩ = some (.slice none 0 0) := blk_cell K4 0
        have x1 : wr.cell? ⟨g + 1, 1, none⟩ = some (.slice none 0 0) := blk_cell K4 1
        have f0 := blk_frozen K4 0
        have f1 := blk_frozen K4 1
        have HRS := Aside0.mk hres
        clear h HF2 hq hil hres
        go_wp2
        have kz : KB wr ((wr.setCell ⟨g + 1, 0, none⟩ (.slice AN rs.length cN)).setCell ⟨g + 1, 1, none⟩ (.slice AO os.length cO)) (g + 1) := (kb_set (kb_set (kb_refl _ _) 0 _) 1 _)
        have k4z : ((wr.setCell ⟨g + 1, 0, none⟩ (.slice AN rs.length cN)).setCell ⟨g + 1, 1, none⟩ (.slice AO os.length cO)).heap[g + 1]? = some (.cells #[.slice AN rs.length cN, .slice AO os.length cO] 94 (0, 0)) := blk_set (blk_set K4 0 _) 1 _
        have sm : ∀ t, t ≠ 94 → Same t wr ((wr.setCell ⟨g + 1, 0, none⟩ (.slice AN rs.length cN)).setCell ⟨g + 1, 1, none⟩ (.slice AO os.length cO)) := fun t ht => Same.kb kz K4 ht
        have bz : Below g w ((wr.setCell ⟨g + 1, 0, none⟩ (.slice AN rs.length cN)).setCell ⟨g + 1, 1, none⟩ (.slice AO os.length cO)) := HNA.out.low.trans (kb_low kz (by omega) (by have := blk_lt K4; omega))
        refine bodyPost_ret (results_cell_row rfl _ _ (g + 1) 94 #[.slice AN rs.length cN, .slice AO os.length cO] (0, 0) _ rfl k4z Tryz.underlying94 rfl (by kernel_rfl)) rfl ?_
        have nr1 := ents_own (HR.out.same (sm 3 (by decide))) (rs := rs) (fun e he => by simp [he])
        have nr0 := HNA.out.next.same (sm 83 (by decide))
        have nr2 := HNA.out.outs.same (sm 82 (by decide))
        rw [← HRS.out]
        refine ⟨AN, cN, AO, cO, ?_, ⟨rs.map Ent.cl, by rw [List.length_map, hg.out]; exact nr0, by rw [hg.out]; exact nr1, by rw [hg.out]; exact nr2⟩, by rw [hg.out]; exact bz⟩
        rw [List.length_map]
    | succ k1 =>
     have hltn : decide (i < M) = true := by simp; omega
     have hltz : decide ((i : Int) < (M : Int)) = true := by simp; omega
     have hltp : i < M := by omega
     obtain ⟨n0, n1⟩ := own_cell HP.out.1 (i : Int) (by omega) (by omega)
     rw [Int.toNat_natCast] at n0 n1
     go_wp2_with fail
     have Z := own_put HP.out.1 hltp HP.out.2.2 (-1)
     have hset := row_set' i M (-1) hltp
     rw [hset] at Z
     have Z1 := Aside0.mk (And.intro Z.1 (And.intro (fun t ht => (HP.out.2.1 t ht).trans (Z.2.1 t ht)) Z.2.2))
     clear Z hset n0 n1
     go_roundg k1
     case measure => omega
     case rel => exact ⟨i + 1, by first | (rw [w64s i (by omega)]) | (simp; done), ⟨by omega⟩, Z1⟩
  ·rw [if_neg hc] at h
   cases h
end Go.Proofs.YtkeccgkicffieaaGreatDoor.PTopWider
