/- The walks of slices.Clone, of trie's Make without patterns, of pats' Parse at no text. Conditions: none but the arguments' own. -/
import Derived.Test.YtkeccgkicffieaaGreatDoorTopH
import Derived.Test.YtkeccgkicffieaaGreatDoorTopG
import Derived.Test.YtkeccgkicffieaaGreatDoorTopS
import Derived.Test.YtkeccgkicffieaaGreatDoorTopLE
import Derived.Test.YtkeccgkicffieaaGreatDoorTopT
namespace Go.Proofs.YtkeccgkicffieaaGreatDoor.PTopWider
open Go.RowKit Go.Proofs.YtkeccgkicffieaaGreatDoorW.PrintWords Go.Proofs.YtkeccgkicffieaaGreatDoorW.PrintLast Go.Proofs.YtkeccgkicffieaaGreatDoorW.PrintMore
set_option linter.unusedVariables false
set_option linter.unusedSimpArgs false
theorem info164 : (Tryz.prog.info? 164).map (fun i => (i.zero, i.size, i.bytes)) = some (some (.agg #[.map none, .slice none 0 0]), 2, 32) := by kernel_rfl
theorem eqnil34 (w : World) : (binOp .eql 34 (.slice none 0 0) (.slice none 0 0)).run Tryz.prog w = .ok (.bool true) w := by kernel_rfl
theorem eqsome34 (a : Addr) (n c : Nat) (w : World) : (binOp .eql 34 (.slice (some a) n c) (.slice none 0 0)).run Tryz.prog w = .ok (.bool false) w := by kernel_rfl
set_option maxHeartbeats 4000000 in
set_option maxRecDepth 100000 in
theorem clone_nil (w : World) : Calls Tryz.prog 24 #[.slice none 0 0] w fun e w' => e = .returned (.slice none 0 0) ∧ Below w.heap.size w w' := by
 have he := eqnil34
 go_enter Tryz.func24, Tryz.ntmps24
 go_wp2
 go_ret
 exact ⟨rfl, Below.refl _ _⟩
def TrieE (w : World) (e : Ending) (w' : World) : Prop := ∃ g, e = .returned (.pointer (some ⟨g, 0, none⟩)) ∧ w.heap.size ≤ g ∧ IsTrie w' g ∧ Below w.heap.size w w'
set_option maxHeartbeats 4000000 in
set_option maxRecDepth 100000 in
theorem triemake_nil (w : World) : Calls Tryz.prog 25 #[.slice none 0 0] w fun e w' => TrieE w e w' := by
 go_enter Tryz.func25, Tryz.ntmps25
 go_wp2_with (at_make; refine Kd.R_make (kcl 2) (w0 := w) w.heap.size 164 rfl (N := 14) rfl 159 (.const (.int .i64 1)) (.const (.int .i64 1)) rfl (1 : Int) rfl rfl Tryz.underlying159 (.agg #[.map none, .slice none 0 0]) 32 info164 rfl (by decide) (by decide) ⟨[.map none, .slice none 0 0], rfl, rfl⟩ (ok := fun _ => True) (okp := fun _ => True) ?hz (fun _ _ => trivial) trivial (by omega) (by omega) (Below.refl _ _) (Nat.le_refl _) ?_; (case hz => rfl); intro v14 w2 hr2 hb2 hg2 hat2; obtain ⟨b6, c6, e6, b6a, b6b, _⟩ := Kd.R_form hr2 (by simp); subst e6)
 have ba := below_alloc (Below.refl w2.heap.size w2) (.cells #[.slice (some ⟨b6, 0, none⟩) 1 c6] 161)
 have kn := blk_new w2 (.cells #[.slice (some ⟨b6, 0, none⟩) 1 c6] 161)
 obtain ⟨ad, ha, hc⟩ := cl_at (Own1.reads (Own1.flat (flatCl 2) hr2)).2.2 (0 : Int) (by omega) (by simp)
 injection ha with ha
 subst ha
 have h0 := pw_cell_below ba (hc 0 _ rfl)
 have h1 := pw_cell_below ba (hc 1 _ rfl)
 have Q := Aside0.mk (And.intro kn (And.intro h0 (And.intro h1 (hb2.trans (ba.mono hb2.size)))))
 have hs := Aside0.mk hb2.size
 clear ba kn hc h0 h1 hr2 hb2 hg2 hat2
 refine wp_loop_rounds 1 ?_
 rw [rounds_succ]
 go_wp2
 go_ret
 exact ⟨w2.heap.size, rfl, hs.out, ⟨b6, 1, c6, blk_cell Q.out.1 0, by omega, Q.out.2.1, Q.out.2.2.1⟩, Q.out.2.2.2⟩
set_option maxHeartbeats 4000000 in
set_option maxRecDepth 100000 in
theorem parse_nil (w : World) : Calls Tryz.prog 23 #[.string ⟨#[]⟩] w fun e w' => e = .returned (.tuple #[.agg #[.slice none 0 0, .slice none 0 0], .agg #[.int .i64 0, .int .i64 0]]) ∧ Below w.heap.size w w' := by
 have hcv : ∀ w : World, (convert 9 22 (.string ⟨#[]⟩)).run Tryz.prog w = .ok (.slice (some ⟨w.heap.size, 0, none⟩) 0 (grownCap w 0 0 5)) (Lib.bytesWorld w 5 ⟨#[]⟩) := fun w => Lib.run_convert_string_bytes w 9 22 5 ⟨#[]⟩ Tryz.underlying9 Tryz.underlying22 Tryz.underlying5
 go_enter Tryz.func23, Tryz.ntmps23
 have b3 := below_alloc (below_alloc (below_alloc (Below.refl w.heap.size w) (.cells #[.slice none 0 0, .slice none 0 0] 110)) (.cells #[.int .i64 0, .int .i64 0] 31)) (.cells #[.slice none 0 0, .slice none 0 0] 110)
 have b4 := bytes_below b3 b3.size 5 ⟨#[]⟩
 have z1 : (w.alloc (.cells #[.slice none 0 0, .slice none 0 0] 110)).heap.size = w.heap.size + 1 := by simp
 have z2 : ((w.alloc (.cells #[.slice none 0 0, .slice none 0 0] 110)).alloc (.cells #[.int .i64 0, .int .i64 0] 31)).heap.size = w.heap.size + 1 + 1 := by simp
 have z3 : (((w.alloc (.cells #[.slice none 0 0, .slice none 0 0] 110)).alloc (.cells #[.int .i64 0, .int .i64 0] 31)).alloc (.cells #[.slice none 0 0, .slice none 0 0] 110)).heap.size = w.heap.size + 1 + 1 + 1 := by simp
 have k0 := blk_alloc (blk_alloc (blk_new w (.cells #[.slice none 0 0, .slice none 0 0] 110)) (.cells #[.int .i64 0, .int .i64 0] 31)) (.cells #[.slice none 0 0, .slice none 0 0] 110)
 have k1 := blk_alloc (blk_new (w.alloc (.cells #[.slice none 0 0, .slice none 0 0] 110)) (.cells #[.int .i64 0, .int .i64 0] 31)) (.cells #[.slice none 0 0, .slice none 0 0] 110)
 have k2 := blk_new ((w.alloc (.cells #[.slice none 0 0, .slice none 0 0] 110)).alloc (.cells #[.int .i64 0, .int .i64 0] 31)) (.cells #[.slice none 0 0, .slice none 0 0] 110)
 rw [z1] at k1
 rw [z2] at k2
 have bb := bytes_below (Below.refl (((w.alloc (.cells #[.slice none 0 0, .slice none 0 0] 110)).alloc (.cells #[.int .i64 0, .int .i64 0] 31)).alloc (.cells #[.slice none 0 0, .slice none 0 0] 110)).heap.size (((w.alloc (.cells #[.slice none 0 0, .slice none 0 0] 110)).alloc (.cells #[.int .i64 0, .int .i64 0] 31)).alloc (.cells #[.slice none 0 0, .slice none 0 0] 110))) (Nat.le_refl _) 5 ⟨#[]⟩
 have Q := Aside0.mk (And.intro (blk_below k0 bb) (And.intro (blk_below k1 bb) (And.intro (blk_below k2 bb) b4)))
 have C := Aside0.mk (scal_All.calls 5 (some ⟨(((w.alloc (.cells #[.slice none 0 0, .slice none 0 0] 110)).alloc (.cells #[.int .i64 0, .int .i64 0] 31)).alloc (.cells #[.slice none 0 0, .slice none 0 0] 110)).heap.size, 0, none⟩) (grownCap (((w.alloc (.cells #[.slice none 0 0, .slice none 0 0] 110)).alloc (.cells #[.int .i64 0, .int .i64 0] 31)).alloc (.cells #[.slice none 0 0, .slice none 0 0] 110)) 0 0 5) [] [] (Lib.bytesWorld (((w.alloc (.cells #[.slice none 0 0, .slice none 0 0] 110)).alloc (.cells #[.int .i64 0, .int .i64 0] 31)).alloc (.cells #[.slice none 0 0, .slice none 0 0] 110)) 5 ⟨#[]⟩) ⟨rfl, by simp [maxLen], fun h => absurd h (by simp)⟩ (by simp) (by kernel_rfl) (fun x h => by cases h))
 rw [z3] at C
 clear b3 b4 z1 z2 z3 k0 k1 k2 bb
 go_wp2_with fail
 generalize Lib.bytesWorld (((w.alloc (.cells #[.slice none 0 0, .slice none 0 0] 110)).alloc (.cells #[.int .i64 0, .int .i64 0] 31)).alloc (.cells #[.slice none 0 0, .slice none 0 0] 110)) 5 ⟨#[]⟩ = w5 at Q C ⊢
 refine C.out.mono ?_
 rintro e w6 ⟨v0, rfl, hr, hb6⟩
 obtain ⟨A0, c0, e0⟩ := Kd.R_slice hr
 subst e0
 have hs5 : w.heap.size ≤ w5.heap.size := Q.out.2.2.2.size
 have k0 := blk_below Q.out.1 hb6
 have k1 := blk_below Q.out.2.1 hb6
 have k2 := blk_below Q.out.2.2.1 hb6
 have hlow := Q.out.2.2.2.trans (hb6.mono hs5)
 have x0 := blk_cell k0 0
 have x1 := blk_cell k0 1
 have xf0 := blk_frozen k0 0
 have xf1 := blk_frozen k0 1
 have y0 := blk_cell k1 0
 have y1 := blk_cell k1 1
 have yf0 := blk_frozen k1 0
 have yf1 := blk_frozen k1 1
 have u0 := blk_cell k2 0
 have u1 := blk_cell k2 1
 have K := Aside0.mk (And.intro k0 (And.intro k1 hlow))
 clear k0 k1 k2 hlow hr hb6
 go_wp2_with fail
 refine wp_loop_rounds 1 ?_
 rw [rounds_succ]
 go_wp2_with fail
 have a0 := blk_set (blk_set K.out.1 0 (.slice none 0 0)) 1 (.slice none 0 0)
 have a1 := blk_far (blk_far a0 (p := ⟨w.heap.size + 1, 0, none⟩) (by simp) (.int .i64 0)) (p := ⟨w.heap.size + 1, 1, none⟩) (by simp) (.int .i64 0)
 have c0 := blk_far (blk_far K.out.2.1 (p := ⟨w.heap.size, 0, none⟩) (by simp) (.slice none 0 0)) (p := ⟨w.heap.size, 1, none⟩) (by simp) (.slice none 0 0)
 have c1 := blk_set (blk_set c0 0 (.int .i64 0)) 1 (.int .i64 0)
 have lw := (((K.out.2.2.setCell (p := ⟨w.heap.size, 0, none⟩) (by simp) (.slice none 0 0)).setCell (p := ⟨w.heap.size, 1, none⟩) (by simp) (.slice none 0 0)).setCell (p := ⟨w.heap.size + 1, 0, none⟩) (by simp) (.int .i64 0)).setCell (p := ⟨w.heap.size + 1, 1, none⟩) (by simp) (.int .i64 0)
 refine bodyPost_ret (results_cc rfl _ _ w.heap.size (w.heap.size + 1) 110 31 #[.slice none 0 0, .slice none 0 0] #[.int .i64 0, .int .i64 0] (0, 0) (0, 0) _ _ rfl a1 Tryz.underlying110 rfl (by kernel_rfl) rfl c1 Tryz.underlying31 rfl (by kernel_rfl)) rfl ?_
 exact ⟨rfl, lw⟩
theorem flat69 : Flat k69 := fun W base ok ok' x cs h => by rw [k69_openM h]; exact k69_mkM _ _ _ x
theorem own_lit0 (w : World) : Own1 k69 69 w.heap.size (w.alloc (.cells #[] 69)) (.slice (some ⟨w.heap.size, 0, none⟩) 0 0) [] := by
 have h2 := World.ownsRow_lit (base := w.heap.size) (e := 69) (size := 3) w #[] 0 (Nat.le_refl _) (by decide) (by simp)
 have h3 : (w.alloc (.cells #[] 69)).ownsRow w.heap.size 69 3 (.slice (some ⟨w.heap.size, 0, none⟩) 0 0) 0 [] := by simpa using h2
 exact ⟨fun k hk => hk, [], h3, Reps.none _ _⟩
set_option maxHeartbeats 4000000 in
set_option maxRecDepth 100000 in
theorem clone_calls (a : Addr) (c : Nat) (l : List S69) (w : World) (hC : Kd.C k69 w (some a) l.length l) (hl : l.length ≤ 100) : Calls Tryz.prog 24 #[.slice (some a) l.length c] w fun e w' => ∃ v, e = .returned v ∧ Own1 k69 69 w.heap.size w' v l ∧ Below w.heap.size w w' := by
 have he := eqsome34
 have HC := Aside0.mk hC
 clear hC
 go_enter Tryz.func24, Tryz.ntmps24
 have ba := below_alloc (Below.refl w.heap.size w) (.cells #[] 69)
 have OL := Aside0.mk (own_lit0 w)
 have CC := Aside0.mk (Kd.C_below HC.out ba)
 have BA := Aside0.mk ba
 clear ba
 go_wp2_with (at_builtin; go_loud (refine Kd.R_append_rows k69 (w0 := w) w.heap.size rfl (.tmp 5) (.tmp 6) 34 69 (.agg #[.int .i32 0, .int .i32 0, .int .i64 0]) 16 rfl Tryz.underlying34 info69 rfl (by decide) (by decide) (.slice (some ⟨w.heap.size, 0, none⟩) 0 0) [] l (some a) l.length c (fun _ => True) (fun _ => False) rfl rfl OL.out.loose CC.out (fun x cs hk => by rw [k69_open hk]; exact k69_mkM _ _ _ x) (fun _ hk => hk.elim) (fun _ _ => trivial) BA.out (by simp) ?hl2 ?_; (case hl2 => simp; omega); intro v7 w7 hr7 hb7 hg7 hat7; have Q7 := Aside0.mk (And.intro (Own1.flat flat69 hr7) hb7); clear hr7 hb7 hg7 hat7))
 go_ret
 exact ⟨v7, rfl, Q7.out.1, Q7.out.2⟩
theorem clone_any (A : Option Addr) (c : Nat) (l : List S69) (w : World) (hC : Kd.C k69 w A l.length l) (hl : l.length ≤ 100) (hc : A = none → c = 0) : Calls Tryz.prog 24 #[.slice A l.length c] w fun e w' => ∃ v, e = .returned v ∧ Own1 k69 69 w.heap.size w' v l ∧ Below w.heap.size w w' := by
 cases A with
 | some a => exact clone_calls a c l w hC hl
 | none =>
  have h0 : l = [] := by
   cases l with
   | nil => rfl
   | cons x r =>
    obtain ⟨ad, ea, _⟩ := at_T69 hC 0 (by omega) (by simp)
    cases ea
  have h1 := hc rfl
  subst h0
  subst h1
  exact (clone_nil w).mono fun e w' h => ⟨_, h.1, Own1.nil _ _ _ _, h.2⟩
def HyphE (w : World) (e : Ending) (w' : World) : Prop := ∃ g, e = .returned (.tuple #[.pointer (some ⟨g, 0, none⟩), .agg #[.int .i64 0, .int .i64 0]]) ∧ w.heap.size ≤ g ∧ IsHyph w' g ∧ Below w.heap.size w w'
set_option maxHeartbeats 40000000 in
set_option maxRecDepth 100000 in
theorem hyphnew_calls (fu c : Nat) (A : Option Addr) (l : List S69) (left right : Int) (w : World) (hC : Kd.C k69 w A l.length l) (hc : l.length ≤ c) (hA : A = none → c = 0) (hl : l.length ≤ 1) (hchk : hyph_Check.f fu l = some true) (h1 : 1 ≤ left ∧ left ≤ 24) (h2 : 1 ≤ right ∧ right ≤ 24) :
  Calls Tryz.prog 14 #[.string ⟨#[]⟩, .slice A l.length c, .int .i64 left, .int .i64 right] w fun e w' => HyphE w e w' := by
 have ba := below_alloc (Below.refl w.heap.size w) (.cells #[.int .i64 0, .int .i64 0] 31)
 have kn := blk_new w (.cells #[.int .i64 0, .int .i64 0] 31)
 have HCH := Aside0.mk (hyph_Check.calls fu A c l true (w.alloc (.cells #[.int .i64 0, .int .i64 0] 31)) (Kd.C_below hC ba) hc hchk)
 have HC := Aside0.mk hC
 have Q0 := Aside0.mk (And.intro kn ba)
 have d1 : decide (left < 1) = false := by simp; omega
 have d2 : decide (right < 1) = false := by simp; omega
 have d3 : decide (24 < left) = false := by simp; omega
 have d4 : decide (24 < right) = false := by simp; omega
 clear hC hchk ba kn
 go_enter Tryz.func14, Tryz.ntmps14
 go_wp2_with fail
 refine HCH.out.mono ?_
 rintro e w1 ⟨rfl, hb1⟩
 have b1 := Q0.out.2.trans (hb1.mono Q0.out.2.size)
 have Q1 := Aside0.mk (And.intro (blk_below Q0.out.1 hb1) b1)
 clear b1 hb1 HCH Q0
 go_wp2_with fail
 refine (parse_nil w1).mono ?_
 rintro e w2 ⟨rfl, hb2⟩
 have b2 := Q1.out.2.trans (hb2.mono Q1.out.2.size)
 have Q2 := Aside0.mk (And.intro (blk_below Q1.out.1 hb2) b2)
 clear b2 hb2 Q1
 go_upto_region 8 with fail
 have bz := below_alloc (below_alloc (Below.refl w2.heap.size w2) (.cells #[.slice none 0 0, .slice none 0 0] 110)) (.cells #[.int .i64 0, .int .i64 0] 31)
 have k1 := blk_alloc (blk_new w2 (.cells #[.slice none 0 0, .slice none 0 0] 110)) (.cells #[.int .i64 0, .int .i64 0] 31)
 have Q3 := Aside0.mk (And.intro (blk_below Q2.out.1 bz) (And.intro (Q2.out.2.trans (bz.mono Q2.out.2.size)) k1))
 have hw2 := Q2.out.2.size
 clear bz k1 Q2
 generalize (w2.alloc (.cells #[.slice none 0 0, .slice none 0 0] 110)).alloc (.cells #[.int .i64 0, .int .i64 0] 31) = w3 at Q3 ⊢
 have y0 := blk_cell Q3.out.2.2 0
 have y1 := blk_cell Q3.out.2.2 1
 have HC3 := Aside0.mk (Kd.C_below HC.out Q3.out.2.1)
 refine st 14 w3 [13] fun hHeld => ?_
 generalize w3.drew = w4 at hHeld ⊢
 refine pu 0 (some 40) ?_
 refine pu 2 (some 42) ?_
 refine pu 5 (some 45) ?_
 refine pu 7 (some 47) ?_
 refine pu 8 (some 48) ?_
 refine pu 11 (some 51) ?_
 refine ta 3 (some 43) (fun _ s => pw_cell_below s y0) hHeld ?_
 refine ta 6 (some 46) (fun _ s => pw_cell_below s y1) hHeld ?_
 refine on 1 (some 41) fun K hK => ?_
 refine gs Tryz.func24 #[.slice A l.length c] ?_
 with_reducible refine (clone_any A c l _ (Kd.C_below HC3.out hHeld) (by omega) hA).mono ?_
 rintro e w_ ⟨v1, rfl, ho_, hb_⟩
 refine ⟨_, rfl, ?_⟩
 obtain ⟨A1, c1, e1⟩ := Kd.R_slice ho_
 subst e1
 have O1 := Aside0.mk ho_
 clear ho_
 obtain ⟨w5, hw5⟩ : ∃ w5, w5 = w_ := ⟨_, rfl⟩
 subst hw5
 refine hK.out _ _ (below_step hHeld hb_) (fun hHeld => ?_)
 clear hK K
 refine nrm 41 ?_
 refine on 4 (some 44) fun K hK => ?_
 refine gs Tryz.func25 #[.slice none 0 0] ?_
 with_reducible refine (triemake_nil _).mono ?_
 rintro e w_ ⟨gt, rfl, hgt_, ht_, hb2_⟩
 refine ⟨_, rfl, ?_⟩
 obtain ⟨w6, hw6⟩ : ∃ w6, w6 = w_ := ⟨_, rfl⟩
 subst hw6
 have hs56 : w3.heap.size ≤ w6.heap.size := Nat.le_trans hHeld.size hb2_.size
 refine hK.out _ _ (below_step hHeld hb2_) (fun hHeld => ?_)
 clear hK K
 refine nrm 44 ?_
 refine pu 9 (some 49) ?_
 refine on 10 (some 50) fun K hK => ?_
 refine event_step (by rfl) (v := .pointer (some ⟨w6.heap.size, 0, none⟩)) (w1 := w6.alloc (.cells #[.slice A1 l.length c1, .pointer (some ⟨gt, 0, none⟩), .slice none 0 0, .int .i64 left, .int .i64 right] 117)) ?hrun ?_
 case hrun => first | (go_simp; done) | (go_simp; rfl)
 have ba_ := below_alloc (Below.refl w6.heap.size w6) (.cells #[.slice A1 l.length c1, .pointer (some ⟨gt, 0, none⟩), .slice none 0 0, .int .i64 left, .int .i64 right] 117)
 refine hK.out _ _ (below_step hHeld ba_) (fun hHeld => ?_)
 clear hK K
 refine nrm 50 ?_
 refine pu 12 (some 8) ?_
 refine la 13 none fun K hK => ?_
 have km := blk_below Q3.out.1 hHeld
 have x0 := blk_cell km 0
 have x1 := blk_cell km 1
 have f0 := blk_frozen km 0
 have f1 := blk_frozen km 1
 refine skip_ (w1 := ?_) (by rfl) rfl ?_ ?_
 rotate_left
 ·go_simp
  rfl
 refine hK.out _ _ ?_
 clear hK K
 refine done_ (by kernel_rfl) ?_
 have ow := (O1.out.below hb2_).below ba_
 have ow2 := Own1.reads ow
 have kb := blk_new w6 (.cells #[.slice A1 l.length c1, .pointer (some ⟨gt, 0, none⟩), .slice none 0 0, .int .i64 left, .int .i64 right] 117)
 have tt := ht_.on ba_
 have HH : IsHyph (w6.alloc (.cells #[.slice A1 l.length c1, .pointer (some ⟨gt, 0, none⟩), .slice none 0 0, .int .i64 left, .int .i64 right] 117)) w6.heap.size := ⟨A1, c1, l, gt, left, right, blk_cell kb 0, hl, ow2.2.1, ow2.2.2, blk_cell kb 1, tt, blk_cell kb 2, blk_cell kb 3, blk_cell kb 4, h1.1, h1.2, h2.1, h2.2⟩
 generalize w6.alloc (.cells #[.slice A1 l.length c1, .pointer (some ⟨gt, 0, none⟩), .slice none 0 0, .int .i64 left, .int .i64 right] 117) = w7 at hHeld km HH ⊢
 have kz : KB w7 ((w7.setCell ⟨w.heap.size, 0, none⟩ (.int .i64 0)).setCell ⟨w.heap.size, 1, none⟩ (.int .i64 0)) w.heap.size := kb_set (kb_set (kb_refl _ _) 0 _) 1 _
 have k4z : ((w7.setCell ⟨w.heap.size, 0, none⟩ (.int .i64 0)).setCell ⟨w.heap.size, 1, none⟩ (.int .i64 0)).heap[w.heap.size]? = some (.cells #[.int .i64 0, .int .i64 0] 31) := blk_set (blk_set km 0 _) 1 _
 have bl : Below w7.heap.size w7 ((w7.setCell ⟨w.heap.size, 0, none⟩ (.int .i64 0)).setCell ⟨w.heap.size, 1, none⟩ (.int .i64 0)) := ⟨kz.os, kz.tape, kz.out, kz.k.1, fun j hj => by
  by_cases hjg : j = w.heap.size
  ·subst hjg
   exact k4z.trans km.symm
  ·exact kz.k.2 j hj hjg (by simp)⟩
 have hs3 : w.heap.size ≤ w3.heap.size := Q3.out.2.1.size
 have hs6 : w.heap.size ≤ w6.heap.size := by have := Q3.out.2.1.size; omega
 have lw := (Q3.out.2.1.trans (hHeld.mono hs3)).trans (bl.mono (by have := hHeld.size; omega))
 have RR := Aside0.mk (And.intro (HH.on bl) (And.intro lw k4z))
 clear HH kz k4z bl lw km x0 x1 f0 f1 kb tt ow ow2
 go_wp2_with fail
 refine bodyPost_ret (results_tc rfl _ _ w.heap.size 31 #[.int .i64 0, .int .i64 0] (0, 0) _ rfl RR.out.2.2 Tryz.underlying31 rfl (by kernel_rfl)) rfl ?_
 exact ⟨w6.heap.size, rfl, hs6, RR.out.1, RR.out.2.1⟩
end Go.Proofs.YtkeccgkicffieaaGreatDoor.PTopWider
