/- The walks of the keys by which least's Make tells states apart. Conditions: the automaton and the kinds lie in memory as stated. -/
import Derived.Test.YtkeccgkicffieaaGreatDoorTopAL
namespace Go.Proofs.YtkeccgkicffieaaGreatDoor.PTopWider
open Go.RowKit Go.Proofs.YtkeccgkicffieaaGreatDoorW.PrintWords Go.Proofs.YtkeccgkicffieaaGreatDoorW.PrintLast Go.Proofs.YtkeccgkicffieaaGreatDoorW.PrintMore
set_option linter.unusedVariables false
set_option linter.unusedSimpArgs false
/-- A key was put into a buffer of one's own. -/
def KeyE (base : Nat) (w : World) (v : Value) (ks : List Int) (e : Ending) (w' : World) : Prop :=
 ∃ v', e = .returned v' ∧ Own1 (Kd.int .i64) 3 base w' v' ks ∧ Below base w w' ∧ w.grownBy w' v.ownBlock ∧ (v'.ownBlock = v.ownBlock ∨ ∃ b, v'.ownBlock = some b ∧ w.heap.size ≤ b)
set_option maxHeartbeats 4000000 in
set_option maxRecDepth 100000 in
theorem key1_calls (cp d : Nat) (B : Option Addr) (out : List Int) (s : Nat) (v : Value) (w0 w : World) (hB : Below w0.heap.size w0 w) (hc : w0.cell? ⟨cp, 1, none⟩ = some (.slice B out.length d)) (hC : Kd.C (Kd.int .u32) w0 B out.length out) (hs : s < out.length) (hx : 0 ≤ rd out s ∧ rd out s < 4294967296)
  (hv : Own1 (Kd.int .i64) 3 w0.heap.size w v []) :
  Calls Tryz.prog 69 #[.int .i64 (s : Int), v, .pointer (some ⟨cp, 0, none⟩)] w fun e w' => KeyE w0.heap.size w v [rd out s] e w' := by
 obtain ⟨ad, ea, z0⟩ := Kd.at_int (Kd.C_below hC hB) (s : Int) (by omega) (by omega)
 subst ea
 have k1 := pw_cell_below hB hc
 rw [Int.toNat_natCast] at z0
 generalize hxe : rd out s = x at z0 hx ⊢
 have hxw : wrap64 x = x := by unfold wrap64; omega
 have hbs := hB.size
 have HV := Aside0.mk hv
 have hsn : (s : Int) < (out.length : Int) := by omega
 clear hv hC hc
 go_enter Tryz.func69, Tryz.ntmps69
 go_wp2_with (at_builtin; go_loud (refine Kd.R_append (Kd.int .i64) (w0 := w) w0.heap.size rfl (.tmp 6) (.tmp 13) 83 3 (.int .i64 0) 8 rfl Tryz.underlying83 info3 rfl (by decide) (by decide) v [] x [.int .i64 x] (fun _ => True) (fun _ => False) rfl rfl rfl (fun _ hk => hk.elim) (fun _ _ => trivial) HV.out.loose (Below.refl _ _) hbs ?hl2 ?_; (case hl2 => simp); intro v1 w1 hr1 hb1 hg1 hat1; have Q1 := Aside0.mk (And.intro hr1 (And.intro hb1 (And.intro hg1 hat1))); clear hr1 hb1 hg1 hat1))
 go_ret
 exact ⟨v1, rfl, Own1.flat (flatInt .i64) Q1.out.1, Q1.out.2.1, Q1.out.2.2.1, Q1.out.2.2.2⟩
theorem KeyE_trans {w w1 w2 : World} {v v1 v2 : Value} (hg : w.grownBy w1 v.ownBlock) (hat : v1.ownBlock = v.ownBlock ∨ ∃ b, v1.ownBlock = some b ∧ w.heap.size ≤ b) (hg2 : w1.grownBy w2 v1.ownBlock) (hat2 : v2.ownBlock = v1.ownBlock ∨ ∃ b, v2.ownBlock = some b ∧ w1.heap.size ≤ b) :
  w.grownBy w2 v.ownBlock ∧ (v2.ownBlock = v.ownBlock ∨ ∃ b, v2.ownBlock = some b ∧ w.heap.size ≤ b) := by
 refine ⟨⟨hg2.os.trans hg.os, hg2.tape.trans hg.tape, hg2.output.trans hg.output, Nat.le_trans hg.size hg2.size, fun k hk hne => ?_⟩, ?_⟩
 ·have hs := hg.size
  refine (hg2.block k (by omega) (fun he => ?_)).trans (hg.block k hk hne)
  rcases hat with h | ⟨b, h, hl⟩
  ·exact hne (he.trans h)
  ·rw [h] at he
   injection he with he
   omega
 ·rcases hat2 with h2 | ⟨b, h2, hl2⟩
  ·rw [h2]
   exact hat
  ·exact .inr ⟨b, h2, by have := hg.size; omega⟩
set_option maxHeartbeats 4000000 in
set_option maxRecDepth 100000 in
theorem key2_calls (kp cp ck ca : Nat) (K A : Option Addr) (kind : List Int) (next : List (List Int)) (s : Nat) (v : Value) (w0 w : World) (hB : Below w0.heap.size w0 w) (hk : w0.cell? ⟨kp, 0, none⟩ = some (.slice K kind.length ck)) (hK : Kd.C (Kd.int .i64) w0 K kind.length kind) (hc : w0.cell? ⟨cp, 0, none⟩ = some (.slice A next.length ca)) (hN : Kd.C (Kd.slice 3 (Kd.int .i64)) w0 A next.length next)
  (hs : s < next.length) (hl : kind.length = next.length) (hr : ∀ t ∈ rd_L4 next s, 0 ≤ t ∧ t < kind.length) (hm : (rd_L4 next s).length ≤ 1000) (hv : Own1 (Kd.int .i64) 3 w0.heap.size w v []) :
  Calls Tryz.prog 70 #[.int .i64 (s : Int), v, .pointer (some ⟨kp, 0, none⟩), .pointer (some ⟨cp, 0, none⟩)] w fun e w' => KeyE w0.heap.size w v (rd kind s :: (rd_L4 next s).map (rd kind)) e w' := by
 obtain ⟨adk, eK, z0⟩ := Kd.at_int (Kd.C_below hK hB) (s : Int) (by omega) (by omega)
 obtain ⟨adn, A0, c0, eN, n0, hc0, n2⟩ := at_L4 hN (s : Int) (by omega) (by omega)
 subst eN
 have k1 := pw_cell_below hB hk
 have k2 := pw_cell_below hB hc
 have n1 := pw_cell_below hB n0
 have CK := Aside0.mk hK
 have CR := Aside0.mk n2
 subst eK
 rw [Int.toNat_natCast] at z0 n1
 generalize hrow : rd_L4 next s = row at n0 n1 n2 CR hr hm hc0 ⊢
 generalize hxe : rd kind s = x at z0 ⊢
 have hbs := hB.size
 have HV := Aside0.mk hv
 have hsn : (s : Int) < (kind.length : Int) := by omega
 have hsn2 : (s : Int) < (next.length : Int) := by omega
 obtain ⟨m, hml⟩ : ∃ m, Aside0 (row.length = m) := ⟨_, ⟨rfl⟩⟩
 obtain ⟨N, hNl⟩ : ∃ N, Aside0 (kind.length = N) := ⟨_, ⟨rfl⟩⟩
 have hl2 : next.length = N := by have := hNl.out; omega
 rw [hl2] at k2 hsn2 hc
 rw [hNl.out] at k1 hsn
 rw [hml.out] at n0 n1 hm
 have HR := Aside0.mk hr
 have HB := Aside0.mk hB
 have G0 := Aside0.mk (And.intro k1 (And.intro k2 (And.intro hk (And.intro hc n0))))
 clear hv hc hk hK hN n2 hc0 n0 hr hl hl2 hs
 go_enter Tryz.func70, Tryz.ntmps70
 go_wp2_with (at_builtin; go_loud (refine Kd.R_append (Kd.int .i64) (w0 := w) w0.heap.size rfl (.tmp 9) (.tmp 14) 83 3 (.int .i64 0) 8 rfl Tryz.underlying83 info3 rfl (by decide) (by decide) v [] x [.int .i64 x] (fun _ => True) (fun _ => False) rfl rfl rfl (fun _ hk => hk.elim) (fun _ _ => trivial) HV.out.loose (Below.refl _ _) hbs ?hl2 ?_; (case hl2 => simp); intro v1 w1 hr1 hb1 hg1 hat1; have Q1 := Aside0.mk (And.intro (Own1.flat (flatInt .i64) hr1) (And.intro hb1 (And.intro hg1 hat1))); have b1 := HB.out.trans hb1; have m2 := pw_cell_below b1 G0.out.2.2.2.1; have m3 := pw_cell_below b1 G0.out.2.2.2.2; rw [Int.toNat_natCast] at m3; clear hr1 hb1 hg1 hat1 k1 k2 n1 z0))
 go_loopg [1, 22] m (fun kq v1 v22 w' => ∃ i : Nat, v22 = .int .i64 (i : Int) ∧ Aside0 (i + kq = m) ∧ Aside0 (Own1 (Kd.int .i64) 3 w0.heap.size w' v1 (x :: (row.take i).map (rd kind)) ∧ Below w0.heap.size w w' ∧ w.grownBy w' v.ownBlock ∧ (v1.ownBlock = v.ownBlock ∨ ∃ b, v1.ownBlock = some b ∧ w.heap.size ≤ b)))
 case atStart => exact ⟨0, rfl, ⟨by omega⟩, Q1⟩
 case round =>
  obtain ⟨i, rfl, HI, HQ⟩ := hrel
  have hi := HI.out
  cases gk with
  | zero =>
   have hltn : decide (i < m) = false := by simp; omega
   have hltz : decide ((i : Int) < (m : Int)) = false := by simp; omega
   have hltp : ¬ (i < m) := by omega
   have htk : row.take i = row := List.take_of_length_le (by have := hml.out; omega)
   rw [htk] at HQ
   go_wp2
   go_ret
   exact ⟨_, rfl, HQ.out.1, HQ.out.2.1, HQ.out.2.2.1, HQ.out.2.2.2⟩
  | succ k1 =>
   have hltn : decide (i < m) = true := by simp; omega
   have hltz : decide ((i : Int) < (m : Int)) = true := by simp; omega
   have hltp : i < m := by omega
   have bW := HB.out.trans HQ.out.2.1
   obtain ⟨adr, eR, r0⟩ := Kd.at_int (Kd.C_below CR.out bW) (i : Int) (by omega) (by have := hml.out; omega)
   subst eR
   have hin : rd row i ∈ row := getD_mem _ _ _ (by have := hml.out; omega)
   have htr := HR.out _ hin
   have hsnoc := take_snoc row i 0 (by have := hml.out; omega)
   rw [show row.getD i 0 = rd row i by simp [rd]] at hsnoc
   generalize hq : rd row i = q at r0 htr hsnoc
   obtain ⟨adk2, eK2, z1⟩ := Kd.at_int (Kd.C_below CK.out bW) q htr.1 htr.2
   injection eK2 with eK2
   subst eK2
   have k1c := pw_cell_below bW G0.out.2.2.1
   generalize hy : rd kind q = y at z1
   have hqN : q < (N : Int) := by have := hNl.out; omega
   have hq0 := htr.1
   rw [Int.toNat_natCast] at r0
   rw [hNl.out] at k1c
   have HS := Aside0.mk (show (x :: (row.take (i + 1)).map (rd kind)) = (x :: (row.take i).map (rd kind)) ++ [y] by rw [hsnoc, List.map_append]; simp [hy])
   clear htr hsnoc hq hy hin bW
   have hbw : w0.heap.size ≤ wr.heap.size := by have := HQ.out.2.1.size; omega
   have htl : ((row.take i).map (rd kind)).length = i := by rw [List.length_map, List.length_take]; have := hml.out; omega
   obtain ⟨A1, c1, e1⟩ := Kd.R_slice HQ.out.1
   rw [List.length_cons, htl] at e1
   subst e1
   go_wp2_with (at_builtin; go_loud (refine Kd.R_append (Kd.int .i64) (w0 := w) w0.heap.size rfl (.tmp 26) (.tmp 31) 83 3 (.int .i64 0) 8 rfl Tryz.underlying83 info3 rfl (by decide) (by decide) (.slice A1 (i + 1) c1) (x :: (row.take i).map (rd kind)) y [.int .i64 y] (fun _ => True) (fun _ => False) rfl rfl rfl (fun _ hk => hk.elim) (fun _ _ => trivial) HQ.out.1.loose HQ.out.2.1 hbw ?hl2 ?_; (case hl2 => simp only [List.length_cons]; omega); intro v3 w3 hr1 hb1 hg1 hat1; have tr := KeyE_trans HQ.out.2.2.1 HQ.out.2.2.2 hg1 hat1; have Q3 := Aside0.mk (And.intro (Own1.flat (flatInt .i64) hr1) (And.intro hb1 tr)); rw [← HS.out] at Q3; clear hr1 hb1 hg1 hat1 tr k1c r0 z1 htl))
   go_roundg k1
   case measure => omega
   case rel => exact ⟨i + 1, by first | (rw [w64s i (by omega)]) | (simp; done), ⟨by omega⟩, Q3⟩
theorem own_litI (k : IntKind) (w : World) (xs : List Int) (e : Nat) (hl : xs.length ≤ 1000) : Own1 (Kd.int k) e w.heap.size (w.alloc (.cells (xs.map (Value.int k)).toArray e)) (.slice (some ⟨w.heap.size, 0, none⟩) xs.length xs.length) xs := by
 have h2 := World.ownsRow_lit (base := w.heap.size) (e := e) (size := 1) w (xs.map (Value.int k)).toArray xs.length (Nat.le_refl _) (by unfold maxLen; omega) (by simp)
 exact Kd.R_of_own (by simpa [encs] using h2) (fun _ hk => hk)
/-- A text of bytes. -/
def mkB (l : List UInt8) : ByteArray := ⟨l.toArray⟩
theorem mkB_beq (a b : List UInt8) : (mkB a == mkB b) = (a == b) := by
 rw [Bool.eq_iff_iff, MapKept.bytes_beq, beq_iff_eq]
 exact ⟨fun h => by have h2 := congrArg (fun x : ByteArray => x.data.toList) h; simpa [mkB] using h2, fun h => by rw [h]⟩
/-- The entries of some texts: each with its number. -/
def entB (i : Nat) (b : List UInt8) : MapEntry := { key := .string (mkB b), val := .int .i64 (i : Int), born := i }
def strEs (bs : List (List UInt8)) : Array MapEntry := (bs.mapIdx entB).toArray
def StrsIs (w : World) (mb : Nat) (bs : List (List UInt8)) : Prop := w.heap[mb]? = some (.map (strEs bs) bs.length)
theorem strEs_snoc (bs : List (List UInt8)) (b : List UInt8) : (strEs bs).push (entB bs.length b) = strEs (bs ++ [b]) := by
 simp [strEs, List.mapIdx_append]
theorem find_strs (s : List UInt8) : ∀ (es : List MapEntry) (bs : List (List UInt8)) (k : Nat), es.map (fun e => e.key) = bs.map (fun b => Value.string (mkB b)) → (s ∉ bs → Instr.findNow .string (.string (mkB s)) es k = some none) ∧ (∀ i, bs.Nodup → bs[i]? = some s → ∃ e, es[i]? = some e ∧ Instr.findNow .string (.string (mkB s)) es k = some (some (k + i, e.val)))
 | [], bs, k, h => by
  have hb : bs = [] := by simpa using h.symm
  subst hb
  exact ⟨fun _ => rfl, fun i _ hi => by simp at hi⟩
 | e :: es, bs, k, h => by
  cases bs with
  | nil => simp at h
  | cons b bs =>
   simp only [List.map_cons, List.cons.injEq] at h
   obtain ⟨h1, h2⟩ := h
   have ih := find_strs s es bs (k + 1) h2
   by_cases hs : s = b
   ·subst hs
    have hf : Instr.findNow .string (.string (mkB s)) (e :: es) k = some (some (k, e.val)) := by simp [Instr.findNow, Instr.sameNow, h1, mkB_beq]
    refine ⟨fun hn => absurd List.mem_cons_self hn, fun i hn hi => ?_⟩
    cases i with
    | zero => exact ⟨e, rfl, by simpa using hf⟩
    | succ i =>
     simp only [List.getElem?_cons_succ] at hi
     exact absurd (List.mem_of_getElem? hi) (List.nodup_cons.1 hn).1
   ·have hsb : (s == b) = false := beq_eq_false_iff_ne.2 hs
    have hf : Instr.findNow .string (.string (mkB s)) (e :: es) k = Instr.findNow .string (.string (mkB s)) es (k + 1) := by simp [Instr.findNow, Instr.sameNow, h1, mkB_beq, hsb]
    rw [hf]
    refine ⟨fun hn => ih.1 (fun hm => hn (List.mem_cons_of_mem _ hm)), fun i hn hi => ?_⟩
    cases i with
    | zero => simp at hi; exact absurd hi.symm hs
    | succ i =>
     simp only [List.getElem?_cons_succ] at hi
     obtain ⟨e2, he, hq⟩ := ih.2 i (List.nodup_cons.1 hn).2 hi
     exact ⟨e2, by simpa using he, by rw [hq, Nat.add_assoc, Nat.add_comm 1 i]⟩
theorem strEs_keys (bs : List (List UInt8)) : (strEs bs).toList.map (fun e => e.key) = bs.map (fun b => Value.string (mkB b)) := by
 simp only [strEs]
 apply List.ext_getElem?
 intro i
 simp only [List.getElem?_map, List.getElem?_mapIdx]
 cases bs[i]? <;> simp [entB]
theorem strs_no (bs : List (List UInt8)) (s : List UInt8) (h : s ∉ bs) : Instr.findNow .string (.string (mkB s)) (strEs bs).toList 0 = some none := (find_strs s _ bs 0 (strEs_keys bs)).1 h
theorem strs_yes (bs : List (List UInt8)) (s : List UInt8) (i : Nat) (hn : bs.Nodup) (h : bs[i]? = some s) : Instr.findNow .string (.string (mkB s)) (strEs bs).toList 0 = some (some (i, .int .i64 (i : Int))) := by
 obtain ⟨e, he, hq⟩ := (find_strs s _ bs 0 (strEs_keys bs)).2 i hn h
 rw [hq, Nat.zero_add]
 have he2 : (strEs bs).toList[i]? = some (entB i s) := by simp [strEs, List.getElem?_mapIdx, h]
 rw [he2] at he
 injection he with he
 rw [← he]
 rfl
/-- A key's bytes; numbers of texts, the same for one text. -/
def key4 (x : Int) : List Int := [x % 256, x / 256 % 256, x / 65536 % 256, x / 16777216 % 256]
def keyBs (ks : List Int) : List Int := ks.flatMap key4
def toU (xs : List Int) : List UInt8 := xs.map (fun n => UInt8.ofNat n.toNat)
def splitF : List (List UInt8) → List (List UInt8) → List Int → List Int
 | [], _, out => out
 | b :: r, seen, out => if b ∈ seen then splitF r seen (out ++ [(seen.idxOf b : Int)]) else splitF r (seen ++ [b]) (out ++ [(seen.length : Int)])
def keysF (f : Nat → List Int) (n : Nat) : List (List UInt8) := (List.range n).map (fun s => toU (keyBs (f s)))
theorem keyBs_append (a : List Int) (x : Int) : keyBs (a ++ [x]) = keyBs a ++ key4 x := by simp [keyBs]
theorem keyBs_len : ∀ l : List Int, (keyBs l).length = 4 * l.length
 | [] => rfl
 | x :: r => by
  have h := keyBs_len r
  simp only [keyBs, List.flatMap_cons, List.length_append, List.length_cons] at h ⊢
  simp only [key4, List.length_cons, List.length_nil]
  omega
set_option maxRecDepth 100000 in
theorem conv_own {base n c : Nat} {w : World} {A : Option Addr} {xs : List Int} (h : Own1 (Kd.int .u8) 5 base w (.slice A n c) xs) : (convert 22 9 (.slice A n c)).run Tryz.prog w = .ok (.string (mkB (toU xs))) w := by
 obtain ⟨hn, hc, hC⟩ := Own1.reads h
 obtain ⟨_, inner, ho, hr⟩ := h
 rcases ho.2 with ⟨e, he⟩ | ⟨g, cap, cur, e, _⟩
 ·injection e with e _ _
  subst e
  have hx : xs = [] := by
   cases xs with
   | nil => rfl
   | cons x r =>
    obtain ⟨ad, ea, _⟩ := Kd.at_int hC 0 (by omega) (by simp <;> omega)
    cases ea
  subst hx
  exact run_convert_bytes_nil w 22 5 Tryz.underlying22 Tryz.underlying5 n c 9 Tryz.underlying9
 ·injection e with e _ _
  subst e
  refine run_convert_bytes_arg w 22 5 Tryz.underlying22 Tryz.underlying5 g 0 n c xs hn.symm (fun i hi => ?_) 9 Tryz.underlying9
  obtain ⟨ad, ea, hz⟩ := Kd.at_int hC (i : Int) (by omega) (by omega)
  injection ea with ea
  subst ea
  rw [Int.toNat_natCast, add_plain] at hz
  rw [Nat.zero_add]
  exact hz
theorem len_strs (w : World) (mb : Nat) (bs : List (List UInt8)) (h : StrsIs w mb bs) : (Builtin.len_ #[231] 3 #[.map (some mb)]).run Tryz.prog w = .ok (.int .i64 (bs.length : Int)) w := by
 have e1 : (strEs bs).size = bs.length := by simp [strEs]
 simp [Builtin.len_, run_underlying Tryz.underlying231, MapKept.run_getObj_map h, goInt, Result.andThen, e1]
theorem split_store {B g b n i c : Nat} {w0 w : World} {v : Value} {ks outs : List Int} {seen : List (List UInt8)} (h7 : Own1 (Kd.int .i64) 3 B w v ks) (hN : v.ownBlock ≠ some b) (hm : StrsIs w g seen) (hR : Own1 (Kd.int .i64) 3 B w (.slice (some ⟨b, 0, none⟩) n c) (outs ++ List.replicate (n - i) 0)) (hl : outs.length = i) (hi : i < n) (hb : Below B w0 w) (x : Int) :
  Own1 (Kd.int .i64) 3 B (w.setCell ⟨b, i, none⟩ (.int .i64 x)) v ks ∧ StrsIs (w.setCell ⟨b, i, none⟩ (.int .i64 x)) g seen ∧ Own1 (Kd.int .i64) 3 B (w.setCell ⟨b, i, none⟩ (.int .i64 x)) (.slice (some ⟨b, 0, none⟩) n c) ((outs ++ [x]) ++ List.replicate (n - (i + 1)) 0) ∧ Below B w0 (w.setCell ⟨b, i, none⟩ (.int .i64 x)) := by
 obtain ⟨b', c', he, hg, _, cells, hc⟩ := Kd.R_form hR (by rw [List.length_append, List.length_replicate]; omega)
 injection he with he _ _
 injection he with he
 injection he with he _ _
 subst he
 have kz : KB w (w.setCell ⟨b, i, none⟩ (.int .i64 x)) b := kb_set (kb_refl _ _) i _
 have R16 := Kd.R_putn hR (i : Int) x
 rw [row_set outs n i x hl hi, Int.toNat_natCast] at R16
 refine ⟨Kd.R_step h7 (fun k hk hlt => ?_), kb_blk kz hm (fun he => by rw [StrsIs, he, hc] at hm; cases hm), Own1.flat (flatInt .i64) R16, hb.setCell (p := ⟨b, i, none⟩) hg _⟩
 exact kz.k.2 k hlt (fun he => hN (by rw [hk, he])) (by simp)
def SplitE (w0 : World) (res : List Int) (e : Ending) (w' : World) : Prop := ∃ v, e = .returned v ∧ Own1 (Kd.int .i64) 3 w0.heap.size w' v res ∧ Below w0.heap.size w0 w'
set_option maxHeartbeats 4000000 in
set_option maxRecDepth 100000 in
theorem split_calls (f n : Nat) (caps : Array Value) (keysL : Nat → List Int) (w0 : World) (hcall : ∀ (az : Array Value) (w : World), (callFunc f az).run Tryz.prog w = .ok (.enter f az) w) (hn : 1 ≤ n ∧ n ≤ 1000) (hk1 : ∀ s, s < n → (keysL s).length ≤ 1000)
  (hkey : ∀ (s : Nat) (w : World) (v : Value), s < n → Below w0.heap.size w0 w → Own1 (Kd.int .i64) 3 w0.heap.size w v [] → Calls Tryz.prog f (#[.int .i64 (s : Int), v] ++ caps) w fun e w' => KeyE w0.heap.size w v (keysL s) e w') :
  Calls Tryz.prog 68 #[.int .i64 (n : Int), .func (.func f) #[] caps] w0 fun e w' => SplitE w0 (splitF (keysF keysL n) [] []) e w' := by
 have HK := Aside0.mk hkey
 have HK1 := Aside0.mk hk1
 clear hkey hk1
 obtain ⟨g, hg⟩ : ∃ g, Aside0 (w0.heap.size = g) := ⟨_, ⟨rfl⟩⟩
 have m0 : ∀ w : World, (Instr.makeMap 231 none).run Tryz.prog w = .ok (.map (some w.heap.size)) (w.alloc (.map #[] 0)) := fun w => run_makeMap_plain (w := w) 231
 have kM := blk_new w0 (.map #[] 0)
 have bM := below_alloc (Below.refl w0.heap.size w0) (.map #[] 0)
 have hgM : w0.heap.size ≤ (w0.alloc (.map #[] 0)).heap.size := bM.size
 have KM := Aside0.mk (And.intro kM bM)
 clear kM bM
 go_enter Tryz.func68, Tryz.ntmps68
 go_wp2_with (at_make; refine Kd.R_make (Kd.int .i64) (w0 := w0) w0.heap.size 3 rfl (N := 16) rfl 83 (.tmp 15) (.tmp 15) rfl (n : Int) rfl rfl Tryz.underlying83 (.int .i64 0) 8 info3 rfl (by decide) (by decide) 0 (ok := fun _ => True) (okp := fun _ => True) ?hz (fun _ _ => trivial) trivial (by omega) (by omega) KM.out.2 hgM ?_; (case hz => rfl); intro v6 w1 hr1 hb1 hg1 hat1)
 obtain ⟨b6, c6, e6, b6a, b6b, _⟩ := Kd.R_form hr1 (by simp; omega)
 rw [List.length_replicate, Int.toNat_natCast] at e6
 subst e6
 have hb6 : w0.heap.size ≠ b6 := by obtain ⟨q, hq1, hq2⟩ := hat1; simp [Value.ownBlock] at hq1 hq2; omega
 have R1 : Aside0 (Own1 (Kd.int .i64) 3 w0.heap.size w1 (.slice (some ⟨b6, 0, none⟩) n c6) ([] ++ List.replicate (n - 0) 0)) := ⟨by rw [Int.toNat_natCast] at hr1; exact Own1.flat (flatInt .i64) hr1⟩
 have S1 : Aside0 (StrsIs w1 w0.heap.size [] ∧ ([] : List (List UInt8)).Nodup ∧ ([] : List (List UInt8)).length ≤ 0) := ⟨⟨(hg1.block _ (by simp) (by simp)).trans KM.out.1, by simp, by simp⟩⟩
 have B1 := Aside0.mk hb1
 obtain ⟨res, hres⟩ : ∃ res, Aside0 (splitF (keysF keysL n) [] [] = res) := ⟨_, ⟨rfl⟩⟩
 clear hr1 hb1 hg1 hat1 KM hgM m0
 go_loopg [7, 18] n (fun kq v7 v18 w' => ∃ (i : Nat) (ks : List Int) (seen : List (List UInt8)) (outs : List Int), v18 = .int .i64 (i : Int) ∧ Aside0 (i + kq = n) ∧ Aside0 (outs.length = i) ∧ Aside0 (splitF ((keysF keysL n).drop i) seen outs = res) ∧ Aside0 (Own1 (Kd.int .i64) 3 w0.heap.size w' v7 ks) ∧ Aside0 (StrsIs w' w0.heap.size seen ∧ seen.Nodup ∧ seen.length ≤ i) ∧ Aside0 (Own1 (Kd.int .i64) 3 w0.heap.size w' (.slice (some ⟨b6, 0, none⟩) n c6) (outs ++ List.replicate (n - i) 0)) ∧ Aside0 (v7.ownBlock ≠ some b6) ∧ Aside0 (Below w0.heap.size w0 w'))
 case atStart => exact ⟨0, [], [], [], rfl, ⟨by omega⟩, ⟨rfl⟩, ⟨by rw [List.drop_zero]; exact hres.out⟩, ⟨Own1.nil _ _ _ _⟩, S1, R1, ⟨by simp [Value.ownBlock]⟩, B1⟩
 case round =>
  obtain ⟨i, ks, seen, outs, rfl, HI, HL, HF, H7, HS, HR, HN, HB⟩ := hrel
  have hi := HI.out
  have hkl : (keysF keysL n).length = n := by simp [keysF]
  cases gk with
  | zero =>
   have hltn : decide (i < n) = false := by simp; omega
   have hltz : decide ((i : Int) < (n : Int)) = false := by simp; omega
   have hltp : ¬ (i < n) := by omega
   have hf := HF.out
   rw [List.drop_eq_nil_of_le (by omega)] at hf
   have hf : outs = res := hf
   have hr := HR.out
   rw [show n - i = 0 by omega, List.replicate_zero, List.append_nil, hf] at hr
   have HR2 := Aside0.mk hr
   clear hf hr
   go_wp2
   go_ret
   rw [hres.out]
   exact ⟨_, rfl, HR2.out, HB.out⟩
  | succ k1 =>
   have hltn : decide (i < n) = true := by simp; omega
   have hltz : decide ((i : Int) < (n : Int)) = true := by simp; omega
   have hltp : i < n := by omega
   have hf := HF.out
   rw [List.drop_eq_getElem_cons (show i < (keysF keysL n).length by omega), show (keysF keysL n)[i] = toU (keyBs (keysL i)) by simp [keysF]] at hf
   have HF2 := Aside0.mk hf
   have hkm := HK1.out i hltp
   obtain ⟨A7, c7, e7⟩ := Kd.R_slice H7.out
   subst e7
   have r7 := (Own1.reads H7.out).2.1
   obtain ⟨i3, hi3, _⟩ := Option.map_eq_some_iff.1 info3
   have hcut : ∀ W : World, (Instr.slice 83 (.slice A7 ks.length c7) none (some (.int .i64 0)) none).run Tryz.prog W = .ok (.slice A7 0 c7) W := cut_to (P := Tryz.prog) 83 3 .i64 Tryz.underlying83 hi3 A7 ks.length c7 0 (by omega) (by omega) r7
   have o7 : Aside0 (Own1 (Kd.int .i64) 3 w0.heap.size wr (.slice A7 0 c7) []) := ⟨by have h := Kd.R_take H7.out (m := 0) (Nat.zero_le _); exact Own1.flat (flatInt .i64) h⟩
   have n7 : Aside0 ((Value.slice A7 0 c7).ownBlock ≠ some b6) := ⟨by have h := HN.out; cases A7 with | none => simp [Value.ownBlock] | some a => exact h⟩
   clear hf HF hi3 r7
   go_wp2_with fail
   refine (HK.out i wr (.slice A7 0 c7) hltp HB.out o7.out).mono ?_
   rintro e w2 ⟨v2, rfl, hv2, hb2, hg2, hat2⟩
   obtain ⟨m, hm⟩ : ∃ m, Aside0 ((keysL i).length = m) := ⟨_, ⟨rfl⟩⟩
   obtain ⟨A2, c2, e2⟩ := Kd.R_slice hv2
   rw [hm.out] at e2 hkm
   subst e2
   have hb6w := Kd.R_lt HR.out b6 rfl
   have N2 : Aside0 ((Value.slice A2 m c2).ownBlock ≠ some b6) := ⟨fun he => by
    rcases hat2 with h | ⟨q, hq, hle⟩
    ·exact n7.out (h.symm.trans he)
    ·rw [hq] at he
     injection he with he
     omega⟩
   have Q2 := Aside0.mk (And.intro hv2 (And.intro (grown_map o7.out hg2 HS.out.1) (And.intro (HR.out.grown hg2 (fun k hk he => n7.out (he.trans hk.symm))) (HB.out.trans hb2))))
   have C2 := Aside0.mk (Own1.reads hv2).2.2
   clear hv2 hb2 hg2 hat2 hb6w hcut o7 n7 H7 HN HB HR hltz
   go_wp2_with fail
   go_loopg [9, 28] m (fun kq v9 v28 w' => ∃ j : Nat, v28 = .int .i64 (j : Int) ∧ Aside0 (j + kq = m) ∧ Aside0 (Own1 (Kd.int .u8) 5 w2.heap.size w' v9 (keyBs ((keysL i).take j)) ∧ Below w2.heap.size w2 w'))
   case atStart => exact ⟨0, rfl, ⟨by omega⟩, ⟨Own1.nil _ _ _ _, Below.refl _ _⟩⟩
   case round =>
    obtain ⟨j, rfl, HJ, HQ⟩ := hrel
    have hj := HJ.out
    have hkb : (keyBs ((keysL i).take j)).length = 4 * j := by rw [keyBs_len, List.length_take]; have := hm.out; omega
    obtain ⟨A9, c9, e9⟩ := Kd.R_slice HQ.out.1
    rw [hkb] at e9
    subst e9
    cases gk with
    | zero =>
     have hltn2 : decide (j < m) = false := by simp; omega
     have hltz2 : decide ((j : Int) < (m : Int)) = false := by simp; omega
     have hltp2 : ¬ (j < m) := by omega
     have htk : (keysL i).take j = keysL i := List.take_of_length_le (by have := hm.out; omega)
     rw [htk] at HQ
     have hcv := conv_own HQ.out.1
     obtain ⟨bs, hbs⟩ : ∃ bs, Aside0 (toU (keyBs (keysL i)) = bs) := ⟨_, ⟨rfl⟩⟩
     rw [hbs.out] at hcv HF2
     have M3 := Aside0.mk (And.intro (Q2.out.1.below HQ.out.2) (And.intro (blk_below Q2.out.2.1 HQ.out.2) (And.intro (Q2.out.2.2.1.below HQ.out.2) (Q2.out.2.2.2.trans (HQ.out.2.mono Q2.out.2.2.2.size)))))
     obtain ⟨cE, _, hME, hccE, hfE⟩ := Kd.R_elem M3.out.2.2.1 (0 : Int) (i : Int) (by omega) (by omega)
     have hME : cE = [.int .i64 ((outs ++ List.replicate (n - i) 0).getD (i : Int).toNat 0)] := hME
     subst hME
     have eE : (i : Int).toNat * (Kd.int .i64).sz + 0 = i := by rw [Int.toNat_natCast]; exact Nat.mul_one i
     have n0 := hccE 0 _ rfl
     rw [eE] at n0
     have n1 := hfE 0
     rw [eE] at n1
     clear hccE hfE hkm hkb hj
     by_cases hin : bs ∈ seen
     ·have hidx : seen[seen.idxOf bs]? = some bs := by
       rw [List.getElem?_eq_getElem (List.idxOf_lt_length_of_mem hin), List.getElem_idxOf]
      have hlk := lookup_str (P := Tryz.prog) (w := wr) Tryz.underlying231 Tryz.underlying9 M3.out.2.1 (strs_yes seen bs (seen.idxOf bs) HS.out.2.1 hidx)
      go_wp2_with fail
      simp only [splitF, if_pos hin] at HF2
      have Z := Aside0.mk (split_store M3.out.1 N2.out M3.out.2.1 M3.out.2.2.1 HL.out hltp M3.out.2.2.2 ((seen.idxOf bs : Nat) : Int))
      clear n0 n1 hlk hcv
      go_roundg k1
      case measure => omega
      case rel => exact ⟨i + 1, keysL i, seen, outs ++ [((seen.idxOf bs : Nat) : Int)], by first | (rw [w64s i (by omega)]) | (simp; done), ⟨by omega⟩, ⟨by rw [List.length_append, HL.out]; rfl⟩, HF2, ⟨Z.out.1⟩, ⟨Z.out.2.1, HS.out.2.1, by have := HS.out.2.2; omega⟩, ⟨Z.out.2.2.1⟩, N2, ⟨Z.out.2.2.2⟩⟩
     ·have hlk := lookup_str_none (P := Tryz.prog) (w := wr) (z := .int .i64 0) Tryz.underlying231 Tryz.underlying9 M3.out.2.1 (strs_no seen bs hin) rfl
      have hput := mapUpdate_new (P := Tryz.prog) (w := wr) 231 9 3 w0.heap.size seen.length (strEs seen) (mkB bs) (.int .i64 (seen.length : Int)) Tryz.underlying231 Tryz.underlying9 M3.out.2.1 (strs_no seen bs hin)
      have hlen := len_strs wr w0.heap.size seen M3.out.2.1
      have he : ((strEs seen).push { key := .string (mkB bs), val := .int .i64 (seen.length : Int), born := seen.length }) = strEs (seen ++ [bs]) := strEs_snoc seen bs
      rw [he, show seen.length + 1 = (seen ++ [bs]).length by simp] at hput
      have pm := M3.out.2.1
      have pA := M3.out.1.same (Same.putMap (o := .map (strEs (seen ++ [bs])) (seen ++ [bs]).length) pm)
      have pR := M3.out.2.2.1.same (Same.putMap (o := .map (strEs (seen ++ [bs])) (seen ++ [bs]).length) pm)
      have pB := below_putMap (o := .map (strEs (seen ++ [bs])) (seen ++ [bs]).length) M3.out.2.2.2 (Nat.le_refl _)
      have pQ : StrsIs (putMap wr w0.heap.size (.map (strEs (seen ++ [bs])) (seen ++ [bs]).length)) w0.heap.size (seen ++ [bs]) := putMap_at pm
      have p9 := HQ.out.1.same (Same.putMap (o := .map (strEs (seen ++ [bs])) (seen ++ [bs]).length) pm)
      have P4 := Aside0.mk (And.intro pA (And.intro pR (And.intro pB pQ)))
      clear pA pR pB pQ pm he
      generalize putMap wr w0.heap.size (.map (strEs (seen ++ [bs])) (seen ++ [bs]).length) = wm at hput P4 p9
      obtain ⟨cE, _, hME, hccE, hfE⟩ := Kd.R_elem P4.out.2.1 (0 : Int) (i : Int) (by omega) (by omega)
      have hME : cE = [.int .i64 ((outs ++ List.replicate (n - i) 0).getD (i : Int).toNat 0)] := hME
      subst hME
      have m0 := hccE 0 _ rfl
      rw [eE] at m0
      have m1 := hfE 0
      rw [eE] at m1
      clear hccE hfE n0 n1 p9
      go_wp2_with fail
      simp only [splitF, if_neg hin] at HF2
      have Z := Aside0.mk (split_store P4.out.1 N2.out P4.out.2.2.2 P4.out.2.1 HL.out hltp P4.out.2.2.1 (seen.length : Int))
      have nd : (seen ++ [bs]).Nodup := List.nodup_append.2 ⟨HS.out.2.1, by simp, fun a ha b hb => by rw [List.mem_singleton.1 hb]; intro he; subst he; exact hin ha⟩
      have ND := Aside0.mk nd
      clear m0 m1 hlk hcv hput hlen nd
      go_roundg k1
      case measure => omega
      case rel => exact ⟨i + 1, keysL i, seen ++ [bs], outs ++ [(seen.length : Int)], by first | (rw [w64s i (by omega)]) | (simp; done), ⟨by omega⟩, ⟨by rw [List.length_append, HL.out]; rfl⟩, HF2, ⟨Z.out.1⟩, ⟨Z.out.2.1, ND.out, by have := HS.out.2.2; rw [List.length_append]; simp; omega⟩, ⟨Z.out.2.2.1⟩, N2, ⟨Z.out.2.2.2⟩⟩
    | succ k2 =>
     have hltn2 : decide (j < m) = true := by simp; omega
     have hltz2 : decide ((j : Int) < (m : Int)) = true := by simp; omega
     have hltp2 : j < m := by omega
     obtain ⟨ad, ea, z0⟩ := Kd.at_int (Kd.C_below C2.out HQ.out.2) (j : Int) (by omega) (by have := hm.out; omega)
     subst ea
     rw [Int.toNat_natCast] at z0
     have hsn := take_snoc (keysL i) j 0 (by have := hm.out; omega)
     rw [show (keysL i).getD j 0 = rd (keysL i) j by simp [rd]] at hsn
     generalize rd (keysL i) j = x at z0 hsn
     have HSN := Aside0.mk (show keyBs ((keysL i).take (j + 1)) = keyBs ((keysL i).take j) ++ key4 x by rw [hsn, keyBs_append])
     clear hsn
     have lit := own_litI .u8 wr (key4 x) 5 (by simp [key4])
     have ba := below_alloc (Below.refl wr.heap.size wr) (.cells ((key4 x).map (Value.int .u8)).toArray 5)
     have hs9 : w2.heap.size ≤ wr.heap.size := HQ.out.2.size
     have LW := Aside0.mk (And.intro (HQ.out.1.same (Same.of_low ba)) (And.intro (Own1.reads lit).2.2 (HQ.out.2.trans (ba.mono hs9))))
     have hsa : w2.heap.size ≤ (wr.alloc (.cells ((key4 x).map (Value.int .u8)).toArray 5)).heap.size := LW.out.2.2.size
     clear lit ba
     go_wp2_with (at_builtin; go_loud (refine Kd.R_append_rows (Kd.int .u8) (w0 := w2) w2.heap.size rfl (.tmp 32) (.tmp 44) 22 5 (.int .u8 0) 1 rfl Tryz.underlying22 info5 rfl (by decide) (by decide) (.slice A9 (4 * j) c9) (keyBs ((keysL i).take j)) (key4 x) (some ⟨wr.heap.size, 0, none⟩) 4 4 (fun _ => True) (fun _ => False) rfl rfl LW.out.1.loose LW.out.2.1 (fun _ _ hk => hk) (fun _ hk => hk.elim) (fun _ _ => trivial) LW.out.2.2 hsa ?hl2 ?_; (case hl2 => rw [hkb]; omega); intro v10 w10 hr1 hb1 hg1 hat1; have Q10 := Aside0.mk (And.intro (Own1.flat (flatInt .u8) hr1) hb1); rw [← HSN.out] at Q10; clear hr1 hb1 hg1 hat1))
     go_roundg k2
     case measure => omega
     case rel => exact ⟨j + 1, by first | (rw [w64s j (by omega)]) | (simp; done), ⟨by omega⟩, Q10⟩
end Go.Proofs.YtkeccgkicffieaaGreatDoor.PTopWider
