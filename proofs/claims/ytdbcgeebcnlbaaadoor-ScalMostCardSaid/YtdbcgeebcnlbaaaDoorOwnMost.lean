/- The walk of the statement ScalMost: it answers true. Conditions: bytes that can be read; the two tables of the library hold what its text lays. -/
import Derived.Test.YtdbcgeebcnlbaaaDoorPlainMost
import Derived.Test.YtdbcgeebcnlbaaaDoorOwnX
import Derived.Test.YtdbcgeebcnlbaaaDoorOwnB
import Derived.Outline
namespace Go.Proofs.YtdbcgeebcnlbaaaDoor.PScalMost
open Go.RowKit Go.Proofs.YtdbcgeebcnlbaaaDoorW.PrintWords Go.Proofs.YtdbcgeebcnlbaaaDoorW.PrintLast Go.Proofs.YtdbcgeebcnlbaaaDoorW.PrintMore
open Go.Proofs.YtdbcgeebcnlbaaaDoor.Plain (Bytes one sg place width all_f sign_at one_len byte_nat place_length width_sg sg_length_le beg begins_f Short Fine one_fine)
set_option linter.unusedVariables false
set_option linter.unusedSimpArgs false

theorem byte_in (l : List Int) (hb : Bytes l) (j : Nat) : ∃ x : Nat, x < 256 ∧ (∀ y : Int, l[j]? = some y → y = x) ∧ (j < l.length → l.getD j 0 = x) := by
  by_cases hj : j < l.length
  · obtain ⟨x, hx, hx1⟩ := byte_nat (hb l[j] (List.getElem_mem hj))
    refine ⟨x, hx1, fun y hy => ?_, fun _ => ?_⟩
    · rw [List.getElem?_eq_getElem hj] at hy
      injection hy with hy
      rw [← hy, hx]
    · rw [List.getD_eq_getElem?_getD, List.getElem?_eq_getElem hj, Option.getD_some, hx]
  · refine ⟨0, by omega, fun y hy => ?_, fun h => absurd h hj⟩
    rw [List.getElem?_eq_none (by omega)] at hy
    cases hy

theorem full_calls (A : Option Addr) (c : Nat) (x : List Int) (m : Nat) (w : World) (hm : x.length = m) (hC : Kd.C (Kd.int .u8) w A x.length x) (hne : x ≠ []) (hb : Bytes x) (hT : Lib.Utf8Tabs 0 1 w) :
    Calls Tryd.prog 8 #[.slice A m c] w fun e w' => RetB w e w' := by
  subst hm
  obtain ⟨x0, l0, e0, f0⟩ := byte_in x hb 0
  obtain ⟨x1, l1, e1, f1⟩ := byte_in x hb 1
  obtain ⟨x2, l2, e2, f2⟩ := byte_in x hb 2
  have hpos : 0 < x.length := List.length_pos_iff.2 hne
  obtain ⟨ad, rfl, hcell⟩ := (Kd.reads_of_C hC).2.2 hpos
  obtain ⟨b, off, sp⟩ := ad
  have c0 := hcell 0 hpos
  rw [f0 hpos] at c0
  have c1 : 1 < x.length → w.cell? ⟨b, off + 1, none⟩ = some (.int .u8 x1) := fun h => by have := hcell 1 h; rw [f1 h] at this; exact this
  have c2 : 2 < x.length → w.cell? ⟨b, off + 2, none⟩ = some (.int .u8 x2) := fun h => by have := hcell 2 h; rw [f2 h] at this; exact this
  exact full_walk x.length b off c x0 x1 x2 sp w hT l0 l1 l2 hpos c0 c1 c2

theorem valid_calls (A : Option Addr) (c c0 n : Nat) (t y : List Int) (w : World) (hy : y = ((c0 : Int) :: t).take n) (hn : 1 ≤ n) (hn1 : y.length = n) (hcap : n ≤ c) (hC : Kd.C (Kd.int .u8) w A y.length y) (h0 : 128 ≤ c0) (h1 : c0 < 256) (hs : Short c0 n t) (hT : Lib.Utf8Tabs 0 1 w) :
    Calls Tryd.prog 9 #[.slice A n c] w fun e w' => RetB w e w' := by
  have hpos : 0 < y.length := by omega
  obtain ⟨ad, rfl, hcell⟩ := (Kd.reads_of_C hC).2.2 hpos
  obtain ⟨b, off, sp⟩ := ad
  have k0 := hcell 0 hpos
  have e0 : y.getD 0 0 = (c0 : Int) := by
    rw [hy]
    obtain ⟨n, rfl⟩ : ∃ m, n = m + 1 := ⟨n - 1, by omega⟩
    simp
  rw [e0] at k0
  have ha : ¬ (c0 : Int) < 128 := by omega
  cases hs with
  | bad h => exact valid_241 n b off c c0 sp w hT h1 hn hcap k0 h ha
  | two h g => exact valid_2 n b off c c0 sp w hT h1 hn hcap k0 h ha g
  | e0 h g => exact valid_19 n b off c c0 sp w hT h1 hn hcap k0 h ha g
  | three h g => exact valid_3 n b off c c0 sp w hT h1 hn hcap k0 h ha g
  | ed h g => exact valid_35 n b off c c0 sp w hT h1 hn hcap k0 h ha g
  | f0 h g => exact valid_52 n b off c c0 sp w hT h1 hn hcap k0 h ha g
  | four h g => exact valid_4 n b off c c0 sp w hT h1 hn hcap k0 h ha g
  | f4 h g => exact valid_68 n b off c c0 sp w hT h1 hn hcap k0 h ha g
  | whole h g e1 e2 =>
    subst h
    subst g
    have k1 := hcell 1 (by omega)
    have k2 := hcell 2 (by omega)
    have d1 : y.getD 1 0 = 191 := by rw [hy]; simp [List.getD_eq_getElem?_getD, e1]
    have d2 : y.getD 2 0 = 189 := by rw [hy]; simp [List.getD_eq_getElem?_getD, e2]
    rw [d1] at k1
    rw [d2] at k2
    exact valid_bad b off c sp w hT hcap k0 k1 k2

theorem begins_calls (A : Option Addr) (c n : Nat) (y : List Int) (r : Bool) (w : World) (hn : y.length = n) (hn1 : y ≠ []) (hl : n < 1000000) (hcap : n ≤ c) (hC : Kd.C (Kd.int .u8) w A y.length y) (hr : beg y = r) :
    Calls Tryd.prog 10 #[.slice A n c] w fun e w' => e = .returned (.bool r) ∧ Below w.heap.size w w' := by
  subst hn
  subst hr
  refine (stanzaref01_Begins.calls (y.length + 5) A c y _ w hC hcap (begins_f y (by omega) hn1 (y.length + 5) (Nat.le_refl _))).mono ?_
  rintro e w' ⟨rfl, hd⟩
  exact ⟨rfl, by obtain ⟨m, rfl⟩ := hd; exact pw_below_drewN (Below.refl _ _) m⟩
theorem box3m {w w1 : World} (x y z : Value) (h : Below (w.alloc (.cells #[x, y, z] 27)).heap.size (w.alloc (.cells #[x, y, z] 27)) w1) :
    w1.cell? ⟨w.heap.size, 0, none⟩ = some x ∧ w1.cell? ⟨w.heap.size, 1, none⟩ = some y ∧ w1.cell? ⟨w.heap.size, 2, none⟩ = some z :=
  ⟨pw_cell_below h (World.cell?_alloc_mark w #[x, y, z] 27 (0, 0) 0), pw_cell_below h (World.cell?_alloc_mark w #[x, y, z] 27 (0, 0) 1), pw_cell_below h (World.cell?_alloc_mark w #[x, y, z] 27 (0, 0) 2)⟩
theorem cells3_on {w w1 : World} {g : Nat} {x y z : Value} (hb : Below w.heap.size w w1) (h : w.cell? ⟨g, 0, none⟩ = some x ∧ w.cell? ⟨g, 1, none⟩ = some y ∧ w.cell? ⟨g, 2, none⟩ = some z) :
    w1.cell? ⟨g, 0, none⟩ = some x ∧ w1.cell? ⟨g, 1, none⟩ = some y ∧ w1.cell? ⟨g, 2, none⟩ = some z := ⟨pw_cell_below hb h.1, pw_cell_below hb h.2.1, pw_cell_below hb h.2.2⟩

set_option maxHeartbeats 8000000 in
set_option maxRecDepth 100000 in
theorem most_calls (A : Option Addr) (c : Nat) (l : List Int) (w : World) (hC : Kd.C (Kd.int .u8) w A l.length l) (hc : l.length ≤ c) (hb : Bytes l) (hT : Lib.Utf8Tabs 0 1 w) :
    Calls Tryd.prog 4 #[.slice A l.length c] w fun e w' => e = .returned (.bool true) ∧ Below w.heap.size w w' := by
  by_cases g1 : 3000 < l.length
  · go_enter Tryd.func4, Tryd.ntmps4
    go_wp2_with fail
    refine (awake_calls _).mono ?_
    rintro e w1 ⟨rfl, hb1⟩
    go_wp2
    go_ret
    exact ⟨rfl, hb1⟩
  have hall := all_f l hb (by omega) (l.length + 10) (Nat.le_refl _)
  have HBb := Aside0.mk hC
  have HT := Aside0.mk hT
  have HBy := Aside0.mk hb
  clear hC hT hb
  go_enter Tryd.func4, Tryd.ntmps4
  go_wp2_with fail
  refine (awake_calls _).mono ?_
  rintro e w1 ⟨rfl, hb1⟩
  go_wp2_with fail
  refine (scal_All.calls (l.length + 10) A c l _ w1 (Kd.C_below HBb.out hb1) hc hall).mono ?_
  rintro e w2 ⟨v, rfl, hR, hb2⟩
  obtain ⟨AS, cS, rfl⟩ := Kd.R_slice hR
  have hlen : (place 0 (sg l)).length = (sg l).length := place_length 0 (sg l)
  have HS := Aside0.mk (Kd.R_reads' hR).2.2
  have hb02 := below_step hb1 hb2
  rw [hlen]
  have hsl := sg_length_le l.length l (Nat.le_refl _)
  clear hR hall
  go_wp2
  go_loopg [14] (sg l).length (fun kq v14 w' => ∃ x : Int, v14 = .int .i64 x ∧ Aside0 (0 ≤ x ∧ x + kq = (sg l).length) ∧ Aside0 (Below w2.heap.size w2 w'))
  case atStart => exact ⟨0, rfl, ⟨by omega⟩, ⟨Below.refl _ _⟩⟩
  case round =>
    obtain ⟨x, rfl, HK, HB⟩ := hrel
    have hk := HK.out
    cases gk with
    | zero =>
      go_wp2
      go_ret
      exact ⟨by simp, below_step hb02 HB.out⟩
    | succ k1 =>
      obtain ⟨i, hxi⟩ := Int.eq_ofNat_of_zero_le hk.1
      have hi : i < (sg l).length := by omega
      obtain ⟨hS, hp0, hp1, _⟩ := sign_at l i hi _ rfl
      generalize width ((sg l).take i) = p at hS hp0 hp1
      have hne : l.drop p.toNat ≠ [] := by
        intro h
        have := congrArg List.length h
        rw [List.length_drop, List.length_nil] at this
        omega
      have h1 := one_len hne
      have hld := List.length_drop (l := l) (i := p.toNat)
      have hx : Bytes (l.drop p.toNat) := fun y hy => HBy.out y (List.mem_of_mem_drop hy)
      obtain ⟨ad, ea, z0, z1, z2⟩ := at_T27 (Kd.C_below HS.out HB.out) x (by omega) (by rw [hlen]; omega)
      subst ea
      rw [show rd_T27 (place 0 (sg l)) x = _ from hxi ▸ hS] at z0 z1 z2
      have hil : wrap64 (x + 1) = x + 1 := by unfold wrap64; omega
      have HXI := Aside0.mk hxi
      clear hxi
      have HB3 := Aside0.mk (below_step hb02 HB.out)
      by_cases hR : (one (l.drop p.toNat)).1 = 65533
      · skip
        obtain ⟨L, hone⟩ : ∃ L, one (l.drop p.toNat) = (65533, L) := ⟨(one (l.drop p.toNat)).2, by rw [← hR]⟩
        have hbt := hx
        rw [hone] at z0 z2 h1
        simp only [] at z0 z2 h1
        obtain ⟨y, t, hyt⟩ : ∃ y t, l.drop p.toNat = y :: t := List.exists_cons_of_ne_nil hne
        rw [hyt] at hone hbt hld h1
        obtain ⟨x0, rfl, hx0⟩ := byte_nat (hbt y (List.mem_cons_self ..))
        obtain ⟨h128, hL1, hL3, hBeg, hNot, hShort⟩ := one_fine x0 hx0 t (fun z hz => hbt z (List.mem_cons_of_mem _ hz)) L hone
        rw [List.length_cons] at hld h1
        have hNot : p + L < (l.length : Int) → beg ((((x0 : Nat) : Int) :: t).take (L.toNat + 1)) = false := fun h => hNot (by omega)
        obtain ⟨i1, hi1, _, hsz1, _⟩ := info_parts info5
        obtain ⟨A2, hcut2, hA2, _⟩ := print_drop_of (P := Tryd.prog) (Value.int .u8) 0 22 5 .i64 Tryd.underlying22 hi1 hsz1 A c l p hp0 (by omega) hc
        obtain ⟨A3, hcut3, hA3, hK3⟩ := print_mid_of (P := Tryd.prog) (Value.int .u8) 0 22 5 .i64 .i64 Tryd.underlying22 hi1 hsz1 A c l p (p + L) hp0 (by omega) (by omega) hc
        have e3 : (l.take (p + L).toNat).drop p.toNat = (((x0 : Nat) : Int) :: t).take L.toNat := by rw [List.drop_take, hyt]; congr 1; omega
        have n3 : ((((x0 : Nat) : Int) :: t).take L.toNat).length = L.toNat := by rw [List.length_take, List.length_cons]; omega
        rw [e3] at hcut3 hA3 hK3
        rw [n3] at hcut3 hK3
        rw [hyt, List.length_cons, hld] at hcut2
        have HCUT4 : ∃ A4 : Option Addr, Aside0 (p + L < (l.length : Int) → ∀ W : World, (Instr.slice 22 (.slice A l.length c) (some (.int .i64 p)) (some (.int .i64 (p + L + 1))) none).run Tryd.prog W = .ok (.slice A4 (L.toNat + 1) (c - p.toNat)) W) ∧ Aside0 (p + L < (l.length : Int) → ∀ W : World, Below w.heap.size w W → Kd.C (Kd.int .u8) W A4 ((((x0 : Nat) : Int) :: t).take (L.toNat + 1)).length ((((x0 : Nat) : Int) :: t).take (L.toNat + 1))) ∧ Aside0 (p + L < (l.length : Int) → ((((x0 : Nat) : Int) :: t).take (L.toNat + 1)).length = L.toNat + 1) := by
          by_cases hE : p + L < (l.length : Int)
          · obtain ⟨A4, hcut4, hA4, hK4⟩ := print_mid_of (P := Tryd.prog) (Value.int .u8) 0 22 5 .i64 .i64 Tryd.underlying22 hi1 hsz1 A c l p (p + L + 1) hp0 (by omega) (by omega) hc
            have e4 : (l.take (p + L + 1).toNat).drop p.toNat = (((x0 : Nat) : Int) :: t).take (L.toNat + 1) := by rw [List.drop_take, hyt]; congr 1; omega
            have n4 : ((((x0 : Nat) : Int) :: t).take (L.toNat + 1)).length = L.toNat + 1 := by rw [List.length_take, List.length_cons]; omega
            rw [e4] at hcut4 hA4
            rw [n4] at hcut4
            exact ⟨A4, ⟨fun _ => hcut4⟩, ⟨fun _ W h => Kd.C_of_reads (h1 := fun _ => rfl) (hA4 _ (Kd.reads_of_C (Kd.C_below HBb.out h)))⟩, ⟨fun _ => n4⟩⟩
          · exact ⟨none, ⟨fun h => absurd h hE⟩, ⟨fun h => absurd h hE⟩, ⟨fun h => absurd h hE⟩⟩
        obtain ⟨A4, HCUT4, HC4, HL4⟩ := HCUT4
        have HX2 := Aside0.mk (fun (W : World) (h : Below w.heap.size w W) (hT : Lib.Utf8Tabs 0 1 W) => full_calls A2 (c - p.toNat) (l.drop p.toNat) (l.length - p.toNat) W List.length_drop (Kd.C_of_reads (h1 := fun _ => rfl) (hA2 _ (Kd.reads_of_C (Kd.C_below HBb.out h)))) hne hx hT)
        have HC3 := Aside0.mk (fun (W : World) (h : Below w.heap.size w W) => Kd.C_of_reads (h1 := fun _ => rfl) (hA3 _ (Kd.reads_of_C (Kd.C_below HBb.out h))))
        have HL3 := Aside0.mk n3
        obtain ⟨Y3, hY3⟩ : ∃ Y, Y = (((x0 : Nat) : Int) :: t).take L.toNat := ⟨_, rfl⟩
        obtain ⟨Y4, hY4⟩ : ∃ Y, Y = (((x0 : Nat) : Int) :: t).take (L.toNat + 1) := ⟨_, rfl⟩
        have HN3 : Aside0 (Y3 ≠ []) := ⟨by intro h; rw [hY3] at h; rw [h] at n3; simp at n3; omega⟩
        have HN4 : Aside0 (p + L < (l.length : Int) → Y4 ≠ []) := ⟨fun hE h => by have n4 := HL4.out hE; rw [hY4] at h; rw [h] at n4; simp at n4⟩
        rw [← hY3] at HC3 HL3
        rw [← hY4] at HC4 HL4
        rw [← hY3] at hBeg
        rw [← hY4] at hNot
        have HV := Aside0.mk (fun (W : World) (h : Below w.heap.size w W) (hT : Lib.Utf8Tabs 0 1 W) => valid_calls A3 (c - p.toNat) x0 L.toNat t Y3 W hY3 (by omega) HL3.out (by omega) (HC3.out W h) h128 hx0 hShort hT)
        have hpl : wrap64 (p + L) = p + L := by unfold wrap64; omega
        have hpl1 : wrap64 (p + L + 1) = p + L + 1 := by unfold wrap64; omega
        clear hS hne hx hR hone hbt hyt hA2 hA3 e3 n3 hi1 hsz1 hShort hY3 hY4 hld
        go_wp2_with fail
        refine (HX2.out _ (below_alloc HB3.out _) (Utf8Tabs_below HT.out (below_alloc HB3.out _))).mono ?_
        rintro e w4 ⟨r1, rfl, hb4⟩
        obtain ⟨y0, y1, y2⟩ := box3m _ _ _ hb4
        have HB4 := Aside0.mk (below_step (below_alloc HB.out _) hb4)
        clear z0 z1 z2 hb4 HX2 HB HB3
        cases r1 with
        | false =>
          by_cases hL : 1 < L
          · skip
            go_wp2_with fail
            refine (begins_calls A3 _ _ Y3 true _ HL3.out HN3.out (by omega) (by omega) (HC3.out _ (below_step hb02 HB4.out)) (hBeg hL)).mono ?_
            rintro e w6 ⟨rfl, hb_⟩
            obtain ⟨y0, y1, y2⟩ := cells3_on hb_ ⟨y0, y1, y2⟩
            have HB6 := Aside0.mk (below_step HB4.out hb_)
            clear hb_
            by_cases hE : p + L < (l.length : Int)
            · have hcut4 := HCUT4.out hE
              go_wp2_with fail
              refine (begins_calls A4 _ _ Y4 false _ (HL4.out hE) (HN4.out hE) (by omega) (by omega) (HC4.out hE _ (below_step hb02 HB6.out)) (hNot hE)).mono ?_
              rintro e w7 ⟨rfl, hb_⟩
              obtain ⟨y0, y1, y2⟩ := cells3_on hb_ ⟨y0, y1, y2⟩
              have HB7 := Aside0.mk (below_step HB6.out hb_)
              clear hb_
              go_wp2
              go_roundg k1
              case measure => omega
              case rel => exact ⟨x + 1, by first | rfl | (rw [hil]), ⟨by omega⟩, ⟨by have := HB7.out; repeat (first | exact this | apply below_alloc)⟩⟩
            · skip
              go_wp2
              go_roundg k1
              case measure => omega
              case rel => exact ⟨x + 1, by first | rfl | (rw [hil]), ⟨by omega⟩, ⟨by have := HB6.out; repeat (first | exact this | apply below_alloc)⟩⟩
          · by_cases hE : p + L < (l.length : Int)
            · have hcut4 := HCUT4.out hE
              go_wp2_with fail
              refine (begins_calls A4 _ _ Y4 false _ (HL4.out hE) (HN4.out hE) (by omega) (by omega) (HC4.out hE _ (below_step hb02 HB4.out)) (hNot hE)).mono ?_
              rintro e w7 ⟨rfl, hb_⟩
              obtain ⟨y0, y1, y2⟩ := cells3_on hb_ ⟨y0, y1, y2⟩
              have HB7 := Aside0.mk (below_step HB4.out hb_)
              clear hb_
              go_wp2
              go_roundg k1
              case measure => omega
              case rel => exact ⟨x + 1, by first | rfl | (rw [hil]), ⟨by omega⟩, ⟨by have := HB7.out; repeat (first | exact this | apply below_alloc)⟩⟩
            · skip
              go_wp2
              go_roundg k1
              case measure => omega
              case rel => exact ⟨x + 1, by first | rfl | (rw [hil]), ⟨by omega⟩, ⟨by have := HB4.out; repeat (first | exact this | apply below_alloc)⟩⟩
        | true =>
          go_wp2_with fail
          refine (HV.out _ (below_step hb02 HB4.out) (Utf8Tabs_below HT.out (below_step hb02 HB4.out))).mono ?_
          rintro e w5 ⟨r2, rfl, hb5⟩
          obtain ⟨y0, y1, y2⟩ := cells3_on hb5 ⟨y0, y1, y2⟩
          have HB5 := Aside0.mk (below_step HB4.out hb5)
          clear hb5
          cases r2 with
          | true =>
            go_wp2
            go_roundg k1
            case measure => omega
            case rel => exact ⟨x + 1, by first | rfl | (rw [hil]), ⟨by omega⟩, ⟨by have := HB5.out; repeat (first | exact this | apply below_alloc)⟩⟩
          | false =>
            by_cases hL : 1 < L
            · skip
              go_wp2_with fail
              refine (begins_calls A3 _ _ Y3 true _ HL3.out HN3.out (by omega) (by omega) (HC3.out _ (below_step hb02 HB5.out)) (hBeg hL)).mono ?_
              rintro e w6 ⟨rfl, hb_⟩
              obtain ⟨y0, y1, y2⟩ := cells3_on hb_ ⟨y0, y1, y2⟩
              have HB6 := Aside0.mk (below_step HB5.out hb_)
              clear hb_
              by_cases hE : p + L < (l.length : Int)
              · have hcut4 := HCUT4.out hE
                go_wp2_with fail
                refine (begins_calls A4 _ _ Y4 false _ (HL4.out hE) (HN4.out hE) (by omega) (by omega) (HC4.out hE _ (below_step hb02 HB6.out)) (hNot hE)).mono ?_
                rintro e w7 ⟨rfl, hb_⟩
                obtain ⟨y0, y1, y2⟩ := cells3_on hb_ ⟨y0, y1, y2⟩
                have HB7 := Aside0.mk (below_step HB6.out hb_)
                clear hb_
                go_wp2
                go_roundg k1
                case measure => omega
                case rel => exact ⟨x + 1, by first | rfl | (rw [hil]), ⟨by omega⟩, ⟨by have := HB7.out; repeat (first | exact this | apply below_alloc)⟩⟩
              · skip
                go_wp2
                go_roundg k1
                case measure => omega
                case rel => exact ⟨x + 1, by first | rfl | (rw [hil]), ⟨by omega⟩, ⟨by have := HB6.out; repeat (first | exact this | apply below_alloc)⟩⟩
            · by_cases hE : p + L < (l.length : Int)
              · have hcut4 := HCUT4.out hE
                go_wp2_with fail
                refine (begins_calls A4 _ _ Y4 false _ (HL4.out hE) (HN4.out hE) (by omega) (by omega) (HC4.out hE _ (below_step hb02 HB5.out)) (hNot hE)).mono ?_
                rintro e w7 ⟨rfl, hb_⟩
                obtain ⟨y0, y1, y2⟩ := cells3_on hb_ ⟨y0, y1, y2⟩
                have HB7 := Aside0.mk (below_step HB5.out hb_)
                clear hb_
                go_wp2
                go_roundg k1
                case measure => omega
                case rel => exact ⟨x + 1, by first | rfl | (rw [hil]), ⟨by omega⟩, ⟨by have := HB7.out; repeat (first | exact this | apply below_alloc)⟩⟩
              · skip
                go_wp2
                go_roundg k1
                case measure => omega
                case rel => exact ⟨x + 1, by first | rfl | (rw [hil]), ⟨by omega⟩, ⟨by have := HB5.out; repeat (first | exact this | apply below_alloc)⟩⟩
      · have hR' : ((one (l.drop p.toNat)).1 != 65533) = true := by simpa using hR
        generalize (one (l.drop p.toNat)).1 = R at hR hR' z0
        generalize (one (l.drop p.toNat)).2 = L at z2 h1
        clear hS hne hx
        go_wp2
        go_roundg k1
        case measure => omega
        case rel => exact ⟨x + 1, by first | rfl | (rw [hil]), ⟨by omega⟩, ⟨by have := HB.out; repeat (first | exact this | apply below_alloc)⟩⟩
end Go.Proofs.YtdbcgeebcnlbaaaDoor.PScalMost
