/- The walk of the statement ScalWhole: it answers true. Conditions: bytes that can be read; the two tables of the library hold what its text lays. -/
import Derived.Test.YtdbcgeebcnlbaaaDoorPlainWhole
import Derived.Test.YtdbcgeebcnlbaaaDoorOwnA
import Derived.Outline
namespace Go.Proofs.YtdbcgeebcnlbaaaDoor.PScalMost
open Go.RowKit Go.Proofs.YtdbcgeebcnlbaaaDoorW.PrintWords Go.Proofs.YtdbcgeebcnlbaaaDoorW.PrintLast Go.Proofs.YtdbcgeebcnlbaaaDoorW.PrintMore
open Go.Proofs.YtdbcgeebcnlbaaaDoor.Plain (Bytes one sg place width all_f sign_at one_len one_agree byte_nat Agree place_length width_sg sg_length_le)
set_option linter.unusedVariables false
set_option linter.unusedSimpArgs false

theorem byte_at (l : List Int) (hb : Bytes l) (j : Nat) : ∃ x : Nat, x < 256 ∧ (∀ y : Int, l[j]? = some y → y = x) ∧ (j < l.length → l.getD j 0 = x) := by
  by_cases hj : j < l.length
  · obtain ⟨x, hx, hx1⟩ := byte_nat (hb l[j] (List.getElem_mem hj))
    refine ⟨x, hx1, fun y hy => ?_, fun _ => ?_⟩
    · rw [List.getElem?_eq_getElem hj] at hy
      injection hy with hy
      rw [← hy, hx]
    · rw [List.getD_eq_getElem?_getD, List.getElem?_eq_getElem hj, Option.getD_some, hx]
  · refine ⟨0, by omega, fun y hy => ?_, fun h => absurd h hj⟩
    rw [List.getElem?_eq_none (by omega)] at hy
    cases hy

/-- DecodeRune at a row of bytes that is not empty, against the sign there. -/
theorem dec_calls (A : Option Addr) (c : Nat) (x : List Int) (w : World) (hC : Kd.C (Kd.int .u8) w A x.length x) (hne : x ≠ []) (hb : Bytes x) (hT : Lib.Utf8Tabs 0 1 w) :
    Calls Tryd.prog 7 #[.slice A x.length c] w fun e w' => ∃ r n : Nat, e = .returned (.tuple #[.int .i32 r, .int .i64 n]) ∧ Agree (one x).1 (one x).2 (r, n) ∧ Below w.heap.size w w' := by
  obtain ⟨x0, l0, e0, f0⟩ := byte_at x hb 0
  obtain ⟨x1, l1, e1, f1⟩ := byte_at x hb 1
  obtain ⟨x2, l2, e2, f2⟩ := byte_at x hb 2
  obtain ⟨x3, l3, e3, f3⟩ := byte_at x hb 3
  have hpos : 0 < x.length := List.length_pos_iff.2 hne
  obtain ⟨ad, rfl, hcell⟩ := (Kd.reads_of_C hC).2.2 hpos
  obtain ⟨b, off, sp⟩ := ad
  have c0 := hcell 0 hpos
  rw [f0 hpos] at c0
  have c1 : 1 < x.length → w.cell? ⟨b, off + 1, none⟩ = some (.int .u8 x1) := fun h => by have := hcell 1 h; rw [f1 h] at this; exact this
  have c2 : 2 < x.length → w.cell? ⟨b, off + 2, none⟩ = some (.int .u8 x2) := fun h => by have := hcell 2 h; rw [f2 h] at this; exact this
  have c3 : 3 < x.length → w.cell? ⟨b, off + 3, none⟩ = some (.int .u8 x3) := fun h => by have := hcell 3 h; rw [f3 h] at this; exact this
  have ha : Agree (one x).1 (one x).2 (drN x.length x0 x1 x2 x3) := by
    cases x with
    | nil => exact absurd rfl hne
    | cons y t =>
      obtain rfl := e0 y rfl
      exact one_agree x0 l0 t (fun z hz => hb z (List.mem_cons_of_mem _ hz)) _ x1 x2 x3 rfl (fun z hz => e1 z hz) (fun z hz => e2 z hz) (fun z hz => e3 z hz)
  refine (dec_walk x.length b off c x0 x1 x2 x3 sp w hT l0 l1 l2 l3 hpos c0 c1 c2 c3).mono ?_
  rintro e w' ⟨rfl, hbel⟩
  exact ⟨_, _, rfl, ha, hbel⟩

theorem dec_calls_n (A : Option Addr) (c : Nat) (x : List Int) (m : Nat) (w : World) (hm : x.length = m) (hC : Kd.C (Kd.int .u8) w A x.length x) (hne : x ≠ []) (hb : Bytes x) (hT : Lib.Utf8Tabs 0 1 w) :
    Calls Tryd.prog 7 #[.slice A m c] w fun e w' => ∃ r n : Nat, e = .returned (.tuple #[.int .i32 r, .int .i64 n]) ∧ Agree (one x).1 (one x).2 (r, n) ∧ Below w.heap.size w w' := by
  subst hm
  exact dec_calls A c x w hC hne hb hT
theorem box3 {w w1 : World} (x y z : Value) (h : Below (w.alloc (.cells #[x, y, z] 27)).heap.size (w.alloc (.cells #[x, y, z] 27)) w1) :
    w1.cell? ⟨w.heap.size, 0, none⟩ = some x ∧ w1.cell? ⟨w.heap.size, 1, none⟩ = some y ∧ w1.cell? ⟨w.heap.size, 2, none⟩ = some z :=
  ⟨pw_cell_below h (World.cell?_alloc_mark w #[x, y, z] 27 (0, 0) 0), pw_cell_below h (World.cell?_alloc_mark w #[x, y, z] 27 (0, 0) 1), pw_cell_below h (World.cell?_alloc_mark w #[x, y, z] 27 (0, 0) 2)⟩

set_option maxHeartbeats 8000000 in
set_option maxRecDepth 100000 in
theorem whole_calls (A : Option Addr) (c : Nat) (l : List Int) (w : World) (hC : Kd.C (Kd.int .u8) w A l.length l) (hc : l.length ≤ c) (hb : Bytes l) (hT : Lib.Utf8Tabs 0 1 w) :
    Calls Tryd.prog 3 #[.slice A l.length c] w fun e w' => e = .returned (.bool true) ∧ Below w.heap.size w w' := by
  by_cases g1 : 5000 < l.length
  · go_enter Tryd.func3, Tryd.ntmps3
    go_wp2_with fail
    refine (awake_calls _).mono ?_
    rintro e w1 ⟨rfl, hb1⟩
    go_wp2
    go_ret
    exact ⟨rfl, hb1⟩
  have hall := all_f l hb (by omega) (l.length + 10) (Nat.le_refl _)
  have HBb := Aside0.mk hC
  have HT := Aside0.mk hT
  have HBy := Aside0.mk hb
  clear hC hT hb
  go_enter Tryd.func3, Tryd.ntmps3
  go_wp2_with fail
  refine (awake_calls _).mono ?_
  rintro e w1 ⟨rfl, hb1⟩
  go_wp2_with fail
  refine (scal_All.calls (l.length + 10) A c l _ w1 (Kd.C_below HBb.out hb1) hc hall).mono ?_
  rintro e w2 ⟨v, rfl, hR, hb2⟩
  obtain ⟨AS, cS, rfl⟩ := Kd.R_slice hR
  have hlen : (place 0 (sg l)).length = (sg l).length := place_length 0 (sg l)
  have HS := Aside0.mk (Kd.R_reads' hR).2.2
  have hb02 := below_step hb1 hb2
  rw [hlen]
  have hsl := sg_length_le l.length l (Nat.le_refl _)
  clear hR hall
  go_wp2
  go_loopg [3, 16] (sg l).length (fun kq v3 v16 w' => ∃ x : Int, v3 = .int .i64 (width ((sg l).take x.toNat)) ∧ v16 = .int .i64 x ∧ Aside0 (0 ≤ x ∧ x + kq = (sg l).length) ∧ Aside0 (Below w2.heap.size w2 w'))
  case atStart => exact ⟨0, rfl, rfl, ⟨by omega⟩, ⟨Below.refl _ _⟩⟩
  case round =>
    obtain ⟨x, rfl, rfl, HK, HB⟩ := hrel
    have hk := HK.out
    cases gk with
    | zero =>
      have hwd : width ((sg l).take x.toNat) = l.length := by rw [List.take_of_length_le (by omega)]; exact width_sg l.length l (Nat.le_refl _)
      rw [hwd]
      go_wp2
      go_ret
      exact ⟨by simp, below_step hb02 HB.out⟩
    | succ k1 =>
      obtain ⟨i, hxi⟩ := Int.eq_ofNat_of_zero_le hk.1
      have hi : i < (sg l).length := by omega
      have hxn : x.toNat = i := by omega
      rw [hxn]
      obtain ⟨hS, hp0, hp1, hpn⟩ := sign_at l i hi _ rfl
      generalize width ((sg l).take i) = p at hS hp0 hp1 hpn ⊢
      have hne : l.drop p.toNat ≠ [] := by
        intro h
        have := congrArg List.length h
        rw [List.length_drop, List.length_nil] at this
        omega
      have h1 := one_len hne
      rw [List.length_drop] at h1
      have hx : Bytes (l.drop p.toNat) := fun y hy => HBy.out y (List.mem_of_mem_drop hy)
      obtain ⟨i1, hi1, _, hsz1, _⟩ := info_parts info5
      obtain ⟨A2, hcut2, hA2, _⟩ := print_drop_of (P := Tryd.prog) (Value.int .u8) 0 22 5 .i64 Tryd.underlying22 hi1 hsz1 A c l p hp0 (by omega) hc
      have HX := Aside0.mk (fun (W : World) (h : Below w.heap.size w W) (hT : Lib.Utf8Tabs 0 1 W) => dec_calls_n A2 (c - p.toNat) (l.drop p.toNat) (l.length - p.toNat) W List.length_drop (Kd.C_of_reads (h1 := fun _ => rfl) (hA2 _ (Kd.reads_of_C (Kd.C_below HBb.out h)))) hne hx hT)
      obtain ⟨ad, ea, z0, z1, z2⟩ := at_T27 (Kd.C_below HS.out HB.out) x (by omega) (by rw [hlen]; omega)
      subst ea
      rw [show rd_T27 (place 0 (sg l)) x = _ from hxi ▸ hS] at z0 z1 z2
      generalize (one (l.drop p.toNat)).1 = R at HX z0 z1 z2
      generalize (one (l.drop p.toNat)).2 = L at HX z0 z1 z2 h1 hpn
      clear hA2 hi1 hsz1 hS hne hx
      have HB3 := Aside0.mk (below_step hb02 HB.out)
      have hpl : wrap64 (p + L) = p + L := by unfold wrap64; omega
      have hil : wrap64 (x + 1) = x + 1 := by unfold wrap64; omega
      have HXI : Aside0 ((x + 1).toNat = i + 1) := ⟨by omega⟩
      clear hxi hxn
      go_wp2_with fail
      refine (HX.out _ (below_alloc HB3.out _) (Utf8Tabs_below HT.out (below_alloc HB3.out _))).mono ?_
      rintro e w4 ⟨r, n, rfl, ha, hb4⟩
      obtain ⟨y0, y1, y2⟩ := box3 _ _ _ hb4
      have HB4 := Aside0.mk (below_step (below_alloc HB.out _) hb4)
      clear z0 z1 z2 hb4 HX HB
      unfold Agree at ha
      by_cases hg : (r : Int) = 65533
      · by_cases hn : (n : Int) = 3
        · rw [if_pos (.inr hn)] at ha
          obtain ⟨rfl, rfl⟩ := ha
          rw [hg] at y0 ⊢
          rw [hn] at y2 hpl hpn h1 ⊢
          go_wp2
          go_roundg k1
          case measure => omega
          case rel => exact ⟨x + 1, by rw [HXI.out, hpn], by first | rfl | (rw [hil]), ⟨by omega⟩, HB4⟩
        · rw [if_neg (by rintro (h | h); exact h hg; exact hn h)] at ha
          obtain ⟨rfl, hL3⟩ := ha
          have hn' : ((n : Int) == 3) = false := by simpa using hn
          have hL3' : ¬ 3 < L := by omega
          rw [hg]
          go_wp2
          go_roundg k1
          case measure => omega
          case rel => exact ⟨x + 1, by rw [HXI.out, hpn], by first | rfl | (rw [hil]), ⟨by omega⟩, HB4⟩
      · rw [if_pos (.inl hg)] at ha
        obtain ⟨rfl, rfl⟩ := ha
        have hg' : ((r : Int) != 65533) = true := by simpa using hg
        go_wp2
        go_roundg k1
        case measure => omega
        case rel => exact ⟨x + 1, by rw [HXI.out, hpn], by first | rfl | (rw [hil]), ⟨by omega⟩, HB4⟩
end Go.Proofs.YtdbcgeebcnlbaaaDoor.PScalMost
