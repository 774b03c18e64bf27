/- The walk of the statement EditEnds: it answers true. Conditions: rows that can be read. -/
import Derived.Test.YtjgahpcmojnfcaaOwnC
import Derived.WalkKit
namespace Go.Proofs.Ytjgahpcmojnfcaa.PEditSplices
open Go.RowKit Go.Proofs.YtjgahpcmojnfcaaW.PrintWords Go.Proofs.YtjgahpcmojnfcaaW.PrintLast Go.Proofs.YtjgahpcmojnfcaaW.PrintMore
open Go.Proofs.Ytjgahpcmojnfcaa.Plain (chk spl check_f chk_ok chk_of chk_num)
set_option linter.unusedVariables false
set_option linter.unusedSimpArgs false

theorem str_append (a b : List Int) : strOfNums (a ++ b) = strOfNums a ++ strOfNums b := by
  apply ByteArray.ext
  simp [strOfNums, ByteArray.data_append]

set_option maxHeartbeats 4000000 in
set_option maxRecDepth 100000 in
theorem ends_calls (A : Option Addr) (c : Nat) (b : List Int) (Ai : Option Addr) (ci : Nat) (l : List Int) (w : World) (hb : Kd.C (Kd.int .u8) w A b.length b) (hcb : b.length ≤ c) (hi : Kd.C (Kd.int .u8) w Ai l.length l) (hci : l.length ≤ ci) :
    Calls Try.prog 8 #[.slice A b.length c, .slice Ai l.length ci] w fun e w' => e = .returned (.bool true) ∧ Below w.heap.size w w' := by
  by_cases g1 : 4096 < b.length
  · go_enter Try.func8, Try.ntmps8
    go_wp2_with fail
    refine (awake_calls _).mono ?_
    rintro e w1 ⟨rfl, hb1⟩
    go_wp2
    go_ret
    exact ⟨rfl, hb1⟩
  have hs : wrap64 (4096 - (b.length : Int)) = 4096 - (b.length : Int) := by unfold wrap64; omega
  by_cases g2 : 4096 - (b.length : Int) < (l.length : Int)
  · go_enter Try.func8, Try.ntmps8
    go_wp2_with fail
    refine (awake_calls _).mono ?_
    rintro e w1 ⟨rfl, hb1⟩
    go_wp2
    go_ret
    exact ⟨rfl, hb1⟩
  have hn1 : spl b b.length 0 [] = b := by simp [spl]
  have hn2 : spl b b.length 0 l = b ++ l := by simp [spl]
  have hn3 : spl b 0 b.length l = l := by simp [spl]
  have x1 : chk b.length b.length 0 ([] : List Int).length = 0 := chk_of (by omega) (by omega) (by omega) (by simp) (by simp; omega)
  have x2 : chk b.length b.length 0 l.length = 0 := chk_of (by omega) (by omega) (by omega) (by omega) (by omega)
  have x3 : chk b.length 0 b.length l.length = 0 := chk_of (by omega) (by omega) (by omega) (by omega) (by omega)
  have s1 := fun (W : World) (h : Below w.heap.size w W) => splice_ok A c b b.length 0 none 0 [] W (Kd.C_below hb h) hcb (Kd.C_nil _ _) (Nat.le_refl _) (by omega) (by decide) x1
  have s2 := fun (W : World) (h : Below w.heap.size w W) => splice_ok A c b b.length 0 Ai ci l W (Kd.C_below hb h) hcb (Kd.C_below hi h) hci (by omega) (by omega) x2
  have s3 := fun (W : World) (h : Below w.heap.size w W) => splice_ok A c b 0 b.length Ai ci l W (Kd.C_below hb h) hcb (Kd.C_below hi h) hci (by omega) (by omega) x3
  rw [hn1] at s1
  rw [hn2] at s2
  rw [hn3] at s3
  have S1 := Aside0.mk s1
  have S2 := Aside0.mk s2
  have S3 := Aside0.mk s3
  have HBb := Aside0.mk hb
  have HIi := Aside0.mk hi
  clear s1 s2 s3 hn1 hn2 hn3 x1 x2 x3 hb hi
  go_enter Try.func8, Try.ntmps8
  go_wp2_with fail
  refine (awake_calls _).mono ?_
  rintro e w1 ⟨rfl, hb1⟩
  go_wp2_with fail
  refine (S1.out _ hb1).mono ?_
  rintro e w2 ⟨v1, rfl, hR1, hb2⟩
  have hb2 := below_step hb1 hb2
  go_wp2_with fail
  refine (S2.out _ hb2).mono ?_
  rintro e w3 ⟨v2, rfl, hR2, hb3⟩
  have hR1 := Kd.R_below hR1 hb3
  have hb3 := below_step hb2 hb3
  go_wp2_with fail
  refine (S3.out _ hb3).mono ?_
  rintro e w4 ⟨v3, rfl, hR3, hb4⟩
  have hR1 := Kd.R_below hR1 hb4
  have hR2 := Kd.R_below hR2 hb4
  have hb4 := below_step hb3 hb4
  have q1 := own_string (P := Try.prog) Try.underlying22 Try.underlying5 Try.underlying9 (Kd.own_of_R hR1)
  have q2 := own_string (P := Try.prog) Try.underlying22 Try.underlying5 Try.underlying9 (Kd.own_of_R hR2)
  have q3 := own_string (P := Try.prog) Try.underlying22 Try.underlying5 Try.underlying9 (Kd.own_of_R hR3)
  have q4 := Kd.C_string (P := Try.prog) (A := A) (c := c) Try.underlying22 Try.underlying5 Try.underlying9 (Kd.C_below HBb.out hb4)
  have q5 := Kd.C_string (P := Try.prog) (A := Ai) (c := ci) Try.underlying22 Try.underlying5 Try.underlying9 (Kd.C_below HIi.out hb4)
  clear hR1 hR2 hR3
  rw [str_append] at q2
  go_wp2_with fail
  · rename_i h9
    rw [strOfNums_size, strOfNums_size] at h9
    omega
  · go_ret
    exact ⟨rfl, hb4⟩
end Go.Proofs.Ytjgahpcmojnfcaa.PEditSplices
