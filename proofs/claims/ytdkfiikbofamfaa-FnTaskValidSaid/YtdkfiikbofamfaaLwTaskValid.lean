/- The walk of the law FnTaskValid: it returns true and leaves all that was in memory as it was, for every code. -/
import Derived.Test.YtdkfiikbofamfaaLwTaskHead
namespace Go.Proofs.Ytdkfiikbofamfaa
set_option linter.unusedVariables false
open Go.RowKit
set_option maxHeartbeats 4000000 in
theorem law_TaskValid (B T n c : Nat) (A : Option Addr) (bs : List Value) (w : World) (hr : Rd w B T 1 A n bs) (hb : Bytes bs) (hnc : n ≤ c) :
    Calls Try.prog 8 #[.slice A n c] w fun e w' => e = .returned (.bool true) ∧ Below w.heap.size w w' := by
  by_cases hbig : 1048576 < n
  · have hd : (1048576 : Int) < (n : Int) := by omega
    go_enter Try.func8, Try.ntmps8
    go_wp2_with fail
    go_ret
    exact ⟨rfl, Below.refl _ _⟩
  have hn : n ≤ 1048576 := by omega
  have hd : ¬ (1048576 : Int) < (n : Int) := by omega
  have hB := Below.refl w.heap.size w
  go_enter Try.func8, Try.ntmps8
  have k1 : taskV 2 0 (-1) = false := by decide
  have k2 : taskV 1 0 3 = false := by decide
  have k3 : taskV 0 0 (-1) = true := by decide
  have K1 := Lib.hid k1
  have K2 := Lib.hid k2
  have K3 := Lib.hid k3
  clear k1 k2 k3
  go_wp2_with fail
  refine (DrawTaskValid_any B T n c A bs _ hr hb hn hnc).mono ?_
  rintro e w1 ⟨s, p, x, rfl, hb1⟩
  replace hB := Below.via hB hb1
  clear hb1
  have TT := Blk.new w1 25 #[.int .i64 (s), .int .i64 (p), .int .i64 (x)]
  replace hB := Below.alloc1 hB (.cells #[.int .i64 (s), .int .i64 (p), .int .i64 (x)] 25)
  go_wp2_with fail
  refine (iTaskValid_any s p x _).mono ?_
  rintro e w2 ⟨rfl, hb2⟩
  replace hB := Below.via hB hb2
  replace TT := TT.below hb2
  obtain ⟨T2_0, T2_1, T2_2⟩ := TT.three
  have T2_l := TT.lt
  clear hb2
  go_wp2_with fail
  refine (sTaskValid_any s p x _).mono ?_
  rintro e w3 ⟨rfl, hb3⟩
  replace hB := Below.via hB hb3
  clear T2_0
  clear T2_1
  clear T2_2
  clear T2_l
  replace TT := TT.below hb3
  obtain ⟨T3_0, T3_1, T3_2⟩ := TT.three
  have T3_l := TT.lt
  clear hb3
  go_wp2_with fail
  refine (iTaskValid_any 2 0 (-1) _).mono ?_
  rintro e w4 ⟨rfl, hb4⟩
  replace hB := Below.via hB hb4
  clear T3_0
  clear T3_1
  clear T3_2
  clear T3_l
  replace TT := TT.below hb4
  obtain ⟨T4_0, T4_1, T4_2⟩ := TT.three
  have T4_l := TT.lt
  clear hb4
  rw [K1.out]
  go_wp2_with fail
  refine (iTaskValid_any 1 0 3 _).mono ?_
  rintro e w5 ⟨rfl, hb5⟩
  replace hB := Below.via hB hb5
  clear T4_0
  clear T4_1
  clear T4_2
  clear T4_l
  replace TT := TT.below hb5
  obtain ⟨T5_0, T5_1, T5_2⟩ := TT.three
  have T5_l := TT.lt
  clear hb5
  rw [K2.out]
  go_wp2_with fail
  refine (iTaskValid_any 0 0 (-1) _).mono ?_
  rintro e w6 ⟨rfl, hb6⟩
  replace hB := Below.via hB hb6
  clear T5_0
  clear T5_1
  clear T5_2
  clear T5_l
  replace TT := TT.below hb6
  obtain ⟨T6_0, T6_1, T6_2⟩ := TT.three
  have T6_l := TT.lt
  clear hb6
  rw [K3.out]
  go_wp2_with fail
  refine (alive_any _).mono ?_
  rintro e w7 ⟨rfl, hb7⟩
  replace hB := Below.via hB hb7
  clear T6_0
  clear T6_1
  clear T6_2
  clear T6_l
  replace TT := TT.below hb7
  obtain ⟨T7_0, T7_1, T7_2⟩ := TT.three
  have T7_l := TT.lt
  clear hb7
  go_wp2
  go_ret
  exact ⟨rfl, by (repeat (first | exact Below.refl _ _ | assumption | refine Below.setCell ?_ (by first | (simp; done) | (simp; omega) | omega) _ | refine Below.alloc1 ?_ _ | refine Below.alloc ?_ (by first | (simp; done) | (simp; omega) | omega) _ | refine Below.drew ?_ | refine Below.drewN ?_ _ | refine Below.via ?_ (by assumption)))⟩
end Go.Proofs.Ytdkfiikbofamfaa
