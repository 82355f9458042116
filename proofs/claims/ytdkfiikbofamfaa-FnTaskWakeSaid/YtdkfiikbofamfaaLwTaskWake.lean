/- The walk of the law FnTaskWake: it returns true and leaves all that was in memory as it was, for every code. -/
import Derived.Test.YtdkfiikbofamfaaLwTaskHead3
namespace Go.Proofs.Ytdkfiikbofamfaa
set_option linter.unusedVariables false
open Go.RowKit
set_option maxHeartbeats 4000000 in
theorem law_TaskWake (B T n c : Nat) (A : Option Addr) (bs : List Value) (w : World) (hr : Rd w B T 1 A n bs) (hb : Bytes bs) (hnc : n ≤ c) :
    Calls Try.prog 11 #[.slice A n c] w fun e w' => e = .returned (.bool true) ∧ Below w.heap.size w w' := by
  by_cases hbig : 1048576 < n
  · have hd : (1048576 : Int) < (n : Int) := by omega
    go_enter Try.func11, Try.ntmps11
    go_wp2_with fail
    go_ret
    exact ⟨rfl, Below.refl _ _⟩
  have hn : n ≤ 1048576 := by omega
  have hd : ¬ (1048576 : Int) < (n : Int) := by omega
  have hB := Below.refl w.heap.size w
  go_enter Try.func11, Try.ntmps11
  go_wp2_with fail
  refine (DrawTaskWake_any B T n c A bs _ hr hb hn hnc).mono ?_
  rintro e w1 ⟨s, p, x, ob, rfl, hb1⟩
  replace hB := Below.via hB hb1
  clear hb1
  have TT := Blk.new w1 25 #[.int .i64 (s), .int .i64 (p), .int .i64 (x)]
  replace hB := Below.alloc1 hB (.cells #[.int .i64 (s), .int .i64 (p), .int .i64 (x)] 25)
  cases hv : taskV s p x
  · skip
    go_wp2_with fail
    refine (iWake_no _ hv).mono ?_
    rintro e w2 ⟨rfl, hb2⟩
    replace hB := Below.via hB hb2
    replace TT := TT.below hb2
    obtain ⟨T2_0, T2_1, T2_2⟩ := TT.three
    have T2_l := TT.lt
    clear hb2
    replace TT := TT.alloc (.cells #[.int .i64 (0), .int .i64 (0), .int .i64 (0)] 25)
    have TX := Blk.new w2 25 #[.int .i64 (0), .int .i64 (0), .int .i64 (0)]
    replace hB := Below.alloc1 hB (.cells #[.int .i64 (0), .int .i64 (0), .int .i64 (0)] 25)
    go_wp2_with fail
    refine (sWake_no _ hv).mono ?_
    rintro e w3 ⟨rfl, hb3⟩
    replace hB := Below.via hB hb3
    clear T2_0
    clear T2_1
    clear T2_2
    clear T2_l
    replace TT := TT.below hb3
    obtain ⟨T3_0, T3_1, T3_2⟩ := TT.three
    have T3_l := TT.lt
    replace TX := TX.below hb3
    obtain ⟨X3_0, X3_1, X3_2⟩ := TX.three
    have X3_l := TX.lt
    clear hb3
    replace TT := TT.alloc (.cells #[.int .i64 (0), .int .i64 (0), .int .i64 (0)] 25)
    replace TX := TX.alloc (.cells #[.int .i64 (0), .int .i64 (0), .int .i64 (0)] 25)
    have TY := Blk.new w3 25 #[.int .i64 (0), .int .i64 (0), .int .i64 (0)]
    replace hB := Below.alloc1 hB (.cells #[.int .i64 (0), .int .i64 (0), .int .i64 (0)] 25)
    go_wp2_with fail
    refine (sTaskValid_any s p x _).mono ?_
    rintro e w4 ⟨rfl, hb4⟩
    replace hB := Below.via hB hb4
    clear T3_0
    clear T3_1
    clear T3_2
    clear T3_l
    clear X3_0
    clear X3_1
    clear X3_2
    clear X3_l
    replace TT := TT.below hb4
    obtain ⟨T4_0, T4_1, T4_2⟩ := TT.three
    have T4_l := TT.lt
    replace TX := TX.below hb4
    obtain ⟨X4_0, X4_1, X4_2⟩ := TX.three
    have X4_l := TX.lt
    replace TY := TY.below hb4
    obtain ⟨Y4_0, Y4_1, Y4_2⟩ := TY.three
    have Y4_l := TY.lt
    clear hb4
    rw [hv]
    go_wp2_with fail
    refine (alive_any _).mono ?_
    rintro e w5 ⟨rfl, hb5⟩
    replace hB := Below.via hB hb5
    clear T4_0
    clear T4_1
    clear T4_2
    clear T4_l
    clear X4_0
    clear X4_1
    clear X4_2
    clear X4_l
    clear Y4_0
    clear Y4_1
    clear Y4_2
    clear Y4_l
    replace TT := TT.below hb5
    obtain ⟨T5_0, T5_1, T5_2⟩ := TT.three
    have T5_l := TT.lt
    replace TX := TX.below hb5
    obtain ⟨X5_0, X5_1, X5_2⟩ := TX.three
    have X5_l := TX.lt
    replace TY := TY.below hb5
    obtain ⟨Y5_0, Y5_1, Y5_2⟩ := TY.three
    have Y5_l := TY.lt
    clear hb5
    go_wp2
    go_ret
    exact ⟨rfl, by (repeat (first | exact Below.refl _ _ | assumption | refine Below.setCell ?_ (by first | (simp; done) | (simp; omega) | omega) _ | refine Below.alloc1 ?_ _ | refine Below.alloc ?_ (by first | (simp; done) | (simp; omega) | omega) _ | refine Below.drew ?_ | refine Below.drewN ?_ _ | refine Below.via ?_ (by assumption)))⟩
  · obtain ⟨hv1, hv2⟩ := taskV_waits hv
    cases hm : mayWake s x ob
    · have hcase : x < 0 ∨ (¬ x < 0 ∧ (x == ob) = false) := by
        by_cases h0 : x < 0
        · exact .inl h0
        · refine .inr ⟨h0, ?_⟩
          cases hs : inB s 2 4
          · have := hv2 hs; omega
          · simpa [mayWake, hs] using hm
      clear hv1 hv2
      go_wp2_with fail
      refine (iWake_stay _ hv hm).mono ?_
      rintro e w2 ⟨rfl, hb2⟩
      replace hB := Below.via hB hb2
      replace TT := TT.below hb2
      obtain ⟨T2_0, T2_1, T2_2⟩ := TT.three
      have T2_l := TT.lt
      clear hb2
      replace TT := TT.alloc (.cells #[.int .i64 (s), .int .i64 (p), .int .i64 (x)] 25)
      have TX := Blk.new w2 25 #[.int .i64 (s), .int .i64 (p), .int .i64 (x)]
      replace hB := Below.alloc1 hB (.cells #[.int .i64 (s), .int .i64 (p), .int .i64 (x)] 25)
      go_wp2_with fail
      refine (sWake_stay _ hv hm).mono ?_
      rintro e w3 ⟨rfl, hb3⟩
      replace hB := Below.via hB hb3
      clear T2_0
      clear T2_1
      clear T2_2
      clear T2_l
      replace TT := TT.below hb3
      obtain ⟨T3_0, T3_1, T3_2⟩ := TT.three
      have T3_l := TT.lt
      replace TX := TX.below hb3
      obtain ⟨X3_0, X3_1, X3_2⟩ := TX.three
      have X3_l := TX.lt
      clear hb3
      replace TT := TT.alloc (.cells #[.int .i64 (s), .int .i64 (p), .int .i64 (x)] 25)
      replace TX := TX.alloc (.cells #[.int .i64 (s), .int .i64 (p), .int .i64 (x)] 25)
      have TY := Blk.new w3 25 #[.int .i64 (s), .int .i64 (p), .int .i64 (x)]
      replace hB := Below.alloc1 hB (.cells #[.int .i64 (s), .int .i64 (p), .int .i64 (x)] 25)
      go_wp2_with fail
      refine (sTaskValid_any s p x _).mono ?_
      rintro e w4 ⟨rfl, hb4⟩
      replace hB := Below.via hB hb4
      clear T3_0
      clear T3_1
      clear T3_2
      clear T3_l
      clear X3_0
      clear X3_1
      clear X3_2
      clear X3_l
      replace TT := TT.below hb4
      obtain ⟨T4_0, T4_1, T4_2⟩ := TT.three
      have T4_l := TT.lt
      replace TX := TX.below hb4
      obtain ⟨X4_0, X4_1, X4_2⟩ := TX.three
      have X4_l := TX.lt
      replace TY := TY.below hb4
      obtain ⟨Y4_0, Y4_1, Y4_2⟩ := TY.three
      have Y4_l := TY.lt
      clear hb4
      rw [hv]
      clear hv hm
      rcases hcase with h0 | ⟨h0, h1⟩
      all_goals
        go_wp2
        go_ret
        exact ⟨rfl, by (repeat (first | exact Below.refl _ _ | assumption | refine Below.setCell ?_ (by first | (simp; done) | (simp; omega) | omega) _ | refine Below.alloc1 ?_ _ | refine Below.alloc ?_ (by first | (simp; done) | (simp; omega) | omega) _ | refine Below.drew ?_ | refine Below.drewN ?_ _ | refine Below.via ?_ (by assumption)))⟩
    · have hs : inB s 2 4 = true ∧ x = ob := by simpa [mayWake] using hm
      have hx : 0 ≤ x := by have := hv1 hs.1; rw [inB_true] at this; omega
      have hxo := hs.2
      clear hv1 hv2 hs
      subst hxo
      go_wp2_with fail
      refine (iWake_yes _ hv hm).mono ?_
      rintro e w2 ⟨rfl, hb2⟩
      replace hB := Below.via hB hb2
      replace TT := TT.below hb2
      obtain ⟨T2_0, T2_1, T2_2⟩ := TT.three
      have T2_l := TT.lt
      clear hb2
      replace TT := TT.alloc (.cells #[.int .i64 (1), .int .i64 (p), .int .i64 (-1)] 25)
      have TX := Blk.new w2 25 #[.int .i64 (1), .int .i64 (p), .int .i64 (-1)]
      replace hB := Below.alloc1 hB (.cells #[.int .i64 (1), .int .i64 (p), .int .i64 (-1)] 25)
      go_wp2_with fail
      refine (sWake_yes _ hv hm).mono ?_
      rintro e w3 ⟨rfl, hb3⟩
      replace hB := Below.via hB hb3
      clear T2_0
      clear T2_1
      clear T2_2
      clear T2_l
      replace TT := TT.below hb3
      obtain ⟨T3_0, T3_1, T3_2⟩ := TT.three
      have T3_l := TT.lt
      replace TX := TX.below hb3
      obtain ⟨X3_0, X3_1, X3_2⟩ := TX.three
      have X3_l := TX.lt
      clear hb3
      replace TT := TT.alloc (.cells #[.int .i64 (1), .int .i64 (p), .int .i64 (-1)] 25)
      replace TX := TX.alloc (.cells #[.int .i64 (1), .int .i64 (p), .int .i64 (-1)] 25)
      have TY := Blk.new w3 25 #[.int .i64 (1), .int .i64 (p), .int .i64 (-1)]
      replace hB := Below.alloc1 hB (.cells #[.int .i64 (1), .int .i64 (p), .int .i64 (-1)] 25)
      go_wp2_with fail
      refine (sTaskValid_any s p x _).mono ?_
      rintro e w4 ⟨rfl, hb4⟩
      replace hB := Below.via hB hb4
      clear T3_0
      clear T3_1
      clear T3_2
      clear T3_l
      clear X3_0
      clear X3_1
      clear X3_2
      clear X3_l
      replace TT := TT.below hb4
      obtain ⟨T4_0, T4_1, T4_2⟩ := TT.three
      have T4_l := TT.lt
      replace TX := TX.below hb4
      obtain ⟨X4_0, X4_1, X4_2⟩ := TX.three
      have X4_l := TX.lt
      replace TY := TY.below hb4
      obtain ⟨Y4_0, Y4_1, Y4_2⟩ := TY.three
      have Y4_l := TY.lt
      clear hb4
      rw [hv]
      clear hv hm
      go_wp2
      go_ret
      exact ⟨rfl, by (repeat (first | exact Below.refl _ _ | assumption | refine Below.setCell ?_ (by first | (simp; done) | (simp; omega) | omega) _ | refine Below.alloc1 ?_ _ | refine Below.alloc ?_ (by first | (simp; done) | (simp; omega) | omega) _ | refine Below.drew ?_ | refine Below.drewN ?_ _ | refine Below.via ?_ (by assumption)))⟩
end Go.Proofs.Ytdkfiikbofamfaa
