/- The walk of the law FnTaskWait: it returns true and leaves all that was in memory as it was, for every code. -/
import Derived.Test.YtdkfiikbofamfaaLwTaskHead4
namespace Go.Proofs.Ytdkfiikbofamfaa
set_option linter.unusedVariables false
open Go.RowKit
set_option maxHeartbeats 4000000 in
theorem law_TaskWait (B T n c : Nat) (A : Option Addr) (bs : List Value) (w : World) (hr : Rd w B T 1 A n bs) (hb : Bytes bs) (hnc : n ≤ c) :
    Calls Try.prog 12 #[.slice A n c] w fun e w' => e = .returned (.bool true) ∧ Below w.heap.size w w' := by
  by_cases hbig : 1048576 < n
  · have hd : (1048576 : Int) < (n : Int) := by omega
    go_enter Try.func12, Try.ntmps12
    go_wp2_with fail
    go_ret
    exact ⟨rfl, Below.refl _ _⟩
  have hn : n ≤ 1048576 := by omega
  have hd : ¬ (1048576 : Int) < (n : Int) := by omega
  have hB := Below.refl w.heap.size w
  go_enter Try.func12, Try.ntmps12
  go_wp2_with fail
  refine (DrawTaskWait_any B T n c A bs _ hr hb hn hnc).mono ?_
  rintro e w1 ⟨s, p, x, st, ob, rfl, hob, hb1⟩
  replace hB := Below.via hB hb1
  clear hb1
  have TT := Blk.new w1 25 #[.int .i64 (s), .int .i64 (p), .int .i64 (x)]
  replace hB := Below.alloc1 hB (.cells #[.int .i64 (s), .int .i64 (p), .int .i64 (x)] 25)
  obtain ⟨hob1, hob2⟩ := hob
  cases hv : (taskV s p x && (inB st 2 4 && inB ob 0 99))
  · skip
    go_wp2_with fail
    refine (iWait_no _ hv).mono ?_
    rintro e w2 ⟨rfl, hb2⟩
    replace hB := Below.via hB hb2
    replace TT := TT.below hb2
    obtain ⟨T2_0, T2_1, T2_2⟩ := TT.three
    have T2_l := TT.lt
    clear hb2
    replace TT := TT.alloc (.cells #[.int .i64 (0), .int .i64 (0), .int .i64 (0)] 25)
    have TX := Blk.new w2 25 #[.int .i64 (0), .int .i64 (0), .int .i64 (0)]
    replace hB := Below.alloc1 hB (.cells #[.int .i64 (0), .int .i64 (0), .int .i64 (0)] 25)
    go_wp2_with fail
    refine (sWait_no _ hv).mono ?_
    rintro e w3 ⟨rfl, hb3⟩
    replace hB := Below.via hB hb3
    clear T2_0
    clear T2_1
    clear T2_2
    clear T2_l
    replace TT := TT.below hb3
    obtain ⟨T3_0, T3_1, T3_2⟩ := TT.three
    have T3_l := TT.lt
    replace TX := TX.below hb3
    obtain ⟨X3_0, X3_1, X3_2⟩ := TX.three
    have X3_l := TX.lt
    clear hb3
    go_wp2_with fail
    all_goals
      refine (alive_any _).mono ?_
      rintro e w4 ⟨rfl, hb4⟩
      go_wp2
      go_ret
      exact ⟨rfl, Below.via (Below.alloc1 hB _) hb4⟩
  · have hvv : taskV s p x = true ∧ inB st 2 4 = true ∧ inB ob 0 99 = true := by simpa [Bool.and_eq_true] using hv
    cases hm : (s == 1)
    · have hm1 : ¬ s = 1 := by simpa using hm
      clear hvv hm1
      go_wp2_with fail
      refine (iWait_stay _ hv hm).mono ?_
      rintro e w2 ⟨rfl, hb2⟩
      replace hB := Below.via hB hb2
      replace TT := TT.below hb2
      obtain ⟨T2_0, T2_1, T2_2⟩ := TT.three
      have T2_l := TT.lt
      clear hb2
      replace TT := TT.alloc (.cells #[.int .i64 (s), .int .i64 (p), .int .i64 (x)] 25)
      have TX := Blk.new w2 25 #[.int .i64 (s), .int .i64 (p), .int .i64 (x)]
      replace hB := Below.alloc1 hB (.cells #[.int .i64 (s), .int .i64 (p), .int .i64 (x)] 25)
      go_wp2_with fail
      refine (sWait_stay _ hv hm).mono ?_
      rintro e w3 ⟨rfl, hb3⟩
      replace hB := Below.via hB hb3
      clear T2_0
      clear T2_1
      clear T2_2
      clear T2_l
      replace TT := TT.below hb3
      obtain ⟨T3_0, T3_1, T3_2⟩ := TT.three
      have T3_l := TT.lt
      replace TX := TX.below hb3
      obtain ⟨X3_0, X3_1, X3_2⟩ := TX.three
      have X3_l := TX.lt
      clear hb3
      replace TT := TT.alloc (.cells #[.int .i64 (s), .int .i64 (p), .int .i64 (x)] 25)
      replace TX := TX.alloc (.cells #[.int .i64 (s), .int .i64 (p), .int .i64 (x)] 25)
      have TY := Blk.new w3 25 #[.int .i64 (s), .int .i64 (p), .int .i64 (x)]
      replace hB := Below.alloc1 hB (.cells #[.int .i64 (s), .int .i64 (p), .int .i64 (x)] 25)
      clear hv hm
      go_wp2_with fail
      refine (alive_any _).mono ?_
      rintro e w4 ⟨rfl, hb4⟩
      replace hB := Below.via hB hb4
      clear T3_0
      clear T3_1
      clear T3_2
      clear T3_l
      clear X3_0
      clear X3_1
      clear X3_2
      clear X3_l
      replace TT := TT.below hb4
      obtain ⟨T4_0, T4_1, T4_2⟩ := TT.three
      have T4_l := TT.lt
      replace TX := TX.below hb4
      obtain ⟨X4_0, X4_1, X4_2⟩ := TX.three
      have X4_l := TX.lt
      replace TY := TY.below hb4
      obtain ⟨Y4_0, Y4_1, Y4_2⟩ := TY.three
      have Y4_l := TY.lt
      clear hb4
      go_wp2
      go_ret
      exact ⟨rfl, by (repeat (first | exact Below.refl _ _ | assumption | refine Below.setCell ?_ (by first | (simp; done) | (simp; omega) | omega) _ | refine Below.alloc1 ?_ _ | refine Below.alloc ?_ (by first | (simp; done) | (simp; omega) | omega) _ | refine Below.drew ?_ | refine Below.drewN ?_ _ | refine Below.via ?_ (by assumption)))⟩
    · obtain ⟨h1, h2, h3⟩ := hvv
      have hs1 : s = 1 := by simpa using hm
      have hx1 : x = -1 := (taskV_waits h1).2 (by subst hs1; decide)
      subst hs1 hx1
      have hw : taskV st p ob = true := taskV_mk (by rw [inB_true] at h2 ⊢; omega) (taskV_prio h1) (.inl ⟨h2, h3⟩)
      have hk1 : mayWake st ob ob = true := by simp [mayWake, h2]
      have hk2 : mayWake st ob (ob + 1) = false := by simp [mayWake, h2]; omega
      clear h1 h2 h3
      go_wp2_with fail
      refine (iWait_yes _ hv hm).mono ?_
      rintro e w2 ⟨rfl, hb2⟩
      replace hB := Below.via hB hb2
      replace TT := TT.below hb2
      obtain ⟨T2_0, T2_1, T2_2⟩ := TT.three
      have T2_l := TT.lt
      clear hb2
      replace TT := TT.alloc (.cells #[.int .i64 (st), .int .i64 (p), .int .i64 (ob)] 25)
      have TX := Blk.new w2 25 #[.int .i64 (st), .int .i64 (p), .int .i64 (ob)]
      replace hB := Below.alloc1 hB (.cells #[.int .i64 (st), .int .i64 (p), .int .i64 (ob)] 25)
      go_wp2_with fail
      refine (sWait_yes _ hv hm).mono ?_
      rintro e w3 ⟨rfl, hb3⟩
      replace hB := Below.via hB hb3
      clear T2_0
      clear T2_1
      clear T2_2
      clear T2_l
      replace TT := TT.below hb3
      obtain ⟨T3_0, T3_1, T3_2⟩ := TT.three
      have T3_l := TT.lt
      replace TX := TX.below hb3
      obtain ⟨X3_0, X3_1, X3_2⟩ := TX.three
      have X3_l := TX.lt
      clear hb3
      replace TT := TT.alloc (.cells #[.int .i64 (st), .int .i64 (p), .int .i64 (ob)] 25)
      replace TX := TX.alloc (.cells #[.int .i64 (st), .int .i64 (p), .int .i64 (ob)] 25)
      have TY := Blk.new w3 25 #[.int .i64 (st), .int .i64 (p), .int .i64 (ob)]
      replace hB := Below.alloc1 hB (.cells #[.int .i64 (st), .int .i64 (p), .int .i64 (ob)] 25)
      go_wp2_with fail
      refine (iWake_yes _ hw hk1).mono ?_
      rintro e w4 ⟨rfl, hb4⟩
      replace hB := Below.via hB hb4
      clear T3_0
      clear T3_1
      clear T3_2
      clear T3_l
      clear X3_0
      clear X3_1
      clear X3_2
      clear X3_l
      replace TT := TT.below hb4
      obtain ⟨T4_0, T4_1, T4_2⟩ := TT.three
      have T4_l := TT.lt
      replace TX := TX.below hb4
      obtain ⟨X4_0, X4_1, X4_2⟩ := TX.three
      have X4_l := TX.lt
      replace TY := TY.below hb4
      obtain ⟨Y4_0, Y4_1, Y4_2⟩ := TY.three
      have Y4_l := TY.lt
      clear hb4
      replace TT := TT.alloc (.cells #[.int .i64 (1), .int .i64 (p), .int .i64 (-1)] 25)
      replace TX := TX.alloc (.cells #[.int .i64 (1), .int .i64 (p), .int .i64 (-1)] 25)
      replace TY := TY.alloc (.cells #[.int .i64 (1), .int .i64 (p), .int .i64 (-1)] 25)
      have TZ := Blk.new w4 25 #[.int .i64 (1), .int .i64 (p), .int .i64 (-1)]
      replace hB := Below.alloc1 hB (.cells #[.int .i64 (1), .int .i64 (p), .int .i64 (-1)] 25)
      go_wp2_with fail
      refine (iWake_stay _ hw hk2).mono ?_
      rintro e w5 ⟨rfl, hb5⟩
      replace hB := Below.via hB hb5
      clear T4_0
      clear T4_1
      clear T4_2
      clear T4_l
      clear X4_0
      clear X4_1
      clear X4_2
      clear X4_l
      clear Y4_0
      clear Y4_1
      clear Y4_2
      clear Y4_l
      replace TT := TT.below hb5
      obtain ⟨T5_0, T5_1, T5_2⟩ := TT.three
      have T5_l := TT.lt
      replace TX := TX.below hb5
      obtain ⟨X5_0, X5_1, X5_2⟩ := TX.three
      have X5_l := TX.lt
      replace TY := TY.below hb5
      obtain ⟨Y5_0, Y5_1, Y5_2⟩ := TY.three
      have Y5_l := TY.lt
      replace TZ := TZ.below hb5
      obtain ⟨Z5_0, Z5_1, Z5_2⟩ := TZ.three
      have Z5_l := TZ.lt
      clear hb5
      replace TT := TT.alloc (.cells #[.int .i64 (st), .int .i64 (p), .int .i64 (ob)] 25)
      replace TX := TX.alloc (.cells #[.int .i64 (st), .int .i64 (p), .int .i64 (ob)] 25)
      replace TY := TY.alloc (.cells #[.int .i64 (st), .int .i64 (p), .int .i64 (ob)] 25)
      replace TZ := TZ.alloc (.cells #[.int .i64 (st), .int .i64 (p), .int .i64 (ob)] 25)
      have TU := Blk.new w5 25 #[.int .i64 (st), .int .i64 (p), .int .i64 (ob)]
      replace hB := Below.alloc1 hB (.cells #[.int .i64 (st), .int .i64 (p), .int .i64 (ob)] 25)
      go_wp2_with fail
      refine (iTaskValid_any st p ob _).mono ?_
      rintro e w6 ⟨rfl, hb6⟩
      replace hB := Below.via hB hb6
      clear T5_0
      clear T5_1
      clear T5_2
      clear T5_l
      clear X5_0
      clear X5_1
      clear X5_2
      clear X5_l
      clear Y5_0
      clear Y5_1
      clear Y5_2
      clear Y5_l
      clear Z5_0
      clear Z5_1
      clear Z5_2
      clear Z5_l
      replace TT := TT.below hb6
      obtain ⟨T6_0, T6_1, T6_2⟩ := TT.three
      have T6_l := TT.lt
      replace TX := TX.below hb6
      obtain ⟨X6_0, X6_1, X6_2⟩ := TX.three
      have X6_l := TX.lt
      replace TY := TY.below hb6
      obtain ⟨Y6_0, Y6_1, Y6_2⟩ := TY.three
      have Y6_l := TY.lt
      replace TZ := TZ.below hb6
      obtain ⟨Z6_0, Z6_1, Z6_2⟩ := TZ.three
      have Z6_l := TZ.lt
      replace TU := TU.below hb6
      obtain ⟨U6_0, U6_1, U6_2⟩ := TU.three
      have U6_l := TU.lt
      clear hb6
      rw [hw]
      go_wp2
      go_ret
      exact ⟨rfl, by (repeat (first | exact Below.refl _ _ | assumption | refine Below.setCell ?_ (by first | (simp; done) | (simp; omega) | omega) _ | refine Below.alloc1 ?_ _ | refine Below.alloc ?_ (by first | (simp; done) | (simp; omega) | omega) _ | refine Below.drew ?_ | refine Below.drewN ?_ _ | refine Below.via ?_ (by assumption)))⟩
end Go.Proofs.Ytdkfiikbofamfaa
