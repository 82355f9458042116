/- The walk of the law FnTaskCycle: it returns true and leaves all that was in memory as it was, for every code. -/
import Derived.Test.YtdkfiikbofamfaaLwTaskHead4
namespace Go.Proofs.Ytdkfiikbofamfaa
set_option linter.unusedVariables false
open Go.RowKit
set_option maxHeartbeats 4000000 in
theorem law_TaskCycle (B T n c : Nat) (A : Option Addr) (bs : List Value) (w : World) (hr : Rd w B T 1 A n bs) (hb : Bytes bs) (hnc : n ≤ c) :
    Calls Try.prog 13 #[.slice A n c] w fun e w' => e = .returned (.bool true) ∧ Below w.heap.size w w' := by
  by_cases hbig : 1048576 < n
  · have hd : (1048576 : Int) < (n : Int) := by omega
    go_enter Try.func13, Try.ntmps13
    go_wp2_with fail
    go_ret
    exact ⟨rfl, Below.refl _ _⟩
  have hn : n ≤ 1048576 := by omega
  have hd : ¬ (1048576 : Int) < (n : Int) := by omega
  have hB := Below.refl w.heap.size w
  go_enter Try.func13, Try.ntmps13
  go_wp2_with fail
  refine (DrawTaskWait_any B T n c A bs _ hr hb hn hnc).mono ?_
  rintro e w1 ⟨s, p, x, st, ob, rfl, hob, hb1⟩
  replace hB := Below.via hB hb1
  clear hb1
  have TT := Blk.new w1 25 #[.int .i64 (s), .int .i64 (p), .int .i64 (x)]
  replace hB := Below.alloc1 hB (.cells #[.int .i64 (s), .int .i64 (p), .int .i64 (x)] 25)
  obtain ⟨hob1, hob2⟩ := hob
  cases hv : taskV s p x
  · skip
    go_wp2_with fail
    refine (iStop_no _ hv).mono ?_
    rintro e w2 ⟨rfl, hb2⟩
    replace hB := Below.via hB hb2
    replace TT := TT.below hb2
    obtain ⟨T2_0, T2_1, T2_2⟩ := TT.three
    have T2_l := TT.lt
    clear hb2
    replace TT := TT.alloc (.cells #[.int .i64 (0), .int .i64 (0), .int .i64 (0)] 25)
    have TX := Blk.new w2 25 #[.int .i64 (0), .int .i64 (0), .int .i64 (0)]
    replace hB := Below.alloc1 hB (.cells #[.int .i64 (0), .int .i64 (0), .int .i64 (0)] 25)
    go_wp2_with fail
    refine wp_region_noPanic ?_
    refine wp_region_held_drew (S := (fun W => W.cell? ⟨w1.heap.size, 0, none⟩ = some (.int .i64 (s)) ∧ W.cell? ⟨w1.heap.size, 1, none⟩ = some (.int .i64 (p)) ∧ W.cell? ⟨w1.heap.size, 2, none⟩ = some (.int .i64 (x)) ∧ W.cell? ⟨w2.heap.size, 0, none⟩ = some (.int .i64 (0)) ∧ W.cell? ⟨w2.heap.size, 1, none⟩ = some (.int .i64 (0)) ∧ W.cell? ⟨w2.heap.size, 2, none⟩ = some (.int .i64 (0)))) (by kernel_rfl) ?_ (fun hHeld => ?_)
    focus (first | exact trivial | ((try dsimp only); ((repeat' (first | assumption | with_reducible refine And.intro ?_ ?_)) <;> go_keep))); done
    refine wpAnyH_take (i := 0) (v := ?_) (by rw [List.getElem?_toArray]; rfl) (by kernel_rfl) (by kernel_rfl) (by kernel_rfl) (fun _ _ _ h => h) (Or.inl ⟨by rfl, ?_⟩) (by assumption) ?_
    rotate_left
    focus (intro wS hSw; (try dsimp only at hSw); go_simp; (try with_reducible rfl)); done
    (try simp only [Act.put, List.setIfInBounds_toArray, List.set_cons_zero, List.set_cons_succ])
    refine wpAnyH_take (i := 1) (v := ?_) (by rw [List.getElem?_toArray]; rfl) (by kernel_rfl) (by kernel_rfl) (by kernel_rfl) (fun _ _ _ h => h) (Or.inl ⟨by rfl, ?_⟩) (by assumption) ?_
    rotate_left
    focus (intro wS hSw; (try dsimp only at hSw); go_simp; (try with_reducible rfl)); done
    (try simp only [Act.put, List.setIfInBounds_toArray, List.set_cons_zero, List.set_cons_succ])
    refine wpAnyH_ready (rs := [2]) (by kernel_rfl) (by simp) ?_
    refine AllReadyH.cons (by rw [List.getElem?_toArray]; rfl) (fun K hK => ?_) AllReadyH.nil
    go_simp
    refine (sStop_no _ hv).mono ?_; rintro e w3 ⟨rfl, hb3⟩; replace hB := Below.via (Below.drew hB) hb3; clear T2_0; clear T2_1; clear T2_2; clear T2_l; replace TT := (Blk.drew TT).below hb3; obtain ⟨T3_0, T3_1, T3_2⟩ := TT.three; have T3_l := TT.lt; replace TX := (Blk.drew TX).below hb3; obtain ⟨X3_0, X3_1, X3_2⟩ := TX.three; have X3_l := TX.lt
    refine hK.out _ _ ?_ (fun hHeld => ?_)
    focus (first | exact trivial | ((try dsimp only); (exact ⟨T3_0, T3_1, T3_2, X3_0, X3_1, X3_2⟩))); done
    clear hK K
    (try simp only [Act.put, List.setIfInBounds_toArray, List.set_cons_zero, List.set_cons_succ])
    clear hb3
    refine wpAnyH_take (i := 3) (v := ?_) (by rw [List.getElem?_toArray]; rfl) (by kernel_rfl) (by kernel_rfl) (by kernel_rfl) (fun _ _ _ h => h) (Or.inl ⟨by rfl, ?_⟩) (by assumption) ?_
    rotate_left
    focus (intro wS hSw; (try dsimp only at hSw); go_simp; (try with_reducible rfl)); done
    (try simp only [Act.put, List.setIfInBounds_toArray, List.set_cons_zero, List.set_cons_succ])
    refine wpAnyH_done (by kernel_rfl) ?_ _
    refine NoPanic.normal ?_
    go_wp2_with fail
    refine (sTaskValid_any s p x _).mono ?_
    rintro e w4 ⟨rfl, hb4⟩
    replace hB := Below.via hB hb4
    clear T3_0
    clear T3_1
    clear T3_2
    clear T3_l
    clear X3_0
    clear X3_1
    clear X3_2
    clear X3_l
    replace TT := TT.below hb4
    obtain ⟨T4_0, T4_1, T4_2⟩ := TT.three
    have T4_l := TT.lt
    replace TX := TX.below hb4
    obtain ⟨X4_0, X4_1, X4_2⟩ := TX.three
    have X4_l := TX.lt
    clear hb4
    rw [hv]
    clear hv
    go_wp2_with fail
    refine (alive_any _).mono ?_
    rintro e w5 ⟨rfl, hb5⟩
    replace hB := Below.via hB hb5
    clear T4_0
    clear T4_1
    clear T4_2
    clear T4_l
    clear X4_0
    clear X4_1
    clear X4_2
    clear X4_l
    replace TT := TT.below hb5
    obtain ⟨T5_0, T5_1, T5_2⟩ := TT.three
    have T5_l := TT.lt
    replace TX := TX.below hb5
    obtain ⟨X5_0, X5_1, X5_2⟩ := TX.three
    have X5_l := TX.lt
    clear hb5
    go_wp2
    go_ret
    exact ⟨rfl, by (repeat (first | exact Below.refl _ _ | assumption | refine Below.setCell ?_ (by first | (simp; done) | (simp; omega) | omega) _ | refine Below.alloc1 ?_ _ | refine Below.alloc ?_ (by first | (simp; done) | (simp; omega) | omega) _ | refine Below.drew ?_ | refine Below.drewN ?_ _ | refine Below.via ?_ (by assumption)))⟩
  · skip
    go_wp2_with fail
    refine (iStop_yes _ hv).mono ?_
    rintro e w2 ⟨rfl, hb2⟩
    replace hB := Below.via hB hb2
    replace TT := TT.below hb2
    obtain ⟨T2_0, T2_1, T2_2⟩ := TT.three
    have T2_l := TT.lt
    clear hb2
    replace TT := TT.alloc (.cells #[.int .i64 (0), .int .i64 (p), .int .i64 (-1)] 25)
    have TX := Blk.new w2 25 #[.int .i64 (0), .int .i64 (p), .int .i64 (-1)]
    replace hB := Below.alloc1 hB (.cells #[.int .i64 (0), .int .i64 (p), .int .i64 (-1)] 25)
    go_wp2_with fail
    refine wp_region_noPanic ?_
    refine wp_region_held_drew (S := (fun W => W.cell? ⟨w1.heap.size, 0, none⟩ = some (.int .i64 (s)) ∧ W.cell? ⟨w1.heap.size, 1, none⟩ = some (.int .i64 (p)) ∧ W.cell? ⟨w1.heap.size, 2, none⟩ = some (.int .i64 (x)) ∧ W.cell? ⟨w2.heap.size, 0, none⟩ = some (.int .i64 (0)) ∧ W.cell? ⟨w2.heap.size, 1, none⟩ = some (.int .i64 (p)) ∧ W.cell? ⟨w2.heap.size, 2, none⟩ = some (.int .i64 (-1)))) (by kernel_rfl) ?_ (fun hHeld => ?_)
    focus (first | exact trivial | ((try dsimp only); ((repeat' (first | assumption | with_reducible refine And.intro ?_ ?_)) <;> go_keep))); done
    refine wpAnyH_take (i := 0) (v := ?_) (by rw [List.getElem?_toArray]; rfl) (by kernel_rfl) (by kernel_rfl) (by kernel_rfl) (fun _ _ _ h => h) (Or.inl ⟨by rfl, ?_⟩) (by assumption) ?_
    rotate_left
    focus (intro wS hSw; (try dsimp only at hSw); go_simp; (try with_reducible rfl)); done
    (try simp only [Act.put, List.setIfInBounds_toArray, List.set_cons_zero, List.set_cons_succ])
    refine wpAnyH_take (i := 1) (v := ?_) (by rw [List.getElem?_toArray]; rfl) (by kernel_rfl) (by kernel_rfl) (by kernel_rfl) (fun _ _ _ h => h) (Or.inl ⟨by rfl, ?_⟩) (by assumption) ?_
    rotate_left
    focus (intro wS hSw; (try dsimp only at hSw); go_simp; (try with_reducible rfl)); done
    (try simp only [Act.put, List.setIfInBounds_toArray, List.set_cons_zero, List.set_cons_succ])
    refine wpAnyH_ready (rs := [2]) (by kernel_rfl) (by simp) ?_
    refine AllReadyH.cons (by rw [List.getElem?_toArray]; rfl) (fun K hK => ?_) AllReadyH.nil
    go_simp
    refine (sStop_yes _ hv).mono ?_; rintro e w3 ⟨rfl, hb3⟩; replace hB := Below.via (Below.drew hB) hb3; clear T2_0; clear T2_1; clear T2_2; clear T2_l; replace TT := (Blk.drew TT).below hb3; obtain ⟨T3_0, T3_1, T3_2⟩ := TT.three; have T3_l := TT.lt; replace TX := (Blk.drew TX).below hb3; obtain ⟨X3_0, X3_1, X3_2⟩ := TX.three; have X3_l := TX.lt
    refine hK.out _ _ ?_ (fun hHeld => ?_)
    focus (first | exact trivial | ((try dsimp only); (exact ⟨T3_0, T3_1, T3_2, X3_0, X3_1, X3_2⟩))); done
    clear hK K
    (try simp only [Act.put, List.setIfInBounds_toArray, List.set_cons_zero, List.set_cons_succ])
    clear hb3
    refine wpAnyH_take (i := 3) (v := ?_) (by rw [List.getElem?_toArray]; rfl) (by kernel_rfl) (by kernel_rfl) (by kernel_rfl) (fun _ _ _ h => h) (Or.inl ⟨by rfl, ?_⟩) (by assumption) ?_
    rotate_left
    focus (intro wS hSw; (try dsimp only at hSw); go_simp; (try with_reducible rfl)); done
    (try simp only [Act.put, List.setIfInBounds_toArray, List.set_cons_zero, List.set_cons_succ])
    refine wpAnyH_done (by kernel_rfl) ?_ _
    refine NoPanic.normal ?_
    go_wp2_with fail
    refine (sTaskValid_any s p x _).mono ?_
    rintro e w4 ⟨rfl, hb4⟩
    replace hB := Below.via hB hb4
    clear T3_0
    clear T3_1
    clear T3_2
    clear T3_l
    clear X3_0
    clear X3_1
    clear X3_2
    clear X3_l
    replace TT := TT.below hb4
    obtain ⟨T4_0, T4_1, T4_2⟩ := TT.three
    have T4_l := TT.lt
    replace TX := TX.below hb4
    obtain ⟨X4_0, X4_1, X4_2⟩ := TX.three
    have X4_l := TX.lt
    clear hb4
    rw [hv]
    by_cases hq : st < 2 ∨ (¬ st < 2 ∧ (4 < st ∨ (¬ 4 < st ∧ (ob < 0 ∨ (¬ ob < 0 ∧ 99 < ob)))))
    · clear hv
      rcases hq with h1 | ⟨h1, h2 | ⟨h2, h3 | ⟨h3, h4⟩⟩⟩
      all_goals
        go_wp2_with fail
        refine (alive_any _).mono ?_
        rintro e w5 ⟨rfl, hb5⟩
        replace hB := Below.via hB hb5
        clear T4_0
        clear T4_1
        clear T4_2
        clear T4_l
        clear X4_0
        clear X4_1
        clear X4_2
        clear X4_l
        replace TT := TT.below hb5
        obtain ⟨T5_0, T5_1, T5_2⟩ := TT.three
        have T5_l := TT.lt
        replace TX := TX.below hb5
        obtain ⟨X5_0, X5_1, X5_2⟩ := TX.three
        have X5_l := TX.lt
        clear hb5
        go_wp2
        go_ret
        exact ⟨rfl, by (repeat (first | exact Below.refl _ _ | assumption | refine Below.setCell ?_ (by first | (simp; done) | (simp; omega) | omega) _ | refine Below.alloc1 ?_ _ | refine Below.alloc ?_ (by first | (simp; done) | (simp; omega) | omega) _ | refine Below.drew ?_ | refine Below.drewN ?_ _ | refine Below.via ?_ (by assumption)))⟩
    · have h1 : ¬ st < 2 := by omega
      have h2 : ¬ 4 < st := by omega
      have h3 : ¬ ob < 0 := by omega
      have h4 : ¬ 99 < ob := by omega
      have e1 : inB st 2 4 = true := by rw [inB_true]; omega
      have e2 : inB ob 0 99 = true := by rw [inB_true]; omega
      have y0 : taskV 0 p (-1) = true := taskV_mk (by decide) (taskV_prio hv) (.inr ⟨by decide, rfl⟩)
      have y1 : taskV 1 p (-1) = true := taskV_mk (by decide) (taskV_prio hv) (.inr ⟨by decide, rfl⟩)
      have y2 : taskV st p ob = true := taskV_mk (by rw [inB_true]; omega) (taskV_prio hv) (.inl ⟨e1, e2⟩)
      have y3 : (taskV 1 p (-1) && (inB st 2 4 && inB ob 0 99)) = true := by rw [y1, e1, e2]; rfl
      have y4 : mayStart 0 = true := by decide
      have y5 : mayWake st ob ob = true := by simp [mayWake, e1]
      have y6 : ((1 : Int) == 1) = true := by decide
      clear hv hq e1 e2
      go_wp2_with fail
      refine (iStart_yes _ y0 y4).mono ?_
      rintro e w5 ⟨rfl, hb5⟩
      replace hB := Below.via hB hb5
      clear T4_0
      clear T4_1
      clear T4_2
      clear T4_l
      clear X4_0
      clear X4_1
      clear X4_2
      clear X4_l
      replace TT := TT.below hb5
      obtain ⟨T5_0, T5_1, T5_2⟩ := TT.three
      have T5_l := TT.lt
      replace TX := TX.below hb5
      obtain ⟨X5_0, X5_1, X5_2⟩ := TX.three
      have X5_l := TX.lt
      clear hb5
      replace TT := TT.alloc (.cells #[.int .i64 (1), .int .i64 (p), .int .i64 (-1)] 25)
      replace TX := TX.alloc (.cells #[.int .i64 (1), .int .i64 (p), .int .i64 (-1)] 25)
      have TY := Blk.new w5 25 #[.int .i64 (1), .int .i64 (p), .int .i64 (-1)]
      replace hB := Below.alloc1 hB (.cells #[.int .i64 (1), .int .i64 (p), .int .i64 (-1)] 25)
      go_wp2_with fail
      refine (iWait_yes _ y3 y6).mono ?_
      rintro e w6 ⟨rfl, hb6⟩
      replace hB := Below.via hB hb6
      clear T5_0
      clear T5_1
      clear T5_2
      clear T5_l
      clear X5_0
      clear X5_1
      clear X5_2
      clear X5_l
      replace TT := TT.below hb6
      obtain ⟨T6_0, T6_1, T6_2⟩ := TT.three
      have T6_l := TT.lt
      replace TX := TX.below hb6
      obtain ⟨X6_0, X6_1, X6_2⟩ := TX.three
      have X6_l := TX.lt
      replace TY := TY.below hb6
      obtain ⟨Y6_0, Y6_1, Y6_2⟩ := TY.three
      have Y6_l := TY.lt
      clear hb6
      replace TT := TT.alloc (.cells #[.int .i64 (st), .int .i64 (p), .int .i64 (ob)] 25)
      replace TX := TX.alloc (.cells #[.int .i64 (st), .int .i64 (p), .int .i64 (ob)] 25)
      replace TY := TY.alloc (.cells #[.int .i64 (st), .int .i64 (p), .int .i64 (ob)] 25)
      have TZ := Blk.new w6 25 #[.int .i64 (st), .int .i64 (p), .int .i64 (ob)]
      replace hB := Below.alloc1 hB (.cells #[.int .i64 (st), .int .i64 (p), .int .i64 (ob)] 25)
      go_wp2_with fail
      refine (iWake_yes _ y2 y5).mono ?_
      rintro e w7 ⟨rfl, hb7⟩
      replace hB := Below.via hB hb7
      clear T6_0
      clear T6_1
      clear T6_2
      clear T6_l
      clear X6_0
      clear X6_1
      clear X6_2
      clear X6_l
      clear Y6_0
      clear Y6_1
      clear Y6_2
      clear Y6_l
      replace TT := TT.below hb7
      obtain ⟨T7_0, T7_1, T7_2⟩ := TT.three
      have T7_l := TT.lt
      replace TX := TX.below hb7
      obtain ⟨X7_0, X7_1, X7_2⟩ := TX.three
      have X7_l := TX.lt
      replace TY := TY.below hb7
      obtain ⟨Y7_0, Y7_1, Y7_2⟩ := TY.three
      have Y7_l := TY.lt
      replace TZ := TZ.below hb7
      obtain ⟨Z7_0, Z7_1, Z7_2⟩ := TZ.three
      have Z7_l := TZ.lt
      clear hb7
      replace TT := TT.alloc (.cells #[.int .i64 (1), .int .i64 (p), .int .i64 (-1)] 25)
      replace TX := TX.alloc (.cells #[.int .i64 (1), .int .i64 (p), .int .i64 (-1)] 25)
      replace TY := TY.alloc (.cells #[.int .i64 (1), .int .i64 (p), .int .i64 (-1)] 25)
      replace TZ := TZ.alloc (.cells #[.int .i64 (1), .int .i64 (p), .int .i64 (-1)] 25)
      have TU := Blk.new w7 25 #[.int .i64 (1), .int .i64 (p), .int .i64 (-1)]
      replace hB := Below.alloc1 hB (.cells #[.int .i64 (1), .int .i64 (p), .int .i64 (-1)] 25)
      go_wp2_with fail
      refine wp_region_noPanic ?_
      refine wp_region_held_drew (S := (fun W => W.cell? ⟨w1.heap.size, 0, none⟩ = some (.int .i64 (s)) ∧ W.cell? ⟨w1.heap.size, 1, none⟩ = some (.int .i64 (p)) ∧ W.cell? ⟨w1.heap.size, 2, none⟩ = some (.int .i64 (x)) ∧ W.cell? ⟨w2.heap.size, 0, none⟩ = some (.int .i64 (0)) ∧ W.cell? ⟨w2.heap.size, 1, none⟩ = some (.int .i64 (p)) ∧ W.cell? ⟨w2.heap.size, 2, none⟩ = some (.int .i64 (-1)) ∧ W.cell? ⟨w5.heap.size, 0, none⟩ = some (.int .i64 (1)) ∧ W.cell? ⟨w5.heap.size, 1, none⟩ = some (.int .i64 (p)) ∧ W.cell? ⟨w5.heap.size, 2, none⟩ = some (.int .i64 (-1)) ∧ W.cell? ⟨w6.heap.size, 0, none⟩ = some (.int .i64 (st)) ∧ W.cell? ⟨w6.heap.size, 1, none⟩ = some (.int .i64 (p)) ∧ W.cell? ⟨w6.heap.size, 2, none⟩ = some (.int .i64 (ob)) ∧ W.cell? ⟨w7.heap.size, 0, none⟩ = some (.int .i64 (1)) ∧ W.cell? ⟨w7.heap.size, 1, none⟩ = some (.int .i64 (p)) ∧ W.cell? ⟨w7.heap.size, 2, none⟩ = some (.int .i64 (-1)))) (by kernel_rfl) ?_ (fun hHeld => ?_)
      focus (first | exact trivial | ((try dsimp only); ((repeat' (first | assumption | with_reducible refine And.intro ?_ ?_)) <;> go_keep))); done
      refine wpAnyH_take (i := 0) (v := ?_) (by rw [List.getElem?_toArray]; rfl) (by kernel_rfl) (by kernel_rfl) (by kernel_rfl) (fun _ _ _ h => h) (Or.inl ⟨by rfl, ?_⟩) (by assumption) ?_
      rotate_left
      focus (intro wS hSw; (try dsimp only at hSw); go_simp; (try with_reducible rfl)); done
      (try simp only [Act.put, List.setIfInBounds_toArray, List.set_cons_zero, List.set_cons_succ])
      refine wpAnyH_take (i := 1) (v := ?_) (by rw [List.getElem?_toArray]; rfl) (by kernel_rfl) (by kernel_rfl) (by kernel_rfl) (fun _ _ _ h => h) (Or.inl ⟨by rfl, ?_⟩) (by assumption) ?_
      rotate_left
      focus (intro wS hSw; (try dsimp only at hSw); go_simp; (try with_reducible rfl)); done
      (try simp only [Act.put, List.setIfInBounds_toArray, List.set_cons_zero, List.set_cons_succ])
      refine wpAnyH_take (i := 2) (v := ?_) (by rw [List.getElem?_toArray]; rfl) (by kernel_rfl) (by kernel_rfl) (by kernel_rfl) (fun _ _ _ h => h) (Or.inl ⟨by rfl, ?_⟩) (by assumption) ?_
      rotate_left
      focus (intro wS hSw; (try dsimp only at hSw); go_simp; (try with_reducible rfl)); done
      (try simp only [Act.put, List.setIfInBounds_toArray, List.set_cons_zero, List.set_cons_succ])
      refine wpAnyH_take (i := 3) (v := ?_) (by rw [List.getElem?_toArray]; rfl) (by kernel_rfl) (by kernel_rfl) (by kernel_rfl) (fun _ _ _ h => h) (Or.inl ⟨by rfl, ?_⟩) (by assumption) ?_
      rotate_left
      focus (intro wS hSw; (try dsimp only at hSw); go_simp; (try with_reducible rfl)); done
      (try simp only [Act.put, List.setIfInBounds_toArray, List.set_cons_zero, List.set_cons_succ])
      refine wpAnyH_take (i := 4) (v := ?_) (by rw [List.getElem?_toArray]; rfl) (by kernel_rfl) (by kernel_rfl) (by kernel_rfl) (fun _ _ _ h => h) (Or.inl ⟨by rfl, ?_⟩) (by assumption) ?_
      rotate_left
      focus (intro wS hSw; (try dsimp only at hSw); go_simp; (try with_reducible rfl)); done
      (try simp only [Act.put, List.setIfInBounds_toArray, List.set_cons_zero, List.set_cons_succ])
      refine wpAnyH_take (i := 5) (v := ?_) (by rw [List.getElem?_toArray]; rfl) (by kernel_rfl) (by kernel_rfl) (by kernel_rfl) (fun _ _ _ h => h) (Or.inl ⟨by rfl, ?_⟩) (by assumption) ?_
      rotate_left
      focus (intro wS hSw; (try dsimp only at hSw); go_simp; (try with_reducible rfl)); done
      (try simp only [Act.put, List.setIfInBounds_toArray, List.set_cons_zero, List.set_cons_succ])
      refine wpAnyH_take (i := 6) (v := ?_) (by rw [List.getElem?_toArray]; rfl) (by kernel_rfl) (by kernel_rfl) (by kernel_rfl) (fun _ _ _ h => h) (Or.inl ⟨by rfl, ?_⟩) (by assumption) ?_
      rotate_left
      focus (intro wS hSw; (try dsimp only at hSw); go_simp; (try with_reducible rfl)); done
      (try simp only [Act.put, List.setIfInBounds_toArray, List.set_cons_zero, List.set_cons_succ])
      refine wpAnyH_take (i := 7) (v := ?_) (by rw [List.getElem?_toArray]; rfl) (by kernel_rfl) (by kernel_rfl) (by kernel_rfl) (fun _ _ _ h => h) (Or.inl ⟨by rfl, ?_⟩) (by assumption) ?_
      rotate_left
      focus (intro wS hSw; (try dsimp only at hSw); go_simp; (try with_reducible rfl)); done
      (try simp only [Act.put, List.setIfInBounds_toArray, List.set_cons_zero, List.set_cons_succ])
      refine wpAnyH_take (i := 8) (v := ?_) (by rw [List.getElem?_toArray]; rfl) (by kernel_rfl) (by kernel_rfl) (by kernel_rfl) (fun _ _ _ h => h) (Or.inl ⟨by rfl, ?_⟩) (by assumption) ?_
      rotate_left
      focus (intro wS hSw; (try dsimp only at hSw); go_simp; (try with_reducible rfl)); done
      (try simp only [Act.put, List.setIfInBounds_toArray, List.set_cons_zero, List.set_cons_succ])
      refine wpAnyH_take (i := 9) (v := ?_) (by rw [List.getElem?_toArray]; rfl) (by kernel_rfl) (by kernel_rfl) (by kernel_rfl) (fun _ _ _ h => h) (Or.inl ⟨by rfl, ?_⟩) (by assumption) ?_
      rotate_left
      focus (intro wS hSw; (try dsimp only at hSw); go_simp; (try with_reducible rfl)); done
      (try simp only [Act.put, List.setIfInBounds_toArray, List.set_cons_zero, List.set_cons_succ])
      refine wpAnyH_take (i := 10) (v := ?_) (by rw [List.getElem?_toArray]; rfl) (by kernel_rfl) (by kernel_rfl) (by kernel_rfl) (fun _ _ _ h => h) (Or.inl ⟨by rfl, ?_⟩) (by assumption) ?_
      rotate_left
      focus (intro wS hSw; (try dsimp only at hSw); go_simp; (try with_reducible rfl)); done
      (try simp only [Act.put, List.setIfInBounds_toArray, List.set_cons_zero, List.set_cons_succ])
      refine wpAnyH_take (i := 11) (v := ?_) (by rw [List.getElem?_toArray]; rfl) (by kernel_rfl) (by kernel_rfl) (by kernel_rfl) (fun _ _ _ h => h) (Or.inl ⟨by rfl, ?_⟩) (by assumption) ?_
      rotate_left
      focus (intro wS hSw; (try dsimp only at hSw); go_simp; (try with_reducible rfl)); done
      (try simp only [Act.put, List.setIfInBounds_toArray, List.set_cons_zero, List.set_cons_succ])
      refine wpAnyH_take (i := 12) (v := ?_) (by rw [List.getElem?_toArray]; rfl) (by kernel_rfl) (by kernel_rfl) (by kernel_rfl) (fun _ _ _ h => h) (Or.inl ⟨by rfl, ?_⟩) (by assumption) ?_
      rotate_left
      focus (intro wS hSw; (try dsimp only at hSw); go_simp; (try with_reducible rfl)); done
      (try simp only [Act.put, List.setIfInBounds_toArray, List.set_cons_zero, List.set_cons_succ])
      refine wpAnyH_take (i := 13) (v := ?_) (by rw [List.getElem?_toArray]; rfl) (by kernel_rfl) (by kernel_rfl) (by kernel_rfl) (fun _ _ _ h => h) (Or.inl ⟨by rfl, ?_⟩) (by assumption) ?_
      rotate_left
      focus (intro wS hSw; (try dsimp only at hSw); go_simp; (try with_reducible rfl)); done
      (try simp only [Act.put, List.setIfInBounds_toArray, List.set_cons_zero, List.set_cons_succ])
      refine wpAnyH_take (i := 15) (v := ?_) (by rw [List.getElem?_toArray]; rfl) (by kernel_rfl) (by kernel_rfl) (by kernel_rfl) (fun _ _ _ h => h) (Or.inl ⟨by rfl, ?_⟩) (by assumption) ?_
      rotate_left
      focus (intro wS hSw; (try dsimp only at hSw); go_simp; (try with_reducible rfl)); done
      (try simp only [Act.put, List.setIfInBounds_toArray, List.set_cons_zero, List.set_cons_succ])
      refine wpAnyH_ready (rs := [14]) (by kernel_rfl) (by simp) ?_
      refine AllReadyH.cons (by rw [List.getElem?_toArray]; rfl) (fun K hK => ?_) AllReadyH.nil
      go_simp
      refine (iStop_yes _ y1).mono ?_; rintro e w8 ⟨rfl, hb8⟩; replace hB := Below.via (Below.drew hB) hb8; replace TT := (Blk.drew TT).below hb8; obtain ⟨T8_0, T8_1, T8_2⟩ := TT.three; have T8_l := TT.lt; replace TX := (Blk.drew TX).below hb8; obtain ⟨X8_0, X8_1, X8_2⟩ := TX.three; have X8_l := TX.lt; replace TY := (Blk.drew TY).below hb8; obtain ⟨Y8_0, Y8_1, Y8_2⟩ := TY.three; have Y8_l := TY.lt; replace TZ := (Blk.drew TZ).below hb8; obtain ⟨Z8_0, Z8_1, Z8_2⟩ := TZ.three; have Z8_l := TZ.lt; replace TU := (Blk.drew TU).below hb8; obtain ⟨U8_0, U8_1, U8_2⟩ := TU.three; have U8_l := TU.lt
      refine hK.out _ _ ?_ (fun hHeld => ?_)
      focus (first | exact trivial | ((try dsimp only); (exact ⟨T8_0, T8_1, T8_2, X8_0, X8_1, X8_2, Y8_0, Y8_1, Y8_2, Z8_0, Z8_1, Z8_2, U8_0, U8_1, U8_2⟩))); done
      clear hK K
      (try simp only [Act.put, List.setIfInBounds_toArray, List.set_cons_zero, List.set_cons_succ])
      refine wpAnyH_take (i := 16) (v := ?_) (by rw [List.getElem?_toArray]; rfl) (by kernel_rfl) (by kernel_rfl) (by kernel_rfl) (fun _ _ _ h => h) (Or.inl ⟨by rfl, ?_⟩) (by assumption) ?_
      rotate_left
      focus (intro wS hSw; (try dsimp only at hSw); go_simp; (try with_reducible rfl)); done
      (try simp only [Act.put, List.setIfInBounds_toArray, List.set_cons_zero, List.set_cons_succ])
      refine wpAnyH_take (i := 17) (v := ?_) (by rw [List.getElem?_toArray]; rfl) (by kernel_rfl) (by kernel_rfl) (by kernel_rfl) (fun _ _ _ h => h) (Or.inl ⟨by rfl, ?_⟩) (by assumption) ?_
      rotate_left
      focus (intro wS hSw; (try dsimp only at hSw); go_simp; (try with_reducible rfl)); done
      (try simp only [Act.put, List.setIfInBounds_toArray, List.set_cons_zero, List.set_cons_succ])
      refine wpAnyH_take (i := 18) (v := ?_) (by rw [List.getElem?_toArray]; rfl) (by kernel_rfl) (by kernel_rfl) (by kernel_rfl) (fun _ _ _ h => h) (Or.inl ⟨by rfl, ?_⟩) (by assumption) ?_
      rotate_left
      focus (intro wS hSw; (try dsimp only at hSw); go_simp; (try with_reducible rfl)); done
      (try simp only [Act.put, List.setIfInBounds_toArray, List.set_cons_zero, List.set_cons_succ])
      refine wpAnyH_done (by kernel_rfl) ?_ _
      refine NoPanic.normal ?_
      go_wp2
      go_ret
      exact ⟨rfl, by (repeat (first | exact Below.refl _ _ | assumption | refine Below.setCell ?_ (by first | (simp; done) | (simp; omega) | omega) _ | refine Below.alloc1 ?_ _ | refine Below.alloc ?_ (by first | (simp; done) | (simp; omega) | omega) _ | refine Below.drew ?_ | refine Below.drewN ?_ _ | refine Below.via ?_ (by assumption)))⟩
end Go.Proofs.Ytdkfiikbofamfaa
