/- The walk of the law FnTaskStop: it returns true and leaves all that was in memory as it was, for every code. -/
import Derived.Test.YtdkfiikbofamfaaLwTaskHead
namespace Go.Proofs.Ytdkfiikbofamfaa
set_option linter.unusedVariables false
open Go.RowKit
set_option maxHeartbeats 4000000 in
theorem law_TaskStop (B T n c : Nat) (A : Option Addr) (bs : List Value) (w : World) (hr : Rd w B T 1 A n bs) (hb : Bytes bs) (hnc : n ≤ c) :
    Calls Try.prog 10 #[.slice A n c] w fun e w' => e = .returned (.bool true) ∧ Below w.heap.size w w' := by
  by_cases hbig : 1048576 < n
  · have hd : (1048576 : Int) < (n : Int) := by omega
    go_enter Try.func10, Try.ntmps10
    go_wp2_with fail
    go_ret
    exact ⟨rfl, Below.refl _ _⟩
  have hn : n ≤ 1048576 := by omega
  have hd : ¬ (1048576 : Int) < (n : Int) := by omega
  have hB := Below.refl w.heap.size w
  go_enter Try.func10, Try.ntmps10
  go_wp2_with fail
  refine (DrawTaskStop_any B T n c A bs _ hr hb hn hnc).mono ?_
  rintro e w1 ⟨s, p, x, rfl, hb1⟩
  replace hB := Below.via hB hb1
  clear hb1
  have TT := Blk.new w1 25 #[.int .i64 (s), .int .i64 (p), .int .i64 (x)]
  replace hB := Below.alloc1 hB (.cells #[.int .i64 (s), .int .i64 (p), .int .i64 (x)] 25)
  cases hv : taskV s p x
  · skip
    go_wp2_with fail
    refine (iStop_no _ hv).mono ?_
    rintro e w2 ⟨rfl, hb2⟩
    replace hB := Below.via hB hb2
    replace TT := TT.below hb2
    obtain ⟨T2_0, T2_1, T2_2⟩ := TT.three
    have T2_l := TT.lt
    clear hb2
    replace TT := TT.alloc (.cells #[.int .i64 (0), .int .i64 (0), .int .i64 (0)] 25)
    have TX := Blk.new w2 25 #[.int .i64 (0), .int .i64 (0), .int .i64 (0)]
    replace hB := Below.alloc1 hB (.cells #[.int .i64 (0), .int .i64 (0), .int .i64 (0)] 25)
    go_wp2_with fail
    refine wp_region_noPanic ?_
    refine wp_region_held_drew (S := (fun W => W.cell? ⟨w1.heap.size, 0, none⟩ = some (.int .i64 (s)) ∧ W.cell? ⟨w1.heap.size, 1, none⟩ = some (.int .i64 (p)) ∧ W.cell? ⟨w1.heap.size, 2, none⟩ = some (.int .i64 (x)) ∧ W.cell? ⟨w2.heap.size, 0, none⟩ = some (.int .i64 (0)) ∧ W.cell? ⟨w2.heap.size, 1, none⟩ = some (.int .i64 (0)) ∧ W.cell? ⟨w2.heap.size, 2, none⟩ = some (.int .i64 (0)))) (by kernel_rfl) ?_ (fun hHeld => ?_)
    focus (first | exact trivial | ((try dsimp only); ((repeat' (first | assumption | with_reducible refine And.intro ?_ ?_)) <;> go_keep))); done
    refine wpAnyH_take (i := 0) (v := ?_) (by rw [List.getElem?_toArray]; rfl) (by kernel_rfl) (by kernel_rfl) (by kernel_rfl) (fun _ _ _ h => h) (Or.inl ⟨by rfl, ?_⟩) (by assumption) ?_
    rotate_left
    focus (intro wS hSw; (try dsimp only at hSw); go_simp; (try with_reducible rfl)); done
    (try simp only [Act.put, List.setIfInBounds_toArray, List.set_cons_zero, List.set_cons_succ])
    refine wpAnyH_take (i := 1) (v := ?_) (by rw [List.getElem?_toArray]; rfl) (by kernel_rfl) (by kernel_rfl) (by kernel_rfl) (fun _ _ _ h => h) (Or.inl ⟨by rfl, ?_⟩) (by assumption) ?_
    rotate_left
    focus (intro wS hSw; (try dsimp only at hSw); go_simp; (try with_reducible rfl)); done
    (try simp only [Act.put, List.setIfInBounds_toArray, List.set_cons_zero, List.set_cons_succ])
    refine wpAnyH_ready (rs := [2]) (by kernel_rfl) (by simp) ?_
    refine AllReadyH.cons (by rw [List.getElem?_toArray]; rfl) (fun K hK => ?_) AllReadyH.nil
    go_simp
    refine (sStop_no _ hv).mono ?_; rintro e w3 ⟨rfl, hb3⟩; replace hB := Below.via (Below.drew hB) hb3; clear T2_0; clear T2_1; clear T2_2; clear T2_l; replace TT := (Blk.drew TT).below hb3; obtain ⟨T3_0, T3_1, T3_2⟩ := TT.three; have T3_l := TT.lt; replace TX := (Blk.drew TX).below hb3; obtain ⟨X3_0, X3_1, X3_2⟩ := TX.three; have X3_l := TX.lt
    refine hK.out _ _ ?_ (fun hHeld => ?_)
    focus (first | exact trivial | ((try dsimp only); (exact ⟨T3_0, T3_1, T3_2, X3_0, X3_1, X3_2⟩))); done
    clear hK K
    (try simp only [Act.put, List.setIfInBounds_toArray, List.set_cons_zero, List.set_cons_succ])
    clear hb3
    refine wpAnyH_take (i := 3) (v := ?_) (by rw [List.getElem?_toArray]; rfl) (by kernel_rfl) (by kernel_rfl) (by kernel_rfl) (fun _ _ _ h => h) (Or.inl ⟨by rfl, ?_⟩) (by assumption) ?_
    rotate_left
    focus (intro wS hSw; (try dsimp only at hSw); go_simp; (try with_reducible rfl)); done
    (try simp only [Act.put, List.setIfInBounds_toArray, List.set_cons_zero, List.set_cons_succ])
    refine wpAnyH_done (by kernel_rfl) ?_ _
    refine NoPanic.normal ?_
    go_wp2_with fail
    refine (sTaskValid_any s p x _).mono ?_
    rintro e w4 ⟨rfl, hb4⟩
    replace hB := Below.via hB hb4
    clear T3_0
    clear T3_1
    clear T3_2
    clear T3_l
    clear X3_0
    clear X3_1
    clear X3_2
    clear X3_l
    replace TT := TT.below hb4
    obtain ⟨T4_0, T4_1, T4_2⟩ := TT.three
    have T4_l := TT.lt
    replace TX := TX.below hb4
    obtain ⟨X4_0, X4_1, X4_2⟩ := TX.three
    have X4_l := TX.lt
    clear hb4
    rw [hv]
    go_wp2_with fail
    refine (alive_any _).mono ?_
    rintro e w5 ⟨rfl, hb5⟩
    replace hB := Below.via hB hb5
    clear T4_0
    clear T4_1
    clear T4_2
    clear T4_l
    clear X4_0
    clear X4_1
    clear X4_2
    clear X4_l
    replace TT := TT.below hb5
    obtain ⟨T5_0, T5_1, T5_2⟩ := TT.three
    have T5_l := TT.lt
    replace TX := TX.below hb5
    obtain ⟨X5_0, X5_1, X5_2⟩ := TX.three
    have X5_l := TX.lt
    clear hb5
    go_wp2
    go_ret
    exact ⟨rfl, by (repeat (first | exact Below.refl _ _ | assumption | refine Below.setCell ?_ (by first | (simp; done) | (simp; omega) | omega) _ | refine Below.alloc1 ?_ _ | refine Below.alloc ?_ (by first | (simp; done) | (simp; omega) | omega) _ | refine Below.drew ?_ | refine Below.drewN ?_ _ | refine Below.via ?_ (by assumption)))⟩
  · have hw : taskV 0 p (-1) = true := taskV_mk (by decide) (taskV_prio hv) (.inr ⟨by decide, rfl⟩)
    have hm1 : mayStart 0 = true := by decide
    go_wp2_with fail
    refine (iStop_yes _ hv).mono ?_
    rintro e w2 ⟨rfl, hb2⟩
    replace hB := Below.via hB hb2
    replace TT := TT.below hb2
    obtain ⟨T2_0, T2_1, T2_2⟩ := TT.three
    have T2_l := TT.lt
    clear hb2
    replace TT := TT.alloc (.cells #[.int .i64 (0), .int .i64 (p), .int .i64 (-1)] 25)
    have TX := Blk.new w2 25 #[.int .i64 (0), .int .i64 (p), .int .i64 (-1)]
    replace hB := Below.alloc1 hB (.cells #[.int .i64 (0), .int .i64 (p), .int .i64 (-1)] 25)
    go_wp2_with fail
    refine wp_region_noPanic ?_
    refine wp_region_held_drew (S := (fun W => W.cell? ⟨w1.heap.size, 0, none⟩ = some (.int .i64 (s)) ∧ W.cell? ⟨w1.heap.size, 1, none⟩ = some (.int .i64 (p)) ∧ W.cell? ⟨w1.heap.size, 2, none⟩ = some (.int .i64 (x)) ∧ W.cell? ⟨w2.heap.size, 0, none⟩ = some (.int .i64 (0)) ∧ W.cell? ⟨w2.heap.size, 1, none⟩ = some (.int .i64 (p)) ∧ W.cell? ⟨w2.heap.size, 2, none⟩ = some (.int .i64 (-1)))) (by kernel_rfl) ?_ (fun hHeld => ?_)
    focus (first | exact trivial | ((try dsimp only); ((repeat' (first | assumption | with_reducible refine And.intro ?_ ?_)) <;> go_keep))); done
    refine wpAnyH_take (i := 0) (v := ?_) (by rw [List.getElem?_toArray]; rfl) (by kernel_rfl) (by kernel_rfl) (by kernel_rfl) (fun _ _ _ h => h) (Or.inl ⟨by rfl, ?_⟩) (by assumption) ?_
    rotate_left
    focus (intro wS hSw; (try dsimp only at hSw); go_simp; (try with_reducible rfl)); done
    (try simp only [Act.put, List.setIfInBounds_toArray, List.set_cons_zero, List.set_cons_succ])
    refine wpAnyH_take (i := 1) (v := ?_) (by rw [List.getElem?_toArray]; rfl) (by kernel_rfl) (by kernel_rfl) (by kernel_rfl) (fun _ _ _ h => h) (Or.inl ⟨by rfl, ?_⟩) (by assumption) ?_
    rotate_left
    focus (intro wS hSw; (try dsimp only at hSw); go_simp; (try with_reducible rfl)); done
    (try simp only [Act.put, List.setIfInBounds_toArray, List.set_cons_zero, List.set_cons_succ])
    refine wpAnyH_ready (rs := [2]) (by kernel_rfl) (by simp) ?_
    refine AllReadyH.cons (by rw [List.getElem?_toArray]; rfl) (fun K hK => ?_) AllReadyH.nil
    go_simp
    refine (sStop_yes _ hv).mono ?_; rintro e w3 ⟨rfl, hb3⟩; replace hB := Below.via (Below.drew hB) hb3; clear T2_0; clear T2_1; clear T2_2; clear T2_l; replace TT := (Blk.drew TT).below hb3; obtain ⟨T3_0, T3_1, T3_2⟩ := TT.three; have T3_l := TT.lt; replace TX := (Blk.drew TX).below hb3; obtain ⟨X3_0, X3_1, X3_2⟩ := TX.three; have X3_l := TX.lt
    refine hK.out _ _ ?_ (fun hHeld => ?_)
    focus (first | exact trivial | ((try dsimp only); (exact ⟨T3_0, T3_1, T3_2, X3_0, X3_1, X3_2⟩))); done
    clear hK K
    (try simp only [Act.put, List.setIfInBounds_toArray, List.set_cons_zero, List.set_cons_succ])
    clear hb3
    refine wpAnyH_take (i := 3) (v := ?_) (by rw [List.getElem?_toArray]; rfl) (by kernel_rfl) (by kernel_rfl) (by kernel_rfl) (fun _ _ _ h => h) (Or.inl ⟨by rfl, ?_⟩) (by assumption) ?_
    rotate_left
    focus (intro wS hSw; (try dsimp only at hSw); go_simp; (try with_reducible rfl)); done
    (try simp only [Act.put, List.setIfInBounds_toArray, List.set_cons_zero, List.set_cons_succ])
    refine wpAnyH_done (by kernel_rfl) ?_ _
    refine NoPanic.normal ?_
    go_wp2_with fail
    refine (sTaskValid_any s p x _).mono ?_
    rintro e w4 ⟨rfl, hb4⟩
    replace hB := Below.via hB hb4
    clear T3_0
    clear T3_1
    clear T3_2
    clear T3_l
    clear X3_0
    clear X3_1
    clear X3_2
    clear X3_l
    replace TT := TT.below hb4
    obtain ⟨T4_0, T4_1, T4_2⟩ := TT.three
    have T4_l := TT.lt
    replace TX := TX.below hb4
    obtain ⟨X4_0, X4_1, X4_2⟩ := TX.three
    have X4_l := TX.lt
    clear hb4
    rw [hv]
    go_wp2_with fail
    refine (iStart_yes _ hw hm1).mono ?_
    rintro e w5 ⟨rfl, hb5⟩
    replace hB := Below.via hB hb5
    clear T4_0
    clear T4_1
    clear T4_2
    clear T4_l
    clear X4_0
    clear X4_1
    clear X4_2
    clear X4_l
    replace TT := TT.below hb5
    obtain ⟨T5_0, T5_1, T5_2⟩ := TT.three
    have T5_l := TT.lt
    replace TX := TX.below hb5
    obtain ⟨X5_0, X5_1, X5_2⟩ := TX.three
    have X5_l := TX.lt
    clear hb5
    replace TT := TT.alloc (.cells #[.int .i64 (1), .int .i64 (p), .int .i64 (-1)] 25)
    replace TX := TX.alloc (.cells #[.int .i64 (1), .int .i64 (p), .int .i64 (-1)] 25)
    have TY := Blk.new w5 25 #[.int .i64 (1), .int .i64 (p), .int .i64 (-1)]
    replace hB := Below.alloc1 hB (.cells #[.int .i64 (1), .int .i64 (p), .int .i64 (-1)] 25)
    go_wp2_with fail
    refine wp_region_noPanic ?_
    refine wp_region_held_drew (S := (fun W => W.cell? ⟨w1.heap.size, 0, none⟩ = some (.int .i64 (s)) ∧ W.cell? ⟨w1.heap.size, 1, none⟩ = some (.int .i64 (p)) ∧ W.cell? ⟨w1.heap.size, 2, none⟩ = some (.int .i64 (x)) ∧ W.cell? ⟨w2.heap.size, 0, none⟩ = some (.int .i64 (0)) ∧ W.cell? ⟨w2.heap.size, 1, none⟩ = some (.int .i64 (p)) ∧ W.cell? ⟨w2.heap.size, 2, none⟩ = some (.int .i64 (-1)) ∧ W.cell? ⟨w5.heap.size, 0, none⟩ = some (.int .i64 (1)) ∧ W.cell? ⟨w5.heap.size, 1, none⟩ = some (.int .i64 (p)) ∧ W.cell? ⟨w5.heap.size, 2, none⟩ = some (.int .i64 (-1)))) (by kernel_rfl) ?_ (fun hHeld => ?_)
    focus (first | exact trivial | ((try dsimp only); ((repeat' (first | assumption | with_reducible refine And.intro ?_ ?_)) <;> go_keep))); done
    refine wpAnyH_take (i := 0) (v := ?_) (by rw [List.getElem?_toArray]; rfl) (by kernel_rfl) (by kernel_rfl) (by kernel_rfl) (fun _ _ _ h => h) (Or.inl ⟨by rfl, ?_⟩) (by assumption) ?_
    rotate_left
    focus (intro wS hSw; (try dsimp only at hSw); go_simp; (try with_reducible rfl)); done
    (try simp only [Act.put, List.setIfInBounds_toArray, List.set_cons_zero, List.set_cons_succ])
    refine wpAnyH_take (i := 1) (v := ?_) (by rw [List.getElem?_toArray]; rfl) (by kernel_rfl) (by kernel_rfl) (by kernel_rfl) (fun _ _ _ h => h) (Or.inl ⟨by rfl, ?_⟩) (by assumption) ?_
    rotate_left
    focus (intro wS hSw; (try dsimp only at hSw); go_simp; (try with_reducible rfl)); done
    (try simp only [Act.put, List.setIfInBounds_toArray, List.set_cons_zero, List.set_cons_succ])
    refine wpAnyH_take (i := 2) (v := ?_) (by rw [List.getElem?_toArray]; rfl) (by kernel_rfl) (by kernel_rfl) (by kernel_rfl) (fun _ _ _ h => h) (Or.inl ⟨by rfl, ?_⟩) (by assumption) ?_
    rotate_left
    focus (intro wS hSw; (try dsimp only at hSw); go_simp; (try with_reducible rfl)); done
    (try simp only [Act.put, List.setIfInBounds_toArray, List.set_cons_zero, List.set_cons_succ])
    refine wpAnyH_take (i := 3) (v := ?_) (by rw [List.getElem?_toArray]; rfl) (by kernel_rfl) (by kernel_rfl) (by kernel_rfl) (fun _ _ _ h => h) (Or.inl ⟨by rfl, ?_⟩) (by assumption) ?_
    rotate_left
    focus (intro wS hSw; (try dsimp only at hSw); go_simp; (try with_reducible rfl)); done
    (try simp only [Act.put, List.setIfInBounds_toArray, List.set_cons_zero, List.set_cons_succ])
    refine wpAnyH_take (i := 4) (v := ?_) (by rw [List.getElem?_toArray]; rfl) (by kernel_rfl) (by kernel_rfl) (by kernel_rfl) (fun _ _ _ h => h) (Or.inl ⟨by rfl, ?_⟩) (by assumption) ?_
    rotate_left
    focus (intro wS hSw; (try dsimp only at hSw); go_simp; (try with_reducible rfl)); done
    (try simp only [Act.put, List.setIfInBounds_toArray, List.set_cons_zero, List.set_cons_succ])
    refine wpAnyH_take (i := 5) (v := ?_) (by rw [List.getElem?_toArray]; rfl) (by kernel_rfl) (by kernel_rfl) (by kernel_rfl) (fun _ _ _ h => h) (Or.inl ⟨by rfl, ?_⟩) (by assumption) ?_
    rotate_left
    focus (intro wS hSw; (try dsimp only at hSw); go_simp; (try with_reducible rfl)); done
    (try simp only [Act.put, List.setIfInBounds_toArray, List.set_cons_zero, List.set_cons_succ])
    refine wpAnyH_take (i := 6) (v := ?_) (by rw [List.getElem?_toArray]; rfl) (by kernel_rfl) (by kernel_rfl) (by kernel_rfl) (fun _ _ _ h => h) (Or.inl ⟨by rfl, ?_⟩) (by assumption) ?_
    rotate_left
    focus (intro wS hSw; (try dsimp only at hSw); go_simp; (try with_reducible rfl)); done
    (try simp only [Act.put, List.setIfInBounds_toArray, List.set_cons_zero, List.set_cons_succ])
    refine wpAnyH_take (i := 7) (v := ?_) (by rw [List.getElem?_toArray]; rfl) (by kernel_rfl) (by kernel_rfl) (by kernel_rfl) (fun _ _ _ h => h) (Or.inl ⟨by rfl, ?_⟩) (by assumption) ?_
    rotate_left
    focus (intro wS hSw; (try dsimp only at hSw); go_simp; (try with_reducible rfl)); done
    (try simp only [Act.put, List.setIfInBounds_toArray, List.set_cons_zero, List.set_cons_succ])
    refine wpAnyH_take (i := 8) (v := ?_) (by rw [List.getElem?_toArray]; rfl) (by kernel_rfl) (by kernel_rfl) (by kernel_rfl) (fun _ _ _ h => h) (Or.inl ⟨by rfl, ?_⟩) (by assumption) ?_
    rotate_left
    focus (intro wS hSw; (try dsimp only at hSw); go_simp; (try with_reducible rfl)); done
    (try simp only [Act.put, List.setIfInBounds_toArray, List.set_cons_zero, List.set_cons_succ])
    refine wpAnyH_take (i := 9) (v := ?_) (by rw [List.getElem?_toArray]; rfl) (by kernel_rfl) (by kernel_rfl) (by kernel_rfl) (fun _ _ _ h => h) (Or.inl ⟨by rfl, ?_⟩) (by assumption) ?_
    rotate_left
    focus (intro wS hSw; (try dsimp only at hSw); go_simp; (try with_reducible rfl)); done
    (try simp only [Act.put, List.setIfInBounds_toArray, List.set_cons_zero, List.set_cons_succ])
    refine wpAnyH_take (i := 10) (v := ?_) (by rw [List.getElem?_toArray]; rfl) (by kernel_rfl) (by kernel_rfl) (by kernel_rfl) (fun _ _ _ h => h) (Or.inl ⟨by rfl, ?_⟩) (by assumption) ?_
    rotate_left
    focus (intro wS hSw; (try dsimp only at hSw); go_simp; (try with_reducible rfl)); done
    (try simp only [Act.put, List.setIfInBounds_toArray, List.set_cons_zero, List.set_cons_succ])
    refine wpAnyH_take (i := 11) (v := ?_) (by rw [List.getElem?_toArray]; rfl) (by kernel_rfl) (by kernel_rfl) (by kernel_rfl) (fun _ _ _ h => h) (Or.inl ⟨by rfl, ?_⟩) (by assumption) ?_
    rotate_left
    focus (intro wS hSw; (try dsimp only at hSw); go_simp; (try with_reducible rfl)); done
    (try simp only [Act.put, List.setIfInBounds_toArray, List.set_cons_zero, List.set_cons_succ])
    refine wpAnyH_take (i := 12) (v := ?_) (by rw [List.getElem?_toArray]; rfl) (by kernel_rfl) (by kernel_rfl) (by kernel_rfl) (fun _ _ _ h => h) (Or.inl ⟨by rfl, ?_⟩) (by assumption) ?_
    rotate_left
    focus (intro wS hSw; (try dsimp only at hSw); go_simp; (try with_reducible rfl)); done
    (try simp only [Act.put, List.setIfInBounds_toArray, List.set_cons_zero, List.set_cons_succ])
    refine wpAnyH_take (i := 13) (v := ?_) (by rw [List.getElem?_toArray]; rfl) (by kernel_rfl) (by kernel_rfl) (by kernel_rfl) (fun _ _ _ h => h) (Or.inl ⟨by rfl, ?_⟩) (by assumption) ?_
    rotate_left
    focus (intro wS hSw; (try dsimp only at hSw); go_simp; (try with_reducible rfl)); done
    (try simp only [Act.put, List.setIfInBounds_toArray, List.set_cons_zero, List.set_cons_succ])
    refine wpAnyH_take (i := 14) (v := ?_) (by rw [List.getElem?_toArray]; rfl) (by kernel_rfl) (by kernel_rfl) (by kernel_rfl) (fun _ _ _ h => h) (Or.inl ⟨by rfl, ?_⟩) (by assumption) ?_
    rotate_left
    focus (intro wS hSw; (try dsimp only at hSw); go_simp; (try with_reducible rfl)); done
    (try simp only [Act.put, List.setIfInBounds_toArray, List.set_cons_zero, List.set_cons_succ])
    refine wpAnyH_take (i := 16) (v := ?_) (by rw [List.getElem?_toArray]; rfl) (by kernel_rfl) (by kernel_rfl) (by kernel_rfl) (fun _ _ _ h => h) (Or.inl ⟨by rfl, ?_⟩) (by assumption) ?_
    rotate_left
    focus (intro wS hSw; (try dsimp only at hSw); go_simp; (try with_reducible rfl)); done
    (try simp only [Act.put, List.setIfInBounds_toArray, List.set_cons_zero, List.set_cons_succ])
    refine wpAnyH_ready (rs := [15]) (by kernel_rfl) (by simp) ?_
    refine AllReadyH.cons (by rw [List.getElem?_toArray]; rfl) (fun K hK => ?_) AllReadyH.nil
    go_simp
    refine (iStop_yes _ hw).mono ?_; rintro e w6 ⟨rfl, hb6⟩; replace hB := Below.via (Below.drew hB) hb6; replace TT := (Blk.drew TT).below hb6; obtain ⟨T6_0, T6_1, T6_2⟩ := TT.three; have T6_l := TT.lt; replace TX := (Blk.drew TX).below hb6; obtain ⟨X6_0, X6_1, X6_2⟩ := TX.three; have X6_l := TX.lt; replace TY := (Blk.drew TY).below hb6; obtain ⟨Y6_0, Y6_1, Y6_2⟩ := TY.three; have Y6_l := TY.lt
    refine hK.out _ _ ?_ (fun hHeld => ?_)
    focus (first | exact trivial | ((try dsimp only); (exact ⟨T6_0, T6_1, T6_2, X6_0, X6_1, X6_2, Y6_0, Y6_1, Y6_2⟩))); done
    clear hK K
    (try simp only [Act.put, List.setIfInBounds_toArray, List.set_cons_zero, List.set_cons_succ])
    refine wpAnyH_take (i := 17) (v := ?_) (by rw [List.getElem?_toArray]; rfl) (by kernel_rfl) (by kernel_rfl) (by kernel_rfl) (fun _ _ _ h => h) (Or.inl ⟨by rfl, ?_⟩) (by assumption) ?_
    rotate_left
    focus (intro wS hSw; (try dsimp only at hSw); go_simp; (try with_reducible rfl)); done
    (try simp only [Act.put, List.setIfInBounds_toArray, List.set_cons_zero, List.set_cons_succ])
    refine wpAnyH_take (i := 18) (v := ?_) (by rw [List.getElem?_toArray]; rfl) (by kernel_rfl) (by kernel_rfl) (by kernel_rfl) (fun _ _ _ h => h) (Or.inl ⟨by rfl, ?_⟩) (by assumption) ?_
    rotate_left
    focus (intro wS hSw; (try dsimp only at hSw); go_simp; (try with_reducible rfl)); done
    (try simp only [Act.put, List.setIfInBounds_toArray, List.set_cons_zero, List.set_cons_succ])
    refine wpAnyH_take (i := 19) (v := ?_) (by rw [List.getElem?_toArray]; rfl) (by kernel_rfl) (by kernel_rfl) (by kernel_rfl) (fun _ _ _ h => h) (Or.inl ⟨by rfl, ?_⟩) (by assumption) ?_
    rotate_left
    focus (intro wS hSw; (try dsimp only at hSw); go_simp; (try with_reducible rfl)); done
    (try simp only [Act.put, List.setIfInBounds_toArray, List.set_cons_zero, List.set_cons_succ])
    refine wpAnyH_take (i := 20) (v := ?_) (by rw [List.getElem?_toArray]; rfl) (by kernel_rfl) (by kernel_rfl) (by kernel_rfl) (fun _ _ _ h => h) (Or.inl ⟨by rfl, ?_⟩) (by assumption) ?_
    rotate_left
    focus (intro wS hSw; (try dsimp only at hSw); go_simp; (try with_reducible rfl)); done
    (try simp only [Act.put, List.setIfInBounds_toArray, List.set_cons_zero, List.set_cons_succ])
    refine wpAnyH_take (i := 21) (v := ?_) (by rw [List.getElem?_toArray]; rfl) (by kernel_rfl) (by kernel_rfl) (by kernel_rfl) (fun _ _ _ h => h) (Or.inl ⟨by rfl, ?_⟩) (by assumption) ?_
    rotate_left
    focus (intro wS hSw; (try dsimp only at hSw); go_simp; (try with_reducible rfl)); done
    (try simp only [Act.put, List.setIfInBounds_toArray, List.set_cons_zero, List.set_cons_succ])
    refine wpAnyH_take (i := 22) (v := ?_) (by rw [List.getElem?_toArray]; rfl) (by kernel_rfl) (by kernel_rfl) (by kernel_rfl) (fun _ _ _ h => h) (Or.inl ⟨by rfl, ?_⟩) (by assumption) ?_
    rotate_left
    focus (intro wS hSw; (try dsimp only at hSw); go_simp; (try with_reducible rfl)); done
    (try simp only [Act.put, List.setIfInBounds_toArray, List.set_cons_zero, List.set_cons_succ])
    refine wpAnyH_take (i := 23) (v := ?_) (by rw [List.getElem?_toArray]; rfl) (by kernel_rfl) (by kernel_rfl) (by kernel_rfl) (fun _ _ _ h => h) (Or.inl ⟨by rfl, ?_⟩) (by assumption) ?_
    rotate_left
    focus (intro wS hSw; (try dsimp only at hSw); go_simp; (try with_reducible rfl)); done
    (try simp only [Act.put, List.setIfInBounds_toArray, List.set_cons_zero, List.set_cons_succ])
    refine wpAnyH_take (i := 24) (v := ?_) (by rw [List.getElem?_toArray]; rfl) (by kernel_rfl) (by kernel_rfl) (by kernel_rfl) (fun _ _ _ h => h) (Or.inl ⟨by rfl, ?_⟩) (by assumption) ?_
    rotate_left
    focus (intro wS hSw; (try dsimp only at hSw); go_simp; (try with_reducible rfl)); done
    (try simp only [Act.put, List.setIfInBounds_toArray, List.set_cons_zero, List.set_cons_succ])
    refine wpAnyH_done (by kernel_rfl) ?_ _
    refine NoPanic.normal ?_
    go_wp2
    go_ret
    exact ⟨rfl, by (repeat (first | exact Below.refl _ _ | assumption | refine Below.setCell ?_ (by first | (simp; done) | (simp; omega) | omega) _ | refine Below.alloc1 ?_ _ | refine Below.alloc ?_ (by first | (simp; done) | (simp; omega) | omega) _ | refine Below.drew ?_ | refine Below.drewN ?_ _ | refine Below.via ?_ (by assumption)))⟩
end Go.Proofs.Ytdkfiikbofamfaa
