/- Contracts of WaitNotice (spec) (impl and spec). -/
import Derived.Test.YtcdbamaifdabnaaNotice5
import Derived.Test.YtcdbamaifdabnaaCalls1
namespace Go.Proofs.Ytcdbamaifdabnaa
set_option linter.unusedVariables false
open Go.RowKit
set_option maxHeartbeats 2000000 in
theorem sWaitNotice_any (B T n c : Nat) (b : Int) (A : Option Addr) (xs : List Int) (v : Int) (w : World) (hr : Rd w B T 1 A n (ints xs)) (hn : n ≤ 1048576) (hnc : n ≤ c) :
    Calls Try.prog 23 #[notice b A n c, .int .i64 v] w (NewNoticeN w 0 (waitL b xs v) (waitM b xs v)) := by
  obtain ⟨i0, hi0, hz0, hz1, hz2⟩ := info_parts Try.infoInt
  have hl := ints_len hr
  subst hl
  replace hr := hr.here Nat.one_pos
  cases hv : noticeV b xs
  · have HP := Lib.hid (wait_no (v := v) (show waitOk b xs v = false by unfold waitOk; rw [hv]; rfl))
    go_enter Try.func23, Try.ntmps23
    go_wp2_with fail
    refine (sPushCall_any _ _ _ _ _ xs v _ ((hr.alloc _).alloc _) hn).mono ?_
    rintro e w1 ⟨A1, c1, rfl, o1, hb1⟩
    have TP := ((Blk.new w 27 #[.int .i64 b, .slice A xs.length c]).alloc (.cells #[.int .i64 0, .slice none 0 0] 27)).below hb1
    have TR := (Blk.newAt (w := w.alloc (.cells #[.int .i64 b, .slice A xs.length c] 27)) (n := w.heap.size + 1) 27 #[.int .i64 0, .slice none 0 0] (by simp)).below hb1
    have hB := Below.via (by (repeat (first | (with_reducible assumption) | (with_reducible exact Below.refl _ _) | (with_reducible refine Below.setCell ?_ (by first | (simp; done) | (simp; omega) | omega) _) | (with_reducible refine Below.alloc ?_ (by first | (simp; done) | (simp; omega) | omega) _) | (with_reducible refine Below.drew ?_) | (with_reducible refine Below.drewN ?_ _))) : Below w.heap.size w _) hb1
    have z1 := hb1.size
    simp at z1
    have hr1 := ((hr.alloc _).alloc _).below hb1
    replace o1 := o1.mono (B' := w.heap.size + 1 + 1) (T' := w1.heap.size) (by simp) (Nat.le_refl _)
    obtain ⟨p0, p1⟩ := TP.two
    have lP := TP.lt
    clear hb1 hr
    go_wp2_with fail
    refine (sNoticeValid_any _ _ _ _ b _ xs _ hr1 hn).mono ?_
    rintro e w2 ⟨rfl, hb2⟩
    replace hB := Below.via hB hb2
    replace TP := TP.below hb2
    replace TR := TR.below hb2
    replace hr1 := hr1.below hb2
    replace o1 := o1.below hb2
    have z2 := hb2.size
    clear p0 p1 lP hb2
    obtain ⟨p0, p1⟩ := TP.two
    obtain ⟨r0, r1⟩ := TR.two
    have rf := TR.free
    have lR := TR.lt
    clear hr1 TP TR o1
    go_wp2
    refine bodyPost_ret (v := .tuple #[notice 0 none 0 0, .int .i64 0]) (by simp [results, Try.results23, go_sem, *]) rfl ?_
    rw [HP.out.1, HP.out.2]
    exact ⟨none, 0, rfl, Own.nil _ _ _ _ _ _, by (repeat (first | (with_reducible assumption) | (with_reducible exact Below.refl _ _) | (with_reducible refine Below.setCell ?_ (by first | (simp; done) | (simp; omega) | omega) _) | (with_reducible refine Below.alloc ?_ (by first | (simp; done) | (simp; omega) | omega) _) | (with_reducible refine Below.drew ?_) | (with_reducible refine Below.drewN ?_ _)))⟩
  · obtain ⟨hb0, hcv, -⟩ := noticeV_calls hv
    rw [inB_true] at hb0
    cases ho : pushO xs v
    · have HP := Lib.hid (wait_no (show waitOk b xs v = false by unfold waitOk; rw [hv]; unfold pushO at ho; rw [hcv] at ho; simpa using ho))
      go_enter Try.func23, Try.ntmps23
      go_wp2_with fail
      refine (sPushCall_any _ _ _ _ _ xs v _ ((hr.alloc _).alloc _) hn).mono ?_
      rintro e w1 ⟨A1, c1, rfl, o1, hb1⟩
      have TP := ((Blk.new w 27 #[.int .i64 b, .slice A xs.length c]).alloc (.cells #[.int .i64 0, .slice none 0 0] 27)).below hb1
      have TR := (Blk.newAt (w := w.alloc (.cells #[.int .i64 b, .slice A xs.length c] 27)) (n := w.heap.size + 1) 27 #[.int .i64 0, .slice none 0 0] (by simp)).below hb1
      have hB := Below.via (by (repeat (first | (with_reducible assumption) | (with_reducible exact Below.refl _ _) | (with_reducible refine Below.setCell ?_ (by first | (simp; done) | (simp; omega) | omega) _) | (with_reducible refine Below.alloc ?_ (by first | (simp; done) | (simp; omega) | omega) _) | (with_reducible refine Below.drew ?_) | (with_reducible refine Below.drewN ?_ _))) : Below w.heap.size w _) hb1
      have z1 := hb1.size
      simp at z1
      have hr1 := ((hr.alloc _).alloc _).below hb1
      replace o1 := o1.mono (B' := w.heap.size + 1 + 1) (T' := w1.heap.size) (by simp) (Nat.le_refl _)
      obtain ⟨p0, p1⟩ := TP.two
      have lP := TP.lt
      clear hb1 hr
      go_wp2_with fail
      refine (sNoticeValid_any _ _ _ _ b _ xs _ hr1 hn).mono ?_
      rintro e w2 ⟨rfl, hb2⟩
      replace hB := Below.via hB hb2
      replace TP := TP.below hb2
      replace TR := TR.below hb2
      replace hr1 := hr1.below hb2
      replace o1 := o1.below hb2
      have z2 := hb2.size
      clear p0 p1 lP hb2
      obtain ⟨p0, p1⟩ := TP.two
      obtain ⟨r0, r1⟩ := TR.two
      have rf := TR.free
      have lR := TR.lt
      clear hr1 TP TR o1
      go_wp2
      refine bodyPost_ret (v := .tuple #[notice 0 none 0 0, .int .i64 0]) (by simp [results, Try.results23, go_sem, *]) rfl ?_
      rw [HP.out.1, HP.out.2]
      exact ⟨none, 0, rfl, Own.nil _ _ _ _ _ _, by (repeat (first | (with_reducible assumption) | (with_reducible exact Below.refl _ _) | (with_reducible refine Below.setCell ?_ (by first | (simp; done) | (simp; omega) | omega) _) | (with_reducible refine Below.alloc ?_ (by first | (simp; done) | (simp; omega) | omega) _) | (with_reducible refine Below.drew ?_) | (with_reducible refine Below.drewN ?_ _)))⟩
    · have hok : waitOk b xs v = true := by unfold waitOk; rw [hv]; unfold pushO at ho; rw [hcv] at ho; simpa using ho
      have hpl : pushL xs v = xs ++ [v] := by
        unfold pushO at ho
        simp only [Bool.and_eq_true, decide_eq_true_eq] at ho
        exact (push_yes ho.1 ho.2.1 ho.2.2).1
      have HPL := Lib.hid hpl
      clear hpl hcv
      by_cases h0 : b = 0
      · subst h0
        have HP := Lib.hid (wait_yes hok)
        clear hok
        go_enter Try.func23, Try.ntmps23
        go_wp2_with fail
        refine (sPushCall_any _ _ _ _ _ xs v _ ((hr.alloc _).alloc _) hn).mono ?_
        rintro e w1 ⟨A1, c1, rfl, o1, hb1⟩
        have TP := ((Blk.new w 27 #[.int .i64 0, .slice A xs.length c]).alloc (.cells #[.int .i64 0, .slice none 0 0] 27)).below hb1
        have TR := (Blk.newAt (w := w.alloc (.cells #[.int .i64 0, .slice A xs.length c] 27)) (n := w.heap.size + 1) 27 #[.int .i64 0, .slice none 0 0] (by simp)).below hb1
        have hB := Below.via (by (repeat (first | (with_reducible assumption) | (with_reducible exact Below.refl _ _) | (with_reducible refine Below.setCell ?_ (by first | (simp; done) | (simp; omega) | omega) _) | (with_reducible refine Below.alloc ?_ (by first | (simp; done) | (simp; omega) | omega) _) | (with_reducible refine Below.drew ?_) | (with_reducible refine Below.drewN ?_ _))) : Below w.heap.size w _) hb1
        have z1 := hb1.size
        simp at z1
        have hr1 := ((hr.alloc _).alloc _).below hb1
        replace o1 := o1.mono (B' := w.heap.size + 1 + 1) (T' := w1.heap.size) (by simp) (Nat.le_refl _)
        obtain ⟨p0, p1⟩ := TP.two
        have lP := TP.lt
        clear hb1 hr
        go_wp2_with fail
        refine (sNoticeValid_any _ _ _ _ 0 _ xs _ hr1 hn).mono ?_
        rintro e w2 ⟨rfl, hb2⟩
        replace hB := Below.via hB hb2
        replace TP := TP.below hb2
        replace TR := TR.below hb2
        replace hr1 := hr1.below hb2
        replace o1 := o1.below hb2
        have z2 := hb2.size
        clear p0 p1 lP hb2
        obtain ⟨p0, p1⟩ := TP.two
        obtain ⟨r0, r1⟩ := TR.two
        have rf := TR.free
        have lR := TR.lt
        clear hr1 TP TR
        go_wp2
        refine bodyPost_ret (v := .tuple #[notice 0 A1 (pushL xs v).length c1, .int .i64 0]) (by simp [results, Try.results23, go_sem, *]) rfl ?_
        rw [HP.out.1, HP.out.2]
        rw [HPL.out] at o1 ⊢
        exact ⟨A1, c1, by simp, Own.mono (B := w.heap.size + 1 + 1) (T := w1.heap.size) (by (repeat (first | (with_reducible assumption) | (with_reducible refine Own.alloc ?_ _) | (with_reducible refine Own.drew ?_) | (with_reducible refine Own.set ?_ (by first | (simp; done) | (simp; omega) | omega) _)))) (by omega) (by simp; omega), by (repeat (first | (with_reducible assumption) | (with_reducible exact Below.refl _ _) | (with_reducible refine Below.setCell ?_ (by first | (simp; done) | (simp; omega) | omega) _) | (with_reducible refine Below.alloc ?_ (by first | (simp; done) | (simp; omega) | omega) _) | (with_reducible refine Below.drew ?_) | (with_reducible refine Below.drewN ?_ _)))⟩
      · have h0' : (b == 0) = false := by simp [h0]
        have h0b : (b != 0) = true := by simp [h0]
        have HP := Lib.hid (wait_bits hok h0')
        clear hok h0 h0'
        go_enter Try.func23, Try.ntmps23
        go_wp2_with fail
        refine (sPushCall_any _ _ _ _ _ xs v _ ((hr.alloc _).alloc _) hn).mono ?_
        rintro e w1 ⟨A1, c1, rfl, o1, hb1⟩
        have TP := ((Blk.new w 27 #[.int .i64 b, .slice A xs.length c]).alloc (.cells #[.int .i64 0, .slice none 0 0] 27)).below hb1
        have TR := (Blk.newAt (w := w.alloc (.cells #[.int .i64 b, .slice A xs.length c] 27)) (n := w.heap.size + 1) 27 #[.int .i64 0, .slice none 0 0] (by simp)).below hb1
        have hB := Below.via (by (repeat (first | (with_reducible assumption) | (with_reducible exact Below.refl _ _) | (with_reducible refine Below.setCell ?_ (by first | (simp; done) | (simp; omega) | omega) _) | (with_reducible refine Below.alloc ?_ (by first | (simp; done) | (simp; omega) | omega) _) | (with_reducible refine Below.drew ?_) | (with_reducible refine Below.drewN ?_ _))) : Below w.heap.size w _) hb1
        have z1 := hb1.size
        simp at z1
        have hr1 := ((hr.alloc _).alloc _).below hb1
        replace o1 := o1.mono (B' := w.heap.size + 1 + 1) (T' := w1.heap.size) (by simp) (Nat.le_refl _)
        obtain ⟨p0, p1⟩ := TP.two
        have lP := TP.lt
        clear hb1 hr
        go_wp2_with fail
        refine (sNoticeValid_any _ _ _ _ b _ xs _ hr1 hn).mono ?_
        rintro e w2 ⟨rfl, hb2⟩
        replace hB := Below.via hB hb2
        replace TP := TP.below hb2
        replace TR := TR.below hb2
        replace hr1 := hr1.below hb2
        replace o1 := o1.below hb2
        have z2 := hb2.size
        clear p0 p1 lP hb2
        obtain ⟨p0, p1⟩ := TP.two
        obtain ⟨r0, r1⟩ := TR.two
        have rf := TR.free
        have lR := TR.lt
        go_wp2_with fail
        refine wp_region_noPanic ?_
        refine wp_region_held_drew (S := (fun W => W.cell? ⟨w.heap.size, 0, none⟩ = some (.int .i64 b) ∧ W.cell? ⟨w.heap.size, 1, none⟩ = some (.slice A xs.length c))) (by kernel_rfl) ?_ (fun hHeld => ?_)
        focus (first | exact trivial | ((try dsimp only); ((repeat' (first | assumption | with_reducible refine And.intro ?_ ?_)) <;> go_keep))); done
        refine wpAnyH_take (i := 0) (v := ?_) (by rw [List.getElem?_toArray]; rfl) (by kernel_rfl) (by kernel_rfl) (by kernel_rfl) (fun _ _ _ h => h) (Or.inl ⟨by rfl, ?_⟩) (by assumption) ?_
        rotate_left
        focus (intro wS hSw; (try dsimp only at hSw); go_simp; (try with_reducible rfl)); done
        (try simp only [Act.put, List.setIfInBounds_toArray, List.set_cons_zero, List.set_cons_succ])
        refine wpAnyH_take (i := 1) (v := ?_) (by rw [List.getElem?_toArray]; rfl) (by kernel_rfl) (by kernel_rfl) (by kernel_rfl) (fun _ _ _ h => h) (Or.inl ⟨by rfl, ?_⟩) (by assumption) ?_
        rotate_left
        focus (intro wS hSw; (try dsimp only at hSw); go_simp; (try with_reducible rfl)); done
        (try simp only [Act.put, List.setIfInBounds_toArray, List.set_cons_zero, List.set_cons_succ])
        refine wpAnyH_take (i := 2) (v := ?_) (by rw [List.getElem?_toArray]; rfl) (by kernel_rfl) (by kernel_rfl) (by kernel_rfl) (fun _ _ _ h => h) (Or.inl ⟨by rfl, ?_⟩) (by assumption) ?_
        rotate_left
        focus (intro wS hSw; (try dsimp only at hSw); go_simp; (try with_reducible rfl)); done
        (try simp only [Act.put, List.setIfInBounds_toArray, List.set_cons_zero, List.set_cons_succ])
        refine wpAnyH_ready (rs := [3]) (by kernel_rfl) (by simp) ?_
        refine AllReadyH.cons (by rw [List.getElem?_toArray]; rfl) (fun K hK => ?_) AllReadyH.nil
        go_simp
        skip
        refine hK.out _ _ ?_ (fun hHeld => ?_)
        focus (first | exact trivial | ((try dsimp only); ((refine ⟨?_, ?_⟩ <;> go_keep)))); done
        clear hK K
        (try simp only [Act.put, List.setIfInBounds_toArray, List.set_cons_zero, List.set_cons_succ])
        refine wpAnyH_take (i := 4) (v := ?_) (by rw [List.getElem?_toArray]; rfl) (by kernel_rfl) (by kernel_rfl) (by kernel_rfl) (fun _ _ _ h => h) (Or.inl ⟨by rfl, ?_⟩) (by assumption) ?_
        rotate_left
        focus (intro wS hSw; (try dsimp only at hSw); go_simp; (try with_reducible rfl)); done
        (try simp only [Act.put, List.setIfInBounds_toArray, List.set_cons_zero, List.set_cons_succ])
        refine wpAnyH_done (by kernel_rfl) ?_ _
        refine NoPanic.normal ?_
        clear hr1 TP TR
        go_wp2
        refine bodyPost_ret (v := .tuple #[notice 0 none 0 0, .int .i64 b]) (by simp [results, Try.results23, go_sem, *]) rfl ?_
        rw [HP.out.1, HP.out.2]
        exact ⟨none, 0, rfl, Own.nil _ _ _ _ _ _, by (repeat (first | (with_reducible assumption) | (with_reducible exact Below.refl _ _) | (with_reducible refine Below.setCell ?_ (by first | (simp; done) | (simp; omega) | omega) _) | (with_reducible refine Below.alloc ?_ (by first | (simp; done) | (simp; omega) | omega) _) | (with_reducible refine Below.drew ?_) | (with_reducible refine Below.drewN ?_ _)))⟩
end Go.Proofs.Ytcdbamaifdabnaa
