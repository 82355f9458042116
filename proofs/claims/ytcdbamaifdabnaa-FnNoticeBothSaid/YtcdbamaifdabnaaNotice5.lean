/- Contracts of WaitNotice (impl) (impl and spec). -/
import Derived.Test.YtcdbamaifdabnaaNotice4
namespace Go.Proofs.Ytcdbamaifdabnaa
set_option linter.unusedVariables false
open Go.RowKit
set_option maxHeartbeats 2000000 in
theorem iWaitNotice_any (B T n c : Nat) (b : Int) (A : Option Addr) (xs : List Int) (v : Int) (w : World) (hr : Rd w B T 1 A n (ints xs)) (hn : n ≤ 1048576) (hnc : n ≤ c) :
    Calls Try.prog 24 #[notice b A n c, .int .i64 v] w (NewNoticeN w 0 (waitL b xs v) (waitM b xs v)) := by
  obtain ⟨i0, hi0, hz0, hz1, hz2⟩ := info_parts Try.infoInt
  have hl := ints_len hr
  subst hl
  replace hr := hr.here Nat.one_pos
  cases hv : noticeV b xs
  · have HP := Lib.hid (wait_no (v := v) (show waitOk b xs v = false by unfold waitOk; rw [hv]; rfl))
    go_enter Try.func24, Try.ntmps24
    go_wp2_with fail
    refine (iNoticeValid_any _ _ _ _ b _ xs _ ((hr.alloc _).alloc _) hn hnc).mono ?_
    rintro e w1 ⟨rfl, hb1⟩
    have TP := ((Blk.new w 27 #[.int .i64 b, .slice A xs.length c]).alloc (.cells #[.int .i64 0, .slice none 0 0] 27)).below hb1
    have TR := (Blk.newAt (w := w.alloc (.cells #[.int .i64 b, .slice A xs.length c] 27)) (n := w.heap.size + 1) 27 #[.int .i64 0, .slice none 0 0] (by simp)).below hb1
    have hB := Below.via (by (repeat (first | (with_reducible assumption) | (with_reducible exact Below.refl _ _) | (with_reducible refine Below.setCell ?_ (by first | (simp; done) | (simp; omega) | omega) _) | (with_reducible refine Below.alloc ?_ (by first | (simp; done) | (simp; omega) | omega) _) | (with_reducible refine Below.drew ?_) | (with_reducible refine Below.drewN ?_ _))) : Below w.heap.size w _) hb1
    have z1 := hb1.size
    simp at z1
    have hr1 := ((hr.alloc _).alloc _).below hb1
    obtain ⟨p0, p1⟩ := TP.two
    obtain ⟨r0, r1⟩ := TR.two
    have rf := TR.free
    have lR := TR.lt
    clear hb1 hr
    clear hr1 TP TR
    go_wp2
    refine bodyPost_ret (v := .tuple #[notice 0 none 0 0, .int .i64 0]) (by simp [results, Try.results24, go_sem, *]) rfl ?_
    rw [HP.out.1, HP.out.2]
    exact ⟨none, 0, rfl, Own.nil _ _ _ _ _ _, by (repeat (first | (with_reducible assumption) | (with_reducible exact Below.refl _ _) | (with_reducible refine Below.setCell ?_ (by first | (simp; done) | (simp; omega) | omega) _) | (with_reducible refine Below.alloc ?_ (by first | (simp; done) | (simp; omega) | omega) _) | (with_reducible refine Below.drew ?_) | (with_reducible refine Below.drewN ?_ _)))⟩
  · cases hi : inB v 0 15
    · have HP := Lib.hid (wait_no (show waitOk b xs v = false by unfold waitOk; rw [hv, hi]; rfl))
      go_enter Try.func24, Try.ntmps24
      go_wp2_with fail
      refine (iNoticeValid_any _ _ _ _ b _ xs _ ((hr.alloc _).alloc _) hn hnc).mono ?_
      rintro e w1 ⟨rfl, hb1⟩
      have TP := ((Blk.new w 27 #[.int .i64 b, .slice A xs.length c]).alloc (.cells #[.int .i64 0, .slice none 0 0] 27)).below hb1
      have TR := (Blk.newAt (w := w.alloc (.cells #[.int .i64 b, .slice A xs.length c] 27)) (n := w.heap.size + 1) 27 #[.int .i64 0, .slice none 0 0] (by simp)).below hb1
      have hB := Below.via (by (repeat (first | (with_reducible assumption) | (with_reducible exact Below.refl _ _) | (with_reducible refine Below.setCell ?_ (by first | (simp; done) | (simp; omega) | omega) _) | (with_reducible refine Below.alloc ?_ (by first | (simp; done) | (simp; omega) | omega) _) | (with_reducible refine Below.drew ?_) | (with_reducible refine Below.drewN ?_ _))) : Below w.heap.size w _) hb1
      have z1 := hb1.size
      simp at z1
      have hr1 := ((hr.alloc _).alloc _).below hb1
      obtain ⟨p0, p1⟩ := TP.two
      obtain ⟨r0, r1⟩ := TR.two
      have rf := TR.free
      have lR := TR.lt
      clear hb1 hr
      go_wp2_with fail
      refine (isThread_any _ _).mono ?_
      rintro e w2 ⟨rfl, rfl⟩
      clear hr1 TP TR
      go_wp2
      refine bodyPost_ret (v := .tuple #[notice 0 none 0 0, .int .i64 0]) (by simp [results, Try.results24, go_sem, *]) rfl ?_
      rw [HP.out.1, HP.out.2]
      exact ⟨none, 0, rfl, Own.nil _ _ _ _ _ _, by (repeat (first | (with_reducible assumption) | (with_reducible exact Below.refl _ _) | (with_reducible refine Below.setCell ?_ (by first | (simp; done) | (simp; omega) | omega) _) | (with_reducible refine Below.alloc ?_ (by first | (simp; done) | (simp; omega) | omega) _) | (with_reducible refine Below.drew ?_) | (with_reducible refine Below.drewN ?_ _)))⟩
    · by_cases hm : v ∈ xs
      · have HP := Lib.hid (wait_no (show waitOk b xs v = false by unfold waitOk; rw [hv, hi]; simp [hm]))
        go_enter Try.func24, Try.ntmps24
        go_wp2_with fail
        refine (iNoticeValid_any _ _ _ _ b _ xs _ ((hr.alloc _).alloc _) hn hnc).mono ?_
        rintro e w1 ⟨rfl, hb1⟩
        have TP := ((Blk.new w 27 #[.int .i64 b, .slice A xs.length c]).alloc (.cells #[.int .i64 0, .slice none 0 0] 27)).below hb1
        have TR := (Blk.newAt (w := w.alloc (.cells #[.int .i64 b, .slice A xs.length c] 27)) (n := w.heap.size + 1) 27 #[.int .i64 0, .slice none 0 0] (by simp)).below hb1
        have hB := Below.via (by (repeat (first | (with_reducible assumption) | (with_reducible exact Below.refl _ _) | (with_reducible refine Below.setCell ?_ (by first | (simp; done) | (simp; omega) | omega) _) | (with_reducible refine Below.alloc ?_ (by first | (simp; done) | (simp; omega) | omega) _) | (with_reducible refine Below.drew ?_) | (with_reducible refine Below.drewN ?_ _))) : Below w.heap.size w _) hb1
        have z1 := hb1.size
        simp at z1
        have hr1 := ((hr.alloc _).alloc _).below hb1
        obtain ⟨p0, p1⟩ := TP.two
        obtain ⟨r0, r1⟩ := TR.two
        have rf := TR.free
        have lR := TR.lt
        clear hb1 hr
        go_wp2_with fail
        refine (isThread_any _ _).mono ?_
        rintro e w2 ⟨rfl, rfl⟩
        go_wp2_with fail
        refine (Contains_any _ _ _ _ _ xs v _ hr1 hn).mono ?_
        rintro e w3 ⟨rfl, hb3⟩
        replace hB := Below.via hB hb3
        replace TP := TP.below hb3
        replace TR := TR.below hb3
        replace hr1 := hr1.below hb3
        have z3 := hb3.size
        clear p0 p1 r0 r1 rf lR hb3
        obtain ⟨p0, p1⟩ := TP.two
        obtain ⟨r0, r1⟩ := TR.two
        have rf := TR.free
        have lR := TR.lt
        clear hr1 TP TR
        go_wp2
        refine bodyPost_ret (v := .tuple #[notice 0 none 0 0, .int .i64 0]) (by simp [results, Try.results24, go_sem, *]) rfl ?_
        rw [HP.out.1, HP.out.2]
        exact ⟨none, 0, rfl, Own.nil _ _ _ _ _ _, by (repeat (first | (with_reducible assumption) | (with_reducible exact Below.refl _ _) | (with_reducible refine Below.setCell ?_ (by first | (simp; done) | (simp; omega) | omega) _) | (with_reducible refine Below.alloc ?_ (by first | (simp; done) | (simp; omega) | omega) _) | (with_reducible refine Below.drew ?_) | (with_reducible refine Below.drewN ?_ _)))⟩
      · have hok : waitOk b xs v = true := by unfold waitOk; rw [hv, hi]; simp [hm]
        obtain ⟨hb0, hcv, -⟩ := noticeV_calls hv
        rw [inB_true] at hb0
        have h16 := callsV_len hcv
        by_cases h0 : b = 0
        · subst h0
          have HP := Lib.hid (wait_yes hok)
          clear hok hcv
          go_enter Try.func24, Try.ntmps24
          go_wp2_with fail
          refine (iNoticeValid_any _ _ _ _ 0 _ xs _ ((hr.alloc _).alloc _) hn hnc).mono ?_
          rintro e w1 ⟨rfl, hb1⟩
          have TP := ((Blk.new w 27 #[.int .i64 0, .slice A xs.length c]).alloc (.cells #[.int .i64 0, .slice none 0 0] 27)).below hb1
          have TR := (Blk.newAt (w := w.alloc (.cells #[.int .i64 0, .slice A xs.length c] 27)) (n := w.heap.size + 1) 27 #[.int .i64 0, .slice none 0 0] (by simp)).below hb1
          have hB := Below.via (by (repeat (first | (with_reducible assumption) | (with_reducible exact Below.refl _ _) | (with_reducible refine Below.setCell ?_ (by first | (simp; done) | (simp; omega) | omega) _) | (with_reducible refine Below.alloc ?_ (by first | (simp; done) | (simp; omega) | omega) _) | (with_reducible refine Below.drew ?_) | (with_reducible refine Below.drewN ?_ _))) : Below w.heap.size w _) hb1
          have z1 := hb1.size
          simp at z1
          have hr1 := ((hr.alloc _).alloc _).below hb1
          obtain ⟨p0, p1⟩ := TP.two
          obtain ⟨r0, r1⟩ := TR.two
          have rf := TR.free
          have lR := TR.lt
          clear hb1 hr
          go_wp2_with fail
          refine (isThread_any _ _).mono ?_
          rintro e w2 ⟨rfl, rfl⟩
          go_wp2_with fail
          refine (Contains_any _ _ _ _ _ xs v _ hr1 hn).mono ?_
          rintro e w3 ⟨rfl, hb3⟩
          replace hB := Below.via hB hb3
          replace TP := TP.below hb3
          replace TR := TR.below hb3
          replace hr1 := hr1.below hb3
          have z3 := hb3.size
          clear p0 p1 r0 r1 rf lR hb3
          obtain ⟨p0, p1⟩ := TP.two
          obtain ⟨r0, r1⟩ := TR.two
          have rf := TR.free
          have lR := TR.lt
          clear p0 p1 r0 r1 rf lR
          have p0 := TP.cell 0 rfl
          have p1 := TP.cell 1 rfl
          go_wp2_with fail
          refine (clone_any _ _ _ _ _ xs _ hr1 hn).mono ?_
          rintro e w4 ⟨A4, c4, rfl, o4, hb4⟩
          replace hB := Below.via hB hb4
          replace TR := TR.below hb4
          have z4 := hb4.size
          clear p0 p1
          go_wp2_with (at_builtin; refine wpList_appg _ (by rfl) (.tmp 31) (.tmp 33) 22 rfl 3 i0 (.int .i64 0) 1 8 Try.underlying22 hi0 hz0 hz1 hz2 rfl (by omega) (w3.heap.size) _ w4.heap.size (w4.heap.size + 1) A4 (some ⟨w4.heap.size, 0, none⟩) xs.length c4 1 1 (ints xs) (ints [v]) rfl rfl (o4.alloc _) (Own.new (e := 3) (size := 1) w4 #[.int .i64 (v)] 1 (by unfold maxLen; omega) rfl).rd (ints_one _) (by unfold maxLen; omega) (by omega) (by simp; omega) ?_; intro A5 c5 w5 o5 f5; have z5 := f5.size; (try simp at z5))
          rw [← ints_append] at o5
          replace TR := (TR.alloc (.cells #[.int .i64 v] 3)).fr f5 (.inl (by omega))
          replace hB := (Below.alloc1 hB (.cells #[.int .i64 v] 3)).trans (f5.below (W := w.heap.size) (by omega) (by simp; omega))
          refine (clone_any w3.heap.size w5.heap.size _ c5 A5 (xs ++ [v]) _ o5.rd (by omega)).mono ?_
          rintro e w6 ⟨A6, c6, rfl, o6, hb6⟩
          replace hB := Below.via hB hb6
          replace TR := TR.below hb6
          have z6 := hb6.size
          have lR := TR.lt
          obtain ⟨r0, r1⟩ := TR.two
          have rf := TR.free
          clear TP TR o4 o5 hr1 f5 hb4 hb6
          go_wp2
          refine bodyPost_ret (v := .tuple #[notice 0 A6 (xs.length + 1) c6, .int .i64 0]) (by simp [results, Try.results24, go_sem, *]) rfl ?_
          rw [HP.out.1, HP.out.2]
          exact ⟨A6, c6, by simp, Own.mono (B := w5.heap.size) (T := w6.heap.size) (by (repeat (first | (with_reducible assumption) | (with_reducible refine Own.alloc ?_ _) | (with_reducible refine Own.drew ?_) | (with_reducible refine Own.set ?_ (by first | (simp; done) | (simp; omega) | omega) _)))) (by omega) (by simp), by (repeat (first | (with_reducible assumption) | (with_reducible exact Below.refl _ _) | (with_reducible refine Below.setCell ?_ (by first | (simp; done) | (simp; omega) | omega) _) | (with_reducible refine Below.alloc ?_ (by first | (simp; done) | (simp; omega) | omega) _) | (with_reducible refine Below.drew ?_) | (with_reducible refine Below.drewN ?_ _)))⟩
        · have h0' : (b == 0) = false := by simp [h0]
          have HP := Lib.hid (wait_bits hok h0')
          have h00 : 0 < b := by omega
          clear hok hcv h0 h0'
          go_enter Try.func24, Try.ntmps24
          go_wp2_with fail
          refine (iNoticeValid_any _ _ _ _ b _ xs _ ((hr.alloc _).alloc _) hn hnc).mono ?_
          rintro e w1 ⟨rfl, hb1⟩
          have TP := ((Blk.new w 27 #[.int .i64 b, .slice A xs.length c]).alloc (.cells #[.int .i64 0, .slice none 0 0] 27)).below hb1
          have TR := (Blk.newAt (w := w.alloc (.cells #[.int .i64 b, .slice A xs.length c] 27)) (n := w.heap.size + 1) 27 #[.int .i64 0, .slice none 0 0] (by simp)).below hb1
          have hB := Below.via (by (repeat (first | (with_reducible assumption) | (with_reducible exact Below.refl _ _) | (with_reducible refine Below.setCell ?_ (by first | (simp; done) | (simp; omega) | omega) _) | (with_reducible refine Below.alloc ?_ (by first | (simp; done) | (simp; omega) | omega) _) | (with_reducible refine Below.drew ?_) | (with_reducible refine Below.drewN ?_ _))) : Below w.heap.size w _) hb1
          have z1 := hb1.size
          simp at z1
          have hr1 := ((hr.alloc _).alloc _).below hb1
          obtain ⟨p0, p1⟩ := TP.two
          obtain ⟨r0, r1⟩ := TR.two
          have rf := TR.free
          have lR := TR.lt
          clear hb1 hr
          go_wp2_with fail
          refine (isThread_any _ _).mono ?_
          rintro e w2 ⟨rfl, rfl⟩
          go_wp2_with fail
          refine (Contains_any _ _ _ _ _ xs v _ hr1 hn).mono ?_
          rintro e w3 ⟨rfl, hb3⟩
          replace hB := Below.via hB hb3
          replace TP := TP.below hb3
          replace TR := TR.below hb3
          replace hr1 := hr1.below hb3
          have z3 := hb3.size
          clear p0 p1 r0 r1 rf lR hb3
          obtain ⟨p0, p1⟩ := TP.two
          obtain ⟨r0, r1⟩ := TR.two
          have rf := TR.free
          have lR := TR.lt
          go_wp2_with fail
          refine wp_region_noPanic ?_
          refine wp_region_held_drew (S := (fun W => W.cell? ⟨w.heap.size, 0, none⟩ = some (.int .i64 b) ∧ W.cell? ⟨w.heap.size, 1, none⟩ = some (.slice A xs.length c))) (by kernel_rfl) ?_ (fun hHeld => ?_)
          focus (first | exact trivial | ((try dsimp only); ((repeat' (first | assumption | with_reducible refine And.intro ?_ ?_)) <;> go_keep))); done
          refine wpAnyH_take (i := 0) (v := ?_) (by rw [List.getElem?_toArray]; rfl) (by kernel_rfl) (by kernel_rfl) (by kernel_rfl) (fun _ _ _ h => h) (Or.inl ⟨by rfl, ?_⟩) (by assumption) ?_
          rotate_left
          focus (intro wS hSw; (try dsimp only at hSw); go_simp; (try with_reducible rfl)); done
          (try simp only [Act.put, List.setIfInBounds_toArray, List.set_cons_zero, List.set_cons_succ])
          refine wpAnyH_take (i := 1) (v := ?_) (by rw [List.getElem?_toArray]; rfl) (by kernel_rfl) (by kernel_rfl) (by kernel_rfl) (fun _ _ _ h => h) (Or.inl ⟨by rfl, ?_⟩) (by assumption) ?_
          rotate_left
          focus (intro wS hSw; (try dsimp only at hSw); go_simp; (try with_reducible rfl)); done
          (try simp only [Act.put, List.setIfInBounds_toArray, List.set_cons_zero, List.set_cons_succ])
          refine wpAnyH_take (i := 2) (v := ?_) (by rw [List.getElem?_toArray]; rfl) (by kernel_rfl) (by kernel_rfl) (by kernel_rfl) (fun _ _ _ h => h) (Or.inl ⟨by rfl, ?_⟩) (by assumption) ?_
          rotate_left
          focus (intro wS hSw; (try dsimp only at hSw); go_simp; (try with_reducible rfl)); done
          (try simp only [Act.put, List.setIfInBounds_toArray, List.set_cons_zero, List.set_cons_succ])
          refine wpAnyH_ready (rs := [3]) (by kernel_rfl) (by simp) ?_
          refine AllReadyH.cons (by rw [List.getElem?_toArray]; rfl) (fun K hK => ?_) AllReadyH.nil
          go_simp
          skip
          refine hK.out _ _ ?_ (fun hHeld => ?_)
          focus (first | exact trivial | ((try dsimp only); ((refine ⟨?_, ?_⟩ <;> go_keep)))); done
          clear hK K
          (try simp only [Act.put, List.setIfInBounds_toArray, List.set_cons_zero, List.set_cons_succ])
          refine wpAnyH_take (i := 4) (v := ?_) (by rw [List.getElem?_toArray]; rfl) (by kernel_rfl) (by kernel_rfl) (by kernel_rfl) (fun _ _ _ h => h) (Or.inl ⟨by rfl, ?_⟩) (by assumption) ?_
          rotate_left
          focus (intro wS hSw; (try dsimp only at hSw); go_simp; (try with_reducible rfl)); done
          (try simp only [Act.put, List.setIfInBounds_toArray, List.set_cons_zero, List.set_cons_succ])
          refine wpAnyH_done (by kernel_rfl) ?_ _
          refine NoPanic.normal ?_
          clear hr1 TP TR
          go_wp2
          refine bodyPost_ret (v := .tuple #[notice 0 none 0 0, .int .i64 b]) (by simp [results, Try.results24, go_sem, *]) rfl ?_
          rw [HP.out.1, HP.out.2]
          exact ⟨none, 0, rfl, Own.nil _ _ _ _ _ _, by (repeat (first | (with_reducible assumption) | (with_reducible exact Below.refl _ _) | (with_reducible refine Below.setCell ?_ (by first | (simp; done) | (simp; omega) | omega) _) | (with_reducible refine Below.alloc ?_ (by first | (simp; done) | (simp; omega) | omega) _) | (with_reducible refine Below.drew ?_) | (with_reducible refine Below.drewN ?_ _)))⟩
end Go.Proofs.Ytcdbamaifdabnaa
