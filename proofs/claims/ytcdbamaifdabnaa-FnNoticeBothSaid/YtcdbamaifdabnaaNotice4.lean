/- Contracts of SignalNotice (impl and spec). -/
import Derived.Test.YtcdbamaifdabnaaNotice3
namespace Go.Proofs.Ytcdbamaifdabnaa
set_option linter.unusedVariables false
open Go.RowKit
set_option maxHeartbeats 2000000 in
theorem iSignalNotice_any (B T n c : Nat) (b : Int) (A : Option Addr) (xs : List Int) (v : Int) (w : World) (hr : Rd w B T 1 A n (ints xs)) (hn : n ≤ 1048576) (hnc : n ≤ c) :
    Calls Try.prog 22 #[notice b A n c, .int .i64 v] w (NewNoticeN w (sigB b xs v) (sigL b xs v) (sigM b xs v)) := by
  obtain ⟨i0, hi0, hz0, hz1, hz2⟩ := info_parts Try.infoInt
  have hl := ints_len hr
  subst hl
  replace hr := hr.here Nat.one_pos
  cases hv : noticeV b xs
  · have HP := Lib.hid (sig_no (v := v) (show sigOk b xs v = false by unfold sigOk; rw [hv]; rfl))
    go_enter Try.func22, Try.ntmps22
    go_wp2_with fail
    refine (iNoticeValid_any _ _ _ _ b _ xs _ ((hr.alloc _).alloc _) hn hnc).mono ?_
    rintro e w1 ⟨rfl, hb1⟩
    have TP := ((Blk.new w 27 #[.int .i64 b, .slice A xs.length c]).alloc (.cells #[.int .i64 0, .slice none 0 0] 27)).below hb1
    have TR := (Blk.newAt (w := w.alloc (.cells #[.int .i64 b, .slice A xs.length c] 27)) (n := w.heap.size + 1) 27 #[.int .i64 0, .slice none 0 0] (by simp)).below hb1
    have hB := Below.via (by (repeat (first | (with_reducible assumption) | (with_reducible exact Below.refl _ _) | (with_reducible refine Below.setCell ?_ (by first | (simp; done) | (simp; omega) | omega) _) | (with_reducible refine Below.alloc ?_ (by first | (simp; done) | (simp; omega) | omega) _) | (with_reducible refine Below.drew ?_) | (with_reducible refine Below.drewN ?_ _))) : Below w.heap.size w _) hb1
    have z1 := hb1.size
    simp at z1
    have hr1 := ((hr.alloc _).alloc _).below hb1
    obtain ⟨p0, p1⟩ := TP.two
    obtain ⟨r0, r1⟩ := TR.two
    have rf := TR.free
    have lR := TR.lt
    clear hb1 hr
    clear hr1 TP TR
    go_wp2
    refine bodyPost_ret (v := .tuple #[notice 0 none 0 0, .int .i64 (-1)]) (by simp [results, Try.results22, go_sem, *]) rfl ?_
    rw [HP.out.1, HP.out.2.1, HP.out.2.2]
    exact ⟨none, 0, rfl, Own.nil _ _ _ _ _ _, by (repeat (first | (with_reducible assumption) | (with_reducible exact Below.refl _ _) | (with_reducible refine Below.setCell ?_ (by first | (simp; done) | (simp; omega) | omega) _) | (with_reducible refine Below.alloc ?_ (by first | (simp; done) | (simp; omega) | omega) _) | (with_reducible refine Below.drew ?_) | (with_reducible refine Below.drewN ?_ _)))⟩
  · cases hi : inB v 1 255
    · have HP := Lib.hid (sig_no (show sigOk b xs v = false by unfold sigOk; rw [hv, hi]; rfl))
      go_enter Try.func22, Try.ntmps22
      go_wp2_with fail
      refine (iNoticeValid_any _ _ _ _ b _ xs _ ((hr.alloc _).alloc _) hn hnc).mono ?_
      rintro e w1 ⟨rfl, hb1⟩
      have TP := ((Blk.new w 27 #[.int .i64 b, .slice A xs.length c]).alloc (.cells #[.int .i64 0, .slice none 0 0] 27)).below hb1
      have TR := (Blk.newAt (w := w.alloc (.cells #[.int .i64 b, .slice A xs.length c] 27)) (n := w.heap.size + 1) 27 #[.int .i64 0, .slice none 0 0] (by simp)).below hb1
      have hB := Below.via (by (repeat (first | (with_reducible assumption) | (with_reducible exact Below.refl _ _) | (with_reducible refine Below.setCell ?_ (by first | (simp; done) | (simp; omega) | omega) _) | (with_reducible refine Below.alloc ?_ (by first | (simp; done) | (simp; omega) | omega) _) | (with_reducible refine Below.drew ?_) | (with_reducible refine Below.drewN ?_ _))) : Below w.heap.size w _) hb1
      have z1 := hb1.size
      simp at z1
      have hr1 := ((hr.alloc _).alloc _).below hb1
      obtain ⟨p0, p1⟩ := TP.two
      obtain ⟨r0, r1⟩ := TR.two
      have rf := TR.free
      have lR := TR.lt
      clear hb1 hr
      go_wp2_with fail
      refine (in_any _ _ _ _).mono ?_
      rintro e w2 ⟨rfl, rfl⟩
      clear hr1 TP TR
      go_wp2
      refine bodyPost_ret (v := .tuple #[notice 0 none 0 0, .int .i64 (-1)]) (by simp [results, Try.results22, go_sem, *]) rfl ?_
      rw [HP.out.1, HP.out.2.1, HP.out.2.2]
      exact ⟨none, 0, rfl, Own.nil _ _ _ _ _ _, by (repeat (first | (with_reducible assumption) | (with_reducible exact Below.refl _ _) | (with_reducible refine Below.setCell ?_ (by first | (simp; done) | (simp; omega) | omega) _) | (with_reducible refine Below.alloc ?_ (by first | (simp; done) | (simp; omega) | omega) _) | (with_reducible refine Below.drew ?_) | (with_reducible refine Below.drewN ?_ _)))⟩
    · have hok : sigOk b xs v = true := by unfold sigOk; rw [hv, hi]; rfl
      cases xs with
      | nil =>
        have HP := Lib.hid (sig_none hok)
        clear hok
        go_enter Try.func22, Try.ntmps22
        go_wp2_with fail
        refine (iNoticeValid_any _ _ _ _ b _ [] _ ((hr.alloc _).alloc _) hn hnc).mono ?_
        rintro e w1 ⟨rfl, hb1⟩
        have TP := ((Blk.new w 27 #[.int .i64 b, .slice A 0 c]).alloc (.cells #[.int .i64 0, .slice none 0 0] 27)).below hb1
        have TR := (Blk.newAt (w := w.alloc (.cells #[.int .i64 b, .slice A 0 c] 27)) (n := w.heap.size + 1) 27 #[.int .i64 0, .slice none 0 0] (by simp)).below hb1
        have hB := Below.via (by (repeat (first | (with_reducible assumption) | (with_reducible exact Below.refl _ _) | (with_reducible refine Below.setCell ?_ (by first | (simp; done) | (simp; omega) | omega) _) | (with_reducible refine Below.alloc ?_ (by first | (simp; done) | (simp; omega) | omega) _) | (with_reducible refine Below.drew ?_) | (with_reducible refine Below.drewN ?_ _))) : Below w.heap.size w _) hb1
        have z1 := hb1.size
        simp at z1
        have hr1 := ((hr.alloc _).alloc _).below hb1
        obtain ⟨p0, p1⟩ := TP.two
        obtain ⟨r0, r1⟩ := TR.two
        have rf := TR.free
        have lR := TR.lt
        clear hb1 hr
        go_wp2_with fail
        refine (in_any _ _ _ _).mono ?_
        rintro e w2 ⟨rfl, rfl⟩
        clear hr1 TP TR
        go_wp2
        refine bodyPost_ret (v := .tuple #[notice (orI b v) none 0 0, .int .i64 (-1)]) (by simp [results, Try.results22, go_sem, orI, *]) rfl ?_
        rw [HP.out.1, HP.out.2.1, HP.out.2.2]
        exact ⟨none, 0, rfl, Own.nil _ _ _ _ _ _, by (repeat (first | (with_reducible assumption) | (with_reducible exact Below.refl _ _) | (with_reducible refine Below.setCell ?_ (by first | (simp; done) | (simp; omega) | omega) _) | (with_reducible refine Below.alloc ?_ (by first | (simp; done) | (simp; omega) | omega) _) | (with_reducible refine Below.drew ?_) | (with_reducible refine Below.drewN ?_ _)))⟩
      | cons x l =>
        have HP := Lib.hid (sig_some hok)
        clear hok
        obtain ⟨gb, go, y, rfl, hbl, hx, hc⟩ := ints_at hr (show 0 < (x :: l).length by simp)
        obtain rfl : x = y := by simpa using hx
        have hcut := hr.cut (k := 1) (by simp) hnc
        rw [Nat.mul_one, ← ints_drop, List.drop_one, List.tail_cons] at hcut
        obtain ⟨m, hm⟩ : ∃ m, l.length = m := ⟨_, rfl⟩
        have hm1 : (x :: l).length = m + 1 := by simp [hm]
        rw [hm1] at hr hn hnc hcut ⊢
        rw [Nat.add_sub_cancel] at hcut
        have HM := Lib.hid hm
        clear hm hm1 hx
        have hgb1 : ¬ gb = w.heap.size + 1 := by omega
        have hgb2 : ¬ w.heap.size + 1 = gb := by omega
        have hc0 : w.cell? ⟨gb, go, none⟩ = some (.int .i64 x) := hc
        by_cases hce : c = 1
        · subst hce
          obtain rfl : m = 0 := by omega
          replace hcut : Rd w 0 w.heap.size 1 (some ⟨gb, go, none⟩) 0 (ints l) := by simpa using hcut
          replace hr : Rd w 0 w.heap.size 1 (some ⟨gb, go, none⟩) 1 (ints (x :: l)) := hr
          go_enter Try.func22, Try.ntmps22
          go_wp2_with fail
          refine (iNoticeValid_any _ _ _ _ b _ (x :: l) _ ((hr.alloc _).alloc _) (by omega) (by omega)).mono ?_
          rintro e w1 ⟨rfl, hb1⟩
          have TP := ((Blk.new w 27 #[.int .i64 b, .slice (some ⟨gb, go, none⟩) 1 1]).alloc (.cells #[.int .i64 0, .slice none 0 0] 27)).below hb1
          have TR := (Blk.newAt (w := w.alloc (.cells #[.int .i64 b, .slice (some ⟨gb, go, none⟩) 1 1] 27)) (n := w.heap.size + 1) 27 #[.int .i64 0, .slice none 0 0] (by simp)).below hb1
          have hB := Below.via (by (repeat (first | (with_reducible assumption) | (with_reducible exact Below.refl _ _) | (with_reducible refine Below.setCell ?_ (by first | (simp; done) | (simp; omega) | omega) _) | (with_reducible refine Below.alloc ?_ (by first | (simp; done) | (simp; omega) | omega) _) | (with_reducible refine Below.drew ?_) | (with_reducible refine Below.drewN ?_ _))) : Below w.heap.size w _) hb1
          have z1 := hb1.size
          simp at z1
          have hr1 := ((hr.alloc _).alloc _).below hb1
          obtain ⟨p0, p1⟩ := TP.two
          obtain ⟨r0, r1⟩ := TR.two
          have rf := TR.free
          have lR := TR.lt
          clear hb1 hr
          go_wp2_with fail
          refine (in_any _ _ _ _).mono ?_
          rintro e w2 ⟨rfl, rfl⟩
          have hc1w := (hB.cell (p := ⟨gb, go, none⟩) hbl).trans hc0
          have hcw := hcut.below hB
          clear hc hc0 hr1 hcut
          go_wp2_with fail
          refine wp_region_noPanic ?_
          refine wp_region_held_drew (S := (fun W => W.cell? ⟨w.heap.size, 0, none⟩ = some (.int .i64 b) ∧ W.cell? ⟨w.heap.size, 1, none⟩ = some (.slice (some ⟨gb, go, none⟩) 1 1) ∧ W.cell? ⟨gb, go, none⟩ = some (.int .i64 x))) (by kernel_rfl) ?_ (fun hHeld => ?_)
          focus (first | exact trivial | ((try dsimp only); ((repeat' (first | assumption | with_reducible refine And.intro ?_ ?_)) <;> go_keep))); done
          refine wpAnyH_take (i := 0) (v := ?_) (by rw [List.getElem?_toArray]; rfl) (by kernel_rfl) (by kernel_rfl) (by kernel_rfl) (fun _ _ _ h => h) (Or.inl ⟨by rfl, ?_⟩) (by assumption) ?_
          rotate_left
          focus (intro wS hSw; (try dsimp only at hSw); go_simp; (try with_reducible rfl)); done
          (try simp only [Act.put, List.setIfInBounds_toArray, List.set_cons_zero, List.set_cons_succ])
          refine wpAnyH_take (i := 1) (v := ?_) (by rw [List.getElem?_toArray]; rfl) (by kernel_rfl) (by kernel_rfl) (by kernel_rfl) (fun _ _ _ h => h) (Or.inl ⟨by rfl, ?_⟩) (by assumption) ?_
          rotate_left
          focus (intro wS hSw; (try dsimp only at hSw); go_simp; (try with_reducible rfl)); done
          (try simp only [Act.put, List.setIfInBounds_toArray, List.set_cons_zero, List.set_cons_succ])
          refine wpAnyH_take (i := 2) (v := ?_) (by rw [List.getElem?_toArray]; rfl) (by kernel_rfl) (by kernel_rfl) (by kernel_rfl) (fun _ _ _ h => h) (Or.inl ⟨by rfl, ?_⟩) (by assumption) ?_
          rotate_left
          focus (intro wS hSw; (try dsimp only at hSw); go_simp; (try with_reducible rfl)); done
          (try simp only [Act.put, List.setIfInBounds_toArray, List.set_cons_zero, List.set_cons_succ])
          refine wpAnyH_take (i := 5) (v := ?_) (by rw [List.getElem?_toArray]; rfl) (by kernel_rfl) (by kernel_rfl) (by kernel_rfl) (fun _ _ _ h => h) (Or.inl ⟨by rfl, ?_⟩) (by assumption) ?_
          rotate_left
          focus (intro wS hSw; (try dsimp only at hSw); go_simp; (try with_reducible rfl)); done
          (try simp only [Act.put, List.setIfInBounds_toArray, List.set_cons_zero, List.set_cons_succ])
          refine wpAnyH_take (i := 6) (v := ?_) (by rw [List.getElem?_toArray]; rfl) (by kernel_rfl) (by kernel_rfl) (by kernel_rfl) (fun _ _ _ h => h) (Or.inl ⟨by rfl, ?_⟩) (by assumption) ?_
          rotate_left
          focus (intro wS hSw; (try dsimp only at hSw); go_simp; (try with_reducible rfl)); done
          (try simp only [Act.put, List.setIfInBounds_toArray, List.set_cons_zero, List.set_cons_succ])
          refine wpAnyH_take (i := 7) (v := ?_) (by rw [List.getElem?_toArray]; rfl) (by kernel_rfl) (by kernel_rfl) (by kernel_rfl) (fun _ _ _ h => h) (Or.inl ⟨by rfl, ?_⟩) (by assumption) ?_
          rotate_left
          focus (intro wS hSw; (try dsimp only at hSw); go_simp; (try with_reducible rfl)); done
          (try simp only [Act.put, List.setIfInBounds_toArray, List.set_cons_zero, List.set_cons_succ])
          refine wpAnyH_take (i := 8) (v := ?_) (by rw [List.getElem?_toArray]; rfl) (by kernel_rfl) (by kernel_rfl) (by kernel_rfl) (fun _ _ _ h => h) (Or.inl ⟨by rfl, ?_⟩) (by assumption) ?_
          rotate_left
          focus (intro wS hSw; (try dsimp only at hSw); go_simp; (try with_reducible rfl)); done
          (try simp only [Act.put, List.setIfInBounds_toArray, List.set_cons_zero, List.set_cons_succ])
          refine wpAnyH_ready (rs := [3]) (by kernel_rfl) (by simp) ?_
          refine AllReadyH.cons (by rw [List.getElem?_toArray]; rfl) (fun K hK => ?_) AllReadyH.nil
          go_simp
          refine (clone_any _ _ _ _ _ l _ hcw.drew (by omega)).mono ?_; rintro e w2 ⟨A2, c2, rfl, o2, hb2⟩; replace hB := Below.via (Below.drew hB) hb2; replace TP := (Blk.drew TP).below hb2; replace TR := (Blk.drew TR).below hb2; have z2 := hb2.size; (try simp at z2); have lR2 := TR.lt; obtain ⟨r02, r12⟩ := TR.two; have rf2 := TR.free; obtain ⟨q0, q1⟩ := TP.two; have y0 := (Below.cell hb2 (p := ⟨gb, go, none⟩) (World.block_lt_of_cell? _ _ hHeld.2.2)).trans hHeld.2.2; replace o2 := o2.mono (B' := w1.heap.size) (T' := w2.heap.size) (by simp) (Nat.le_refl _)
          refine hK.out _ _ ?_ (fun hHeld => ?_)
          focus (first | exact trivial | ((try dsimp only); (exact ⟨q0, q1, y0⟩))); done
          clear hK K
          (try simp only [Act.put, List.setIfInBounds_toArray, List.set_cons_zero, List.set_cons_succ])
          refine wpAnyH_take (i := 4) (v := ?_) (by rw [List.getElem?_toArray]; rfl) (by kernel_rfl) (by kernel_rfl) (by kernel_rfl) (fun _ _ _ h => h) (Or.inl ⟨by rfl, ?_⟩) (by assumption) ?_
          rotate_left
          focus (intro wS hSw; (try dsimp only at hSw); go_simp; (try with_reducible rfl)); done
          (try simp only [Act.put, List.setIfInBounds_toArray, List.set_cons_zero, List.set_cons_succ])
          refine wpAnyH_ready (rs := [9]) (by kernel_rfl) (by simp) ?_
          refine AllReadyH.cons (by rw [List.getElem?_toArray]; rfl) (fun K hK => ?_) AllReadyH.nil
          go_simp
          skip
          refine hK.out _ _ ?_ (fun hHeld => ?_)
          focus (first | exact trivial | ((try dsimp only); ((refine ⟨?_, ?_, ?_⟩ <;> go_keep)))); done
          clear hK K
          (try simp only [Act.put, List.setIfInBounds_toArray, List.set_cons_zero, List.set_cons_succ])
          refine wpAnyH_take (i := 10) (v := ?_) (by rw [List.getElem?_toArray]; rfl) (by kernel_rfl) (by kernel_rfl) (by kernel_rfl) (fun _ _ _ h => h) (Or.inl ⟨by rfl, ?_⟩) (by assumption) ?_
          rotate_left
          focus (intro wS hSw; (try dsimp only at hSw); go_simp; (try with_reducible rfl)); done
          (try simp only [Act.put, List.setIfInBounds_toArray, List.set_cons_zero, List.set_cons_succ])
          refine wpAnyH_done (by kernel_rfl) ?_ _
          refine NoPanic.normal ?_
          clear hb2 TP TR
          go_wp2
          refine bodyPost_ret (v := .tuple #[notice 0 A2 l.length c2, .int .i64 x]) (by simp [results, Try.results22, go_sem, *]) rfl ?_
          rw [HP.out.1, HP.out.2.1, HP.out.2.2]
          exact ⟨A2, c2, rfl, Own.mono (B := w1.heap.size) (T := w2.heap.size) (by (repeat (first | (with_reducible assumption) | (with_reducible refine Own.alloc ?_ _) | (with_reducible refine Own.drew ?_) | (with_reducible refine Own.set ?_ (by first | (simp; done) | (simp; omega) | omega) _)))) (by omega) (by simp), by (repeat (first | (with_reducible assumption) | (with_reducible exact Below.refl _ _) | (with_reducible refine Below.setCell ?_ (by first | (simp; done) | (simp; omega) | omega) _) | (with_reducible refine Below.alloc ?_ (by first | (simp; done) | (simp; omega) | omega) _) | (with_reducible refine Below.drew ?_) | (with_reducible refine Below.drewN ?_ _)))⟩
        · rw [if_neg hce] at hcut
          replace hcut : Rd w 0 w.heap.size 1 (some ⟨gb, go + 1, none⟩) m (ints l) := by simpa [Addr.add_lit] using hcut
          have hc1 : (1 : Int) ≤ (c : Int) := by omega
          have hm2 : (1 : Int) ≤ (m : Int) + 1 := by omega
          have hm3 : (m : Int) + 1 ≤ (c : Int) := by omega
          have hm4 : (0 : Int) < (m : Int) + 1 := by omega
          go_enter Try.func22, Try.ntmps22
          go_wp2_with fail
          refine (iNoticeValid_any _ _ _ _ b _ (x :: l) _ ((hr.alloc _).alloc _) hn hnc).mono ?_
          rintro e w1 ⟨rfl, hb1⟩
          have TP := ((Blk.new w 27 #[.int .i64 b, .slice (some ⟨gb, go, none⟩) (m + 1) c]).alloc (.cells #[.int .i64 0, .slice none 0 0] 27)).below hb1
          have TR := (Blk.newAt (w := w.alloc (.cells #[.int .i64 b, .slice (some ⟨gb, go, none⟩) (m + 1) c] 27)) (n := w.heap.size + 1) 27 #[.int .i64 0, .slice none 0 0] (by simp)).below hb1
          have hB := Below.via (by (repeat (first | (with_reducible assumption) | (with_reducible exact Below.refl _ _) | (with_reducible refine Below.setCell ?_ (by first | (simp; done) | (simp; omega) | omega) _) | (with_reducible refine Below.alloc ?_ (by first | (simp; done) | (simp; omega) | omega) _) | (with_reducible refine Below.drew ?_) | (with_reducible refine Below.drewN ?_ _))) : Below w.heap.size w _) hb1
          have z1 := hb1.size
          simp at z1
          have hr1 := ((hr.alloc _).alloc _).below hb1
          obtain ⟨p0, p1⟩ := TP.two
          obtain ⟨r0, r1⟩ := TR.two
          have rf := TR.free
          have lR := TR.lt
          clear hb1 hr
          go_wp2_with fail
          refine (in_any _ _ _ _).mono ?_
          rintro e w2 ⟨rfl, rfl⟩
          have hc1w := (hB.cell (p := ⟨gb, go, none⟩) hbl).trans hc0
          have hcw := hcut.below hB
          clear hc hc0 hr1 hcut
          go_wp2_with fail
          refine wp_region_noPanic ?_
          refine wp_region_held_drew (S := (fun W => W.cell? ⟨w.heap.size, 0, none⟩ = some (.int .i64 b) ∧ W.cell? ⟨w.heap.size, 1, none⟩ = some (.slice (some ⟨gb, go, none⟩) (m + 1) c) ∧ W.cell? ⟨gb, go, none⟩ = some (.int .i64 x))) (by kernel_rfl) ?_ (fun hHeld => ?_)
          focus (first | exact trivial | ((try dsimp only); ((repeat' (first | assumption | with_reducible refine And.intro ?_ ?_)) <;> go_keep))); done
          refine wpAnyH_take (i := 0) (v := ?_) (by rw [List.getElem?_toArray]; rfl) (by kernel_rfl) (by kernel_rfl) (by kernel_rfl) (fun _ _ _ h => h) (Or.inl ⟨by rfl, ?_⟩) (by assumption) ?_
          rotate_left
          focus (intro wS hSw; (try dsimp only at hSw); go_simp; (try with_reducible rfl)); done
          (try simp only [Act.put, List.setIfInBounds_toArray, List.set_cons_zero, List.set_cons_succ])
          refine wpAnyH_take (i := 1) (v := ?_) (by rw [List.getElem?_toArray]; rfl) (by kernel_rfl) (by kernel_rfl) (by kernel_rfl) (fun _ _ _ h => h) (Or.inl ⟨by rfl, ?_⟩) (by assumption) ?_
          rotate_left
          focus (intro wS hSw; (try dsimp only at hSw); go_simp; (try with_reducible rfl)); done
          (try simp only [Act.put, List.setIfInBounds_toArray, List.set_cons_zero, List.set_cons_succ])
          refine wpAnyH_take (i := 2) (v := ?_) (by rw [List.getElem?_toArray]; rfl) (by kernel_rfl) (by kernel_rfl) (by kernel_rfl) (fun _ _ _ h => h) (Or.inl ⟨by rfl, ?_⟩) (by assumption) ?_
          rotate_left
          focus (intro wS hSw; (try dsimp only at hSw); go_simp; (try with_reducible rfl)); done
          (try simp only [Act.put, List.setIfInBounds_toArray, List.set_cons_zero, List.set_cons_succ])
          refine wpAnyH_take (i := 5) (v := ?_) (by rw [List.getElem?_toArray]; rfl) (by kernel_rfl) (by kernel_rfl) (by kernel_rfl) (fun _ _ _ h => h) (Or.inl ⟨by rfl, ?_⟩) (by assumption) ?_
          rotate_left
          focus (intro wS hSw; (try dsimp only at hSw); go_simp; (try with_reducible rfl)); done
          (try simp only [Act.put, List.setIfInBounds_toArray, List.set_cons_zero, List.set_cons_succ])
          refine wpAnyH_take (i := 6) (v := ?_) (by rw [List.getElem?_toArray]; rfl) (by kernel_rfl) (by kernel_rfl) (by kernel_rfl) (fun _ _ _ h => h) (Or.inl ⟨by rfl, ?_⟩) (by assumption) ?_
          rotate_left
          focus (intro wS hSw; (try dsimp only at hSw); go_simp; (try with_reducible rfl)); done
          (try simp only [Act.put, List.setIfInBounds_toArray, List.set_cons_zero, List.set_cons_succ])
          refine wpAnyH_take (i := 7) (v := ?_) (by rw [List.getElem?_toArray]; rfl) (by kernel_rfl) (by kernel_rfl) (by kernel_rfl) (fun _ _ _ h => h) (Or.inl ⟨by rfl, ?_⟩) (by assumption) ?_
          rotate_left
          focus (intro wS hSw; (try dsimp only at hSw); go_simp; (try with_reducible rfl)); done
          (try simp only [Act.put, List.setIfInBounds_toArray, List.set_cons_zero, List.set_cons_succ])
          refine wpAnyH_take (i := 8) (v := ?_) (by rw [List.getElem?_toArray]; rfl) (by kernel_rfl) (by kernel_rfl) (by kernel_rfl) (fun _ _ _ h => h) (Or.inl ⟨by rfl, ?_⟩) (by assumption) ?_
          rotate_left
          focus (intro wS hSw; (try dsimp only at hSw); go_simp; (try with_reducible rfl)); done
          (try simp only [Act.put, List.setIfInBounds_toArray, List.set_cons_zero, List.set_cons_succ])
          refine wpAnyH_ready (rs := [3]) (by kernel_rfl) (by simp) ?_
          refine AllReadyH.cons (by rw [List.getElem?_toArray]; rfl) (fun K hK => ?_) AllReadyH.nil
          go_simp
          refine (clone_any _ _ _ _ _ l _ hcw.drew (by omega)).mono ?_; rintro e w2 ⟨A2, c2, rfl, o2, hb2⟩; replace hB := Below.via (Below.drew hB) hb2; replace TP := (Blk.drew TP).below hb2; replace TR := (Blk.drew TR).below hb2; have z2 := hb2.size; (try simp at z2); have lR2 := TR.lt; obtain ⟨r02, r12⟩ := TR.two; have rf2 := TR.free; obtain ⟨q0, q1⟩ := TP.two; have y0 := (Below.cell hb2 (p := ⟨gb, go, none⟩) (World.block_lt_of_cell? _ _ hHeld.2.2)).trans hHeld.2.2; replace o2 := o2.mono (B' := w1.heap.size) (T' := w2.heap.size) (by simp) (Nat.le_refl _)
          refine hK.out _ _ ?_ (fun hHeld => ?_)
          focus (first | exact trivial | ((try dsimp only); (exact ⟨q0, q1, y0⟩))); done
          clear hK K
          (try simp only [Act.put, List.setIfInBounds_toArray, List.set_cons_zero, List.set_cons_succ])
          refine wpAnyH_take (i := 4) (v := ?_) (by rw [List.getElem?_toArray]; rfl) (by kernel_rfl) (by kernel_rfl) (by kernel_rfl) (fun _ _ _ h => h) (Or.inl ⟨by rfl, ?_⟩) (by assumption) ?_
          rotate_left
          focus (intro wS hSw; (try dsimp only at hSw); go_simp; (try with_reducible rfl)); done
          (try simp only [Act.put, List.setIfInBounds_toArray, List.set_cons_zero, List.set_cons_succ])
          refine wpAnyH_ready (rs := [9]) (by kernel_rfl) (by simp) ?_
          refine AllReadyH.cons (by rw [List.getElem?_toArray]; rfl) (fun K hK => ?_) AllReadyH.nil
          go_simp
          skip
          refine hK.out _ _ ?_ (fun hHeld => ?_)
          focus (first | exact trivial | ((try dsimp only); ((refine ⟨?_, ?_, ?_⟩ <;> go_keep)))); done
          clear hK K
          (try simp only [Act.put, List.setIfInBounds_toArray, List.set_cons_zero, List.set_cons_succ])
          refine wpAnyH_take (i := 10) (v := ?_) (by rw [List.getElem?_toArray]; rfl) (by kernel_rfl) (by kernel_rfl) (by kernel_rfl) (fun _ _ _ h => h) (Or.inl ⟨by rfl, ?_⟩) (by assumption) ?_
          rotate_left
          focus (intro wS hSw; (try dsimp only at hSw); go_simp; (try with_reducible rfl)); done
          (try simp only [Act.put, List.setIfInBounds_toArray, List.set_cons_zero, List.set_cons_succ])
          refine wpAnyH_done (by kernel_rfl) ?_ _
          refine NoPanic.normal ?_
          clear hb2 TP TR
          go_wp2
          refine bodyPost_ret (v := .tuple #[notice 0 A2 l.length c2, .int .i64 x]) (by simp [results, Try.results22, go_sem, *]) rfl ?_
          rw [HP.out.1, HP.out.2.1, HP.out.2.2]
          exact ⟨A2, c2, rfl, Own.mono (B := w1.heap.size) (T := w2.heap.size) (by (repeat (first | (with_reducible assumption) | (with_reducible refine Own.alloc ?_ _) | (with_reducible refine Own.drew ?_) | (with_reducible refine Own.set ?_ (by first | (simp; done) | (simp; omega) | omega) _)))) (by omega) (by simp), by (repeat (first | (with_reducible assumption) | (with_reducible exact Below.refl _ _) | (with_reducible refine Below.setCell ?_ (by first | (simp; done) | (simp; omega) | omega) _) | (with_reducible refine Below.alloc ?_ (by first | (simp; done) | (simp; omega) | omega) _) | (with_reducible refine Below.drew ?_) | (with_reducible refine Below.drewN ?_ _)))⟩
set_option maxHeartbeats 2000000 in
theorem sSignalNotice_any (B T n c : Nat) (b : Int) (A : Option Addr) (xs : List Int) (v : Int) (w : World) (hr : Rd w B T 1 A n (ints xs)) (hn : n ≤ 1048576) (hnc : n ≤ c) :
    Calls Try.prog 21 #[notice b A n c, .int .i64 v] w (NewNoticeN w (sigB b xs v) (sigL b xs v) (sigM b xs v)) := by
  obtain ⟨i0, hi0, hz0, hz1, hz2⟩ := info_parts Try.infoInt
  have hl := ints_len hr
  subst hl
  replace hr := hr.here Nat.one_pos
  cases hv : noticeV b xs
  · have HP := Lib.hid (sig_no (v := v) (show sigOk b xs v = false by unfold sigOk; rw [hv]; rfl))
    go_enter Try.func21, Try.ntmps21
    go_wp2_with fail
    refine (sNoticeValid_any _ _ _ _ b _ xs _ ((hr.alloc _).alloc _) hn).mono ?_
    rintro e w1 ⟨rfl, hb1⟩
    have TP := ((Blk.new w 27 #[.int .i64 b, .slice A xs.length c]).alloc (.cells #[.int .i64 0, .slice none 0 0] 27)).below hb1
    have TR := (Blk.newAt (w := w.alloc (.cells #[.int .i64 b, .slice A xs.length c] 27)) (n := w.heap.size + 1) 27 #[.int .i64 0, .slice none 0 0] (by simp)).below hb1
    have hB := Below.via (by (repeat (first | (with_reducible assumption) | (with_reducible exact Below.refl _ _) | (with_reducible refine Below.setCell ?_ (by first | (simp; done) | (simp; omega) | omega) _) | (with_reducible refine Below.alloc ?_ (by first | (simp; done) | (simp; omega) | omega) _) | (with_reducible refine Below.drew ?_) | (with_reducible refine Below.drewN ?_ _))) : Below w.heap.size w _) hb1
    have z1 := hb1.size
    simp at z1
    have hr1 := ((hr.alloc _).alloc _).below hb1
    obtain ⟨p0, p1⟩ := TP.two
    obtain ⟨r0, r1⟩ := TR.two
    have rf := TR.free
    have lR := TR.lt
    clear hb1 hr
    clear hr1 TP TR
    go_wp2
    refine bodyPost_ret (v := .tuple #[notice 0 none 0 0, .int .i64 (-1)]) (by simp [results, Try.results21, go_sem, *]) rfl ?_
    rw [HP.out.1, HP.out.2.1, HP.out.2.2]
    exact ⟨none, 0, rfl, Own.nil _ _ _ _ _ _, by (repeat (first | (with_reducible assumption) | (with_reducible exact Below.refl _ _) | (with_reducible refine Below.setCell ?_ (by first | (simp; done) | (simp; omega) | omega) _) | (with_reducible refine Below.alloc ?_ (by first | (simp; done) | (simp; omega) | omega) _) | (with_reducible refine Below.drew ?_) | (with_reducible refine Below.drewN ?_ _)))⟩
  · cases hi : inB v 1 255
    · have HP := Lib.hid (sig_no (show sigOk b xs v = false by unfold sigOk; rw [hv, hi]; rfl))
      go_enter Try.func21, Try.ntmps21
      go_wp2_with fail
      refine (sNoticeValid_any _ _ _ _ b _ xs _ ((hr.alloc _).alloc _) hn).mono ?_
      rintro e w1 ⟨rfl, hb1⟩
      have TP := ((Blk.new w 27 #[.int .i64 b, .slice A xs.length c]).alloc (.cells #[.int .i64 0, .slice none 0 0] 27)).below hb1
      have TR := (Blk.newAt (w := w.alloc (.cells #[.int .i64 b, .slice A xs.length c] 27)) (n := w.heap.size + 1) 27 #[.int .i64 0, .slice none 0 0] (by simp)).below hb1
      have hB := Below.via (by (repeat (first | (with_reducible assumption) | (with_reducible exact Below.refl _ _) | (with_reducible refine Below.setCell ?_ (by first | (simp; done) | (simp; omega) | omega) _) | (with_reducible refine Below.alloc ?_ (by first | (simp; done) | (simp; omega) | omega) _) | (with_reducible refine Below.drew ?_) | (with_reducible refine Below.drewN ?_ _))) : Below w.heap.size w _) hb1
      have z1 := hb1.size
      simp at z1
      have hr1 := ((hr.alloc _).alloc _).below hb1
      obtain ⟨p0, p1⟩ := TP.two
      obtain ⟨r0, r1⟩ := TR.two
      have rf := TR.free
      have lR := TR.lt
      clear hb1 hr
      go_wp2_with fail
      refine (l1In_any _ _ _ _).mono ?_
      rintro e w2 ⟨rfl, rfl⟩
      clear hr1 TP TR
      go_wp2
      refine bodyPost_ret (v := .tuple #[notice 0 none 0 0, .int .i64 (-1)]) (by simp [results, Try.results21, go_sem, *]) rfl ?_
      rw [HP.out.1, HP.out.2.1, HP.out.2.2]
      exact ⟨none, 0, rfl, Own.nil _ _ _ _ _ _, by (repeat (first | (with_reducible assumption) | (with_reducible exact Below.refl _ _) | (with_reducible refine Below.setCell ?_ (by first | (simp; done) | (simp; omega) | omega) _) | (with_reducible refine Below.alloc ?_ (by first | (simp; done) | (simp; omega) | omega) _) | (with_reducible refine Below.drew ?_) | (with_reducible refine Below.drewN ?_ _)))⟩
    · have hok : sigOk b xs v = true := by unfold sigOk; rw [hv, hi]; rfl
      cases xs with
      | nil =>
        have HP := Lib.hid (sig_none hok)
        clear hok
        go_enter Try.func21, Try.ntmps21
        go_wp2_with fail
        refine (sNoticeValid_any _ _ _ _ b _ [] _ ((hr.alloc _).alloc _) hn).mono ?_
        rintro e w1 ⟨rfl, hb1⟩
        have TP := ((Blk.new w 27 #[.int .i64 b, .slice A 0 c]).alloc (.cells #[.int .i64 0, .slice none 0 0] 27)).below hb1
        have TR := (Blk.newAt (w := w.alloc (.cells #[.int .i64 b, .slice A 0 c] 27)) (n := w.heap.size + 1) 27 #[.int .i64 0, .slice none 0 0] (by simp)).below hb1
        have hB := Below.via (by (repeat (first | (with_reducible assumption) | (with_reducible exact Below.refl _ _) | (with_reducible refine Below.setCell ?_ (by first | (simp; done) | (simp; omega) | omega) _) | (with_reducible refine Below.alloc ?_ (by first | (simp; done) | (simp; omega) | omega) _) | (with_reducible refine Below.drew ?_) | (with_reducible refine Below.drewN ?_ _))) : Below w.heap.size w _) hb1
        have z1 := hb1.size
        simp at z1
        have hr1 := ((hr.alloc _).alloc _).below hb1
        obtain ⟨p0, p1⟩ := TP.two
        obtain ⟨r0, r1⟩ := TR.two
        have rf := TR.free
        have lR := TR.lt
        clear hb1 hr
        go_wp2_with fail
        refine (l1In_any _ _ _ _).mono ?_
        rintro e w2 ⟨rfl, rfl⟩
        clear hr1 TP TR
        go_wp2
        refine bodyPost_ret (v := .tuple #[notice (orI b v) none 0 0, .int .i64 (-1)]) (by simp [results, Try.results21, go_sem, orI, *]) rfl ?_
        rw [HP.out.1, HP.out.2.1, HP.out.2.2]
        exact ⟨none, 0, rfl, Own.nil _ _ _ _ _ _, by (repeat (first | (with_reducible assumption) | (with_reducible exact Below.refl _ _) | (with_reducible refine Below.setCell ?_ (by first | (simp; done) | (simp; omega) | omega) _) | (with_reducible refine Below.alloc ?_ (by first | (simp; done) | (simp; omega) | omega) _) | (with_reducible refine Below.drew ?_) | (with_reducible refine Below.drewN ?_ _)))⟩
      | cons x l =>
        have HP := Lib.hid (sig_some hok)
        clear hok
        obtain ⟨gb, go, y, rfl, hbl, hx, hc⟩ := ints_at hr (show 0 < (x :: l).length by simp)
        obtain rfl : x = y := by simpa using hx
        have hcut := hr.cut (k := 1) (by simp) hnc
        rw [Nat.mul_one, ← ints_drop, List.drop_one, List.tail_cons] at hcut
        obtain ⟨m, hm⟩ : ∃ m, l.length = m := ⟨_, rfl⟩
        have hm1 : (x :: l).length = m + 1 := by simp [hm]
        rw [hm1] at hr hn hnc hcut ⊢
        rw [Nat.add_sub_cancel] at hcut
        have HM := Lib.hid hm
        clear hm hm1 hx
        have hgb1 : ¬ gb = w.heap.size + 1 := by omega
        have hgb2 : ¬ w.heap.size + 1 = gb := by omega
        have hc0 : w.cell? ⟨gb, go, none⟩ = some (.int .i64 x) := hc
        by_cases hce : c = 1
        · subst hce
          obtain rfl : m = 0 := by omega
          replace hcut : Rd w 0 w.heap.size 1 (some ⟨gb, go, none⟩) 0 (ints l) := by simpa using hcut
          replace hr : Rd w 0 w.heap.size 1 (some ⟨gb, go, none⟩) 1 (ints (x :: l)) := hr
          go_enter Try.func21, Try.ntmps21
          go_wp2_with fail
          refine (sNoticeValid_any _ _ _ _ b _ (x :: l) _ ((hr.alloc _).alloc _) (by omega)).mono ?_
          rintro e w1 ⟨rfl, hb1⟩
          have TP := ((Blk.new w 27 #[.int .i64 b, .slice (some ⟨gb, go, none⟩) 1 1]).alloc (.cells #[.int .i64 0, .slice none 0 0] 27)).below hb1
          have TR := (Blk.newAt (w := w.alloc (.cells #[.int .i64 b, .slice (some ⟨gb, go, none⟩) 1 1] 27)) (n := w.heap.size + 1) 27 #[.int .i64 0, .slice none 0 0] (by simp)).below hb1
          have hB := Below.via (by (repeat (first | (with_reducible assumption) | (with_reducible exact Below.refl _ _) | (with_reducible refine Below.setCell ?_ (by first | (simp; done) | (simp; omega) | omega) _) | (with_reducible refine Below.alloc ?_ (by first | (simp; done) | (simp; omega) | omega) _) | (with_reducible refine Below.drew ?_) | (with_reducible refine Below.drewN ?_ _))) : Below w.heap.size w _) hb1
          have z1 := hb1.size
          simp at z1
          have hr1 := ((hr.alloc _).alloc _).below hb1
          obtain ⟨p0, p1⟩ := TP.two
          obtain ⟨r0, r1⟩ := TR.two
          have rf := TR.free
          have lR := TR.lt
          clear hb1 hr
          go_wp2_with fail
          refine (l1In_any _ _ _ _).mono ?_
          rintro e w2 ⟨rfl, rfl⟩
          have hc1w := (hB.cell (p := ⟨gb, go, none⟩) hbl).trans hc0
          have hcw := hcut.below hB
          clear hc hc0 hr1 hcut
          go_wp2_with fail
          refine wp_region_noPanic ?_
          refine wp_region_held_drew (S := (fun W => W.cell? ⟨w.heap.size, 0, none⟩ = some (.int .i64 b) ∧ W.cell? ⟨w.heap.size, 1, none⟩ = some (.slice (some ⟨gb, go, none⟩) 1 1) ∧ W.cell? ⟨gb, go, none⟩ = some (.int .i64 x))) (by kernel_rfl) ?_ (fun hHeld => ?_)
          focus (first | exact trivial | ((try dsimp only); ((repeat' (first | assumption | with_reducible refine And.intro ?_ ?_)) <;> go_keep))); done
          refine wpAnyH_take (i := 1) (v := ?_) (by rw [List.getElem?_toArray]; rfl) (by kernel_rfl) (by kernel_rfl) (by kernel_rfl) (fun _ _ _ h => h) (Or.inl ⟨by rfl, ?_⟩) (by assumption) ?_
          rotate_left
          focus (intro wS hSw; (try dsimp only at hSw); go_simp; (try with_reducible rfl)); done
          (try simp only [Act.put, List.setIfInBounds_toArray, List.set_cons_zero, List.set_cons_succ])
          refine wpAnyH_take (i := 2) (v := ?_) (by rw [List.getElem?_toArray]; rfl) (by kernel_rfl) (by kernel_rfl) (by kernel_rfl) (fun _ _ _ h => h) (Or.inl ⟨by rfl, ?_⟩) (by assumption) ?_
          rotate_left
          focus (intro wS hSw; (try dsimp only at hSw); go_simp; (try with_reducible rfl)); done
          (try simp only [Act.put, List.setIfInBounds_toArray, List.set_cons_zero, List.set_cons_succ])
          refine wpAnyH_take (i := 3) (v := ?_) (by rw [List.getElem?_toArray]; rfl) (by kernel_rfl) (by kernel_rfl) (by kernel_rfl) (fun _ _ _ h => h) (Or.inl ⟨by rfl, ?_⟩) (by assumption) ?_
          rotate_left
          focus (intro wS hSw; (try dsimp only at hSw); go_simp; (try with_reducible rfl)); done
          (try simp only [Act.put, List.setIfInBounds_toArray, List.set_cons_zero, List.set_cons_succ])
          refine wpAnyH_take (i := 6) (v := ?_) (by rw [List.getElem?_toArray]; rfl) (by kernel_rfl) (by kernel_rfl) (by kernel_rfl) (fun _ _ _ h => h) (Or.inl ⟨by rfl, ?_⟩) (by assumption) ?_
          rotate_left
          focus (intro wS hSw; (try dsimp only at hSw); go_simp; (try with_reducible rfl)); done
          (try simp only [Act.put, List.setIfInBounds_toArray, List.set_cons_zero, List.set_cons_succ])
          refine wpAnyH_take (i := 7) (v := ?_) (by rw [List.getElem?_toArray]; rfl) (by kernel_rfl) (by kernel_rfl) (by kernel_rfl) (fun _ _ _ h => h) (Or.inl ⟨by rfl, ?_⟩) (by assumption) ?_
          rotate_left
          focus (intro wS hSw; (try dsimp only at hSw); go_simp; (try with_reducible rfl)); done
          (try simp only [Act.put, List.setIfInBounds_toArray, List.set_cons_zero, List.set_cons_succ])
          refine wpAnyH_take (i := 8) (v := ?_) (by rw [List.getElem?_toArray]; rfl) (by kernel_rfl) (by kernel_rfl) (by kernel_rfl) (fun _ _ _ h => h) (Or.inl ⟨by rfl, ?_⟩) (by assumption) ?_
          rotate_left
          focus (intro wS hSw; (try dsimp only at hSw); go_simp; (try with_reducible rfl)); done
          (try simp only [Act.put, List.setIfInBounds_toArray, List.set_cons_zero, List.set_cons_succ])
          refine wpAnyH_take (i := 9) (v := ?_) (by rw [List.getElem?_toArray]; rfl) (by kernel_rfl) (by kernel_rfl) (by kernel_rfl) (fun _ _ _ h => h) (Or.inl ⟨by rfl, ?_⟩) (by assumption) ?_
          rotate_left
          focus (intro wS hSw; (try dsimp only at hSw); go_simp; (try with_reducible rfl)); done
          (try simp only [Act.put, List.setIfInBounds_toArray, List.set_cons_zero, List.set_cons_succ])
          refine wpAnyH_ready (rs := [0]) (by kernel_rfl) (by simp) ?_
          refine AllReadyH.cons (by rw [List.getElem?_toArray]; rfl) (fun K hK => ?_) AllReadyH.nil
          go_simp
          skip
          refine hK.out _ _ ?_ (fun hHeld => ?_)
          focus (first | exact trivial | ((try dsimp only); ((refine ⟨?_, ?_, ?_⟩ <;> go_keep)))); done
          clear hK K
          (try simp only [Act.put, List.setIfInBounds_toArray, List.set_cons_zero, List.set_cons_succ])
          refine wpAnyH_ready (rs := [4]) (by kernel_rfl) (by simp) ?_
          refine AllReadyH.cons (by rw [List.getElem?_toArray]; rfl) (fun K hK => ?_) AllReadyH.nil
          refine step_app _ rfl (.tmp 19) (.tmp 22) 22 rfl 3 i0 (.int .i64 0) 1 8 Try.underlying22 hi0 hz0 hz1 hz2 rfl (by omega) w1.heap.size 0 0 w.heap.size (some ⟨w1.heap.size, 0, none⟩) (some ⟨gb, go, none⟩) 0 0 0 0 [] (ints l) rfl rfl (Own.nil _ _ _ _ _ _) (hcw.drew.alloc _) (ints_one _) (by unfold maxLen; omega) (by omega) (by simp) ?_; intro A2 c2 w2 o2 f2; rw [Nat.zero_add, List.nil_append] at o2; have hb2 := f2.below0; replace hB := Below.via (Below.alloc1 (Below.drew hB) _) hb2; replace TP := ((Blk.drew TP).alloc _).below hb2; replace TR := ((Blk.drew TR).alloc _).below hb2; have z2 := hb2.size; (try simp at z2); have lR2 := TR.lt; obtain ⟨r02, r12⟩ := TR.two; have rf2 := TR.free; obtain ⟨q0, q1⟩ := TP.two; have y0 := (Below.cell hb2 (p := ⟨gb, go, none⟩) (World.block_lt_of_cell? _ _ hHeld.2.2)).trans hHeld.2.2; clear f2
          refine hK.out _ _ ?_ (fun hHeld => ?_)
          focus (first | exact trivial | ((try dsimp only); (exact ⟨q0, q1, y0⟩))); done
          clear hK K
          (try simp only [Act.put, List.setIfInBounds_toArray, List.set_cons_zero, List.set_cons_succ])
          refine wpAnyH_take (i := 5) (v := ?_) (by rw [List.getElem?_toArray]; rfl) (by kernel_rfl) (by kernel_rfl) (by kernel_rfl) (fun _ _ _ h => h) (Or.inl ⟨by rfl, ?_⟩) (by assumption) ?_
          rotate_left
          focus (intro wS hSw; (try dsimp only at hSw); go_simp; (try with_reducible rfl)); done
          (try simp only [Act.put, List.setIfInBounds_toArray, List.set_cons_zero, List.set_cons_succ])
          refine wpAnyH_ready (rs := [10]) (by kernel_rfl) (by simp) ?_
          refine AllReadyH.cons (by rw [List.getElem?_toArray]; rfl) (fun K hK => ?_) AllReadyH.nil
          go_simp
          skip
          refine hK.out _ _ ?_ (fun hHeld => ?_)
          focus (first | exact trivial | ((try dsimp only); ((refine ⟨?_, ?_, ?_⟩ <;> go_keep)))); done
          clear hK K
          (try simp only [Act.put, List.setIfInBounds_toArray, List.set_cons_zero, List.set_cons_succ])
          refine wpAnyH_take (i := 11) (v := ?_) (by rw [List.getElem?_toArray]; rfl) (by kernel_rfl) (by kernel_rfl) (by kernel_rfl) (fun _ _ _ h => h) (Or.inl ⟨by rfl, ?_⟩) (by assumption) ?_
          rotate_left
          focus (intro wS hSw; (try dsimp only at hSw); go_simp; (try with_reducible rfl)); done
          (try simp only [Act.put, List.setIfInBounds_toArray, List.set_cons_zero, List.set_cons_succ])
          refine wpAnyH_done (by kernel_rfl) ?_ _
          refine NoPanic.normal ?_
          clear hb2 TP TR
          go_wp2
          refine bodyPost_ret (v := .tuple #[notice 0 A2 0 c2, .int .i64 x]) (by simp [results, Try.results21, go_sem, *]) rfl ?_
          rw [HP.out.1, HP.out.2.1, HP.out.2.2]
          exact ⟨A2, c2, by rw [HM.out], by rw [HM.out]; exact Own.mono (B := w1.heap.size) (T := w2.heap.size) (by (repeat (first | (with_reducible assumption) | (with_reducible refine Own.alloc ?_ _) | (with_reducible refine Own.drew ?_) | (with_reducible refine Own.set ?_ (by first | (simp; done) | (simp; omega) | omega) _)))) (by omega) (by simp), by (repeat (first | (with_reducible assumption) | (with_reducible exact Below.refl _ _) | (with_reducible refine Below.setCell ?_ (by first | (simp; done) | (simp; omega) | omega) _) | (with_reducible refine Below.alloc ?_ (by first | (simp; done) | (simp; omega) | omega) _) | (with_reducible refine Below.drew ?_) | (with_reducible refine Below.drewN ?_ _)))⟩
        · rw [if_neg hce] at hcut
          replace hcut : Rd w 0 w.heap.size 1 (some ⟨gb, go + 1, none⟩) m (ints l) := by simpa [Addr.add_lit] using hcut
          have hc1 : (1 : Int) ≤ (c : Int) := by omega
          have hm2 : (1 : Int) ≤ (m : Int) + 1 := by omega
          have hm3 : (m : Int) + 1 ≤ (c : Int) := by omega
          have hm4 : (0 : Int) < (m : Int) + 1 := by omega
          go_enter Try.func21, Try.ntmps21
          go_wp2_with fail
          refine (sNoticeValid_any _ _ _ _ b _ (x :: l) _ ((hr.alloc _).alloc _) hn).mono ?_
          rintro e w1 ⟨rfl, hb1⟩
          have TP := ((Blk.new w 27 #[.int .i64 b, .slice (some ⟨gb, go, none⟩) (m + 1) c]).alloc (.cells #[.int .i64 0, .slice none 0 0] 27)).below hb1
          have TR := (Blk.newAt (w := w.alloc (.cells #[.int .i64 b, .slice (some ⟨gb, go, none⟩) (m + 1) c] 27)) (n := w.heap.size + 1) 27 #[.int .i64 0, .slice none 0 0] (by simp)).below hb1
          have hB := Below.via (by (repeat (first | (with_reducible assumption) | (with_reducible exact Below.refl _ _) | (with_reducible refine Below.setCell ?_ (by first | (simp; done) | (simp; omega) | omega) _) | (with_reducible refine Below.alloc ?_ (by first | (simp; done) | (simp; omega) | omega) _) | (with_reducible refine Below.drew ?_) | (with_reducible refine Below.drewN ?_ _))) : Below w.heap.size w _) hb1
          have z1 := hb1.size
          simp at z1
          have hr1 := ((hr.alloc _).alloc _).below hb1
          obtain ⟨p0, p1⟩ := TP.two
          obtain ⟨r0, r1⟩ := TR.two
          have rf := TR.free
          have lR := TR.lt
          clear hb1 hr
          go_wp2_with fail
          refine (l1In_any _ _ _ _).mono ?_
          rintro e w2 ⟨rfl, rfl⟩
          have hc1w := (hB.cell (p := ⟨gb, go, none⟩) hbl).trans hc0
          have hcw := hcut.below hB
          clear hc hc0 hr1 hcut
          go_wp2_with fail
          refine wp_region_noPanic ?_
          refine wp_region_held_drew (S := (fun W => W.cell? ⟨w.heap.size, 0, none⟩ = some (.int .i64 b) ∧ W.cell? ⟨w.heap.size, 1, none⟩ = some (.slice (some ⟨gb, go, none⟩) (m + 1) c) ∧ W.cell? ⟨gb, go, none⟩ = some (.int .i64 x))) (by kernel_rfl) ?_ (fun hHeld => ?_)
          focus (first | exact trivial | ((try dsimp only); ((repeat' (first | assumption | with_reducible refine And.intro ?_ ?_)) <;> go_keep))); done
          refine wpAnyH_take (i := 1) (v := ?_) (by rw [List.getElem?_toArray]; rfl) (by kernel_rfl) (by kernel_rfl) (by kernel_rfl) (fun _ _ _ h => h) (Or.inl ⟨by rfl, ?_⟩) (by assumption) ?_
          rotate_left
          focus (intro wS hSw; (try dsimp only at hSw); go_simp; (try with_reducible rfl)); done
          (try simp only [Act.put, List.setIfInBounds_toArray, List.set_cons_zero, List.set_cons_succ])
          refine wpAnyH_take (i := 2) (v := ?_) (by rw [List.getElem?_toArray]; rfl) (by kernel_rfl) (by kernel_rfl) (by kernel_rfl) (fun _ _ _ h => h) (Or.inl ⟨by rfl, ?_⟩) (by assumption) ?_
          rotate_left
          focus (intro wS hSw; (try dsimp only at hSw); go_simp; (try with_reducible rfl)); done
          (try simp only [Act.put, List.setIfInBounds_toArray, List.set_cons_zero, List.set_cons_succ])
          refine wpAnyH_take (i := 3) (v := ?_) (by rw [List.getElem?_toArray]; rfl) (by kernel_rfl) (by kernel_rfl) (by kernel_rfl) (fun _ _ _ h => h) (Or.inl ⟨by rfl, ?_⟩) (by assumption) ?_
          rotate_left
          focus (intro wS hSw; (try dsimp only at hSw); go_simp; (try with_reducible rfl)); done
          (try simp only [Act.put, List.setIfInBounds_toArray, List.set_cons_zero, List.set_cons_succ])
          refine wpAnyH_take (i := 6) (v := ?_) (by rw [List.getElem?_toArray]; rfl) (by kernel_rfl) (by kernel_rfl) (by kernel_rfl) (fun _ _ _ h => h) (Or.inl ⟨by rfl, ?_⟩) (by assumption) ?_
          rotate_left
          focus (intro wS hSw; (try dsimp only at hSw); go_simp; (try with_reducible rfl)); done
          (try simp only [Act.put, List.setIfInBounds_toArray, List.set_cons_zero, List.set_cons_succ])
          refine wpAnyH_take (i := 7) (v := ?_) (by rw [List.getElem?_toArray]; rfl) (by kernel_rfl) (by kernel_rfl) (by kernel_rfl) (fun _ _ _ h => h) (Or.inl ⟨by rfl, ?_⟩) (by assumption) ?_
          rotate_left
          focus (intro wS hSw; (try dsimp only at hSw); go_simp; (try with_reducible rfl)); done
          (try simp only [Act.put, List.setIfInBounds_toArray, List.set_cons_zero, List.set_cons_succ])
          refine wpAnyH_take (i := 8) (v := ?_) (by rw [List.getElem?_toArray]; rfl) (by kernel_rfl) (by kernel_rfl) (by kernel_rfl) (fun _ _ _ h => h) (Or.inl ⟨by rfl, ?_⟩) (by assumption) ?_
          rotate_left
          focus (intro wS hSw; (try dsimp only at hSw); go_simp; (try with_reducible rfl)); done
          (try simp only [Act.put, List.setIfInBounds_toArray, List.set_cons_zero, List.set_cons_succ])
          refine wpAnyH_take (i := 9) (v := ?_) (by rw [List.getElem?_toArray]; rfl) (by kernel_rfl) (by kernel_rfl) (by kernel_rfl) (fun _ _ _ h => h) (Or.inl ⟨by rfl, ?_⟩) (by assumption) ?_
          rotate_left
          focus (intro wS hSw; (try dsimp only at hSw); go_simp; (try with_reducible rfl)); done
          (try simp only [Act.put, List.setIfInBounds_toArray, List.set_cons_zero, List.set_cons_succ])
          refine wpAnyH_ready (rs := [0]) (by kernel_rfl) (by simp) ?_
          refine AllReadyH.cons (by rw [List.getElem?_toArray]; rfl) (fun K hK => ?_) AllReadyH.nil
          go_simp
          skip
          refine hK.out _ _ ?_ (fun hHeld => ?_)
          focus (first | exact trivial | ((try dsimp only); ((refine ⟨?_, ?_, ?_⟩ <;> go_keep)))); done
          clear hK K
          (try simp only [Act.put, List.setIfInBounds_toArray, List.set_cons_zero, List.set_cons_succ])
          refine wpAnyH_ready (rs := [4]) (by kernel_rfl) (by simp) ?_
          refine AllReadyH.cons (by rw [List.getElem?_toArray]; rfl) (fun K hK => ?_) AllReadyH.nil
          refine step_app _ rfl (.tmp 19) (.tmp 22) 22 rfl 3 i0 (.int .i64 0) 1 8 Try.underlying22 hi0 hz0 hz1 hz2 rfl (by omega) w1.heap.size 0 0 w.heap.size (some ⟨w1.heap.size, 0, none⟩) (some ⟨gb, go + 1, none⟩) 0 0 m (c - 1) [] (ints l) rfl rfl (Own.nil _ _ _ _ _ _) (hcw.drew.alloc _) (ints_one _) (by unfold maxLen; omega) (by omega) (by simp) ?_; intro A2 c2 w2 o2 f2; rw [Nat.zero_add, List.nil_append] at o2; have hb2 := f2.below0; replace hB := Below.via (Below.alloc1 (Below.drew hB) _) hb2; replace TP := ((Blk.drew TP).alloc _).below hb2; replace TR := ((Blk.drew TR).alloc _).below hb2; have z2 := hb2.size; (try simp at z2); have lR2 := TR.lt; obtain ⟨r02, r12⟩ := TR.two; have rf2 := TR.free; obtain ⟨q0, q1⟩ := TP.two; have y0 := (Below.cell hb2 (p := ⟨gb, go, none⟩) (World.block_lt_of_cell? _ _ hHeld.2.2)).trans hHeld.2.2; clear f2
          refine hK.out _ _ ?_ (fun hHeld => ?_)
          focus (first | exact trivial | ((try dsimp only); (exact ⟨q0, q1, y0⟩))); done
          clear hK K
          (try simp only [Act.put, List.setIfInBounds_toArray, List.set_cons_zero, List.set_cons_succ])
          refine wpAnyH_take (i := 5) (v := ?_) (by rw [List.getElem?_toArray]; rfl) (by kernel_rfl) (by kernel_rfl) (by kernel_rfl) (fun _ _ _ h => h) (Or.inl ⟨by rfl, ?_⟩) (by assumption) ?_
          rotate_left
          focus (intro wS hSw; (try dsimp only at hSw); go_simp; (try with_reducible rfl)); done
          (try simp only [Act.put, List.setIfInBounds_toArray, List.set_cons_zero, List.set_cons_succ])
          refine wpAnyH_ready (rs := [10]) (by kernel_rfl) (by simp) ?_
          refine AllReadyH.cons (by rw [List.getElem?_toArray]; rfl) (fun K hK => ?_) AllReadyH.nil
          go_simp
          skip
          refine hK.out _ _ ?_ (fun hHeld => ?_)
          focus (first | exact trivial | ((try dsimp only); ((refine ⟨?_, ?_, ?_⟩ <;> go_keep)))); done
          clear hK K
          (try simp only [Act.put, List.setIfInBounds_toArray, List.set_cons_zero, List.set_cons_succ])
          refine wpAnyH_take (i := 11) (v := ?_) (by rw [List.getElem?_toArray]; rfl) (by kernel_rfl) (by kernel_rfl) (by kernel_rfl) (fun _ _ _ h => h) (Or.inl ⟨by rfl, ?_⟩) (by assumption) ?_
          rotate_left
          focus (intro wS hSw; (try dsimp only at hSw); go_simp; (try with_reducible rfl)); done
          (try simp only [Act.put, List.setIfInBounds_toArray, List.set_cons_zero, List.set_cons_succ])
          refine wpAnyH_done (by kernel_rfl) ?_ _
          refine NoPanic.normal ?_
          clear hb2 TP TR
          go_wp2
          refine bodyPost_ret (v := .tuple #[notice 0 A2 m c2, .int .i64 x]) (by simp [results, Try.results21, go_sem, *]) rfl ?_
          rw [HP.out.1, HP.out.2.1, HP.out.2.2]
          exact ⟨A2, c2, by rw [HM.out], by rw [HM.out]; exact Own.mono (B := w1.heap.size) (T := w2.heap.size) (by (repeat (first | (with_reducible assumption) | (with_reducible refine Own.alloc ?_ _) | (with_reducible refine Own.drew ?_) | (with_reducible refine Own.set ?_ (by first | (simp; done) | (simp; omega) | omega) _)))) (by omega) (by simp), by (repeat (first | (with_reducible assumption) | (with_reducible exact Below.refl _ _) | (with_reducible refine Below.setCell ?_ (by first | (simp; done) | (simp; omega) | omega) _) | (with_reducible refine Below.alloc ?_ (by first | (simp; done) | (simp; omega) | omega) _) | (with_reducible refine Below.drew ?_) | (with_reducible refine Below.drewN ?_ _)))⟩
end Go.Proofs.Ytcdbamaifdabnaa
