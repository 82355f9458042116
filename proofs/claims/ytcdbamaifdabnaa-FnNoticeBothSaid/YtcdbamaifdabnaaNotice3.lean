/- Contracts of PollNotice (impl and spec). -/
import Derived.Test.YtcdbamaifdabnaaNotice2
namespace Go.Proofs.Ytcdbamaifdabnaa
set_option linter.unusedVariables false
open Go.RowKit
/-- A notification object whose line lies in new memory, and a number. -/
def NewNoticeN (w : World) (b : Int) (xs : List Int) (m : Int) (e : Ending) (w' : World) : Prop :=
  ∃ A c, e = .returned (.tuple #[notice b A xs.length c, .int .i64 m]) ∧ Own w' w.heap.size w'.heap.size 3 1 A xs.length c (ints xs) ∧ Below w.heap.size w w'
set_option maxHeartbeats 1000000 in
theorem iPollNotice_any (B T n c : Nat) (b : Int) (A : Option Addr) (xs : List Int) (w : World) (hr : Rd w B T 1 A n (ints xs)) (hn : n ≤ 1048576) (hnc : n ≤ c) :
    Calls Try.prog 18 #[notice b A n c] w (NewNoticeN w 0 (pollL b xs) (pollM b xs)) := by
  obtain ⟨i0, hi0, hz0, hz1, hz2⟩ := info_parts Try.infoInt
  have hl := ints_len hr
  subst hl
  replace hr := hr.here Nat.one_pos
  cases hv : noticeV b xs
  · have HP := Lib.hid (poll_no hv)
    go_enter Try.func18, Try.ntmps18
    go_wp2_with fail
    refine (iNoticeValid_any _ _ _ _ b _ xs _ ((hr.alloc _).alloc _) hn hnc).mono ?_
    rintro e w1 ⟨rfl, hb1⟩
    have TP := ((Blk.new w 27 #[.int .i64 b, .slice A xs.length c]).alloc (.cells #[.int .i64 0, .slice none 0 0] 27)).below hb1
    have TR := (Blk.newAt (w := w.alloc (.cells #[.int .i64 b, .slice A xs.length c] 27)) (n := w.heap.size + 1) 27 #[.int .i64 0, .slice none 0 0] (by simp)).below hb1
    have hB := Below.via (by (repeat (first | (with_reducible assumption) | (with_reducible exact Below.refl _ _) | (with_reducible refine Below.setCell ?_ (by first | (simp; done) | (simp; omega) | omega) _) | (with_reducible refine Below.alloc ?_ (by first | (simp; done) | (simp; omega) | omega) _) | (with_reducible refine Below.drew ?_) | (with_reducible refine Below.drewN ?_ _))) : Below w.heap.size w _) hb1
    have z1 := hb1.size
    simp at z1
    have hr1 := ((hr.alloc _).alloc _).below hb1
    obtain ⟨r0, r1⟩ := TR.two
    have rf := TR.free
    clear hb1 hr hr1 TP TR
    go_wp2
    refine bodyPost_ret (v := .tuple #[notice 0 none 0 0, .int .i64 0]) (by simp [results, Try.results18, go_sem, *]) rfl ?_
    rw [HP.out.1, HP.out.2]
    exact ⟨none, 0, rfl, Own.nil _ _ _ _ _ _, by (repeat (first | (with_reducible assumption) | (with_reducible exact Below.refl _ _) | (with_reducible refine Below.setCell ?_ (by first | (simp; done) | (simp; omega) | omega) _) | (with_reducible refine Below.alloc ?_ (by first | (simp; done) | (simp; omega) | omega) _) | (with_reducible refine Below.drew ?_) | (with_reducible refine Below.drewN ?_ _)))⟩
  · have HP := Lib.hid (poll_yes hv)
    go_enter Try.func18, Try.ntmps18
    go_wp2_with fail
    refine (iNoticeValid_any _ _ _ _ b _ xs _ ((hr.alloc _).alloc _) hn hnc).mono ?_
    rintro e w1 ⟨rfl, hb1⟩
    have TP := ((Blk.new w 27 #[.int .i64 b, .slice A xs.length c]).alloc (.cells #[.int .i64 0, .slice none 0 0] 27)).below hb1
    have TR := (Blk.newAt (w := w.alloc (.cells #[.int .i64 b, .slice A xs.length c] 27)) (n := w.heap.size + 1) 27 #[.int .i64 0, .slice none 0 0] (by simp)).below hb1
    have hB := Below.via (by (repeat (first | (with_reducible assumption) | (with_reducible exact Below.refl _ _) | (with_reducible refine Below.setCell ?_ (by first | (simp; done) | (simp; omega) | omega) _) | (with_reducible refine Below.alloc ?_ (by first | (simp; done) | (simp; omega) | omega) _) | (with_reducible refine Below.drew ?_) | (with_reducible refine Below.drewN ?_ _))) : Below w.heap.size w _) hb1
    have z1 := hb1.size
    simp at z1
    have hr1 := ((hr.alloc _).alloc _).below hb1
    obtain ⟨p0, p1⟩ := TP.two
    go_wp2_with fail
    refine wp_region_noPanic ?_
    refine wp_region_held_drew (S := (fun W => W.cell? ⟨w.heap.size, 0, none⟩ = some (.int .i64 b) ∧ W.cell? ⟨w.heap.size, 1, none⟩ = some (.slice A xs.length c))) (by kernel_rfl) ?_ (fun hHeld => ?_)
    focus (first | exact trivial | ((try dsimp only); ((repeat' (first | assumption | with_reducible refine And.intro ?_ ?_)) <;> go_keep))); done
    refine wpAnyH_take (i := 0) (v := ?_) (by rw [List.getElem?_toArray]; rfl) (by kernel_rfl) (by kernel_rfl) (by kernel_rfl) (fun _ _ _ h => h) (Or.inl ⟨by rfl, ?_⟩) (by assumption) ?_
    rotate_left
    focus (intro wS hSw; (try dsimp only at hSw); go_simp; (try with_reducible rfl)); done
    (try simp only [Act.put, List.setIfInBounds_toArray, List.set_cons_zero, List.set_cons_succ])
    refine wpAnyH_take (i := 1) (v := ?_) (by rw [List.getElem?_toArray]; rfl) (by kernel_rfl) (by kernel_rfl) (by kernel_rfl) (fun _ _ _ h => h) (Or.inl ⟨by rfl, ?_⟩) (by assumption) ?_
    rotate_left
    focus (intro wS hSw; (try dsimp only at hSw); go_simp; (try with_reducible rfl)); done
    (try simp only [Act.put, List.setIfInBounds_toArray, List.set_cons_zero, List.set_cons_succ])
    refine wpAnyH_take (i := 4) (v := ?_) (by rw [List.getElem?_toArray]; rfl) (by kernel_rfl) (by kernel_rfl) (by kernel_rfl) (fun _ _ _ h => h) (Or.inl ⟨by rfl, ?_⟩) (by assumption) ?_
    rotate_left
    focus (intro wS hSw; (try dsimp only at hSw); go_simp; (try with_reducible rfl)); done
    (try simp only [Act.put, List.setIfInBounds_toArray, List.set_cons_zero, List.set_cons_succ])
    refine wpAnyH_take (i := 5) (v := ?_) (by rw [List.getElem?_toArray]; rfl) (by kernel_rfl) (by kernel_rfl) (by kernel_rfl) (fun _ _ _ h => h) (Or.inl ⟨by rfl, ?_⟩) (by assumption) ?_
    rotate_left
    focus (intro wS hSw; (try dsimp only at hSw); go_simp; (try with_reducible rfl)); done
    (try simp only [Act.put, List.setIfInBounds_toArray, List.set_cons_zero, List.set_cons_succ])
    refine wpAnyH_ready (rs := [2]) (by kernel_rfl) (by simp) ?_
    refine AllReadyH.cons (by rw [List.getElem?_toArray]; rfl) (fun K hK => ?_) AllReadyH.nil
    go_simp
    refine (clone_any _ _ _ _ _ xs _ hr1.drew hn).mono ?_; rintro e w2 ⟨A2, c2, rfl, o2, hb2⟩; replace hB := Below.via (Below.drew hB) hb2; replace TP := (Blk.drew TP).below hb2; replace TR := (Blk.drew TR).below hb2; have z2 := hb2.size; have lR := TR.lt; obtain ⟨r0, r1⟩ := TR.two; have rf := TR.free; obtain ⟨q0, q1⟩ := TP.two; replace o2 := o2.mono (B' := w1.heap.size) (T' := w2.heap.size) (by simp) (Nat.le_refl _)
    refine hK.out _ _ ?_ (fun hHeld => ?_)
    focus (first | exact trivial | ((try dsimp only); (exact ⟨q0, q1⟩))); done
    clear hK K
    (try simp only [Act.put, List.setIfInBounds_toArray, List.set_cons_zero, List.set_cons_succ])
    refine wpAnyH_take (i := 3) (v := ?_) (by rw [List.getElem?_toArray]; rfl) (by kernel_rfl) (by kernel_rfl) (by kernel_rfl) (fun _ _ _ h => h) (Or.inl ⟨by rfl, ?_⟩) (by assumption) ?_
    rotate_left
    focus (intro wS hSw; (try dsimp only at hSw); go_simp; (try with_reducible rfl)); done
    (try simp only [Act.put, List.setIfInBounds_toArray, List.set_cons_zero, List.set_cons_succ])
    refine wpAnyH_ready (rs := [6]) (by kernel_rfl) (by simp) ?_
    refine AllReadyH.cons (by rw [List.getElem?_toArray]; rfl) (fun K hK => ?_) AllReadyH.nil
    go_simp
    skip
    refine hK.out _ _ ?_ (fun hHeld => ?_)
    focus (first | exact trivial | ((try dsimp only); (exact ⟨((TP.other (p := ⟨w.heap.size + 1, 0, none⟩) (by show _ ≠ w.heap.size + 1; omega) _).other (p := ⟨w.heap.size + 1, 1, none⟩) (by show _ ≠ w.heap.size + 1; omega) _).cell 0 rfl, ((TP.other (p := ⟨w.heap.size + 1, 0, none⟩) (by show _ ≠ w.heap.size + 1; omega) _).other (p := ⟨w.heap.size + 1, 1, none⟩) (by show _ ≠ w.heap.size + 1; omega) _).cell 1 rfl⟩))); done
    clear hK K
    (try simp only [Act.put, List.setIfInBounds_toArray, List.set_cons_zero, List.set_cons_succ])
    refine wpAnyH_take (i := 7) (v := ?_) (by rw [List.getElem?_toArray]; rfl) (by kernel_rfl) (by kernel_rfl) (by kernel_rfl) (fun _ _ _ h => h) (Or.inl ⟨by rfl, ?_⟩) (by assumption) ?_
    rotate_left
    focus (intro wS hSw; (try dsimp only at hSw); go_simp; (try with_reducible rfl)); done
    (try simp only [Act.put, List.setIfInBounds_toArray, List.set_cons_zero, List.set_cons_succ])
    refine wpAnyH_done (by kernel_rfl) ?_ _
    refine NoPanic.normal ?_
    go_wp2
    refine bodyPost_ret (v := .tuple #[notice 0 A2 xs.length c2, .int .i64 b]) (by simp [results, Try.results18, go_sem, *]) rfl ?_
    rw [HP.out.1, HP.out.2]
    exact ⟨A2, c2, rfl, Own.mono (B := w1.heap.size) (T := w2.heap.size) (by (repeat (first | (with_reducible assumption) | (with_reducible refine Own.alloc ?_ _) | (with_reducible refine Own.drew ?_) | (with_reducible refine Own.set ?_ (by first | (simp; done) | (simp; omega) | omega) _)))) (by omega) (by simp), by (repeat (first | (with_reducible assumption) | (with_reducible exact Below.refl _ _) | (with_reducible refine Below.setCell ?_ (by first | (simp; done) | (simp; omega) | omega) _) | (with_reducible refine Below.alloc ?_ (by first | (simp; done) | (simp; omega) | omega) _) | (with_reducible refine Below.drew ?_) | (with_reducible refine Below.drewN ?_ _)))⟩
set_option maxHeartbeats 1000000 in
theorem sPollNotice_any (B T n c : Nat) (b : Int) (A : Option Addr) (xs : List Int) (w : World) (hr : Rd w B T 1 A n (ints xs)) (hn : n ≤ 1048576) (hnc : n ≤ c) :
    Calls Try.prog 17 #[notice b A n c] w (NewNoticeN w 0 (pollL b xs) (pollM b xs)) := by
  obtain ⟨i0, hi0, hz0, hz1, hz2⟩ := info_parts Try.infoInt
  have hl := ints_len hr
  subst hl
  replace hr := hr.here Nat.one_pos
  cases hv : noticeV b xs
  · have HP := Lib.hid (poll_no hv)
    go_enter Try.func17, Try.ntmps17
    go_wp2_with fail
    refine (sNoticeValid_any _ _ _ _ b _ xs _ ((hr.alloc _).alloc _) hn).mono ?_
    rintro e w1 ⟨rfl, hb1⟩
    have TP := ((Blk.new w 27 #[.int .i64 b, .slice A xs.length c]).alloc (.cells #[.int .i64 0, .slice none 0 0] 27)).below hb1
    have TR := (Blk.newAt (w := w.alloc (.cells #[.int .i64 b, .slice A xs.length c] 27)) (n := w.heap.size + 1) 27 #[.int .i64 0, .slice none 0 0] (by simp)).below hb1
    have hB := Below.via (by (repeat (first | (with_reducible assumption) | (with_reducible exact Below.refl _ _) | (with_reducible refine Below.setCell ?_ (by first | (simp; done) | (simp; omega) | omega) _) | (with_reducible refine Below.alloc ?_ (by first | (simp; done) | (simp; omega) | omega) _) | (with_reducible refine Below.drew ?_) | (with_reducible refine Below.drewN ?_ _))) : Below w.heap.size w _) hb1
    have z1 := hb1.size
    simp at z1
    have hr1 := ((hr.alloc _).alloc _).below hb1
    obtain ⟨r0, r1⟩ := TR.two
    have rf := TR.free
    clear hb1 hr hr1 TP TR
    go_wp2
    refine bodyPost_ret (v := .tuple #[notice 0 none 0 0, .int .i64 0]) (by simp [results, Try.results17, go_sem, *]) rfl ?_
    rw [HP.out.1, HP.out.2]
    exact ⟨none, 0, rfl, Own.nil _ _ _ _ _ _, by (repeat (first | (with_reducible assumption) | (with_reducible exact Below.refl _ _) | (with_reducible refine Below.setCell ?_ (by first | (simp; done) | (simp; omega) | omega) _) | (with_reducible refine Below.alloc ?_ (by first | (simp; done) | (simp; omega) | omega) _) | (with_reducible refine Below.drew ?_) | (with_reducible refine Below.drewN ?_ _)))⟩
  · have HP := Lib.hid (poll_yes hv)
    go_enter Try.func17, Try.ntmps17
    go_wp2_with fail
    refine (sNoticeValid_any _ _ _ _ b _ xs _ ((hr.alloc _).alloc _) hn).mono ?_
    rintro e w1 ⟨rfl, hb1⟩
    have TP := ((Blk.new w 27 #[.int .i64 b, .slice A xs.length c]).alloc (.cells #[.int .i64 0, .slice none 0 0] 27)).below hb1
    have TR := (Blk.newAt (w := w.alloc (.cells #[.int .i64 b, .slice A xs.length c] 27)) (n := w.heap.size + 1) 27 #[.int .i64 0, .slice none 0 0] (by simp)).below hb1
    have hB := Below.via (by (repeat (first | (with_reducible assumption) | (with_reducible exact Below.refl _ _) | (with_reducible refine Below.setCell ?_ (by first | (simp; done) | (simp; omega) | omega) _) | (with_reducible refine Below.alloc ?_ (by first | (simp; done) | (simp; omega) | omega) _) | (with_reducible refine Below.drew ?_) | (with_reducible refine Below.drewN ?_ _))) : Below w.heap.size w _) hb1
    have z1 := hb1.size
    simp at z1
    have hr1 := ((hr.alloc _).alloc _).below hb1
    obtain ⟨p0, p1⟩ := TP.two
    go_wp2_with fail
    refine wp_region_noPanic ?_
    refine wp_region_held_drew (S := (fun W => W.cell? ⟨w.heap.size, 0, none⟩ = some (.int .i64 b) ∧ W.cell? ⟨w.heap.size, 1, none⟩ = some (.slice A xs.length c))) (by kernel_rfl) ?_ (fun hHeld => ?_)
    focus (first | exact trivial | ((try dsimp only); ((repeat' (first | assumption | with_reducible refine And.intro ?_ ?_)) <;> go_keep))); done
    refine wpAnyH_take (i := 1) (v := ?_) (by rw [List.getElem?_toArray]; rfl) (by kernel_rfl) (by kernel_rfl) (by kernel_rfl) (fun _ _ _ h => h) (Or.inl ⟨by rfl, ?_⟩) (by assumption) ?_
    rotate_left
    focus (intro wS hSw; (try dsimp only at hSw); go_simp; (try with_reducible rfl)); done
    (try simp only [Act.put, List.setIfInBounds_toArray, List.set_cons_zero, List.set_cons_succ])
    refine wpAnyH_take (i := 2) (v := ?_) (by rw [List.getElem?_toArray]; rfl) (by kernel_rfl) (by kernel_rfl) (by kernel_rfl) (fun _ _ _ h => h) (Or.inl ⟨by rfl, ?_⟩) (by assumption) ?_
    rotate_left
    focus (intro wS hSw; (try dsimp only at hSw); go_simp; (try with_reducible rfl)); done
    (try simp only [Act.put, List.setIfInBounds_toArray, List.set_cons_zero, List.set_cons_succ])
    refine wpAnyH_take (i := 5) (v := ?_) (by rw [List.getElem?_toArray]; rfl) (by kernel_rfl) (by kernel_rfl) (by kernel_rfl) (fun _ _ _ h => h) (Or.inl ⟨by rfl, ?_⟩) (by assumption) ?_
    rotate_left
    focus (intro wS hSw; (try dsimp only at hSw); go_simp; (try with_reducible rfl)); done
    (try simp only [Act.put, List.setIfInBounds_toArray, List.set_cons_zero, List.set_cons_succ])
    refine wpAnyH_take (i := 6) (v := ?_) (by rw [List.getElem?_toArray]; rfl) (by kernel_rfl) (by kernel_rfl) (by kernel_rfl) (fun _ _ _ h => h) (Or.inl ⟨by rfl, ?_⟩) (by assumption) ?_
    rotate_left
    focus (intro wS hSw; (try dsimp only at hSw); go_simp; (try with_reducible rfl)); done
    (try simp only [Act.put, List.setIfInBounds_toArray, List.set_cons_zero, List.set_cons_succ])
    refine wpAnyH_ready (rs := [0]) (by kernel_rfl) (by simp) ?_
    refine AllReadyH.cons (by rw [List.getElem?_toArray]; rfl) (fun K hK => ?_) AllReadyH.nil
    go_simp
    skip
    refine hK.out _ _ ?_ (fun hHeld => ?_)
    focus (first | exact trivial | ((try dsimp only); (exact ⟨(TP.drew.alloc (.cells #[] 3)).cell 0 rfl, (TP.drew.alloc (.cells #[] 3)).cell 1 rfl⟩))); done
    clear hK K
    (try simp only [Act.put, List.setIfInBounds_toArray, List.set_cons_zero, List.set_cons_succ])
    refine wpAnyH_ready (rs := [3]) (by kernel_rfl) (by simp) ?_
    refine AllReadyH.cons (by rw [List.getElem?_toArray]; rfl) (fun K hK => ?_) AllReadyH.nil
    refine step_app _ rfl (.tmp 8) (.tmp 10) 22 rfl 3 i0 (.int .i64 0) 1 8 Try.underlying22 hi0 hz0 hz1 hz2 rfl (by omega) w1.heap.size 0 0 w.heap.size (some ⟨w1.heap.size, 0, none⟩) A 0 0 xs.length c [] (ints xs) rfl rfl (Own.nil _ _ _ _ _ _) (hr1.drew.alloc _) (ints_one _) (by unfold maxLen; omega) (by omega) (by simp) ?_; intro A2 c2 w2 o2 f2; rw [Nat.zero_add, List.nil_append] at o2; have hb2 := f2.below0; replace hB := Below.via (Below.alloc1 (Below.drew hB) _) hb2; replace TP := ((Blk.drew TP).alloc _).below hb2; replace TR := ((Blk.drew TR).alloc _).below hb2; have z2 := hb2.size; (try simp at z2); have lR := TR.lt; obtain ⟨r0, r1⟩ := TR.two; have rf := TR.free; obtain ⟨q0, q1⟩ := TP.two; clear f2 hb2
    refine hK.out _ _ ?_ (fun hHeld => ?_)
    focus (first | exact trivial | ((try dsimp only); (exact ⟨q0, q1⟩))); done
    clear hK K
    (try simp only [Act.put, List.setIfInBounds_toArray, List.set_cons_zero, List.set_cons_succ])
    refine wpAnyH_take (i := 4) (v := ?_) (by rw [List.getElem?_toArray]; rfl) (by kernel_rfl) (by kernel_rfl) (by kernel_rfl) (fun _ _ _ h => h) (Or.inl ⟨by rfl, ?_⟩) (by assumption) ?_
    rotate_left
    focus (intro wS hSw; (try dsimp only at hSw); go_simp; (try with_reducible rfl)); done
    (try simp only [Act.put, List.setIfInBounds_toArray, List.set_cons_zero, List.set_cons_succ])
    refine wpAnyH_ready (rs := [7]) (by kernel_rfl) (by simp) ?_
    refine AllReadyH.cons (by rw [List.getElem?_toArray]; rfl) (fun K hK => ?_) AllReadyH.nil
    go_simp
    skip
    refine hK.out _ _ ?_ (fun hHeld => ?_)
    focus (first | exact trivial | ((try dsimp only); (exact ⟨((TP.other (p := ⟨w.heap.size + 1, 0, none⟩) (by show _ ≠ w.heap.size + 1; omega) _).other (p := ⟨w.heap.size + 1, 1, none⟩) (by show _ ≠ w.heap.size + 1; omega) _).cell 0 rfl, ((TP.other (p := ⟨w.heap.size + 1, 0, none⟩) (by show _ ≠ w.heap.size + 1; omega) _).other (p := ⟨w.heap.size + 1, 1, none⟩) (by show _ ≠ w.heap.size + 1; omega) _).cell 1 rfl⟩))); done
    clear hK K
    (try simp only [Act.put, List.setIfInBounds_toArray, List.set_cons_zero, List.set_cons_succ])
    refine wpAnyH_take (i := 8) (v := ?_) (by rw [List.getElem?_toArray]; rfl) (by kernel_rfl) (by kernel_rfl) (by kernel_rfl) (fun _ _ _ h => h) (Or.inl ⟨by rfl, ?_⟩) (by assumption) ?_
    rotate_left
    focus (intro wS hSw; (try dsimp only at hSw); go_simp; (try with_reducible rfl)); done
    (try simp only [Act.put, List.setIfInBounds_toArray, List.set_cons_zero, List.set_cons_succ])
    refine wpAnyH_done (by kernel_rfl) ?_ _
    refine NoPanic.normal ?_
    go_wp2
    refine bodyPost_ret (v := .tuple #[notice 0 A2 xs.length c2, .int .i64 b]) (by simp [results, Try.results17, go_sem, *]) rfl ?_
    rw [HP.out.1, HP.out.2]
    exact ⟨A2, c2, rfl, Own.mono (B := w1.heap.size) (T := w2.heap.size) (by (repeat (first | (with_reducible assumption) | (with_reducible refine Own.alloc ?_ _) | (with_reducible refine Own.drew ?_) | (with_reducible refine Own.set ?_ (by first | (simp; done) | (simp; omega) | omega) _)))) (by omega) (by simp), by (repeat (first | (with_reducible assumption) | (with_reducible exact Below.refl _ _) | (with_reducible refine Below.setCell ?_ (by first | (simp; done) | (simp; omega) | omega) _) | (with_reducible refine Below.alloc ?_ (by first | (simp; done) | (simp; omega) | omega) _) | (with_reducible refine Below.drew ?_) | (with_reducible refine Below.drewN ?_ _)))⟩
end Go.Proofs.Ytcdbamaifdabnaa
