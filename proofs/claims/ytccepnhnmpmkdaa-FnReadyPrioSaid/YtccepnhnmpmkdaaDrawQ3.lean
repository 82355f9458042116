/- The draws of the laws on queues. -/
import Derived.Test.YtccepnhnmpmkdaaDrawQ2
namespace Go.Proofs.Ytccepnhnmpmkdaa
set_option linter.unusedVariables false
open Go.RowKit
set_option maxHeartbeats 1000000 in
theorem DrawQueuesValid_any (B T n c : Nat) (A : Option Addr) (bs : List Value) (w : World) (hr : Rd w B T 1 A n bs) (hb : Bytes bs) (hn : n ≤ 1048576) (hnc : n ≤ c) :
    Calls Try.prog 26 #[.slice A n c] w (DrawnQ w) := by
  go_enter Try.func26, Try.ntmps26
  go_wp2_with fail
  refine (l20Open_any B T n c A bs _ (hr.alloc _) hb hn hnc).mono ?_
  rintro e w1 ⟨rfl, hr1, hb1⟩
  have hR1 := (Blk.new w 24 #[.slice none 0 0]).below hb1
  have z1 := hb1.size
  replace hr1 : Rdr w1 (w.heap.size + 1) 0 := by simpa using hr1
  have lt1 := hr1.lt
  simp at z1
  go_wp2_with fail
  refine (l20Queues_any _ 0 2 _ hr1 (by omega) (by omega)).mono ?_
  rintro e w2 ⟨A2, n2, c2, yss, rfl, o2, hle, hs, hr2, f2⟩
  have hR2 := hR1.fr f2 (.inl (by omega))
  have z2 := f2.size
  have lt2 := hr2.lt
  have hRl := hR2.lt
  have B2 := (Below.via ((Below.refl _ _).alloc (Nat.le_refl _) _) hb1).trans (f2.below (W := w.heap.size) (by omega) (by omega))
  clear hr hb hb1 hr1 hR1 f2
  have r0 := hR2.cell 0 rfl
  have rf := hR2.free
  go_wp2
  refine bodyPost_ret (v := queues A2 n2 c2) (by simp [results, Try.results26, go_sem, *]) rfl ⟨A2, n2, c2, yss, rfl, ?_, hle, hs, by (repeat (first | (with_reducible assumption) | (with_reducible exact Below.refl _ _) | (with_reducible refine Below.setCell ?_ (by first | (simp; done) | (simp; omega) | omega) _) | (with_reducible refine Below.alloc ?_ (by first | (simp; done) | (simp; omega) | omega) _) | (with_reducible refine Below.drew ?_) | (with_reducible refine Below.drewN ?_ _)))⟩
  exact (o2.set (p := ⟨w.heap.size, 0, none⟩) (.inl (by show w.heap.size < w1.heap.size; omega)) _).mono (by omega) (by simp)
set_option maxHeartbeats 1000000 in
theorem DrawReadyNext_any (B T n c : Nat) (A : Option Addr) (bs : List Value) (w : World) (hr : Rd w B T 1 A n bs) (hb : Bytes bs) (hn : n ≤ 1048576) (hnc : n ≤ c) :
    Calls Try.prog 29 #[.slice A n c] w (DrawnQ w) := by
  go_enter Try.func29, Try.ntmps29
  go_wp2_with fail
  refine (l20Open_any B T n c A bs _ (hr.alloc _) hb hn hnc).mono ?_
  rintro e w1 ⟨rfl, hr1, hb1⟩
  have hR1 := (Blk.new w 24 #[.slice none 0 0]).below hb1
  have z1 := hb1.size
  replace hr1 : Rdr w1 (w.heap.size + 1) 0 := by simpa using hr1
  have lt1 := hr1.lt
  simp at z1
  go_wp2_with fail
  refine (l20Queues_any _ 0 9 _ hr1 (by omega) (by omega)).mono ?_
  rintro e w2 ⟨A2, n2, c2, yss, rfl, o2, hle, hs, hr2, f2⟩
  have hR2 := hR1.fr f2 (.inl (by omega))
  have z2 := f2.size
  have lt2 := hr2.lt
  have hRl := hR2.lt
  have B2 := (Below.via ((Below.refl _ _).alloc (Nat.le_refl _) _) hb1).trans (f2.below (W := w.heap.size) (by omega) (by omega))
  clear hr hb hb1 hr1 hR1 f2
  have r0 := hR2.cell 0 rfl
  have rf := hR2.free
  go_wp2
  refine bodyPost_ret (v := queues A2 n2 c2) (by simp [results, Try.results29, go_sem, *]) rfl ⟨A2, n2, c2, yss, rfl, ?_, hle, hs, by (repeat (first | (with_reducible assumption) | (with_reducible exact Below.refl _ _) | (with_reducible refine Below.setCell ?_ (by first | (simp; done) | (simp; omega) | omega) _) | (with_reducible refine Below.alloc ?_ (by first | (simp; done) | (simp; omega) | omega) _) | (with_reducible refine Below.drew ?_) | (with_reducible refine Below.drewN ?_ _)))⟩
  exact (o2.set (p := ⟨w.heap.size, 0, none⟩) (.inl (by show w.heap.size < w1.heap.size; omega)) _).mono (by omega) (by simp)
set_option maxHeartbeats 2000000 in
theorem DrawReadyPrio_any (B T n c : Nat) (A : Option Addr) (bs : List Value) (w : World) (hr : Rd w B T 1 A n bs) (hb : Bytes bs) (hn : n ≤ 1048576) (hnc : n ≤ c) :
    Calls Try.prog 28 #[.slice A n c] w (DrawnQN w) := by
  go_enter Try.func28, Try.ntmps28
  go_wp2_with fail
  refine (l20Open_any B T n c A bs _ (hr.alloc _) hb hn hnc).mono ?_
  rintro e w1 ⟨rfl, hr1, hb1⟩
  have TR := (Blk.new w 24 #[.slice none 0 0]).below hb1
  have z1 := hb1.size
  replace hr1 : Rdr w1 (w.heap.size + 1) 0 := by simpa using hr1
  have lt1 := hr1.lt
  simp at z1
  go_wp2_with fail
  refine (l20Queues_any _ 0 12 _ hr1 (by omega) (by omega)).mono ?_
  rintro e w2 ⟨A2, n2, c2, yss, rfl, o2, hle, hs, hr2, f2⟩
  replace TR := TR.fr f2 (.inl (by omega))
  have z2 := f2.size
  have lt2 := hr2.lt
  have hB2 := (Below.via ((Below.refl _ _).alloc (Nat.le_refl _) _) hb1).trans (f2.below (W := w.heap.size) (by omega) (by omega))
  have TQ := Blk.new w2 24 #[.slice A2 n2 c2]
  replace TR := TR.alloc (.cells #[.slice A2 n2 c2] 24)
  replace hr2 := hr2.alloc (.cells #[.slice A2 n2 c2] 24)
  replace o2 := o2.alloc (.cells #[.slice A2 n2 c2] 24)
  have hB3 : Below w.heap.size w (w2.alloc (.cells #[.slice A2 n2 c2] 24)) := by (repeat (first | (with_reducible assumption) | (with_reducible exact Below.refl _ _) | (with_reducible refine Below.setCell ?_ (by first | (simp; done) | (simp; omega) | omega) _) | (with_reducible refine Below.alloc ?_ (by first | (simp; done) | (simp; omega) | omega) _) | (with_reducible refine Below.drew ?_) | (with_reducible refine Below.drewN ?_ _)))
  clear hr hb hb1 hr1 f2 hB2
  have q0 := TQ.cell 0 rfl
  have r0 := TR.cell 0 rfl
  have rf := TR.free
  have lQ := TQ.lt
  have lR := TR.lt
  (try simp at lQ lR)
  go_wp2_with fail
  refine wp_region_noPanic ?_
  refine wp_region_held_drew (S := (fun _ => True)) (by kernel_rfl) ?_ (fun hHeld => ?_)
  focus (first | exact trivial | ((try dsimp only); ((repeat' (first | assumption | with_reducible refine And.intro ?_ ?_)) <;> go_keep))); done
  refine wpAnyH_take (i := 1) (v := ?_) (by rw [List.getElem?_toArray]; rfl) (by kernel_rfl) (by kernel_rfl) (by kernel_rfl) (fun _ _ _ h => h) (Or.inl ⟨by rfl, ?_⟩) (by assumption) ?_
  rotate_left
  focus (intro wS hSw; (try dsimp only at hSw); go_simp; (try with_reducible rfl)); done
  (try simp only [Act.put, List.setIfInBounds_toArray, List.set_cons_zero, List.set_cons_succ])
  refine wpAnyH_ready (rs := [0, 2]) (by kernel_rfl) (by simp) ?_
  refine AllReadyH.cons (by rw [List.getElem?_toArray]; rfl) (fun K hK => ?_) (AllReadyH.cons (by rw [List.getElem?_toArray]; rfl) (fun K hK => ?_) AllReadyH.nil)
  · go_simp
    skip
    refine hK.out _ _ ?_ (fun hHeld => ?_)
    focus (first | exact trivial | ((try dsimp only); (exact trivial))); done
    clear hK K
    (try simp only [Act.put, List.setIfInBounds_toArray, List.set_cons_zero, List.set_cons_succ])
    refine wpAnyH_ready (rs := [2]) (by kernel_rfl) (by simp) ?_
    refine AllReadyH.cons (by rw [List.getElem?_toArray]; rfl) (fun K hK => ?_) AllReadyH.nil
    go_simp
    refine (pick_any (w.heap.size + 1) 30 18 _ (by (repeat (first | (with_reducible assumption) | (with_reducible refine Rdr.drew ?_) | (with_reducible refine Rdr.set ?_ (by first | (simp; done) | (simp; omega) | omega) _) | (with_reducible refine Rdr.alloc ?_ _)))) (by omega) (by omega)).mono ?_; rintro e w3 ⟨v3, rfl, hv3, ul3, -, hr3, f3⟩; replace ul3 := ul3 (by omega); have z3 := f3.size; (try simp at z3); replace TQ := Blk.fr (by (repeat (first | (with_reducible assumption) | (with_reducible refine Blk.drew ?_) | (with_reducible refine Blk.other ?_ (by first | (simp; done) | (simp; omega) | omega) _) | (with_reducible refine Blk.alloc ?_ _))) : Blk _ w2.heap.size 24 #[.slice A2 n2 c2]) f3 (.inr (by omega)); replace TR := Blk.fr (by (repeat (first | (with_reducible assumption) | (with_reducible refine Blk.drew ?_) | (with_reducible refine Blk.other ?_ (by first | (simp; done) | (simp; omega) | omega) _) | (with_reducible refine Blk.alloc ?_ _))) : Blk _ w.heap.size 24 #[.slice none 0 0]) f3 (.inl (by omega)); replace o2 := Rows.fr (by (repeat (first | (with_reducible assumption) | (with_reducible refine Rows.drew ?_) | (with_reducible refine Rows.alloc ?_ _))) : Rows _ w1.heap.size w2.heap.size A2 n2 yss) f3 (.inr (by omega)); replace hB3 := Below.trans (by (repeat (first | (with_reducible assumption) | (with_reducible exact Below.refl _ _) | (with_reducible refine Below.setCell ?_ (by first | (simp; done) | (simp; omega) | omega) _) | (with_reducible refine Below.alloc ?_ (by first | (simp; done) | (simp; omega) | omega) _) | (with_reducible refine Below.drew ?_) | (with_reducible refine Below.drewN ?_ _))) : Below w.heap.size w _) (f3.below (W := w.heap.size) (by omega) (by (try simp) <;> omega)); clear f3 q0 r0 rf lQ lR hr2 hr3; have q0 := TQ.cell 0 rfl; have r0 := TR.cell 0 rfl; have rf := TR.free; have lQ := TQ.lt; have lR := TR.lt; have e3 : IntKind.i64.wrap (v3 - 1) = v3 - 1 := (by rw [IntKind.wrap_i64]; omega)
    refine hK.out _ _ ?_ (fun hHeld => ?_)
    focus (first | exact trivial | ((try dsimp only); (exact trivial))); done
    clear hK K
    (try simp only [Act.put, List.setIfInBounds_toArray, List.set_cons_zero, List.set_cons_succ])
    refine wpAnyH_take (i := 3) (v := ?_) (by rw [List.getElem?_toArray]; rfl) (by kernel_rfl) (by kernel_rfl) (by kernel_rfl) (fun _ _ _ h => h) (Or.inl ⟨by rfl, ?_⟩) (by assumption) ?_
    rotate_left
    focus (intro wS hSw; (try dsimp only at hSw); go_simp; (try with_reducible rfl)); done
    (try simp only [Act.put, List.setIfInBounds_toArray, List.set_cons_zero, List.set_cons_succ])
    refine wpAnyH_ready (rs := [4]) (by kernel_rfl) (by simp) ?_
    refine AllReadyH.cons (by rw [List.getElem?_toArray]; rfl) (fun K hK => ?_) AllReadyH.nil
    go_simp
    skip
    refine hK.out _ _ ?_ (fun hHeld => ?_)
    focus (first | exact trivial | ((try dsimp only); (exact trivial))); done
    clear hK K
    (try simp only [Act.put, List.setIfInBounds_toArray, List.set_cons_zero, List.set_cons_succ])
    refine wpAnyH_take (i := 5) (v := ?_) (by rw [List.getElem?_toArray]; rfl) (by kernel_rfl) (by kernel_rfl) (by kernel_rfl) (fun _ _ _ h => h) (Or.inl ⟨by rfl, ?_⟩) (by assumption) ?_
    rotate_left
    focus (intro wS hSw; (try dsimp only at hSw); go_simp; (try with_reducible rfl)); done
    (try simp only [Act.put, List.setIfInBounds_toArray, List.set_cons_zero, List.set_cons_succ])
    refine wpAnyH_done (by kernel_rfl) ?_ _
    refine NoPanic.normal ?_
    go_wp2
    refine bodyPost_ret (v := .tuple #[queues A2 n2 c2, .int .i64 (v3 - 1)]) (by simp [results, Try.results28, go_sem, *]) rfl ⟨A2, n2, c2, yss, v3 - 1, rfl, ?_, hle, hs, by (repeat (first | (with_reducible assumption) | (with_reducible exact Below.refl _ _) | (with_reducible refine Below.setCell ?_ (by first | (simp; done) | (simp; omega) | omega) _) | (with_reducible refine Below.alloc ?_ (by first | (simp; done) | (simp; omega) | omega) _) | (with_reducible refine Below.drew ?_) | (with_reducible refine Below.drewN ?_ _)))⟩
    exact (Rows.set o2 (p := ⟨w.heap.size, 0, none⟩) (.inl (by show w.heap.size < w1.heap.size; omega)) _).mono (by omega) (by (try simp) <;> omega)
  · go_simp
    refine (pick_any (w.heap.size + 1) 30 18 _ (by (repeat (first | (with_reducible assumption) | (with_reducible refine Rdr.drew ?_) | (with_reducible refine Rdr.set ?_ (by first | (simp; done) | (simp; omega) | omega) _) | (with_reducible refine Rdr.alloc ?_ _)))) (by omega) (by omega)).mono ?_; rintro e w3 ⟨v3, rfl, hv3, ul3, -, hr3, f3⟩; replace ul3 := ul3 (by omega); have z3 := f3.size; (try simp at z3); replace TQ := Blk.fr (by (repeat (first | (with_reducible assumption) | (with_reducible refine Blk.drew ?_) | (with_reducible refine Blk.other ?_ (by first | (simp; done) | (simp; omega) | omega) _) | (with_reducible refine Blk.alloc ?_ _))) : Blk _ w2.heap.size 24 #[.slice A2 n2 c2]) f3 (.inr (by omega)); replace TR := Blk.fr (by (repeat (first | (with_reducible assumption) | (with_reducible refine Blk.drew ?_) | (with_reducible refine Blk.other ?_ (by first | (simp; done) | (simp; omega) | omega) _) | (with_reducible refine Blk.alloc ?_ _))) : Blk _ w.heap.size 24 #[.slice none 0 0]) f3 (.inl (by omega)); replace o2 := Rows.fr (by (repeat (first | (with_reducible assumption) | (with_reducible refine Rows.drew ?_) | (with_reducible refine Rows.alloc ?_ _))) : Rows _ w1.heap.size w2.heap.size A2 n2 yss) f3 (.inr (by omega)); replace hB3 := Below.trans (by (repeat (first | (with_reducible assumption) | (with_reducible exact Below.refl _ _) | (with_reducible refine Below.setCell ?_ (by first | (simp; done) | (simp; omega) | omega) _) | (with_reducible refine Below.alloc ?_ (by first | (simp; done) | (simp; omega) | omega) _) | (with_reducible refine Below.drew ?_) | (with_reducible refine Below.drewN ?_ _))) : Below w.heap.size w _) (f3.below (W := w.heap.size) (by omega) (by (try simp) <;> omega)); clear f3 q0 r0 rf lQ lR hr2 hr3; have q0 := TQ.cell 0 rfl; have r0 := TR.cell 0 rfl; have rf := TR.free; have lQ := TQ.lt; have lR := TR.lt; have e3 : IntKind.i64.wrap (v3 - 1) = v3 - 1 := (by rw [IntKind.wrap_i64]; omega)
    refine hK.out _ _ ?_ (fun hHeld => ?_)
    focus (first | exact trivial | ((try dsimp only); (exact trivial))); done
    clear hK K
    (try simp only [Act.put, List.setIfInBounds_toArray, List.set_cons_zero, List.set_cons_succ])
    refine wpAnyH_take (i := 3) (v := ?_) (by rw [List.getElem?_toArray]; rfl) (by kernel_rfl) (by kernel_rfl) (by kernel_rfl) (fun _ _ _ h => h) (Or.inl ⟨by rfl, ?_⟩) (by assumption) ?_
    rotate_left
    focus (intro wS hSw; (try dsimp only at hSw); go_simp; (try with_reducible rfl)); done
    (try simp only [Act.put, List.setIfInBounds_toArray, List.set_cons_zero, List.set_cons_succ])
    refine wpAnyH_ready (rs := [0]) (by kernel_rfl) (by simp) ?_
    refine AllReadyH.cons (by rw [List.getElem?_toArray]; rfl) (fun K hK => ?_) AllReadyH.nil
    go_simp
    skip
    refine hK.out _ _ ?_ (fun hHeld => ?_)
    focus (first | exact trivial | ((try dsimp only); (exact trivial))); done
    clear hK K
    (try simp only [Act.put, List.setIfInBounds_toArray, List.set_cons_zero, List.set_cons_succ])
    refine wpAnyH_ready (rs := [4]) (by kernel_rfl) (by simp) ?_
    refine AllReadyH.cons (by rw [List.getElem?_toArray]; rfl) (fun K hK => ?_) AllReadyH.nil
    go_simp
    skip
    refine hK.out _ _ ?_ (fun hHeld => ?_)
    focus (first | exact trivial | ((try dsimp only); (exact trivial))); done
    clear hK K
    (try simp only [Act.put, List.setIfInBounds_toArray, List.set_cons_zero, List.set_cons_succ])
    refine wpAnyH_take (i := 5) (v := ?_) (by rw [List.getElem?_toArray]; rfl) (by kernel_rfl) (by kernel_rfl) (by kernel_rfl) (fun _ _ _ h => h) (Or.inl ⟨by rfl, ?_⟩) (by assumption) ?_
    rotate_left
    focus (intro wS hSw; (try dsimp only at hSw); go_simp; (try with_reducible rfl)); done
    (try simp only [Act.put, List.setIfInBounds_toArray, List.set_cons_zero, List.set_cons_succ])
    refine wpAnyH_done (by kernel_rfl) ?_ _
    refine NoPanic.normal ?_
    go_wp2
    refine bodyPost_ret (v := .tuple #[queues A2 n2 c2, .int .i64 (v3 - 1)]) (by simp [results, Try.results28, go_sem, *]) rfl ⟨A2, n2, c2, yss, v3 - 1, rfl, ?_, hle, hs, by (repeat (first | (with_reducible assumption) | (with_reducible exact Below.refl _ _) | (with_reducible refine Below.setCell ?_ (by first | (simp; done) | (simp; omega) | omega) _) | (with_reducible refine Below.alloc ?_ (by first | (simp; done) | (simp; omega) | omega) _) | (with_reducible refine Below.drew ?_) | (with_reducible refine Below.drewN ?_ _)))⟩
    exact (Rows.set o2 (p := ⟨w.heap.size, 0, none⟩) (.inl (by show w.heap.size < w1.heap.size; omega)) _).mono (by omega) (by (try simp) <;> omega)
end Go.Proofs.Ytccepnhnmpmkdaa
