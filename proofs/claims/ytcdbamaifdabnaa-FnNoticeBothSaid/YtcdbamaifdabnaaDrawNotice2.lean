/- Contracts of the draws of a notification object, of a code. -/
import Derived.Test.YtcdbamaifdabnaaDrawNotice
import Derived.Deep.RegionHeld3
namespace Go.Proofs.Ytcdbamaifdabnaa
set_option linter.unusedVariables false
open Go.RowKit
theorem Blk.held2 {w : World} {b : Nat} {T : TypeId} {x y : Value} (h : Blk w b T #[x, y]) : Blk w b T #[x, y] ∧ w.cell? ⟨b, 0, none⟩ = some x ∧ w.cell? ⟨b, 1, none⟩ = some y := ⟨h, h.cell 0 rfl, h.cell 1 rfl⟩
/-- A drawn notification object in new memory. -/
def DrawnNotice (w : World) (e : Ending) (w' : World) : Prop :=
  ∃ (b : Int) (A : Option Addr) (c : Nat) (xs : List Int), e = .returned (notice b A xs.length c) ∧ Own w' w.heap.size w'.heap.size 3 1 A xs.length c (ints xs) ∧ xs.length ≤ 10 ∧ Below w.heap.size w w'
/-- .. and a number. -/
def DrawnNoticeV (w : World) (e : Ending) (w' : World) : Prop :=
  ∃ (b : Int) (A : Option Addr) (c : Nat) (xs : List Int) (v : Int), e = .returned (.tuple #[notice b A xs.length c, .int .i64 v]) ∧ Own w' w.heap.size w'.heap.size 3 1 A xs.length c (ints xs) ∧ xs.length ≤ 10 ∧ Below w.heap.size w w'
set_option maxHeartbeats 1000000 in
theorem DrawNoticeValid_any (B T n c : Nat) (A : Option Addr) (bs : List Value) (w : World) (hr : Rd w B T 1 A n bs) (hb : Bytes bs) (hn : n ≤ 1048576) (hnc : n ≤ c) :
    Calls Try.prog 25 #[.slice A n c] w (DrawnNotice w) := by
  go_enter Try.func25, Try.ntmps25
  go_wp2_with fail
  refine (l20Open_any B T n c A bs _ (hr.alloc _) hb hn hnc).mono ?_
  rintro e w1 ⟨rfl, hr1, hb1⟩
  have hR1 := (Blk.new w 27 #[.int .i64 0, .slice none 0 0]).below hb1
  have z1 := hb1.size
  replace hr1 : Rdr w1 (w.heap.size + 1) 0 := by simpa using hr1
  have lt1 := hr1.lt
  simp at z1
  go_wp2_with fail
  refine (l20Notice_any _ 0 2 _ hr1 (by omega) (by omega)).mono ?_
  rintro e w2 ⟨b, A2, c2, xs, rfl, o2, hl, hr2, f2⟩
  have hR2 := hR1.fr f2 (.inl (by omega))
  have z2 := f2.size
  have lt2 := hr2.lt
  have hRl := hR2.lt
  have B2 := (Below.via ((Below.refl _ _).alloc (Nat.le_refl _) _) hb1).trans (f2.below (W := w.heap.size) (by omega) (by omega))
  clear hr hb hb1 hr1 hR1 f2
  obtain ⟨r0, r1⟩ := hR2.two
  have rf := hR2.free
  go_wp2
  refine bodyPost_ret (v := notice b A2 xs.length c2) (by simp [results, Try.results25, go_sem, *]) rfl ⟨b, A2, c2, xs, rfl, Own.mono (B := w1.heap.size) (T := w2.heap.size) (by (repeat (first | (with_reducible assumption) | (with_reducible refine Own.alloc ?_ _) | (with_reducible refine Own.drew ?_) | (with_reducible refine Own.set ?_ (by first | (simp; done) | (simp; omega) | omega) _)))) (by omega) (by first | omega | (simp; done) | (simp; omega)), hl, by (repeat (first | (with_reducible assumption) | (with_reducible exact Below.refl _ _) | (with_reducible refine Below.setCell ?_ (by first | (simp; done) | (simp; omega) | omega) _) | (with_reducible refine Below.alloc ?_ (by first | (simp; done) | (simp; omega) | omega) _) | (with_reducible refine Below.drew ?_) | (with_reducible refine Below.drewN ?_ _)))⟩
set_option maxHeartbeats 1000000 in
theorem DrawPollNotice_any (B T n c : Nat) (A : Option Addr) (bs : List Value) (w : World) (hr : Rd w B T 1 A n bs) (hb : Bytes bs) (hn : n ≤ 1048576) (hnc : n ≤ c) :
    Calls Try.prog 27 #[.slice A n c] w (DrawnNotice w) := by
  go_enter Try.func27, Try.ntmps27
  go_wp2_with fail
  refine (l20Open_any B T n c A bs _ (hr.alloc _) hb hn hnc).mono ?_
  rintro e w1 ⟨rfl, hr1, hb1⟩
  have hR1 := (Blk.new w 27 #[.int .i64 0, .slice none 0 0]).below hb1
  have z1 := hb1.size
  replace hr1 : Rdr w1 (w.heap.size + 1) 0 := by simpa using hr1
  have lt1 := hr1.lt
  simp at z1
  go_wp2_with fail
  refine (l20Notice_any _ 0 9 _ hr1 (by omega) (by omega)).mono ?_
  rintro e w2 ⟨b, A2, c2, xs, rfl, o2, hl, hr2, f2⟩
  have hR2 := hR1.fr f2 (.inl (by omega))
  have z2 := f2.size
  have lt2 := hr2.lt
  have hRl := hR2.lt
  have B2 := (Below.via ((Below.refl _ _).alloc (Nat.le_refl _) _) hb1).trans (f2.below (W := w.heap.size) (by omega) (by omega))
  clear hr hb hb1 hr1 hR1 f2
  obtain ⟨r0, r1⟩ := hR2.two
  have rf := hR2.free
  go_wp2
  refine bodyPost_ret (v := notice b A2 xs.length c2) (by simp [results, Try.results27, go_sem, *]) rfl ⟨b, A2, c2, xs, rfl, Own.mono (B := w1.heap.size) (T := w2.heap.size) (by (repeat (first | (with_reducible assumption) | (with_reducible refine Own.alloc ?_ _) | (with_reducible refine Own.drew ?_) | (with_reducible refine Own.set ?_ (by first | (simp; done) | (simp; omega) | omega) _)))) (by omega) (by first | omega | (simp; done) | (simp; omega)), hl, by (repeat (first | (with_reducible assumption) | (with_reducible exact Below.refl _ _) | (with_reducible refine Below.setCell ?_ (by first | (simp; done) | (simp; omega) | omega) _) | (with_reducible refine Below.alloc ?_ (by first | (simp; done) | (simp; omega) | omega) _) | (with_reducible refine Below.drew ?_) | (with_reducible refine Below.drewN ?_ _)))⟩
set_option maxHeartbeats 2000000 in
theorem DrawWaitNotice_any (B T n c : Nat) (A : Option Addr) (bs : List Value) (w : World) (hr : Rd w B T 1 A n bs) (hb : Bytes bs) (hn : n ≤ 1048576) (hnc : n ≤ c) :
    Calls Try.prog 30 #[.slice A n c] w (DrawnNoticeV w) := by
  go_enter Try.func30, Try.ntmps30
  go_wp2_with fail
  refine (l20Open_any B T n c A bs _ (hr.alloc _) hb hn hnc).mono ?_
  rintro e w1 ⟨rfl, hr1, hb1⟩
  have hR1 := (Blk.new w 27 #[.int .i64 0, .slice none 0 0]).below hb1
  have z1 := hb1.size
  replace hr1 : Rdr w1 (w.heap.size + 1) 0 := by simpa using hr1
  have lt1 := hr1.lt
  simp at z1
  go_wp2_with fail
  refine (l20Notice_any _ 0 12 _ hr1 (by omega) (by omega)).mono ?_
  rintro e w2 ⟨b, A2, c2, xs, rfl, o2, hl, hr2, f2⟩
  have hR2 := hR1.fr f2 (.inl (by omega))
  have z2 := f2.size
  have lt2 := hr2.lt
  have hRl := hR2.lt
  have B2 := (Below.via ((Below.refl _ _).alloc (Nat.le_refl _) _) hb1).trans (f2.below (W := w.heap.size) (by omega) (by omega))
  clear hr hb hb1 hr1 hR1 f2
  have hTn := Blk.new w2 27 #[.int .i64 b, .slice A2 xs.length c2]
  go_wp2_with fail
  refine wp_region_noPanic ?_
  refine wp_region_held_drew (S := (fun W => Blk W w2.heap.size 27 #[.int .i64 b, .slice A2 xs.length c2] ∧ W.cell? ⟨w2.heap.size, 0, none⟩ = some (.int .i64 b) ∧ W.cell? ⟨w2.heap.size, 1, none⟩ = some (.slice A2 xs.length c2))) (by kernel_rfl) ?_ (fun hHeld => ?_)
  focus (first | exact trivial | ((try dsimp only); ((repeat' (first | assumption | with_reducible refine And.intro ?_ ?_)) <;> go_keep))); done
  refine wpAnyH_take (i := 0) (v := ?_) (by rw [List.getElem?_toArray]; rfl) (by kernel_rfl) (by kernel_rfl) (by kernel_rfl) (fun _ _ _ h => h) (Or.inl ⟨by rfl, ?_⟩) (by assumption) ?_
  rotate_left
  focus (intro wS hSw; (try dsimp only at hSw); go_simp; (try with_reducible rfl)); done
  (try simp only [Act.put, List.setIfInBounds_toArray, List.set_cons_zero, List.set_cons_succ])
  refine wpAnyH_take (i := 1) (v := ?_) (by rw [List.getElem?_toArray]; rfl) (by kernel_rfl) (by kernel_rfl) (by kernel_rfl) (fun _ _ _ h => h) (Or.inl ⟨by rfl, ?_⟩) (by assumption) ?_
  rotate_left
  focus (intro wS hSw; (try dsimp only at hSw); go_simp; (try with_reducible rfl)); done
  (try simp only [Act.put, List.setIfInBounds_toArray, List.set_cons_zero, List.set_cons_succ])
  refine wpAnyH_take (i := 3) (v := ?_) (by rw [List.getElem?_toArray]; rfl) (by kernel_rfl) (by kernel_rfl) (by kernel_rfl) (fun _ _ _ h => h) (Or.inl ⟨by rfl, ?_⟩) (by assumption) ?_
  rotate_left
  focus (intro wS hSw; (try dsimp only at hSw); go_simp; (try with_reducible rfl)); done
  (try simp only [Act.put, List.setIfInBounds_toArray, List.set_cons_zero, List.set_cons_succ])
  refine wpAnyH_ready (rs := [2]) (by kernel_rfl) (by simp) ?_
  refine AllReadyH.cons (by rw [List.getElem?_toArray]; rfl) (fun K hK => ?_) AllReadyH.nil
  go_simp
  refine (pick_any (w.heap.size + 1) 12 17 _ (by (repeat (first | (with_reducible assumption) | (with_reducible refine Rdr.drew ?_) | (with_reducible refine Rdr.set ?_ (by first | (simp; done) | (simp; omega) | omega) _) | (with_reducible refine Rdr.alloc ?_ _)))) (by omega) (by omega)).mono ?_; rintro e w3 ⟨v3, rfl, hv3, ul3, -, hr3, f3⟩; replace ul3 := ul3 (by omega); have z3 := f3.size; (try simp at z3); have B3 := Below.trans (by (repeat (first | (with_reducible assumption) | (with_reducible exact Below.refl _ _) | (with_reducible refine Below.setCell ?_ (by first | (simp; done) | (simp; omega) | omega) _) | (with_reducible refine Below.alloc ?_ (by first | (simp; done) | (simp; omega) | omega) _) | (with_reducible refine Below.drew ?_) | (with_reducible refine Below.drewN ?_ _))) : Below w.heap.size w _) (f3.below (W := w.heap.size) (by omega) (by first | (simp; done) | (simp; omega) | omega)); have hR3 := Blk.fr (by (repeat (first | (with_reducible assumption) | (with_reducible refine Blk.drew ?_) | (with_reducible refine Blk.other ?_ (by first | (simp; done) | (simp; omega) | omega) _) | (with_reducible refine Blk.alloc ?_ _))) : Blk _ w.heap.size 27 #[.int .i64 0, .slice none 0 0]) f3 (.inl (by omega)); have hT3 := hHeld.1.fr f3 (.inr (by omega)); have o3 := Own.fr (by (repeat (first | (with_reducible assumption) | (with_reducible refine Own.alloc ?_ _) | (with_reducible refine Own.drew ?_) | (with_reducible refine Own.set ?_ (by first | (simp; done) | (simp; omega) | omega) _))) : Own _ w1.heap.size w2.heap.size 3 1 A2 xs.length c2 (ints xs)) f3 (.inr (by omega))
  refine hK.out _ _ ?_ (fun hHeld => ?_)
  focus (first | exact trivial | ((try dsimp only); (exact Blk.held2 hT3))); done
  clear hK K
  (try simp only [Act.put, List.setIfInBounds_toArray, List.set_cons_zero, List.set_cons_succ])
  refine wpAnyH_ready (rs := [4]) (by kernel_rfl) (by simp) ?_
  refine AllReadyH.cons (by rw [List.getElem?_toArray]; rfl) (fun K hK => ?_) AllReadyH.nil
  go_simp
  refine (pick_any (w.heap.size + 1) 13 14 _ (by (repeat (first | (with_reducible assumption) | (with_reducible refine Rdr.drew ?_) | (with_reducible refine Rdr.set ?_ (by first | (simp; done) | (simp; omega) | omega) _) | (with_reducible refine Rdr.alloc ?_ _)))) (by omega) (by omega)).mono ?_; rintro e w4 ⟨v4, rfl, hv4, ul4, -, hr4, f4⟩; replace ul4 := ul4 (by omega); have z4 := f4.size; (try simp at z4); have B4 := Below.trans (by (repeat (first | (with_reducible assumption) | (with_reducible exact Below.refl _ _) | (with_reducible refine Below.setCell ?_ (by first | (simp; done) | (simp; omega) | omega) _) | (with_reducible refine Below.alloc ?_ (by first | (simp; done) | (simp; omega) | omega) _) | (with_reducible refine Below.drew ?_) | (with_reducible refine Below.drewN ?_ _))) : Below w.heap.size w _) (f4.below (W := w.heap.size) (by omega) (by first | (simp; done) | (simp; omega) | omega)); have hR4 := Blk.fr (by (repeat (first | (with_reducible assumption) | (with_reducible refine Blk.drew ?_) | (with_reducible refine Blk.other ?_ (by first | (simp; done) | (simp; omega) | omega) _) | (with_reducible refine Blk.alloc ?_ _))) : Blk _ w.heap.size 27 #[.int .i64 0, .slice none 0 0]) f4 (.inl (by omega)); have hT4 := hHeld.1.fr f4 (.inr (by omega)); have o4 := Own.fr (by (repeat (first | (with_reducible assumption) | (with_reducible refine Own.alloc ?_ _) | (with_reducible refine Own.drew ?_) | (with_reducible refine Own.set ?_ (by first | (simp; done) | (simp; omega) | omega) _))) : Own _ w1.heap.size w2.heap.size 3 1 A2 xs.length c2 (ints xs)) f4 (.inr (by omega)); have q0 := hR4.cell 0 rfl; have q1 := hR4.cell 1 rfl; have qf := hR4.free; have qlt := hR4.lt
  refine hK.out _ _ ?_ (fun hHeld => ?_)
  focus (first | exact trivial | ((try dsimp only); (exact Blk.held2 hT4))); done
  clear hK K
  (try simp only [Act.put, List.setIfInBounds_toArray, List.set_cons_zero, List.set_cons_succ])
  refine wpAnyH_take (i := 5) (v := ?_) (by rw [List.getElem?_toArray]; rfl) (by kernel_rfl) (by kernel_rfl) (by kernel_rfl) (fun _ _ _ h => h) (Or.inl ⟨by rfl, ?_⟩) (by assumption) ?_
  rotate_left
  focus (intro wS hSw; (try dsimp only at hSw); go_simp; (try with_reducible rfl)); done
  (try simp only [Act.put, List.setIfInBounds_toArray, List.set_cons_zero, List.set_cons_succ])
  refine wpAnyH_take (i := 6) (v := ?_) (by rw [List.getElem?_toArray]; rfl) (by kernel_rfl) (by kernel_rfl) (by kernel_rfl) (fun _ _ _ h => h) (Or.inl ⟨by rfl, ?_⟩) (by assumption) ?_
  rotate_left
  focus (intro wS hSw; (try dsimp only at hSw); go_simp; (try with_reducible rfl)); done
  (try simp only [Act.put, List.setIfInBounds_toArray, List.set_cons_zero, List.set_cons_succ])
  refine wpAnyH_ready (rs := [7]) (by kernel_rfl) (by simp) ?_
  refine AllReadyH.cons (by rw [List.getElem?_toArray]; rfl) (fun K hK => ?_) AllReadyH.nil
  go_simp
  skip
  refine hK.out _ _ ?_ (fun hHeld => ?_)
  focus (first | exact trivial | ((try dsimp only); (exact Blk.held2 (by (repeat (first | (with_reducible assumption) | (with_reducible refine Blk.drew ?_) | (with_reducible refine Blk.other ?_ (by first | (simp; done) | (simp; omega) | omega) _) | (with_reducible refine Blk.alloc ?_ _))))))); done
  clear hK K
  (try simp only [Act.put, List.setIfInBounds_toArray, List.set_cons_zero, List.set_cons_succ])
  refine wpAnyH_take (i := 8) (v := ?_) (by rw [List.getElem?_toArray]; rfl) (by kernel_rfl) (by kernel_rfl) (by kernel_rfl) (fun _ _ _ h => h) (Or.inl ⟨by rfl, ?_⟩) (by assumption) ?_
  rotate_left
  focus (intro wS hSw; (try dsimp only at hSw); go_simp; (try with_reducible rfl)); done
  (try simp only [Act.put, List.setIfInBounds_toArray, List.set_cons_zero, List.set_cons_succ])
  refine wpAnyH_done (by kernel_rfl) ?_ _
  refine NoPanic.normal ?_
  go_wp2
  exact bodyPost_ret (v := .tuple #[notice b A2 xs.length c2, .int .i64 (IntKind.i64.wrap (v3 - IntKind.i64.wrap (v4.tdiv 13)))]) (by simp [results, Try.results30, go_sem, *]) rfl ⟨b, A2, c2, xs, _, rfl, Own.mono (B := w1.heap.size) (T := w2.heap.size) (by (repeat (first | (with_reducible assumption) | (with_reducible refine Own.alloc ?_ _) | (with_reducible refine Own.drew ?_) | (with_reducible refine Own.set ?_ (by first | (simp; done) | (simp; omega) | omega) _)))) (by omega) (by first | omega | (simp; done) | (simp; omega)), hl, by (repeat (first | (with_reducible assumption) | (with_reducible exact Below.refl _ _) | (with_reducible refine Below.setCell ?_ (by first | (simp; done) | (simp; omega) | omega) _) | (with_reducible refine Below.alloc ?_ (by first | (simp; done) | (simp; omega) | omega) _) | (with_reducible refine Below.drew ?_) | (with_reducible refine Below.drewN ?_ _)))⟩
end Go.Proofs.Ytcdbamaifdabnaa
