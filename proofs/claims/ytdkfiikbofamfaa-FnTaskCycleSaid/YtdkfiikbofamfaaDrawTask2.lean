/- Contracts of the draws of threads, of a code. -/
import Derived.Test.YtdkfiikbofamfaaDrawTask
namespace Go.Proofs.Ytdkfiikbofamfaa
set_option linter.unusedVariables false
open Go.RowKit

/-- A drawn thread. -/
def DrawnTask (w : World) (e : Ending) (w' : World) : Prop := ∃ s p x : Int, e = .returned (task s p x) ∧ Below w.heap.size w w'
/-- .. and a number. -/
def DrawnTaskN (w : World) (e : Ending) (w' : World) : Prop := ∃ s p x v : Int, e = .returned (.tuple #[task s p x, .int .i64 v]) ∧ Below w.heap.size w w'
/-- .. and a state and a number that is not great. -/
def DrawnTaskNN (w : World) (e : Ending) (w' : World) : Prop := ∃ s p x t v : Int, e = .returned (.tuple #[task s p x, .int .i64 t, .int .i64 v]) ∧ (-1 ≤ v ∧ v ≤ 100) ∧ Below w.heap.size w w'
set_option maxHeartbeats 1000000 in
theorem DrawTaskValid_any (B T n c : Nat) (A : Option Addr) (bs : List Value) (w : World) (hr : Rd w B T 1 A n bs) (hb : Bytes bs) (hn : n ≤ 1048576) (hnc : n ≤ c) :
    Calls Try.prog 26 #[.slice A n c] w (DrawnTask w) := by
  go_enter Try.func26, Try.ntmps26
  go_wp2_with fail
  refine (l20Open_any B T n c A bs _ (hr.alloc _) hb hn hnc).mono ?_
  rintro e w1 ⟨rfl, hr1, hb1⟩
  have hR1 := (Blk.new w 25 #[.int .i64 0, .int .i64 0, .int .i64 0]).below hb1
  have z1 := hb1.size
  replace hr1 : Rdr w1 (w.heap.size + 1) 0 := by simpa using hr1
  simp at z1
  go_wp2_with fail
  refine (l20Task_any _ 0 2 _ hr1 (by omega) (by omega)).mono ?_
  rintro e w2 ⟨s, p, x, rfl, hr2, f2⟩
  have hR2 := hR1.fr f2 (.inl (by omega))
  have q0 := hR2.cell 0 rfl
  have q1 := hR2.cell 1 rfl
  have q2 := hR2.cell 2 rfl
  have qf := hR2.free
  have B2 := (Below.via ((Below.refl _ _).alloc (Nat.le_refl _) _) hb1).trans (f2.below (W := w.heap.size) (by omega) (by omega))
  clear hR1 hR2 f2 hr1 hr2 hb1 hr hb
  go_wp2
  refine bodyPost_ret (v := task s p x) (by simp [results, Try.results26, go_sem, *]) rfl ⟨_, _, _, rfl, by (repeat (first | exact Below.refl _ _ | assumption | refine Below.setCell ?_ (by first | (simp; done) | (simp; omega) | omega) _ | refine Below.alloc1 ?_ _ | refine Below.alloc ?_ (by first | (simp; done) | (simp; omega) | omega) _ | refine Below.drew ?_ | refine Below.drewN ?_ _ | refine Below.via ?_ (by assumption)))⟩
set_option maxHeartbeats 1000000 in
theorem DrawTaskStart_any (B T n c : Nat) (A : Option Addr) (bs : List Value) (w : World) (hr : Rd w B T 1 A n bs) (hb : Bytes bs) (hn : n ≤ 1048576) (hnc : n ≤ c) :
    Calls Try.prog 28 #[.slice A n c] w (DrawnTask w) := by
  go_enter Try.func28, Try.ntmps28
  go_wp2_with fail
  refine (l20Open_any B T n c A bs _ (hr.alloc _) hb hn hnc).mono ?_
  rintro e w1 ⟨rfl, hr1, hb1⟩
  have hR1 := (Blk.new w 25 #[.int .i64 0, .int .i64 0, .int .i64 0]).below hb1
  have z1 := hb1.size
  replace hr1 : Rdr w1 (w.heap.size + 1) 0 := by simpa using hr1
  simp at z1
  go_wp2_with fail
  refine (l20Task_any _ 0 9 _ hr1 (by omega) (by omega)).mono ?_
  rintro e w2 ⟨s, p, x, rfl, hr2, f2⟩
  have hR2 := hR1.fr f2 (.inl (by omega))
  have q0 := hR2.cell 0 rfl
  have q1 := hR2.cell 1 rfl
  have q2 := hR2.cell 2 rfl
  have qf := hR2.free
  have B2 := (Below.via ((Below.refl _ _).alloc (Nat.le_refl _) _) hb1).trans (f2.below (W := w.heap.size) (by omega) (by omega))
  clear hR1 hR2 f2 hr1 hr2 hb1 hr hb
  go_wp2
  refine bodyPost_ret (v := task s p x) (by simp [results, Try.results28, go_sem, *]) rfl ⟨_, _, _, rfl, by (repeat (first | exact Below.refl _ _ | assumption | refine Below.setCell ?_ (by first | (simp; done) | (simp; omega) | omega) _ | refine Below.alloc1 ?_ _ | refine Below.alloc ?_ (by first | (simp; done) | (simp; omega) | omega) _ | refine Below.drew ?_ | refine Below.drewN ?_ _ | refine Below.via ?_ (by assumption)))⟩
set_option maxHeartbeats 1000000 in
theorem DrawTaskStop_any (B T n c : Nat) (A : Option Addr) (bs : List Value) (w : World) (hr : Rd w B T 1 A n bs) (hb : Bytes bs) (hn : n ≤ 1048576) (hnc : n ≤ c) :
    Calls Try.prog 29 #[.slice A n c] w (DrawnTask w) := by
  go_enter Try.func29, Try.ntmps29
  go_wp2_with fail
  refine (l20Open_any B T n c A bs _ (hr.alloc _) hb hn hnc).mono ?_
  rintro e w1 ⟨rfl, hr1, hb1⟩
  have hR1 := (Blk.new w 25 #[.int .i64 0, .int .i64 0, .int .i64 0]).below hb1
  have z1 := hb1.size
  replace hr1 : Rdr w1 (w.heap.size + 1) 0 := by simpa using hr1
  simp at z1
  go_wp2_with fail
  refine (l20Task_any _ 0 9 _ hr1 (by omega) (by omega)).mono ?_
  rintro e w2 ⟨s, p, x, rfl, hr2, f2⟩
  have hR2 := hR1.fr f2 (.inl (by omega))
  have q0 := hR2.cell 0 rfl
  have q1 := hR2.cell 1 rfl
  have q2 := hR2.cell 2 rfl
  have qf := hR2.free
  have B2 := (Below.via ((Below.refl _ _).alloc (Nat.le_refl _) _) hb1).trans (f2.below (W := w.heap.size) (by omega) (by omega))
  clear hR1 hR2 f2 hr1 hr2 hb1 hr hb
  go_wp2
  refine bodyPost_ret (v := task s p x) (by simp [results, Try.results29, go_sem, *]) rfl ⟨_, _, _, rfl, by (repeat (first | exact Below.refl _ _ | assumption | refine Below.setCell ?_ (by first | (simp; done) | (simp; omega) | omega) _ | refine Below.alloc1 ?_ _ | refine Below.alloc ?_ (by first | (simp; done) | (simp; omega) | omega) _ | refine Below.drew ?_ | refine Below.drewN ?_ _ | refine Below.via ?_ (by assumption)))⟩
end Go.Proofs.Ytdkfiikbofamfaa
