/- The contracts of the functions on threads, by cases. -/
import Derived.Test.YtdkfiikbofamfaaTask4
import Derived.Test.YtdkfiikbofamfaaBlk
namespace Go.Proofs.Ytdkfiikbofamfaa
set_option linter.unusedVariables false
open Go.RowKit
theorem Blk.three {w : World} {b : Nat} {T : TypeId} {x y z : Value} (h : Blk w b T #[x, y, z]) : w.cell? ⟨b, 0, none⟩ = some x ∧ w.cell? ⟨b, 1, none⟩ = some y ∧ w.cell? ⟨b, 2, none⟩ = some z :=
  ⟨h.cell 0 rfl, h.cell 1 rfl, h.cell 2 rfl⟩
theorem taskV_prio {s p x : Int} (h : taskV s p x = true) : inB p 0 7 = true := by
  unfold taskV at h
  simp only [Bool.and_eq_true] at h
  exact h.1.2
theorem taskV_mk {s p x : Int} (hs : inB s 0 5 = true) (hp : inB p 0 7 = true) (hx : (inB s 2 4 = true ∧ inB x 0 99 = true) ∨ (inB s 2 4 = false ∧ x = -1)) : taskV s p x = true := by
  unfold taskV
  rw [hs, hp]
  rcases hx with ⟨h1, h2⟩ | ⟨h1, h2⟩
  · simp [h1, h2]
  · subst h2; simp [h1]
theorem iStart_no {s p x : Int} (w : World) (h1 : taskV s p x = false) :
    Calls Try.prog 21 #[task s p x] w fun e w' => e = .returned (.tuple #[task 0 0 0, .bool false]) ∧ Below w.heap.size w w' := by
  have h := iTaskStart_any s p x w
  rw [h1] at h
  exact h
theorem iStart_stay {s p x : Int} (w : World) (h1 : taskV s p x = true) (h2 : mayStart s = false) :
    Calls Try.prog 21 #[task s p x] w fun e w' => e = .returned (.tuple #[task s p x, .bool false]) ∧ Below w.heap.size w w' := by
  have h := iTaskStart_any s p x w
  rw [h1, h2] at h
  exact h
theorem iStart_yes {s p x : Int} (w : World) (h1 : taskV s p x = true) (h2 : mayStart s = true) :
    Calls Try.prog 21 #[task s p x] w fun e w' => e = .returned (.tuple #[task 1 p (-1), .bool true]) ∧ Below w.heap.size w w' := by
  have h := iTaskStart_any s p x w
  rw [h1, h2] at h
  exact h
theorem iStop_no {s p x : Int} (w : World) (h1 : taskV s p x = false) :
    Calls Try.prog 18 #[task s p x] w fun e w' => e = .returned (task 0 0 0) ∧ Below w.heap.size w w' := by
  have h := iTaskStop_any s p x w
  rw [h1] at h
  exact h
theorem iStop_yes {s p x : Int} (w : World) (h1 : taskV s p x = true) :
    Calls Try.prog 18 #[task s p x] w fun e w' => e = .returned (task 0 p (-1)) ∧ Below w.heap.size w w' := by
  have h := iTaskStop_any s p x w
  rw [h1] at h
  exact h
theorem iWake_no {s p x ob : Int} (w : World) (h1 : taskV s p x = false) :
    Calls Try.prog 23 #[task s p x, .int .i64 ob] w fun e w' => e = .returned (.tuple #[task 0 0 0, .bool false]) ∧ Below w.heap.size w w' := by
  have h := iTaskWake_any s p x ob w
  rw [h1] at h
  exact h
theorem iWake_stay {s p x ob : Int} (w : World) (h1 : taskV s p x = true) (h2 : mayWake s x ob = false) :
    Calls Try.prog 23 #[task s p x, .int .i64 ob] w fun e w' => e = .returned (.tuple #[task s p x, .bool false]) ∧ Below w.heap.size w w' := by
  have h := iTaskWake_any s p x ob w
  rw [h1, h2] at h
  exact h
theorem iWake_yes {s p x ob : Int} (w : World) (h1 : taskV s p x = true) (h2 : mayWake s x ob = true) :
    Calls Try.prog 23 #[task s p x, .int .i64 ob] w fun e w' => e = .returned (.tuple #[task 1 p (-1), .bool true]) ∧ Below w.heap.size w w' := by
  have h := iTaskWake_any s p x ob w
  rw [h1, h2] at h
  exact h
theorem iWait_no {s p x st ob : Int} (w : World) (h1 : (taskV s p x && (inB st 2 4 && inB ob 0 99)) = false) :
    Calls Try.prog 25 #[task s p x, .int .i64 st, .int .i64 ob] w fun e w' => e = .returned (.tuple #[task 0 0 0, .bool false]) ∧ Below w.heap.size w w' := by
  have h := iTaskWait_any s p x st ob w
  rw [h1] at h
  exact h
theorem iWait_stay {s p x st ob : Int} (w : World) (h1 : (taskV s p x && (inB st 2 4 && inB ob 0 99)) = true) (h2 : (s == 1) = false) :
    Calls Try.prog 25 #[task s p x, .int .i64 st, .int .i64 ob] w fun e w' => e = .returned (.tuple #[task s p x, .bool false]) ∧ Below w.heap.size w w' := by
  have h := iTaskWait_any s p x st ob w
  rw [h1, h2] at h
  exact h
theorem iWait_yes {s p x st ob : Int} (w : World) (h1 : (taskV s p x && (inB st 2 4 && inB ob 0 99)) = true) (h2 : (s == 1) = true) :
    Calls Try.prog 25 #[task s p x, .int .i64 st, .int .i64 ob] w fun e w' => e = .returned (.tuple #[task st p ob, .bool true]) ∧ Below w.heap.size w w' := by
  have h := iTaskWait_any s p x st ob w
  rw [h1, h2] at h
  exact h
theorem sStart_no {s p x : Int} (w : World) (h1 : taskV s p x = false) :
    Calls Try.prog 20 #[task s p x] w fun e w' => e = .returned (.tuple #[task 0 0 0, .bool false]) ∧ Below w.heap.size w w' := by
  have h := sTaskStart_any s p x w
  rw [h1] at h
  exact h
theorem sStart_stay {s p x : Int} (w : World) (h1 : taskV s p x = true) (h2 : mayStart s = false) :
    Calls Try.prog 20 #[task s p x] w fun e w' => e = .returned (.tuple #[task s p x, .bool false]) ∧ Below w.heap.size w w' := by
  have h := sTaskStart_any s p x w
  rw [h1, h2] at h
  exact h
theorem sStart_yes {s p x : Int} (w : World) (h1 : taskV s p x = true) (h2 : mayStart s = true) :
    Calls Try.prog 20 #[task s p x] w fun e w' => e = .returned (.tuple #[task 1 p (-1), .bool true]) ∧ Below w.heap.size w w' := by
  have h := sTaskStart_any s p x w
  rw [h1, h2] at h
  exact h
theorem sStop_no {s p x : Int} (w : World) (h1 : taskV s p x = false) :
    Calls Try.prog 17 #[task s p x] w fun e w' => e = .returned (task 0 0 0) ∧ Below w.heap.size w w' := by
  have h := sTaskStop_any s p x w
  rw [h1] at h
  exact h
theorem sStop_yes {s p x : Int} (w : World) (h1 : taskV s p x = true) :
    Calls Try.prog 17 #[task s p x] w fun e w' => e = .returned (task 0 p (-1)) ∧ Below w.heap.size w w' := by
  have h := sTaskStop_any s p x w
  rw [h1] at h
  exact h
theorem sWake_no {s p x ob : Int} (w : World) (h1 : taskV s p x = false) :
    Calls Try.prog 22 #[task s p x, .int .i64 ob] w fun e w' => e = .returned (.tuple #[task 0 0 0, .bool false]) ∧ Below w.heap.size w w' := by
  have h := sTaskWake_any s p x ob w
  rw [h1] at h
  exact h
theorem sWake_stay {s p x ob : Int} (w : World) (h1 : taskV s p x = true) (h2 : mayWake s x ob = false) :
    Calls Try.prog 22 #[task s p x, .int .i64 ob] w fun e w' => e = .returned (.tuple #[task s p x, .bool false]) ∧ Below w.heap.size w w' := by
  have h := sTaskWake_any s p x ob w
  rw [h1, h2] at h
  exact h
theorem sWake_yes {s p x ob : Int} (w : World) (h1 : taskV s p x = true) (h2 : mayWake s x ob = true) :
    Calls Try.prog 22 #[task s p x, .int .i64 ob] w fun e w' => e = .returned (.tuple #[task 1 p (-1), .bool true]) ∧ Below w.heap.size w w' := by
  have h := sTaskWake_any s p x ob w
  rw [h1, h2] at h
  exact h
theorem sWait_no {s p x st ob : Int} (w : World) (h1 : (taskV s p x && (inB st 2 4 && inB ob 0 99)) = false) :
    Calls Try.prog 24 #[task s p x, .int .i64 st, .int .i64 ob] w fun e w' => e = .returned (.tuple #[task 0 0 0, .bool false]) ∧ Below w.heap.size w w' := by
  have h := sTaskWait_any s p x st ob w
  rw [h1] at h
  exact h
theorem sWait_stay {s p x st ob : Int} (w : World) (h1 : (taskV s p x && (inB st 2 4 && inB ob 0 99)) = true) (h2 : (s == 1) = false) :
    Calls Try.prog 24 #[task s p x, .int .i64 st, .int .i64 ob] w fun e w' => e = .returned (.tuple #[task s p x, .bool false]) ∧ Below w.heap.size w w' := by
  have h := sTaskWait_any s p x st ob w
  rw [h1, h2] at h
  exact h
theorem sWait_yes {s p x st ob : Int} (w : World) (h1 : (taskV s p x && (inB st 2 4 && inB ob 0 99)) = true) (h2 : (s == 1) = true) :
    Calls Try.prog 24 #[task s p x, .int .i64 st, .int .i64 ob] w fun e w' => e = .returned (.tuple #[task st p ob, .bool true]) ∧ Below w.heap.size w w' := by
  have h := sTaskWait_any s p x st ob w
  rw [h1, h2] at h
  exact h
end Go.Proofs.Ytdkfiikbofamfaa
