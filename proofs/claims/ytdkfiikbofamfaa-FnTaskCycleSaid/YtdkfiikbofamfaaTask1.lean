/- Contracts of the seat's functions on threads (impl and spec): each returns what a plain function of integers gives, and leaves all that was in memory as it was. -/
import Derived.Test.YtdkfiikbofamfaaRows
import Derived.Test.YtdkfiikbofamfaaBase
import Derived.Test.YtdkfiikbofamfaaNums
namespace Go.Proofs.Ytdkfiikbofamfaa
set_option linter.unusedVariables false
open Go.RowKit
def taskV (s p x : Int) : Bool := inB s 0 5 && inB p 0 7 && ((inB s 2 4 && inB x 0 99) || (!inB s 2 4 && x == -1))

/-- A thread as a value. -/
abbrev task (s p x : Int) : Value := .agg #[.int .i64 s, .int .i64 p, .int .i64 x]

set_option maxHeartbeats 400000 in
theorem iTaskValid_any (s p x : Int) (w : World) : Calls Try.prog 16 #[task s p x] w fun e w' => e = .returned (.bool (taskV s p x)) ∧ Below w.heap.size w w' := by
  go_enter Try.func16, Try.ntmps16
  go_wp2_with (first | (go_at_call 33; refine (in_any _ _ _ _).mono ?_; rintro e w' ⟨rfl, rfl⟩) | (go_at_call 34; refine (isPrio_any _ _).mono ?_; rintro e w' ⟨rfl, rfl⟩) | (go_at_call 35; refine (waits_any _ _).mono ?_; rintro e w' ⟨rfl, rfl⟩) | (go_at_call 36; refine (isObject_any _ _).mono ?_; rintro e w' ⟨rfl, rfl⟩))
  all_goals (go_ret; exact ⟨ret_bool (by simp [taskV, *]), (Below.refl _ _).alloc (Nat.le_refl _) _⟩)

set_option maxHeartbeats 400000 in
theorem sTaskValid_any (s p x : Int) (w : World) : Calls Try.prog 14 #[task s p x] w fun e w' => e = .returned (.bool (taskV s p x)) ∧ Below w.heap.size w w' := by
  go_enter Try.func14, Try.ntmps14
  go_wp2_with (go_at_call 32; refine (l1In_any _ _ _ _).mono ?_; rintro e w' ⟨rfl, rfl⟩)
  all_goals (go_ret; exact ⟨ret_bool (by simp [taskV, *]), (Below.refl _ _).alloc (Nat.le_refl _) _⟩)
end Go.Proofs.Ytdkfiikbofamfaa
