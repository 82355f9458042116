/- Contracts of the seat's range tests. -/
import Derived.Test.YtccepnhnmpmkdaaRows
import Derived.Test.YtccepnhnmpmkdaaBase
namespace Go.Proofs.Ytccepnhnmpmkdaa
set_option linter.unusedVariables false
open Go.RowKit
theorem l1In_any (n lo hi : Int) (w : World) : Calls Try.prog 34 #[.int .i64 n, .int .i64 lo, .int .i64 hi] w fun e w' => e = .returned (.bool (inB n lo hi)) ∧ w = w' := by
  go_enter Try.func34, Try.ntmps34
  go_wp2
  all_goals (go_ret; exact ⟨ret_bool (by first | exact (inB_lo ‹_›).symm | exact (inB_hi ‹_›).symm), rfl⟩)
theorem in_any (n lo hi : Int) (w : World) : Calls Try.prog 60 #[.int .i64 n, .int .i64 lo, .int .i64 hi] w fun e w' => e = .returned (.bool (inB n lo hi)) ∧ w = w' := by
  go_enter Try.func60, Try.ntmps60
  go_wp2
  all_goals (go_ret; exact ⟨ret_bool (by first | exact (inB_lo ‹_›).symm | exact (inB_hi ‹_›).symm), rfl⟩)
theorem isThread_any (n : Int) (w : World) : Calls Try.prog 50 #[.int .i64 n] w fun e w' => e = .returned (.bool (inB n 0 15)) ∧ w = w' := by
  go_enter Try.func50, Try.ntmps50
  go_wp2_with (go_at_call 60; refine (in_any _ _ _ _).mono ?_; rintro e w' ⟨rfl, rfl⟩)
  go_ret; exact ⟨rfl, rfl⟩
end Go.Proofs.Ytccepnhnmpmkdaa
