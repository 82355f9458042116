/- Contracts of the seat's range tests. -/
import Derived.Test.YtpgmfjipkhldmaaRows
import Derived.Test.YtpgmfjipkhldmaaBase
namespace Go.Proofs.Ytpgmfjipkhldmaa
set_option linter.unusedVariables false
open Go.RowKit
theorem l1In_any (n lo hi : Int) (w : World) : Calls Try.prog 35 #[.int .i64 n, .int .i64 lo, .int .i64 hi] w fun e w' => e = .returned (.bool (inB n lo hi)) ∧ w = w' := by
  go_enter Try.func35, Try.ntmps35
  go_wp2
  all_goals (go_ret; exact ⟨ret_bool (by first | exact (inB_lo ‹_›).symm | exact (inB_hi ‹_›).symm), rfl⟩)
theorem in_any (n lo hi : Int) (w : World) : Calls Try.prog 32 #[.int .i64 n, .int .i64 lo, .int .i64 hi] w fun e w' => e = .returned (.bool (inB n lo hi)) ∧ w = w' := by
  go_enter Try.func32, Try.ntmps32
  go_wp2
  all_goals (go_ret; exact ⟨ret_bool (by first | exact (inB_lo ‹_›).symm | exact (inB_hi ‹_›).symm), rfl⟩)
theorem isObject_any (n : Int) (w : World) : Calls Try.prog 55 #[.int .i64 n] w fun e w' => e = .returned (.bool (inB n 0 99)) ∧ w = w' := by
  go_enter Try.func55, Try.ntmps55
  go_wp2_with (go_at_call 32; refine (in_any _ _ _ _).mono ?_; rintro e w' ⟨rfl, rfl⟩)
  go_ret; exact ⟨rfl, rfl⟩
end Go.Proofs.Ytpgmfjipkhldmaa
