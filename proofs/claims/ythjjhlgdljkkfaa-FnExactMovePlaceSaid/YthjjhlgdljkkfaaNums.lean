/- Contracts of the seat's range tests. -/
import Derived.Test.YthjjhlgdljkkfaaRows
import Derived.Test.YthjjhlgdljkkfaaBase
namespace Go.Proofs.Ythjjhlgdljkkfaa
set_option linter.unusedVariables false
open Go.RowKit
theorem l1In_any (n lo hi : Int) (w : World) : Calls Try.prog 30 #[.int .i64 n, .int .i64 lo, .int .i64 hi] w fun e w' => e = .returned (.bool (inB n lo hi)) ∧ w = w' := by
  go_enter Try.func30, Try.ntmps30
  go_wp2
  all_goals (go_ret; exact ⟨ret_bool (by first | exact (inB_lo ‹_›).symm | exact (inB_hi ‹_›).symm), rfl⟩)
theorem in_any (n lo hi : Int) (w : World) : Calls Try.prog 31 #[.int .i64 n, .int .i64 lo, .int .i64 hi] w fun e w' => e = .returned (.bool (inB n lo hi)) ∧ w = w' := by
  go_enter Try.func31, Try.ntmps31
  go_wp2
  all_goals (go_ret; exact ⟨ret_bool (by first | exact (inB_lo ‹_›).symm | exact (inB_hi ‹_›).symm), rfl⟩)
end Go.Proofs.Ythjjhlgdljkkfaa
