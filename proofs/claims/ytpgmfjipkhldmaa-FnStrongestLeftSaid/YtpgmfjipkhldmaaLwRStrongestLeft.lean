/- The law FnStrongestLeft with its draw: it returns true and leaves all that was in memory as it was, for every code (walk: LwStrongestLeft; draw: DrawT3). -/
import Derived.Test.YtpgmfjipkhldmaaLwStrongestLeft
import Derived.Test.YtpgmfjipkhldmaaDrawT3
namespace Go.Proofs.Ytpgmfjipkhldmaa
set_option linter.unusedVariables false
open Go.RowKit
theorem law_StrongestLeft (B T n c : Nat) (A : Option Addr) (bs : List Value) (w : World) (hr : Rd w B T 1 A n bs) (hb : Bytes bs) (hnc : n ≤ c) :
    Calls Try.prog 7 #[.slice A n c] w fun e w' => e = .returned (.bool true) ∧ Below w.heap.size w w' := lawc_StrongestLeft DrawStrongestLeft_any B T n c A bs w hr hb hnc
end Go.Proofs.Ytpgmfjipkhldmaa
