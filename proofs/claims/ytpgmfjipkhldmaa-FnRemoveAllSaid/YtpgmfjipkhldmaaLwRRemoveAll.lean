/- The law FnRemoveAll with its draw: it returns true and leaves all that was in memory as it was, for every code (walk: LwRemoveAll; draw: DrawT3). -/
import Derived.Test.YtpgmfjipkhldmaaLwRemoveAll
import Derived.Test.YtpgmfjipkhldmaaDrawT3
namespace Go.Proofs.Ytpgmfjipkhldmaa
set_option linter.unusedVariables false
open Go.RowKit
theorem law_RemoveAll (B T n c : Nat) (A : Option Addr) (bs : List Value) (w : World) (hr : Rd w B T 1 A n bs) (hb : Bytes bs) (hnc : n ≤ c) :
    Calls Try.prog 5 #[.slice A n c] w fun e w' => e = .returned (.bool true) ∧ Below w.heap.size w w' := lawc_RemoveAll DrawStrongestLeft_any B T n c A bs w hr hb hnc
end Go.Proofs.Ytpgmfjipkhldmaa
