/- The texts that the laws on drawn trees need. -/
import Derived.Test.YtpgmfjipkhldmaaRev6
import Derived.Test.YtpgmfjipkhldmaaRev7
import Derived.Test.YtpgmfjipkhldmaaEntS2
import Derived.Test.YtpgmfjipkhldmaaAlive
import Derived.Test.YtpgmfjipkhldmaaDraw1
namespace Go.Proofs.Ytpgmfjipkhldmaa
set_option linter.unusedVariables false
open Go.RowKit
/-- A drawn tree and two numbers, in new memory. -/
def DrawnT (w : World) (e : Ending) (w' : World) : Prop :=
  ∃ (A : Option Addr) (n c : Nat) (es : List En) (v1 v2 : Int), e = .returned (.tuple #[.slice A n c, .int .i64 v1, .int .i64 v2]) ∧ Rd w' w.heap.size w'.heap.size 6 A n (ents es) ∧ n ≤ 100 ∧ Below w.heap.size w w'
/-- What a draw of function f does. -/
def DrawsT (f : Nat) : Prop := ∀ (B T n c : Nat) (A : Option Addr) (bs : List Value) (w : World), Rd w B T 1 A n bs → Bytes bs → n ≤ 1048576 → n ≤ c → Calls Try.prog f #[.slice A n c] w (DrawnT w)
theorem someL_len {es : List En} {n most : Int} : (someL es n most).length ≤ es.length := by
  unfold someL
  split
  · rw [left_len]; exact Nat.le_refl _
  · simp
theorem live_of {es : List En} {k : Nat} {e : En} (hv : treeV es = true) (hx : es[k]? = some e) (hg : e.2.2 = false) : liveV es (k : Int) = true :=
  liveV_iff.2 ⟨hv, by omega, by have := (List.getElem?_eq_some_iff.1 hx).1; omega, e, by rw [Int.toNat_natCast]; exact hx, hg⟩
set_option maxHeartbeats 1000000 in
theorem RightsWithin_yes (a b : Int) (w : World) (ha : R4 a) (hb : R4 b) (h : andN a b = 0) :
    Calls Try.prog 29 #[.int .i64 a, .int .i64 b] w fun e w' => e = .returned (.bool true) ∧ w = w' := by
  have h1 : inB a 0 15 = true := by rw [inB_true]; exact ha
  have h2 : inB b 0 15 = true := by rw [inB_true]; exact hb
  unfold andN at h
  go_enter Try.func29, Try.ntmps29
  go_wp2_with fail
  refine (iRightsValid_any _ _).mono ?_
  rintro e w1 ⟨rfl, rfl⟩
  rw [h1]
  go_wp2_with fail
  refine (iRightsValid_any _ _).mono ?_
  rintro e w2 ⟨rfl, rfl⟩
  rw [h2]
  go_wp2
  go_ret
  exact ⟨rfl, rfl⟩
end Go.Proofs.Ytpgmfjipkhldmaa
