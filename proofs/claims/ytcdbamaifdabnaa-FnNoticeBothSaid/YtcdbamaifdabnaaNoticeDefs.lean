/- What the functions on notification objects answer; plain laws. -/
import Derived.Test.YtcdbamaifdabnaaInts3
import Derived.Test.YtcdbamaifdabnaaBits
namespace Go.Proofs.Ytcdbamaifdabnaa
set_option linter.unusedVariables false
open Go.RowKit
def noticeV (b : Int) (xs : List Int) : Bool := inB b 0 255 && (callsV xs && (b == 0 || xs.isEmpty))
theorem noticeV_calls {b : Int} {xs : List Int} (h : noticeV b xs = true) : inB b 0 255 = true ∧ callsV xs = true ∧ (b = 0 ∨ xs = []) := by
  unfold noticeV at h
  simp only [Bool.and_eq_true, Bool.or_eq_true, beq_iff_eq, List.isEmpty_iff] at h
  exact h
theorem callsV_len {xs : List Int} (h : callsV xs = true) : xs.length ≤ 16 := by
  unfold callsV at h
  simp only [Bool.and_eq_true, decide_eq_true_eq] at h
  exact h.1
def pollL (b : Int) (xs : List Int) : List Int := if noticeV b xs = true then xs else []
def pollM (b : Int) (xs : List Int) : Int := if noticeV b xs = true then b else 0
theorem pollL_len (b : Int) (xs : List Int) : (pollL b xs).length ≤ 1048576 := by
  unfold pollL
  split
  · rename_i h
    have := callsV_len (noticeV_calls h).2.1
    omega
  · simp
theorem poll_no {b : Int} {xs : List Int} (h : noticeV b xs = false) : pollL b xs = [] ∧ pollM b xs = 0 := by unfold pollL pollM; simp [h]
theorem poll_yes {b : Int} {xs : List Int} (h : noticeV b xs = true) : pollL b xs = xs ∧ pollM b xs = b := by unfold pollL pollM; simp [h]
def sigOk (b : Int) (xs : List Int) (v : Int) : Bool := noticeV b xs && inB v 1 255
def sigB (b : Int) (xs : List Int) (v : Int) : Int := if sigOk b xs v = true then (if xs.isEmpty then orI b v else 0) else 0
def sigL (b : Int) (xs : List Int) (v : Int) : List Int := if sigOk b xs v = true then xs.tail else []
def sigM (b : Int) (xs : List Int) (v : Int) : Int := if sigOk b xs v = true then xs.headD (-1) else -1
theorem sigL_len (b : Int) (xs : List Int) (v : Int) : (sigL b xs v).length ≤ 1048576 := by
  unfold sigL
  split
  · rename_i h
    unfold sigOk at h
    simp only [Bool.and_eq_true] at h
    have := callsV_len (noticeV_calls h.1).2.1
    simp
    omega
  · simp
theorem sig_no {b : Int} {xs : List Int} {v : Int} (h : sigOk b xs v = false) : sigB b xs v = 0 ∧ sigL b xs v = [] ∧ sigM b xs v = -1 := by unfold sigB sigL sigM; simp [h]
theorem sig_none {b v : Int} (h : sigOk b [] v = true) : sigB b [] v = orI b v ∧ sigL b [] v = [] ∧ sigM b [] v = -1 := by unfold sigB sigL sigM; simp [h]
theorem sig_some {b v x : Int} {xs : List Int} (h : sigOk b (x :: xs) v = true) : sigB b (x :: xs) v = 0 ∧ sigL b (x :: xs) v = xs ∧ sigM b (x :: xs) v = x := by unfold sigB sigL sigM; simp [h]
def waitOk (b : Int) (xs : List Int) (v : Int) : Bool := noticeV b xs && (inB v 0 15 && decide (v ∉ xs))
def waitL (b : Int) (xs : List Int) (v : Int) : List Int := if (waitOk b xs v && b == 0) = true then xs ++ [v] else []
def waitM (b : Int) (xs : List Int) (v : Int) : Int := if waitOk b xs v = true then b else 0
theorem waitL_len (b : Int) (xs : List Int) (v : Int) : (waitL b xs v).length ≤ 1048576 := by
  unfold waitL
  split
  · rename_i h
    unfold waitOk at h
    simp only [Bool.and_eq_true] at h
    have := callsV_len (noticeV_calls h.1.1).2.1
    simp
    omega
  · simp
theorem wait_no {b : Int} {xs : List Int} {v : Int} (h : waitOk b xs v = false) : waitL b xs v = [] ∧ waitM b xs v = 0 := by unfold waitL waitM; simp [h]
theorem wait_bits {b : Int} {xs : List Int} {v : Int} (h : waitOk b xs v = true) (hb : (b == 0) = false) : waitL b xs v = [] ∧ waitM b xs v = b := by unfold waitL waitM; simp [h, hb]
theorem wait_yes {xs : List Int} {v : Int} (h : waitOk 0 xs v = true) : waitL 0 xs v = xs ++ [v] ∧ waitM 0 xs v = 0 := by unfold waitL waitM; simp [h]
end Go.Proofs.Ytcdbamaifdabnaa
