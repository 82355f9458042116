/- Contracts of PopReply (impl and spec). -/
import Derived.Test.YtcdbamaifdabnaaCalls1
import Derived.Deep.RegionHeld3
namespace Go.Proofs.Ytcdbamaifdabnaa
set_option linter.unusedVariables false
open Go.RowKit

def popL (xs : List Int) : List Int := if callsV xs = true then xs.take (xs.length - 1) else []
def popM (xs : List Int) : Int := if callsV xs = true then xs.getLastD (-1) else -1
theorem pop_len (xs : List Int) : (popL xs).length ≤ 1048576 := by
  unfold popL
  split
  · rename_i h
    unfold callsV at h
    simp only [Bool.and_eq_true, decide_eq_true_eq] at h
    have := h.1
    simp
    omega
  · simp
theorem pop_no1 {xs : List Int} (h : callsV xs = false) : popL xs = [] ∧ popM xs = -1 := by unfold popL popM; simp [h]
theorem pop_no2 : popL [] = [] ∧ popM [] = -1 := by unfold popL popM; simp
theorem pop_yes {xs : List Int} {k : Nat} {x : Int} (h : callsV xs = true) (hl : xs.length = k + 1) (hx : xs[k]? = some x) : popL xs = xs.take k ∧ popM xs = x := by
  unfold popL popM
  rw [if_pos h, if_pos h, hl]
  refine ⟨rfl, ?_⟩
  rw [List.getLastD_eq_getLast?, List.getLast?_eq_getElem?, hl]
  show xs[k]?.getD (-1) = x
  rw [hx]
  rfl

end Go.Proofs.Ytcdbamaifdabnaa
