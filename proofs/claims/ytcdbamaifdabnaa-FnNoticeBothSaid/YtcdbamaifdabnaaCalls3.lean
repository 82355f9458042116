/- Contracts of slices.Reverse at []int and of DropCaller (impl and spec). -/
import Derived.Test.YtcdbamaifdabnaaCalls2
namespace Go.Proofs.Ytcdbamaifdabnaa
set_option linter.unusedVariables false
open Go.RowKit

/-- ys is xs, turned around from both ends for m places. -/
def Rev (xs ys : List Int) (m : Nat) : Prop := ys.length = xs.length ∧ ∀ t, t < xs.length → ys[t]? = if t < m ∨ xs.length - m ≤ t then xs[xs.length - 1 - t]? else xs[t]?
theorem Rev.zero (xs : List Int) : Rev xs xs 0 := ⟨rfl, fun t ht => by rw [if_neg (by omega)]⟩
theorem Rev.done {xs ys : List Int} {m : Nat} (h : Rev xs ys m) (hm : xs.length ≤ 2 * m + 1) : ys = xs.reverse := by
  apply List.ext_getElem? 
  intro t
  by_cases ht : t < xs.length
  · rw [h.2 t ht, List.getElem?_reverse ht]
    split
    · rfl
    · rw [show xs.length - 1 - t = t by omega]
  · rw [List.getElem?_eq_none (by rw [h.1]; omega), List.getElem?_eq_none (by simp; omega)]
theorem Rev.step {xs ys : List Int} {m : Nat} {a b : Int} (h : Rev xs ys m) (hm : 2 * m + 1 < xs.length) (ha : ys[m]? = some a) (hb : ys[xs.length - 1 - m]? = some b) : Rev xs ((ys.set m b).set (xs.length - 1 - m) a) (m + 1) := by
  refine ⟨by simp [h.1], fun t ht => ?_⟩
  have h1 := h.2 m (by omega)
  have h2 := h.2 (xs.length - 1 - m) (by omega)
  rw [if_neg (by omega), ha] at h1
  rw [if_neg (by omega), hb] at h2
  by_cases e1 : t = xs.length - 1 - m
  · subst e1
    rw [List.getElem?_set_self (by simp [h.1]; omega), if_pos (by omega), h1]
    congr 1
    omega
  · rw [List.getElem?_set_ne (by omega)]
    by_cases e2 : t = m
    · subst e2
      rw [List.getElem?_set_self (by rw [h.1]; omega), if_pos (by omega), h2]
    · rw [List.getElem?_set_ne (by omega), h.2 t ht]
      by_cases e3 : t < m ∨ xs.length - m ≤ t
      · rw [if_pos e3, if_pos (by omega)]
      · rw [if_neg e3, if_neg (by omega)]

/-- Two slices of integers in new memory. -/
def NewInts2 (w : World) (xs ys : List Int) (e : Ending) (w' : World) : Prop :=
  ∃ A c D d M, e = .returned (.tuple #[.slice A xs.length c, .slice D ys.length d]) ∧ w.heap.size ≤ M ∧ M ≤ w'.heap.size ∧ Own w' M w'.heap.size 3 1 A xs.length c (ints xs) ∧ Own w' w.heap.size M 3 1 D ys.length d (ints ys) ∧ Below w.heap.size w w'
def dropA (xs : List Int) (v : Int) : List Int := if callsV xs = true then xs.take (xs.idxOf v) else []
def dropB (xs : List Int) (v : Int) : List Int := if callsV xs = true then (xs.drop (xs.idxOf v + 1)).reverse else []
theorem dropA_len (xs : List Int) (v : Int) : (dropA xs v).length ≤ 1048576 := by
  unfold dropA
  split
  · rename_i h
    unfold callsV at h
    simp only [Bool.and_eq_true, decide_eq_true_eq] at h
    have := h.1
    simp
    omega
  · simp
theorem dropB_len (xs : List Int) (v : Int) : (dropB xs v).length ≤ 1048576 := by
  unfold dropB
  split
  · rename_i h
    unfold callsV at h
    simp only [Bool.and_eq_true, decide_eq_true_eq] at h
    have := h.1
    simp
    omega
  · simp
theorem idxOf_ne {x v : Int} {l : List Int} (h : x ≠ v) : (x :: l).idxOf v = l.idxOf v + 1 := by
  have hb : (x == v) = false := by simp [h]
  rw [List.idxOf_cons, hb]
  rfl
theorem drop_no1 {xs : List Int} {v : Int} (h : callsV xs = false) : dropA xs v = [] ∧ dropB xs v = [] := by unfold dropA dropB; simp [h]
theorem drop_no2 {xs : List Int} {v : Int} (h : callsV xs = true) (hm : v ∉ xs) : dropA xs v = xs ∧ dropB xs v = [] := by
  unfold dropA dropB
  rw [if_pos h, if_pos h, List.idxOf_eq_length hm]
  simp
theorem drop_yes {xs : List Int} {v : Int} {k : Nat} (h : callsV xs = true) (hk : xs.idxOf v = k) : dropA xs v = xs.take k ∧ dropB xs v = (xs.drop (k + 1)).reverse := by
  unfold dropA dropB
  rw [if_pos h, if_pos h, hk]
  exact ⟨rfl, rfl⟩

end Go.Proofs.Ytcdbamaifdabnaa
