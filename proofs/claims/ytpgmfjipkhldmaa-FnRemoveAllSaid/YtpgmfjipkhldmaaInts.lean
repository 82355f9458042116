/- Contracts of the seat's functions on slices of integers: toIntS, eqIntS, markIntS, heldIntS, sameInts. -/
import Derived.Test.YtpgmfjipkhldmaaRows
import Derived.Test.YtpgmfjipkhldmaaBase
import Derived.BigQuiet
import Derived.Deep.QuietTactic
import Derived.Handy
namespace Go.Proofs.Ytpgmfjipkhldmaa
set_option linter.unusedVariables false
open Go.RowKit

theorem Try.infoInt : (Try.prog.info? 3).map (fun i => (i.zero, i.size, i.bytes)) = some (some (.int .i64 0), 1, 8) := by kernel_rfl

/-- A slice of integers in new memory. -/
def NewInts (w : World) (xs : List Int) (e : Ending) (w' : World) : Prop :=
  ∃ A c, e = .returned (.slice A xs.length c) ∧ Own w' w.heap.size w'.heap.size 3 1 A xs.length c (ints xs) ∧ Below w.heap.size w w'

theorem ints_at {w : World} {B T n k : Nat} {A : Option Addr} {xs : List Int} (h : Rd w B T 1 A n (ints xs)) (hk : k < n) :
    ∃ b o x, A = some ⟨b, o, none⟩ ∧ b < w.heap.size ∧ xs[k]? = some x ∧ w.cell? ⟨b, o + k, none⟩ = some (.int .i64 x) := by
  obtain ⟨b, o, h1, h2, h3, h4⟩ := h.2 (by omega)
  have hl : k < xs.length := by have := h.1; rw [ints_length] at this; omega
  have hc := h4 k _ (ints_get (List.getElem?_eq_getElem hl))
  exact ⟨b, o, xs[k], h1, World.block_lt_of_cell? w _ hc, List.getElem?_eq_getElem hl, hc⟩
theorem ints_len {w : World} {B T n : Nat} {A : Option Addr} {xs : List Int} (h : Rd w B T 1 A n (ints xs)) : xs.length = n := by
  have := h.1; rw [ints_length] at this; omega

theorem take_rep_set (xs : List Int) (n k : Nat) (x : Int) (hl : xs.length = n) (hk : k < n) (hx : xs[k]? = some x) :
    (xs.take k ++ List.replicate (n - k) 0).set k x = xs.take (k + 1) ++ List.replicate (n - (k + 1)) 0 := by
  have e1 : n - k = (n - (k + 1)) + 1 := by omega
  rw [e1, List.replicate_succ, List.set_append_right _ _ (by simp; omega)]
  have e2 : k - (xs.take k).length = 0 := by simp; omega
  rw [e2, List.set_cons_zero, List.take_add_one, hx]
  simp

end Go.Proofs.Ytpgmfjipkhldmaa
