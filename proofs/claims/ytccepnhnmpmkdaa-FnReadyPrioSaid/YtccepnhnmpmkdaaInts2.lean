/- Contracts of package slices' functions at []int, of clone, different, CallsValid, TimesValid. -/
import Derived.Test.YtccepnhnmpmkdaaInts
import Derived.Test.YtccepnhnmpmkdaaNums
namespace Go.Proofs.Ytccepnhnmpmkdaa
set_option linter.unusedVariables false
open Go.RowKit

/-- Where the first v stands; -1 if there is none. -/
def fi (xs : List Int) (v : Int) : Int := if v ∈ xs then (xs.idxOf v : Int) else -1
theorem fi_at {xs : List Int} {v : Int} {k : Nat} (h : v ∉ xs.take k) (hx : xs[k]? = some v) : fi xs v = k := by
  have hl : k < xs.length := (List.getElem?_eq_some_iff.1 hx).1
  have hm : v ∈ xs := List.mem_of_getElem? hx
  unfold fi
  rw [if_pos hm]
  have e : xs = xs.take k ++ v :: xs.drop (k + 1) := by
    have h2 : xs.drop k = v :: xs.drop (k + 1) := by
      rw [List.drop_eq_getElem_cons hl]
      congr 1
      exact (List.getElem?_eq_some_iff.1 hx).2
    rw [← h2, List.take_append_drop]
  have h3 : (xs.take k ++ v :: xs.drop (k + 1)).idxOf v = k := by
    rw [List.idxOf_append, if_neg h]
    simp
    omega
  rw [← e] at h3
  omega
theorem fi_none {xs : List Int} {v : Int} (h : v ∉ xs) : fi xs v = -1 := by unfold fi; rw [if_neg h]
theorem fi_ge {xs : List Int} {v : Int} : decide (0 ≤ fi xs v) = decide (v ∈ xs) := by
  unfold fi
  by_cases h : v ∈ xs
  · rw [if_pos h]; simp [h]
  · rw [if_neg h]; simp [h]
theorem fi_bound (xs : List Int) (v : Int) : -1 ≤ fi xs v ∧ fi xs v < xs.length + 1 := by
  unfold fi
  by_cases h : v ∈ xs
  · rw [if_pos h]
    have := List.idxOf_lt_length_of_mem h
    omega
  · rw [if_neg h]; omega
theorem notMem_succ {xs : List Int} {v x : Int} {k : Nat} (h : v ∉ xs.take k) (hx : xs[k]? = some x) (hne : v ≠ x) : v ∉ xs.take (k + 1) := by
  rw [List.take_add_one, hx]
  simp only [Option.toList_some, List.mem_append, List.mem_singleton, not_or]
  exact ⟨h, hne⟩

set_option maxHeartbeats 400000 in
theorem Index_any (B T n c : Nat) (A : Option Addr) (xs : List Int) (v : Int) (w : World) (hr : Rd w B T 1 A n (ints xs)) (hn : n ≤ 1048576) :
    Calls Try.prog 61 #[.slice A n c, .int .i64 v] w fun e w' => e = .returned (.int .i64 (fi xs v)) ∧ Below w.heap.size w w' := by
  have hl := ints_len hr
  have HL := Lib.hid hl
  clear hl
  go_enter Try.func61, Try.ntmps61
  go_wp2
  go_loopw [8] (fun i wr => ∃ k : Nat, k ≤ n ∧ i = .int .i64 k ∧ Hid (v ∉ xs.take k) ∧ Below w.heap.size w wr) (fun i _ => n - (intOf i).toNat)
  case atStart => exact ⟨0, by omega, rfl, Lib.hid (by simp), Below.refl _ _⟩
  case round =>
    obtain ⟨k, hk, rfl, ht, hb⟩ := hrel
    by_cases hlt : k < n
    · obtain ⟨b, o, x, rfl, hbl, hx, hc⟩ := ints_at (hr.below hb) hlt
      have hkk : (k : Int) < (n : Int) := by omega
      have hk0 : (0 : Int) ≤ (k : Int) := by omega
      have HX := Lib.hid hx
      clear hr hx
      by_cases hxy : v = x
      · subst hxy
        go_wp2
        go_ret
        exact ⟨by rw [fi_at ht.out HX.out]; rfl, by (repeat (first | exact Below.refl _ _ | assumption | refine Below.setCell ?_ (by first | (simp; done) | (simp; omega) | omega) _ | refine Below.alloc1 ?_ _ | refine Below.alloc ?_ (by first | (simp; done) | (simp; omega) | omega) _ | refine Below.drew ?_ | refine Below.drewN ?_ _ | refine Below.via ?_ (by assumption)))⟩
      · have hd : (v == x) = false := by simp [hxy]
        go_wp2
        go_roundw
        case rel => exact ⟨k + 1, by omega, by go_num, Lib.hid (notMem_succ ht.out HX.out hxy), by (repeat (first | exact Below.refl _ _ | assumption | refine Below.setCell ?_ (by first | (simp; done) | (simp; omega) | omega) _ | refine Below.alloc1 ?_ _ | refine Below.alloc ?_ (by first | (simp; done) | (simp; omega) | omega) _ | refine Below.drew ?_ | refine Below.drewN ?_ _ | refine Below.via ?_ (by assumption)))⟩
        case measure => simp [intOf]; omega
    · have hkn : k = n := by omega
      subst hkn
      clear hr
      go_wp2
      go_ret
      have h1 := ht.out
      rw [List.take_of_length_le (by rw [HL.out]; exact Nat.le_refl _)] at h1
      exact ⟨by rw [fi_none h1]; rfl, hb⟩
set_option maxHeartbeats 400000 in
theorem Contains_any (B T n c : Nat) (A : Option Addr) (xs : List Int) (v : Int) (w : World) (hr : Rd w B T 1 A n (ints xs)) (hn : n ≤ 1048576) :
    Calls Try.prog 51 #[.slice A n c, .int .i64 v] w fun e w' => e = .returned (.bool (decide (v ∈ xs))) ∧ Below w.heap.size w w' := by
  go_enter Try.func51, Try.ntmps51
  go_wp2_with fail
  refine (Index_any B T n c A xs v _ hr hn).mono ?_
  rintro e w1 ⟨rfl, hb⟩
  go_wp2
  go_ret
  exact ⟨by rw [← fi_ge]; rfl, hb⟩
end Go.Proofs.Ytccepnhnmpmkdaa
