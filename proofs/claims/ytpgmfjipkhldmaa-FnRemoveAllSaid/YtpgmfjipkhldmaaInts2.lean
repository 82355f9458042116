/- Contracts of package slices' functions at []int, of clone, different, CallsValid, TimesValid. -/
import Derived.Test.YtpgmfjipkhldmaaInts
import Derived.Test.YtpgmfjipkhldmaaNums
namespace Go.Proofs.Ytpgmfjipkhldmaa
set_option linter.unusedVariables false
open Go.RowKit

/-- Where the first v stands; -1 if there is none. -/
def fi (xs : List Int) (v : Int) : Int := if v ∈ xs then (xs.idxOf v : Int) else -1
theorem fi_at {xs : List Int} {v : Int} {k : Nat} (h : v ∉ xs.take k) (hx : xs[k]? = some v) : fi xs v = k := by
  have hl : k < xs.length := (List.getElem?_eq_some_iff.1 hx).1
  have hm : v ∈ xs := List.mem_of_getElem? hx
  unfold fi
  rw [if_pos hm]
  have e : xs = xs.take k ++ v :: xs.drop (k + 1) := by
    have h2 : xs.drop k = v :: xs.drop (k + 1) := by
      rw [List.drop_eq_getElem_cons hl]
      congr 1
      exact (List.getElem?_eq_some_iff.1 hx).2
    rw [← h2, List.take_append_drop]
  have h3 : (xs.take k ++ v :: xs.drop (k + 1)).idxOf v = k := by
    rw [List.idxOf_append, if_neg h]
    simp
    omega
  rw [← e] at h3
  omega
theorem fi_none {xs : List Int} {v : Int} (h : v ∉ xs) : fi xs v = -1 := by unfold fi; rw [if_neg h]
theorem fi_ge {xs : List Int} {v : Int} : decide (0 ≤ fi xs v) = decide (v ∈ xs) := by
  unfold fi
  by_cases h : v ∈ xs
  · rw [if_pos h]; simp [h]
  · rw [if_neg h]; simp [h]
theorem fi_bound (xs : List Int) (v : Int) : -1 ≤ fi xs v ∧ fi xs v < xs.length + 1 := by
  unfold fi
  by_cases h : v ∈ xs
  · rw [if_pos h]
    have := List.idxOf_lt_length_of_mem h
    omega
  · rw [if_neg h]; omega
theorem notMem_succ {xs : List Int} {v x : Int} {k : Nat} (h : v ∉ xs.take k) (hx : xs[k]? = some x) (hne : v ≠ x) : v ∉ xs.take (k + 1) := by
  rw [List.take_add_one, hx]
  simp only [Option.toList_some, List.mem_append, List.mem_singleton, not_or]
  exact ⟨h, hne⟩

set_option maxHeartbeats 400000 in
theorem Clip_any (n c : Nat) (A : Option Addr) (w : World) (hA : 0 < n → ∃ b o, A = some ⟨b, o, none⟩) (hc : n ≤ c) (hn : n ≤ 1048576) :
    Calls Try.prog 50 #[.slice A n c] w fun e w' => e = .returned (.slice A n n) ∧ w = w' := by
  have hcc : (n : Int) ≤ (c : Int) := by omega
  rcases Nat.eq_zero_or_pos n with rfl | hp
  · go_enter Try.func50, Try.ntmps50
    go_wp2
    go_ret
    exact ⟨rfl, rfl⟩
  · obtain ⟨b, o, rfl⟩ := hA hp
    have hn0 : ¬ n = 0 := by omega
    clear hA
    go_enter Try.func50, Try.ntmps50
    go_wp2
    go_ret
    exact ⟨rfl, rfl⟩
end Go.Proofs.Ytpgmfjipkhldmaa
