/- Contracts of package slices' functions at []int, of clone, different, CallsValid, TimesValid. -/
import Derived.Test.YthbfpgdfigilaaaInts
import Derived.Test.YthbfpgdfigilaaaNums
namespace Go.Proofs.Ythbfpgdfigilaaa
set_option linter.unusedVariables false
open Go.RowKit

/-- Where the first v stands; -1 if there is none. -/
def fi (xs : List Int) (v : Int) : Int := if v ∈ xs then (xs.idxOf v : Int) else -1
theorem fi_at {xs : List Int} {v : Int} {k : Nat} (h : v ∉ xs.take k) (hx : xs[k]? = some v) : fi xs v = k := by
  have hl : k < xs.length := (List.getElem?_eq_some_iff.1 hx).1
  have hm : v ∈ xs := List.mem_of_getElem? hx
  unfold fi
  rw [if_pos hm]
  have e : xs = xs.take k ++ v :: xs.drop (k + 1) := by
    have h2 : xs.drop k = v :: xs.drop (k + 1) := by
      rw [List.drop_eq_getElem_cons hl]
      congr 1
      exact (List.getElem?_eq_some_iff.1 hx).2
    rw [← h2, List.take_append_drop]
  have h3 : (xs.take k ++ v :: xs.drop (k + 1)).idxOf v = k := by
    rw [List.idxOf_append, if_neg h]
    simp
    omega
  rw [← e] at h3
  omega
theorem fi_none {xs : List Int} {v : Int} (h : v ∉ xs) : fi xs v = -1 := by unfold fi; rw [if_neg h]
theorem fi_ge {xs : List Int} {v : Int} : decide (0 ≤ fi xs v) = decide (v ∈ xs) := by
  unfold fi
  by_cases h : v ∈ xs
  · rw [if_pos h]; simp [h]
  · rw [if_neg h]; simp [h]
theorem fi_bound (xs : List Int) (v : Int) : -1 ≤ fi xs v ∧ fi xs v < xs.length + 1 := by
  unfold fi
  by_cases h : v ∈ xs
  · rw [if_pos h]
    have := List.idxOf_lt_length_of_mem h
    omega
  · rw [if_neg h]; omega
theorem notMem_succ {xs : List Int} {v x : Int} {k : Nat} (h : v ∉ xs.take k) (hx : xs[k]? = some x) (hne : v ≠ x) : v ∉ xs.take (k + 1) := by
  rw [List.take_add_one, hx]
  simp only [Option.toList_some, List.mem_append, List.mem_singleton, not_or]
  exact ⟨h, hne⟩

set_option maxHeartbeats 400000 in
theorem Clip_any (n c : Nat) (A : Option Addr) (w : World) (hA : 0 < n → ∃ b o, A = some ⟨b, o, none⟩) (hc : n ≤ c) (hn : n ≤ 1048576) :
    Calls Try.prog 75 #[.slice A n c] w fun e w' => e = .returned (.slice A n n) ∧ w = w' := by
  have hcc : (n : Int) ≤ (c : Int) := by omega
  rcases Nat.eq_zero_or_pos n with rfl | hp
  · go_enter Try.func75, Try.ntmps75
    go_wp2
    go_ret
    exact ⟨rfl, rfl⟩
  · obtain ⟨b, o, rfl⟩ := hA hp
    have hn0 : ¬ n = 0 := by omega
    clear hA
    go_enter Try.func75, Try.ntmps75
    go_wp2
    go_ret
    exact ⟨rfl, rfl⟩
set_option maxHeartbeats 400000 in
theorem Clone_any (B T n c : Nat) (A : Option Addr) (xs : List Int) (w : World) (hr : Rd w B T 1 A n (ints xs)) (hn : n ≤ 1048576) :
    Calls Try.prog 76 #[.slice A n c] w (NewInts w xs) := by
  obtain ⟨i0, hi0, hz0, hz1, hz2⟩ := info_parts Try.infoInt
  have hl := ints_len hr
  have HL := Lib.hid hl
  cases A with
  | none =>
    have h0 : n = 0 := by
      rcases Nat.eq_zero_or_pos n with h0 | h0
      · exact h0
      · obtain ⟨b, o, h, _⟩ := hr.2 h0
        cases h
    subst h0
    obtain rfl : xs = [] := List.eq_nil_of_length_eq_zero hl
    have hnil := fun W : World => Lib.run_eql_slice_nil (P := Try.prog) W 22 3 none 0 c 0 0 Try.underlying22
    go_enter Try.func76, Try.ntmps76
    go_wp2
    go_ret
    exact ⟨none, 0, rfl, Own.nil _ _ _ _ _ _, Below.refl _ _⟩
  | some ad =>
    clear hl
    have hnil := fun W : World => Lib.run_eql_slice_nil (P := Try.prog) W 22 3 (some ad) n c 0 0 Try.underlying22
    go_enter Try.func76, Try.ntmps76
    go_wp2_with (at_builtin; refine wpList_app _ rfl (.tmp 5) (.tmp 6) 22 rfl 3 i0 (.int .i64 0) 1 8 Try.underlying22 hi0 hz0 hz1 hz2 rfl (by omega) w.heap.size 0 B T (some ⟨w.heap.size, 0, none⟩) (some ad) 0 0 n c [] (ints xs) rfl rfl (Own.nil _ _ _ _ _ _) (hr.alloc _) (ints_one xs) (by unfold maxLen; omega) (by omega) (by simp) ?_; intro A1 c1 w1 hown hfr)
    go_ret
    refine ⟨A1, c1, by rw [HL.out]; simp, ?_, Below.via ((Below.refl _ _).alloc (Nat.le_refl _) _) hfr.below0⟩
    rw [HL.out]
    simpa using hown
set_option maxHeartbeats 400000 in
theorem clone_any (B T n c : Nat) (A : Option Addr) (xs : List Int) (w : World) (hr : Rd w B T 1 A n (ints xs)) (hn : n ≤ 1048576) :
    Calls Try.prog 54 #[.slice A n c] w (NewInts w xs) := by
  have hl := ints_len hr
  have HL := Lib.hid hl
  clear hl
  go_enter Try.func54, Try.ntmps54
  go_wp2_with fail
  refine (Clone_any B T n c A xs _ hr hn).mono ?_
  rintro e w1 ⟨A1, c1, rfl, ho, hb⟩
  have hle := ho.le
  go_wp2_with fail
  refine (Clip_any xs.length c1 A1 w1 ?_ hle (by rw [HL.out]; exact hn)).mono ?_
  · intro h0
    obtain ⟨b, o, h, _⟩ := ho.rd.2 h0
    exact ⟨b, o, h⟩
  rintro e w2 ⟨rfl, rfl⟩
  go_wp2
  go_ret
  refine ⟨A1, xs.length, rfl, ?_, hb⟩
  have h := ho.take (Nat.le_refl _) (Nat.le_refl _) hle
  rwa [List.take_of_length_le (by rw [ho.1]; exact Nat.le_refl _)] at h
end Go.Proofs.Ythbfpgdfigilaaa
