/- Plain laws of swapping two places of a list. -/
import Derived.Test.YthjjhlgdljkkfaaPlaces4
import Derived.Test.YthjjhlgdljkkfaaDrawPlaces
import Derived.Test.YthjjhlgdljkkfaaAlive
namespace Go.Proofs.Ythjjhlgdljkkfaa
set_option linter.unusedVariables false
open Go.RowKit
theorem Below.keep {W w' : World} (hb : Below W.heap.size W w') {p : Addr} {v : Value} (h : W.cell? p = some v) : w'.cell? p = some v := (hb.cell (World.block_lt_of_cell? W _ h)).trans h
theorem swp_get {xs : List Int} {i j : Nat} (hi : i < xs.length) (hj : j < xs.length) (t : Nat) : (swp xs i j)[t]? = if t = j then xs[i]? else if t = i then xs[j]? else xs[t]? := by
  unfold swp
  simp only [List.getD, List.getElem?_eq_getElem hi, List.getElem?_eq_getElem hj, Option.getD_some]
  rw [List.getElem?_set]
  simp only [List.length_set]
  by_cases h1 : j = t
  · subst h1; simp [hj]
  · have h1' : ¬ t = j := fun e => h1 e.symm
    rw [if_neg h1, if_neg h1', List.getElem?_set]
    by_cases h2 : i = t
    · subst h2; simp [hi]
    · have h2' : ¬ t = i := fun e => h2 e.symm
      rw [if_neg h2, if_neg h2']
theorem swp_perm {xs : List Int} {i j : Nat} (hi : i < xs.length) (hj : j < xs.length) : (swp xs i j).Perm xs := by
  have h := @List.set_set_perm Int xs i j hi hj
  unfold swp
  simpa only [List.getD, List.getElem?_eq_getElem hi, List.getElem?_eq_getElem hj, Option.getD_some] using h
theorem placesV_swp {xs : List Int} {i j : Nat} (hi : i < xs.length) (hj : j < xs.length) (h : placesV xs = true) : placesV (swp xs i j) = true := by
  have hp := swp_perm hi hj
  unfold placesV spots at *
  simp only [Bool.and_eq_true, decide_eq_true_eq] at *
  exact ⟨by rw [hp.length_eq]; exact h.1, by rw [hp.all_eq]; exact h.2.1, ((hp.filter _).nodup_iff).2 h.2.2⟩
theorem swp_back {xs : List Int} {i j : Nat} (hi : i < xs.length) (hj : j < xs.length) : swp (swp xs i j) j i = xs := by
  apply List.ext_getElem?
  intro t
  rw [swp_get (by rw [swp_len]; exact hj) (by rw [swp_len]; exact hi), swp_get hi hj, swp_get hi hj, swp_get hi hj]
  by_cases h1 : t = i
  · subst h1; simp
  · by_cases h2 : t = j
    · subst h2
      rw [if_neg h1, if_pos rfl]
      by_cases h3 : i = t
      · omega
      · rw [if_neg h3, if_pos rfl]
    · rw [if_neg h1, if_neg h2, if_neg h2, if_neg h1]
theorem swp_self {xs : List Int} {i : Nat} (hi : i < xs.length) : swp xs i i = xs := by
  apply List.ext_getElem?
  intro t
  rw [swp_get hi hi]
  by_cases h1 : t = i
  · subst h1; simp
  · rw [if_neg h1, if_neg h1]
theorem swp_turn {xs : List Int} {i j k : Nat} (hi : i < xs.length) (hj : j < xs.length) (hk : k < xs.length) (h1 : k ≠ i) (h2 : k ≠ j) (h3 : i ≠ j) : swp (swp (swp xs i k) k j) i k = swp xs i j := by
  apply List.ext_getElem?
  intro t
  have l1 : (swp xs i k).length = xs.length := swp_len _ _ _
  have l2 : (swp (swp xs i k) k j).length = xs.length := by rw [swp_len, swp_len]
  simp only [swp_get (by rw [l2]; exact hi : i < (swp (swp xs i k) k j).length) (by rw [l2]; exact hk), swp_get (by rw [l1]; exact hk : k < (swp xs i k).length) (by rw [l1]; exact hj), swp_get hi hk, swp_get hi hj]
  by_cases a1 : t = k
  · subst a1
    simp [h1, h2, h3, h1.symm]
  · by_cases a2 : t = i
    · subst a2
      simp [h2, h3, h1.symm, h2.symm, h3.symm]
    · by_cases a3 : t = j
      · subst a3
        simp [h2.symm, h3.symm]
      · simp [a1, a2, a3]
/-- What exchange does, by cases. -/
theorem ex_case (may : Bool) (xs : List Int) (a b : Int) : (exO may xs a b = false ∧ exL may xs a b = []) ∨ (exO may xs a b = false ∧ exL may xs a b = xs) ∨
    (exO may xs a b = true ∧ placesV xs = true ∧ may = true ∧ ∃ (i j : Nat) (x y : Int), a = (i : Int) ∧ b = (j : Int) ∧ i < xs.length ∧ j < xs.length ∧ xs[i]? = some x ∧ xs[j]? = some y ∧ exL may xs a b = swp xs i j) := by
  cases h : placesV xs
  · exact .inl ⟨(ex_no1 h).2, (ex_no1 h).1⟩
  · cases h2 : (inR xs a && (inR xs b && may))
    · exact .inr (.inl ⟨(ex_no2 h h2).2, (ex_no2 h h2).1⟩)
    · have h3 := h2
      simp only [Bool.and_eq_true] at h3
      obtain ⟨ha, hb, rfl⟩ := h3
      obtain ⟨i, x, rfl, hi, hx⟩ := inR_at ha
      obtain ⟨j, y, rfl, hj, hy⟩ := inR_at hb
      have hy2 := ex_yes h h2 hx hy
      exact .inr (.inr ⟨hy2.2, rfl, rfl, i, j, x, y, rfl, rfl, hi, hj, hx, hy, by rw [hy2.1, swp_at hx hy]⟩)
theorem inR_nat {xs : List Int} {i : Nat} (h : i < xs.length) : inR xs (i : Int) = true := by unfold inR; rw [inB_true]; omega
theorem ex_swap {xs : List Int} {i j : Nat} (h : placesV xs = true) (hi : i < xs.length) (hj : j < xs.length) : exL true xs (i : Int) (j : Int) = swp xs i j ∧ exO true xs (i : Int) (j : Int) = true := by
  have hx := List.getElem?_eq_getElem hi
  have hy := List.getElem?_eq_getElem hj
  have := ex_yes h (by rw [inR_nat hi, inR_nat hj]; rfl) hx hy
  rw [this.1, swp_at hx hy]
  exact ⟨rfl, this.2⟩
theorem spots_half {xs : List Int} (k : Nat) (h : placesV xs = true) : placesV (xs.take k) = true := by
  unfold placesV at *
  simp only [Bool.and_eq_true, decide_eq_true_eq] at *
  exact ⟨by rw [List.length_take]; omega, spots_take k h.2⟩
theorem spots_twice (xs : List Int) (a : Int) (h : 0 ≤ a) : placesV (xs ++ [a, a]) = false := by
  have h : spots ((xs ++ [a]) ++ [a]) = false := by rw [spots_snoc]; simp [show ¬ a < 0 by omega]
  unfold placesV
  rw [show xs ++ [a, a] = (xs ++ [a]) ++ [a] by simp, h]
  simp
theorem findP_case (xs : List Int) (v : Int) : findP xs v = -1 ∨ (0 ≤ v ∧ ∃ k : Nat, findP xs v = (k : Int) ∧ k < xs.length ∧ xs[k]? = some v) := by
  unfold findP
  split
  · rename_i h
    unfold fi
    split
    · rename_i hm
      have hl := List.idxOf_lt_length_of_mem hm
      exact .inr ⟨h.2, xs.idxOf v, rfl, hl, by rw [List.getElem?_eq_getElem hl, List.getElem_idxOf hl]⟩
    · exact .inl rfl
  · exact .inl rfl
end Go.Proofs.Ythjjhlgdljkkfaa
