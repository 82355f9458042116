/- What the laws on queues ask (plain laws; no program in sight). -/
import Derived.Test.YtccepnhnmpmkdaaQueues5
import Derived.Test.YtccepnhnmpmkdaaQPlain
namespace Go.Proofs.Ytccepnhnmpmkdaa
set_option linter.unusedVariables false
open Go.RowKit
theorem bad_more {yss : List (List Int)} {ys : List Int} (hy : yss[0]? = some ys) : queuesV (yss.set 0 (ys ++ [16])) = false := by
  refine queuesV_no ?_
  cases hd : diff (yss.set 0 (ys ++ [16])).flatten
  · rfl
  · have := diff_mem hd (x := 16) (by rw [set_at hy]; simp)
    simp [inB] at this
theorem bad_less {yss : List (List Int)} (h : queuesV yss = true) : queuesV (yss.drop 1) = false := by
  have := (queuesV_len h).1
  unfold queuesV
  rw [decide_eq_false (by rw [List.length_drop]; omega)]; rfl
theorem prio_is {yss : List (List Int)} {v : Int} {k : Nat} {ys : List Int} (h : queuesV yss = true) (hy : yss[k]? = some ys) : v ∈ ys ↔ prioF yss v = (k : Int) := by
  constructor
  · intro hv
    refine prioF_at (fun j zs hj hz hm => ?_) hy hv
    have hd := (queuesV_len h).2
    rw [split_at hy, List.flatten_append, List.flatten_cons] at hd
    unfold diff at hd
    simp only [Bool.and_eq_true, decide_eq_true_eq, List.nodup_append] at hd
    refine hd.2.2.2 v ?_ v (by simp [hv]) rfl
    rw [List.mem_flatten]
    exact ⟨zs, List.mem_of_getElem? (by rw [List.getElem?_take, if_pos hj]; exact hz), hm⟩
  · intro hp
    unfold prioF at hp
    cases hf : yss.findIdx? (fun ys => decide (v ∈ ys)) with
    | none => rw [hf] at hp; simp only at hp; omega
    | some j =>
      rw [hf] at hp
      simp only at hp
      have hjk : j = k := by omega
      subst hjk
      have h1 := (List.findIdx?_eq_some_iff_getElem.1 hf)
      obtain ⟨hl, h2, -⟩ := h1
      have h3 : yss[j] = ys := by rw [List.getElem?_eq_getElem hl] at hy; injection hy
      rw [h3] at h2
      simpa using h2
theorem prio_range {yss : List (List Int)} {v : Int} (h : queuesV yss = true) : -1 ≤ prioF yss v ∧ prioF yss v ≤ 7 := by
  have hl := (queuesV_len h).1
  unfold prioF
  cases hf : yss.findIdx? (fun ys => decide (v ∈ ys)) with
  | none => simp
  | some j =>
    obtain ⟨hlt, -⟩ := List.findIdx?_eq_some_iff_getElem.1 hf
    simp only
    omega
/-- What runs next: nothing, or the first of the last row that is not empty. -/
theorem next_cases (yss : List (List Int)) : rnext yss = -1 ∨ (queuesV yss = true ∧ ∃ (k : Nat) (x : Int) (l : List Int), rnext yss = x ∧ 0 ≤ x ∧ k < yss.length ∧ yss[k]? = some (x :: l) ∧ rprio yss x = (k : Int) ∧ ∀ (j : Nat) zs, k < j → yss[j]? = some zs → zs = []) := by
  cases hv : queuesV yss
  · exact .inl (rnext_bad hv)
  · rcases top_cases yss with ⟨h1, h2, h3⟩ | ⟨k, x, l, h1, h2, h3, h4, h5, h6⟩
    · exact .inl (by rw [rnext_ok hv, h2])
    · obtain ⟨a, b, c⟩ := valid_head hv h4
      exact .inr ⟨rfl, k, x, l, by rw [rnext_ok hv, h2], a, h3, h4, by rw [rprio_ok hv, c], h6⟩
end Go.Proofs.Ytccepnhnmpmkdaa
