/- Queues with a thread more (plain laws; no program in sight). -/
import Derived.Test.YtccepnhnmpmkdaaQueues4
namespace Go.Proofs.Ytccepnhnmpmkdaa
set_option linter.unusedVariables false
open Go.RowKit
theorem split_at {yss : List (List Int)} {p : Nat} {ys : List Int} (hy : yss[p]? = some ys) : yss = yss.take p ++ ys :: yss.drop (p + 1) := by
  obtain ⟨hl, rfl⟩ := List.getElem?_eq_some_iff.1 hy
  rw [List.getElem_cons_drop, List.take_append_drop]
theorem set_at {yss : List (List Int)} {p : Nat} {ys zs : List Int} (hy : yss[p]? = some ys) : yss.set p zs = yss.take p ++ zs :: yss.drop (p + 1) := by
  obtain ⟨hl, -⟩ := List.getElem?_eq_some_iff.1 hy
  rw [List.set_eq_take_append_cons_drop, if_pos hl]
theorem prio_notin {yss : List (List Int)} {v : Int} (h : prioF yss v < 0) : v ∉ yss.flatten := by
  intro hm
  obtain ⟨zs, hz, hv⟩ := List.mem_flatten.1 hm
  unfold prioF at h
  cases hf : yss.findIdx? (fun ys => decide (v ∈ ys)) with
  | none =>
    have := List.findIdx?_eq_none_iff.1 hf zs hz
    simp [hv] at this
  | some k => rw [hf] at h; simp only at h; omega
theorem add_valid {yss : List (List Int)} {p : Nat} {ys : List Int} {v : Int} (h : queuesV yss = true) (hy : yss[p]? = some ys) (hv : inB v 0 15 = true) (hn : prioF yss v < 0) : queuesV (yss.set p (ys ++ [v])) = true := by
  obtain ⟨h1, h2⟩ := queuesV_len h
  have hni := prio_notin hn
  unfold queuesV
  rw [Bool.and_eq_true, decide_eq_true_eq, List.length_set]
  refine ⟨h1, ?_⟩
  rw [set_at hy]
  rw [split_at hy] at h2 hni
  rw [List.flatten_append, List.flatten_cons] at *
  generalize (yss.take p).flatten = a at *
  generalize (yss.drop (p + 1)).flatten = b at *
  unfold diff at *
  simp only [List.all_append, List.all_cons, List.all_nil, Bool.and_true, Bool.and_eq_true, decide_eq_true_eq, List.nodup_append, List.mem_append, List.mem_singleton, List.nodup_cons, List.not_mem_nil, not_false_eq_true, List.nodup_nil, and_true, true_and, not_or] at *
  obtain ⟨⟨a1, a2, a3⟩, a4, ⟨a5, a6, a7⟩, a8⟩ := h2
  obtain ⟨n1, n2, n3⟩ := hni
  refine ⟨⟨a1, ⟨a2, hv⟩, a3⟩, a4, ⟨⟨a5, ?_⟩, a6, ?_⟩, ?_⟩
  · intro x hx y hy; subst hy; exact fun e => n2 (e ▸ hx)
  · rintro x (hx | hx) y hy
    · exact a7 x hx y hy
    · subst hx; exact fun e => n3 (e ▸ hy)
  · rintro x hx y ((hy | hy) | hy)
    · exact a8 x hx y (.inl hy)
    · subst hy; exact fun e => n1 (e ▸ hx)
    · exact a8 x hx y (.inr hy)
theorem add_size {yss : List (List Int)} {p : Nat} {ys zs : List Int} (hy : yss[p]? = some ys) : sizeOfRows (yss.set p (ys ++ zs)) = sizeOfRows yss + zs.length := by
  unfold sizeOfRows
  rw [List.length_set, set_at hy]
  conv => rhs; rw [split_at hy]
  simp only [List.map_append, List.map_cons, List.sum_append, List.sum_cons, List.length_append, List.length_cons, List.length_take, List.length_drop]
  have := (List.getElem?_eq_some_iff.1 hy).1
  omega
theorem size_drop {yss : List (List Int)} : sizeOfRows (yss.drop 1) ≤ sizeOfRows yss := by
  cases yss with
  | nil => simp
  | cons y yss => unfold sizeOfRows; simp; omega
theorem size_nils (n : Nat) : sizeOfRows (List.replicate n []) = n := by
  unfold sizeOfRows
  induction n with
  | zero => rfl
  | succ n ih => rw [List.replicate_succ, List.map_cons, List.sum_cons, List.length_cons]; simp at *
theorem nils_valid : queuesV (List.replicate 8 []) = true := by decide
theorem size_take {yss : List (List Int)} {k : Nat} : sizeOfRows (yss.take k) ≤ sizeOfRows yss := by
  unfold sizeOfRows
  have h1 := sum_take_le (yss.map List.length) k
  rw [← List.map_take] at h1
  rw [List.length_take]
  omega
end Go.Proofs.Ytccepnhnmpmkdaa
