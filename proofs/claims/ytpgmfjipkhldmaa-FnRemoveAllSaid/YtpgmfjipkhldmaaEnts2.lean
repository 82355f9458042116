/- Entries of derivation trees in memory: whole entries written, made, and marked; no program in sight. -/
import Derived.Test.YtpgmfjipkhldmaaEnts
namespace Go.Proofs.Ytpgmfjipkhldmaa
set_option linter.unusedVariables false
open Go.RowKit
theorem Own.put {w : World} {B T n c size g o : Nat} {e : TypeId} {xs : List Value} (h : Own w B T e size (some ⟨g, o, none⟩) n c xs) (hn : 0 < n) (j : Nat) (u : Value) (hj : j < xs.length) : Own (w.setCell ⟨g, o + j, none⟩ u) B T e size (some ⟨g, o, none⟩) n c (xs.set j u) := by
  obtain ⟨g', o', e1, -, -, -, -, -, h7⟩ := h.at_ hn
  injection e1 with e1
  injection e1 with eg eo
  subst eg
  subst eo
  exact h7 j u hj
/-- Entry k of a slice of the call's own, written whole. -/
theorem Own.put6 {w : World} {B T n c : Nat} {e : TypeId} {A : Option Addr} {es : List En} (h : Own w B T e 6 A n c (ents es)) {k : Nat} (hk : k < n) (d : En) :
    ∃ g o, A = some ⟨g, o, none⟩ ∧ B ≤ g ∧ g < T ∧ g < w.heap.size ∧ (∀ i, i < 6 → ∃ u, w.cell? ⟨g, o + k * 6 + i, none⟩ = some u) ∧ (∀ j, w.frozen? ⟨g, j, none⟩ = false) ∧
      Own ((((((w.setCell ⟨g, o + k * 6, none⟩ (.int .i64 d.1.1)).setCell ⟨g, o + k * 6 + 1, none⟩ (.int .i64 d.1.2.1)).setCell ⟨g, o + k * 6 + 2, none⟩ (.int .i64 d.1.2.2.1)).setCell ⟨g, o + k * 6 + 3, none⟩ (.int .i64 d.1.2.2.2)).setCell ⟨g, o + k * 6 + 4, none⟩ (.int .i64 d.2.1)).setCell ⟨g, o + k * 6 + 5, none⟩ (.bool d.2.2)) B T e 6 A n c (ents (es.set k d)) := by
  have hl := h.1
  have hn : 0 < n := by omega
  obtain ⟨g, o, h1, h2, h3, h4, h5, h6, h7⟩ := h.at_ hn
  subst h1
  have s0 := h.put hn (k * 6) (.int .i64 d.1.1) (by omega)
  have s1 := s0.put hn (k * 6 + 1) (.int .i64 d.1.2.1) (by simp only [List.length_set]; omega)
  have s2 := s1.put hn (k * 6 + 2) (.int .i64 d.1.2.2.1) (by simp only [List.length_set]; omega)
  have s3 := s2.put hn (k * 6 + 3) (.int .i64 d.1.2.2.2) (by simp only [List.length_set]; omega)
  have s4 := s3.put hn (k * 6 + 4) (.int .i64 d.2.1) (by simp only [List.length_set]; omega)
  have s5 := s4.put hn (k * 6 + 5) (.bool d.2.2) (by simp only [List.length_set]; omega)
  rw [ents_set]
  unfold _root_.Go.Proofs.Ytpgmfjipkhldmaa.put6
  refine ⟨g, o, rfl, h2, h3, h4, fun i hi => ?_, h6, by simpa only [Nat.add_assoc] using s5⟩
  have hj : k * 6 + i < (ents es).length := by omega
  exact ⟨_, by rw [Nat.add_assoc]; exact h5 _ _ (List.getElem?_eq_getElem hj)⟩
def e0 : En := ((0, 0, 0, 0), 0, false)
theorem made_ents (n : Nat) : (madeCells (entv 0 0 0 0 0 false).cells (n * 6)).toList = ents (List.replicate n e0) := by
  have hz : (entv 0 0 0 0 0 false).cells = #[.int .i64 0, .int .i64 0, .int .i64 0, .int .i64 0, .int .i64 0, .bool false] := rfl
  rw [hz]
  apply List.ext_getElem?
  intro i
  by_cases hi : i < n * 6
  · have hk : (List.replicate n e0)[i / 6]? = some e0 := by rw [List.getElem?_replicate, if_pos (by omega)]
    have hg := ents_get hk (Nat.mod_lt i (show 6 > 0 by omega))
    rw [show i / 6 * 6 + i % 6 = i from Nat.div_add_mod' i 6] at hg
    rw [hg]
    have hm : i % 6 < 6 := Nat.mod_lt _ (by omega)
    have hq : ∀ q, q < 6 → (entC e0)[q]? = some ((#[Value.int .i64 0, .int .i64 0, .int .i64 0, .int .i64 0, .int .i64 0, .bool false] : Array Value)[q]!) := by
      intro q hq
      match q, hq with
      | 0, _ => rfl
      | 1, _ => rfl
      | 2, _ => rfl
      | 3, _ => rfl
      | 4, _ => rfl
      | 5, _ => rfl
    rw [hq _ hm]
    unfold madeCells
    rw [Array.getElem?_toList, Array.getElem?_map, Array.getElem?_range, if_pos hi]
    rfl
  · rw [List.getElem?_eq_none (by simp [size_madeCells]; omega), List.getElem?_eq_none (by rw [ents_length]; simp; omega)]
theorem take_rep_setE (es : List En) (n k : Nat) (x : En) (hl : es.length = n) (hk : k < n) (hx : es[k]? = some x) :
    (es.take k ++ List.replicate (n - k) e0).set k x = es.take (k + 1) ++ List.replicate (n - (k + 1)) e0 := by
  have e1 : n - k = (n - (k + 1)) + 1 := by omega
  rw [e1, List.replicate_succ, List.set_append_right _ _ (by simp; omega)]
  have e2 : k - (es.take k).length = 0 := by simp; omega
  rw [e2, List.set_cons_zero, List.take_add_one, hx]
  simp
def mk6 (q : Int) : En := ((q, q + 1, q + 1 + 1, q + 1 + 1 + 1), q + 1 + 1 + 1 + 1, ((q + 1 + 1 + 1 + 1 + 1) % 3 == 0))
def marksE (k : Int) (n : Nat) : List En := (List.range n).map fun (j : Nat) => mk6 (k + 6 * (j : Int))
theorem marksE_length (k : Int) (n : Nat) : (marksE k n).length = n := by simp [marksE]
theorem marksE_get (k : Int) (n j : Nat) (h : j < n) : (marksE k n)[j]? = some (mk6 (k + 6 * (j : Int))) := by simp [marksE, h]
theorem marksE_set (k : Int) (xs : List En) (n j : Nat) (hl : xs.length = n) (h : j < n) : (marksE k j ++ xs.drop j).set j (mk6 (k + 6 * (j : Int))) = marksE k (j + 1) ++ xs.drop (j + 1) := by
  rw [List.set_append_right _ _ (by simp [marksE_length])]
  have e : xs.drop j = xs[j] :: xs.drop (j + 1) := List.drop_eq_getElem_cons (by omega)
  rw [marksE_length, Nat.sub_self, e, List.set_cons_zero]
  simp [marksE, List.range_succ]
end Go.Proofs.Ytpgmfjipkhldmaa
