/- Rows of integers in memory (a slice of slices), and plain laws of queues; no program in sight. -/
import Derived.Test.YtccepnhnmpmkdaaBase
namespace Go.Proofs.Ytccepnhnmpmkdaa
set_option linter.unusedVariables false
open Go.RowKit

/-- A slice whose elements are slices of integers; all of it lies from B on and below T. -/
def Rows (w : World) (B T : Nat) (A : Option Addr) (n : Nat) (yss : List (List Int)) : Prop :=
  yss.length = n ∧ ∃ cs : List Value, Rd w B T 1 A n cs ∧ ∀ (k : Nat) (ys : List Int), yss[k]? = some ys → ∃ A' c', cs[k]? = some (.slice A' ys.length c') ∧ ys.length ≤ c' ∧ Rd w B T 1 A' ys.length (ints ys)
section
variable {B T B' T' n : Nat} {w w' : World} {A : Option Addr} {yss : List (List Int)}
theorem Rows.len (h : Rows w B T A n yss) : yss.length = n := h.1
theorem Rows.nil (w : World) (B T : Nat) (A : Option Addr) : Rows w B T A 0 [] := ⟨rfl, [], Rd.nil _ _ _ _ _, fun k ys h => by simp at h⟩
theorem Rows.mono (h : Rows w B T A n yss) (hB : B' ≤ B) (hT : T ≤ T') : Rows w B' T' A n yss := by
  obtain ⟨h1, cs, h2, h3⟩ := h
  exact ⟨h1, cs, h2.mono hB hT, fun k ys hk => by obtain ⟨A', c', a, b, c⟩ := h3 k ys hk; exact ⟨A', c', a, b, c.mono hB hT⟩⟩
theorem Rows.fr (h : Rows w B T A n yss) (hf : Fr B' T' w w') (hd : T ≤ B' ∨ T' ≤ B) : Rows w' B T A n yss := by
  obtain ⟨h1, cs, h2, h3⟩ := h
  exact ⟨h1, cs, h2.fr hf hd, fun k ys hk => by obtain ⟨A', c', a, b, c⟩ := h3 k ys hk; exact ⟨A', c', a, b, c.fr hf hd⟩⟩
theorem Rows.below (h : Rows w B T A n yss) (hb : Below w.heap.size w w') : Rows w' B T A n yss := h.fr (Fr.of_below hb T T) (.inl (Nat.le_refl _))
theorem Rows.drew (h : Rows w B T A n yss) : Rows w.drew B T A n yss := h
theorem Rows.alloc (h : Rows w B T A n yss) (o : Obj) : Rows (w.alloc o) B T A n yss := h.below ((Below.refl _ _).alloc (Nat.le_refl _) o)
theorem Rows.set (h : Rows w B T A n yss) {p : Addr} (hp : p.block < B ∨ T ≤ p.block) (u : Value) : Rows (w.setCell p u) B T A n yss :=
  h.fr (B' := p.block) (T' := p.block + 1) ((Fr.refl _ _ _).setCell (Nat.le_refl _) (Nat.lt_succ_self _) u) (by omega)
/-- Row k. -/
theorem Rows.at_ (h : Rows w B T A n yss) {k : Nat} (hk : k < n) : ∃ b o ys A' c', A = some ⟨b, o, none⟩ ∧ b < w.heap.size ∧ yss[k]? = some ys ∧ w.cell? ⟨b, o + k, none⟩ = some (.slice A' ys.length c') ∧ ys.length ≤ c' ∧ Rd w B T 1 A' ys.length (ints ys) := by
  obtain ⟨h1, cs, h2, h3⟩ := h
  obtain ⟨b, o, e1, e2, e3, e4⟩ := h2.2 (by omega)
  have hy : yss[k]? = some (yss[k]'(by omega)) := List.getElem?_eq_getElem (by omega)
  obtain ⟨A', c', a, b', c⟩ := h3 k _ hy
  have hc := e4 k _ a
  exact ⟨b, o, _, A', c', e1, World.block_lt_of_cell? w _ hc, hy, hc, b', c⟩
/-- A cut 's[k:]'. -/
theorem Rows.cut (h : Rows w B T A n yss) {k cap : Nat} (hk : k ≤ n) (hc : n ≤ cap) : Rows w B T (if cap = k then A else A.map (·.add k)) (n - k) (yss.drop k) := by
  obtain ⟨h1, cs, h2, h3⟩ := h
  refine ⟨by rw [List.length_drop, h1], cs.drop k, ?_, fun j ys hj => ?_⟩
  · have := h2.cut (cap := cap) hk hc
    simpa only [Nat.mul_one] using this
  · rw [List.getElem?_drop] at hj
    obtain ⟨A', c', a, b, c⟩ := h3 _ ys hj
    exact ⟨A', c', by rw [List.getElem?_drop]; exact a, b, c⟩
end

/-- Rows with their elements, in cells. -/
def sizeOfRows (yss : List (List Int)) : Nat := yss.length + (yss.map List.length).sum
theorem sum_take_le (l : List Nat) (k : Nat) : (l.take k).sum ≤ l.sum := by
  conv => rhs; rw [← List.take_append_drop k l, List.sum_append]
  omega
theorem sum_take_succ {l : List Nat} {k x : Nat} (h : l[k]? = some x) : (l.take (k + 1)).sum = (l.take k).sum + x := by
  rw [List.take_add_one, h, List.sum_append]; simp
theorem row_le {yss : List (List Int)} {k : Nat} {ys : List Int} (h : yss[k]? = some ys) : ys.length ≤ (yss.map List.length).sum := by
  have h1 : (yss.map List.length)[k]? = some ys.length := by rw [List.getElem?_map, h]; rfl
  have h2 := sum_take_succ h1
  have h3 := sum_take_le (yss.map List.length) (k + 1)
  omega
theorem row_small {yss : List (List Int)} {k N : Nat} {ys : List Int} (hN : sizeOfRows yss ≤ N) (h : yss[k]? = some ys) : ys.length ≤ N := by
  have := row_le h
  unfold sizeOfRows at hN
  omega

end Go.Proofs.Ytccepnhnmpmkdaa
