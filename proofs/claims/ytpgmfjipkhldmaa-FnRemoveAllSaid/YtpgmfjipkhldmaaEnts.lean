/- Entries of derivation trees in memory: six cells an element; no program in sight. -/
import Derived.Test.YtpgmfjipkhldmaaTree1
namespace Go.Proofs.Ytpgmfjipkhldmaa
set_option linter.unusedVariables false
open Go.RowKit
abbrev entv (k o r b p : Int) (g : Bool) : Value := .agg #[.int .i64 k, .int .i64 o, .int .i64 r, .int .i64 b, .int .i64 p, .bool g]
def entC (e : En) : List Value := [.int .i64 e.1.1, .int .i64 e.1.2.1, .int .i64 e.1.2.2.1, .int .i64 e.1.2.2.2, .int .i64 e.2.1, .bool e.2.2]
def ents (es : List En) : List Value := es.flatMap entC
theorem ents_nil : ents [] = [] := rfl
theorem ents_cons (e : En) (es : List En) : ents (e :: es) = entC e ++ ents es := rfl
theorem ents_length (es : List En) : (ents es).length = es.length * 6 := by
  induction es with
  | nil => rfl
  | cons e es ih => rw [ents_cons, List.length_append, ih, List.length_cons, Nat.add_mul]; simp [entC]; omega
theorem ents_append (xs ys : List En) : ents (xs ++ ys) = ents xs ++ ents ys := by simp [ents]
theorem ents_get {es : List En} {e : En} {k i : Nat} (h : es[k]? = some e) (hi : i < 6) : (ents es)[k * 6 + i]? = (entC e)[i]? := by
  induction es generalizing k with
  | nil => cases h
  | cons d es ih =>
    rw [ents_cons]
    cases k with
    | zero =>
      have : d = e := by simpa using h
      subst this
      rw [List.getElem?_append_left (by simp [entC]; omega)]
      simp
    | succ k =>
      rw [List.getElem?_append_right (by simp [entC]; omega)]
      have : (k + 1) * 6 + i - (entC d).length = k * 6 + i := by simp [entC]; omega
      rw [this]
      exact ih (by simpa using h)
theorem ents_take (es : List En) (k : Nat) : ents (es.take k) = (ents es).take (k * 6) := by
  induction es generalizing k with
  | nil => simp [ents]
  | cons e es ih =>
    cases k with
    | zero => simp [ents]
    | succ k =>
      have e6 : (k + 1) * 6 = (entC e).length + k * 6 := by simp [entC]; omega
      rw [List.take_succ_cons, ents_cons, ents_cons, ih, e6, List.take_length_add_append]
/-- One entry is written whole. -/
def put6 (cs : List Value) (k : Nat) (e : En) : List Value := (((((cs.set (k * 6) (.int .i64 e.1.1)).set (k * 6 + 1) (.int .i64 e.1.2.1)).set (k * 6 + 2) (.int .i64 e.1.2.2.1)).set (k * 6 + 3) (.int .i64 e.1.2.2.2)).set (k * 6 + 4) (.int .i64 e.2.1)).set (k * 6 + 5) (.bool e.2.2)
theorem ents_set (es : List En) (k : Nat) (e : En) : ents (es.set k e) = put6 (ents es) k e := by
  unfold put6
  induction es generalizing k with
  | nil => simp [ents]
  | cons d es ih =>
    cases k with
    | zero => simp [ents_cons, entC]
    | succ k =>
      rw [List.set_cons_succ, ents_cons, ents_cons, ih]
      have e1 : ∀ i, (k + 1) * 6 + i = (entC d).length + (k * 6 + i) := fun i => by simp [entC]; omega
      have e0 : (k + 1) * 6 = (entC d).length + k * 6 := by simp [entC]; omega
      rw [e1 1, e1 2, e1 3, e1 4, e1 5, e0]
      simp only [List.set_append_right _ _ (Nat.le_add_right _ _), Nat.add_sub_cancel_left]
theorem ents_one (es : List En) : ∀ u ∈ ents es, u.oneCell' = true := by
  intro u hu
  obtain ⟨e, he, hu⟩ := List.mem_flatMap.1 hu
  simp only [entC, List.mem_cons, List.not_mem_nil, or_false] at hu
  rcases hu with rfl | rfl | rfl | rfl | rfl | rfl <;> rfl
theorem ents_len {w : World} {B T n : Nat} {A : Option Addr} {es : List En} (h : Rd w B T 6 A n (ents es)) : es.length = n := by
  have := h.1; rw [ents_length] at this; omega
/-- The parent of an entry is written. -/
theorem ents_setP {es : List En} {k : Nat} {c : Cp} {p : Int} {g : Bool} (h : es[k]? = some (c, p, g)) (v : Int) : ents (es.set k (c, v, g)) = (ents es).set (k * 6 + 4) (.int .i64 v) := by
  induction es generalizing k with
  | nil => cases h
  | cons d es ih =>
    cases k with
    | zero =>
      have : d = (c, p, g) := by simpa using h
      subst this
      simp [ents_cons, entC]
    | succ k =>
      rw [List.set_cons_succ, ents_cons, ents_cons, ih (by simpa using h)]
      have e1 : (k + 1) * 6 + 4 = (entC d).length + (k * 6 + 4) := by simp [entC]; omega
      rw [e1, List.set_append_right _ _ (Nat.le_add_right _ _), Nat.add_sub_cancel_left]
/-- That an entry has been removed is written. -/
theorem ents_setG {es : List En} {k : Nat} {c : Cp} {p : Int} {g : Bool} (h : es[k]? = some (c, p, g)) (v : Bool) : ents (es.set k (c, p, v)) = (ents es).set (k * 6 + 5) (.bool v) := by
  induction es generalizing k with
  | nil => cases h
  | cons d es ih =>
    cases k with
    | zero =>
      have : d = (c, p, g) := by simpa using h
      subst this
      simp [ents_cons, entC]
    | succ k =>
      rw [List.set_cons_succ, ents_cons, ents_cons, ih (by simpa using h)]
      have e1 : (k + 1) * 6 + 5 = (entC d).length + (k * 6 + 5) := by simp [entC]; omega
      rw [e1, List.set_append_right _ _ (Nat.le_add_right _ _), Nat.add_sub_cancel_left]
/-- Where entry k lies. -/
theorem ent_at {w : World} {B T n k : Nat} {A : Option Addr} {es : List En} (h : Rd w B T 6 A n (ents es)) (hk : k < n) :
    ∃ g o kk oo rr bb pp gg, A = some ⟨g, o, none⟩ ∧ g < w.heap.size ∧ es[k]? = some ((kk, oo, rr, bb), pp, gg) ∧ w.cell? ⟨g, o + k * 6, none⟩ = some (.int .i64 kk) ∧ w.cell? ⟨g, o + k * 6 + 1, none⟩ = some (.int .i64 oo) ∧ w.cell? ⟨g, o + k * 6 + 2, none⟩ = some (.int .i64 rr) ∧ w.cell? ⟨g, o + k * 6 + 3, none⟩ = some (.int .i64 bb) ∧ w.cell? ⟨g, o + k * 6 + 4, none⟩ = some (.int .i64 pp) ∧ w.cell? ⟨g, o + k * 6 + 5, none⟩ = some (.bool gg) := by
  obtain ⟨g, o, h1, _, _, h4⟩ := h.2 (by omega)
  have hl := ents_len h
  obtain ⟨e, he⟩ : ∃ e, es[k]? = some e := ⟨_, List.getElem?_eq_getElem (by omega)⟩
  obtain ⟨⟨kk, oo, rr, bb⟩, pp, gg⟩ := e
  have q : ∀ i u, (entC ((kk, oo, rr, bb), pp, gg))[i]? = some u → w.cell? ⟨g, o + k * 6 + i, none⟩ = some u := fun i u hu => by
    have hi : i < 6 := by have := (List.getElem?_eq_some_iff.1 hu).1; simpa [entC] using this
    have := h4 (k * 6 + i) u (by rw [ents_get he hi]; exact hu)
    rwa [← Nat.add_assoc] at this
  exact ⟨g, o, kk, oo, rr, bb, pp, gg, h1, World.block_lt_of_cell? w _ (q 0 _ rfl), he, q 0 _ rfl, q 1 _ rfl, q 2 _ rfl, q 3 _ rfl, q 4 _ rfl, q 5 _ rfl⟩
/-- Where entry k of a slice of the call's own lies, and that its last two cells may be written. -/
theorem Own.ent {w : World} {B T n c : Nat} {e : TypeId} {A : Option Addr} {es : List En} (h : Own w B T e 6 A n c (ents es)) {k : Nat} {cp : Cp} {pp : Int} {gg : Bool} (hk : es[k]? = some (cp, pp, gg)) :
    ∃ g o, A = some ⟨g, o, none⟩ ∧ B ≤ g ∧ g < T ∧ g < w.heap.size ∧ (∀ j, w.frozen? ⟨g, j, none⟩ = false) ∧ (∃ u, w.cell? ⟨g, o + k * 6 + 4, none⟩ = some u) ∧ (∃ u, w.cell? ⟨g, o + k * 6 + 5, none⟩ = some u) ∧
      (∀ v, Own (w.setCell ⟨g, o + k * 6 + 4, none⟩ (.int .i64 v)) B T e 6 A n c (ents (es.set k (cp, v, gg)))) ∧ (∀ v, Own (w.setCell ⟨g, o + k * 6 + 5, none⟩ (.bool v)) B T e 6 A n c (ents (es.set k (cp, pp, v)))) := by
  have hl : es.length = n := ents_len h.rd
  have hkl := (List.getElem?_eq_some_iff.1 hk).1
  obtain ⟨g, o, h1, h2, h3, h4, h5, h6, h7⟩ := h.at_ (by omega)
  have hlen := ents_length es
  refine ⟨g, o, h1, h2, h3, h4, h6, ⟨.int .i64 pp, ?_⟩, ⟨.bool gg, ?_⟩, fun v => ?_, fun v => ?_⟩
  · have := h5 (k * 6 + 4) (.int .i64 pp) (by rw [ents_get hk (by omega)]; rfl)
    rwa [← Nat.add_assoc] at this
  · have := h5 (k * 6 + 5) (.bool gg) (by rw [ents_get hk (by omega)]; rfl)
    rwa [← Nat.add_assoc] at this
  · rw [ents_setP hk, Nat.add_assoc]
    exact h7 (k * 6 + 4) _ (by omega)
  · rw [ents_setG hk, Nat.add_assoc]
    exact h7 (k * 6 + 5) _ (by omega)
end Go.Proofs.Ytpgmfjipkhldmaa
