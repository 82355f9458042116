/- What UnpackMessage answers; plain laws. -/
import Derived.Test.YthbfpgdfigilaaaUnpack1
import Derived.Test.YthbfpgdfigilaaaSend2
namespace Go.Proofs.Ythbfpgdfigilaaa
set_option linter.unusedVariables false
open Go.RowKit
def unC (n : Int) : Cp := (uK n, uO n, uR n, uB n)
def uP (xs : List Int) : Int :=
  xs.getD 1 0 % 16
def uQ (xs : List Int) : Int := xs.getD 1 0 / 16
def unp0 (xs : List Int) : Bool := decide (2 ≤ xs.length) && (decide (0 ≤ xs.getD 1 0) && (decide (uP xs ≤ 8) && (decide (uQ xs ≤ 3) && decide ((xs.length : Int) = 2 + uP xs + uQ xs))))
def uWords (xs : List Int) : List Int := (xs.drop 2).take (uP xs).toNat
def uTail (xs : List Int) : List Int := xs.drop (2 + (uP xs).toNat)
def unpOk (xs : List Int) : Bool := unp0 xs && ((uTail xs).all unOk && msgOk (xs.getD 0 0) (uWords xs) ((uTail xs).map unC))
def unpB (xs : List Int) : Int := if unpOk xs = true then xs.getD 0 0 else 0
def unpX (xs : List Int) : List Int := if unpOk xs = true then uWords xs else []
def unpC (xs : List Int) : List Cp := if unpOk xs = true then (uTail xs).map unC else []
theorem unp_no {xs : List Int} (h : unpOk xs = false) : unpB xs = 0 ∧ unpX xs = [] ∧ unpC xs = [] ∧ unpOk xs = false := by unfold unpB unpX unpC; simp [h]
theorem unp_yes {xs : List Int} (h : unpOk xs = true) : unpB xs = xs.getD 0 0 ∧ unpX xs = uWords xs ∧ unpC xs = (uTail xs).map unC ∧ unpOk xs = true := by unfold unpB unpX unpC; simp [h]
theorem unpOk_no0 {xs : List Int} (h : unp0 xs = false) : unpOk xs = false := by unfold unpOk; rw [h]; rfl
theorem unpOk_noT {xs : List Int} {k : Nat} {x : Int} (hx : (uTail xs)[k]? = some x) (h : unOk x = false) : unpOk xs = false := by
  have : (uTail xs).all unOk = false := by
    rw [List.all_eq_false]
    exact ⟨x, List.mem_of_getElem? hx, by rw [h]; simp⟩
  unfold unpOk
  rw [this]
  simp
theorem unpOk_rest {xs : List Int} (h : unp0 xs = true) (h2 : (uTail xs).all unOk = true) : unpOk xs = msgOk (xs.getD 0 0) (uWords xs) ((uTail xs).map unC) := by
  unfold unpOk
  rw [h, h2]
  rfl
theorem unp_len {xs : List Int} : (unpX xs).length ≤ 8 ∧ (unpC xs).length ≤ 3 := by
  unfold unpX unpC
  cases h : unpOk xs
  · simp
  · have h2 := h
    unfold unpOk at h2
    simp only [Bool.and_eq_true] at h2
    have := msgOk_small h2.2.2
    simpa using this
/-- How the head of the list stands. -/
theorem unp_cases (xs : List Int) : (xs.length < 2 ∧ unp0 xs = false) ∨ ∃ x0 a, xs[0]? = some x0 ∧ xs[1]? = some a ∧ xs.getD 0 0 = x0 ∧ 2 ≤ xs.length ∧ ((a < 0 ∧ unp0 xs = false) ∨ (0 ≤ a ∧ ∃ p q : Nat, uP xs = (p : Int) ∧ uQ xs = (q : Int) ∧ a = (p : Int) + 16 * (q : Int) ∧ p < 16 ∧
    ((8 < p ∧ unp0 xs = false) ∨ (p ≤ 8 ∧ 3 < q ∧ unp0 xs = false) ∨ (p ≤ 8 ∧ q ≤ 3 ∧ xs.length ≠ 2 + p + q ∧ unp0 xs = false) ∨ (p ≤ 8 ∧ q ≤ 3 ∧ xs.length = 2 + p + q ∧ unp0 xs = true)))) := by
  by_cases hl : xs.length < 2
  · exact .inl ⟨hl, by unfold unp0; rw [decide_eq_false (by omega : ¬ 2 ≤ xs.length)]; rfl⟩
  · obtain ⟨x0, h0⟩ : ∃ x, xs[0]? = some x := ⟨_, List.getElem?_eq_getElem (by omega)⟩
    obtain ⟨a, h1⟩ : ∃ x, xs[1]? = some x := ⟨_, List.getElem?_eq_getElem (by omega)⟩
    have g0 : xs.getD 0 0 = x0 := by rw [List.getD_eq_getElem?_getD, h0]; rfl
    have g1 : xs.getD 1 0 = a := by rw [List.getD_eq_getElem?_getD, h1]; rfl
    refine .inr ⟨x0, a, h0, h1, g0, by omega, ?_⟩
    by_cases ha : 0 ≤ a
    · refine .inr ⟨ha, (uP xs).toNat, (uQ xs).toNat, ?_, ?_, ?_, ?_, ?_⟩
      · unfold uP; rw [g1]; omega
      · unfold uQ; rw [g1]; omega
      · unfold uP uQ; rw [g1]; omega
      · unfold uP; rw [g1]; omega
      · have e1 : uP xs = ((uP xs).toNat : Int) := by unfold uP; rw [g1]; omega
        have e2 : uQ xs = ((uQ xs).toNat : Int) := by unfold uQ; rw [g1]; omega
        have e3 : unp0 xs = (decide (uP xs ≤ 8) && (decide (uQ xs ≤ 3) && decide ((xs.length : Int) = 2 + uP xs + uQ xs))) := by
          unfold unp0; rw [decide_eq_true (by omega : 2 ≤ xs.length), g1, decide_eq_true ha]; rfl
        generalize (uP xs).toNat = p at *
        generalize (uQ xs).toNat = q at *
        rw [e3, e1, e2]
        by_cases c1 : p ≤ 8
        · by_cases c2 : q ≤ 3
          · by_cases c3 : xs.length = 2 + p + q
            · exact .inr (.inr (.inr ⟨c1, c2, c3, by rw [decide_eq_true (by omega), decide_eq_true (by omega), decide_eq_true (by omega)]; rfl⟩))
            · exact .inr (.inr (.inl ⟨c1, c2, c3, by rw [decide_eq_false (by omega : ¬ (xs.length : Int) = 2 + (p : Int) + (q : Int))]; simp⟩))
          · exact .inr (.inl ⟨c1, by omega, by rw [decide_eq_false (by omega : ¬ (q : Int) ≤ 3)]; simp⟩)
        · exact .inl ⟨by omega, by rw [decide_eq_false (by omega : ¬ (p : Int) ≤ 8)]; rfl⟩
    · exact .inl ⟨by omega, by unfold unp0; rw [g1, decide_eq_false ha]; simp⟩
theorem cell_ints {w : World} {B T n : Nat} {b o : Nat} {xs : List Int} (h : Rd w B T 1 (some ⟨b, o, none⟩) n (ints xs)) {k : Nat} {x : Int} (hx : xs[k]? = some x) : w.cell? ⟨b, o + k, none⟩ = some (.int .i64 x) ∧ b < w.heap.size := by
  have hk : k < n := by have := (List.getElem?_eq_some_iff.1 hx).1; rw [← ints_len h]; exact this
  obtain ⟨b', o', y, e, hb, hy, hc⟩ := ints_at h hk
  injection e with e
  injection e with e1 e2
  subst e1
  subst e2
  rw [hx] at hy
  injection hy with hy
  subst hy
  exact ⟨hc, hb⟩
/-- Behind 'm := Message{..}'. -/
def CutU (w : World) (x0 : Int) (p : Nat) (ws : List Int) (u6 : Value) (wx : World) : Prop :=
  ∃ (g : Nat) (A3 : Option Addr) (c3 B3 T3 : Nat), u6 = .pointer (some ⟨g, 0, none⟩) ∧ Blk wx g 30 #[.int .i64 x0, .slice A3 p c3, .slice none 0 0] ∧ Own wx B3 T3 3 1 A3 p c3 (ints ws) ∧ (T3 ≤ g ∨ g < B3) ∧ w.heap.size + 1 ≤ g ∧ g < wx.heap.size ∧ w.heap.size + 1 ≤ B3 ∧ T3 ≤ wx.heap.size ∧
    Blk wx w.heap.size 30 #[.int .i64 0, .slice none 0 0, .slice none 0 0] ∧ Below w.heap.size w wx
end Go.Proofs.Ythbfpgdfigilaaa
