/- Capabilities in memory, and contracts of CapValid (impl and spec) and of what it calls. -/
import Derived.Test.YtpgmfjipkhldmaaNums
import Derived.Test.YtpgmfjipkhldmaaInts2
import Derived.Test.YtpgmfjipkhldmaaRegion
namespace Go.Proofs.Ytpgmfjipkhldmaa
set_option linter.unusedVariables false
open Go.RowKit
/-- A capability: kind, object, rights, badge. -/
abbrev Cp := Int × Int × Int × Int
abbrev capv (k o r b : Int) : Value := .agg #[.int .i64 k, .int .i64 o, .int .i64 r, .int .i64 b]
def capC (c : Cp) : List Value := [.int .i64 c.1, .int .i64 c.2.1, .int .i64 c.2.2.1, .int .i64 c.2.2.2]
def caps (cs : List Cp) : List Value := cs.flatMap capC
theorem caps_nil : caps [] = [] := rfl
theorem caps_cons (c : Cp) (cs : List Cp) : caps (c :: cs) = capC c ++ caps cs := rfl
theorem caps_length (cs : List Cp) : (caps cs).length = cs.length * 4 := by
  induction cs with
  | nil => rfl
  | cons c cs ih => rw [caps_cons, List.length_append, ih, List.length_cons, Nat.add_mul]; simp [capC]; omega
theorem caps_append (xs ys : List Cp) : caps (xs ++ ys) = caps xs ++ caps ys := by simp [caps]
theorem caps_get {cs : List Cp} {c : Cp} {k i : Nat} (h : cs[k]? = some c) (hi : i < 4) : (caps cs)[k * 4 + i]? = (capC c)[i]? := by
  induction cs generalizing k with
  | nil => cases h
  | cons d cs ih =>
    rw [caps_cons]
    cases k with
    | zero =>
      have : d = c := by simpa using h
      subst this
      rw [List.getElem?_append_left (by simp [capC]; omega)]
      simp
    | succ k =>
      rw [List.getElem?_append_right (by simp [capC]; omega)]
      have : (k + 1) * 4 + i - (capC d).length = k * 4 + i := by simp [capC]; omega
      rw [this]
      exact ih (by simpa using h)
theorem caps_take (cs : List Cp) (k : Nat) : caps (cs.take k) = (caps cs).take (k * 4) := by
  induction cs generalizing k with
  | nil => simp [caps]
  | cons c cs ih =>
    cases k with
    | zero => simp [caps]
    | succ k =>
      have e : (k + 1) * 4 = (capC c).length + k * 4 := by simp [capC]; omega
      rw [List.take_succ_cons, caps_cons, caps_cons, ih, e, List.take_length_add_append]
theorem caps_set (cs : List Cp) (k : Nat) (c : Cp) : caps (cs.set k c) = ((((caps cs).set (k * 4) (.int .i64 c.1)).set (k * 4 + 1) (.int .i64 c.2.1)).set (k * 4 + 2) (.int .i64 c.2.2.1)).set (k * 4 + 3) (.int .i64 c.2.2.2) := by
  induction cs generalizing k with
  | nil => simp [caps]
  | cons d cs ih =>
    cases k with
    | zero => simp [caps_cons, capC]
    | succ k =>
      rw [List.set_cons_succ, caps_cons, caps_cons, ih]
      have e : ∀ i, (k + 1) * 4 + i = (capC d).length + (k * 4 + i) := fun i => by simp [capC]; omega
      have e0 : (k + 1) * 4 = (capC d).length + k * 4 := by simp [capC]; omega
      rw [e 1, e 2, e 3, e0]
      simp only [List.set_append_right _ _ (Nat.le_add_right _ _), Nat.add_sub_cancel_left]
theorem caps_one (cs : List Cp) : ∀ u ∈ caps cs, u.oneCell' = true := by
  intro u hu
  obtain ⟨c, hc, hu⟩ := List.mem_flatMap.1 hu
  simp only [capC, List.mem_cons, List.not_mem_nil, or_false] at hu
  rcases hu with rfl | rfl | rfl | rfl <;> rfl
theorem caps_rep (n : Nat) : caps (List.replicate n (0, 0, 0, 0)) = List.replicate (n * 4) (.int .i64 0) := by
  induction n with
  | zero => rfl
  | succ n ih =>
    rw [List.replicate_succ, caps_cons, ih, show (n + 1) * 4 = n * 4 + 1 + 1 + 1 + 1 by omega, List.replicate_succ, List.replicate_succ, List.replicate_succ, List.replicate_succ]
    rfl
theorem made_caps (n : Nat) : (madeCells (capv 0 0 0 0).cells (n * 4)).toList = caps (List.replicate n (0, 0, 0, 0)) := by
  rw [caps_rep, List.eq_replicate_iff]
  refine ⟨by simp [size_madeCells], fun u hu => ?_⟩
  have h1 : (capv 0 0 0 0).cells = #[.int .i64 0, .int .i64 0, .int .i64 0, .int .i64 0] := rfl
  rw [h1] at hu
  unfold madeCells at hu
  simp only [Array.toList_map, List.mem_map] at hu
  obtain ⟨i, _, rfl⟩ := hu
  have h4 : i % 4 < 4 := Nat.mod_lt _ (by omega)
  have : ∀ q, q < 4 → (#[Value.int .i64 0, .int .i64 0, .int .i64 0, .int .i64 0] : Array Value)[q]! = .int .i64 0 := by
    intro q hq
    match q, hq with
    | 0, _ => rfl
    | 1, _ => rfl
    | 2, _ => rfl
    | 3, _ => rfl
  exact this _ h4
theorem caps_len {w : World} {B T n : Nat} {A : Option Addr} {cs : List Cp} (h : Rd w B T 4 A n (caps cs)) : cs.length = n := by
  have := h.1; rw [caps_length] at this; omega
theorem cap_at {w : World} {B T n k : Nat} {A : Option Addr} {cs : List Cp} (h : Rd w B T 4 A n (caps cs)) (hk : k < n) :
    ∃ b o kk oo rr bb, A = some ⟨b, o, none⟩ ∧ b < w.heap.size ∧ cs[k]? = some (kk, oo, rr, bb) ∧ w.cell? ⟨b, o + k * 4, none⟩ = some (.int .i64 kk) ∧ w.cell? ⟨b, o + k * 4 + 1, none⟩ = some (.int .i64 oo) ∧ w.cell? ⟨b, o + k * 4 + 2, none⟩ = some (.int .i64 rr) ∧ w.cell? ⟨b, o + k * 4 + 3, none⟩ = some (.int .i64 bb) := by
  obtain ⟨b, o, h1, _, _, h4⟩ := h.2 (by omega)
  have hl := caps_len h
  obtain ⟨c, hc⟩ : ∃ c, cs[k]? = some c := ⟨_, List.getElem?_eq_getElem (by omega)⟩
  obtain ⟨kk, oo, rr, bb⟩ := c
  have g : ∀ i u, (capC (kk, oo, rr, bb))[i]? = some u → w.cell? ⟨b, o + k * 4 + i, none⟩ = some u := fun i u hu => by
    have hi : i < 4 := by have := (List.getElem?_eq_some_iff.1 hu).1; simpa [capC] using this
    have := h4 (k * 4 + i) u (by rw [caps_get hc hi]; exact hu)
    rwa [← Nat.add_assoc] at this
  exact ⟨b, o, kk, oo, rr, bb, h1, World.block_lt_of_cell? w _ (g 0 _ rfl), hc, g 0 _ rfl, g 1 _ rfl, g 2 _ rfl, g 3 _ rfl⟩
/-- Element k of a slice of the call's own, written. -/
theorem Own.put4 {w : World} {B T n c : Nat} {e : TypeId} {A : Option Addr} {cs : List Cp} (h : Own w B T e 4 A n c (caps cs)) {k : Nat} (hk : k < n) (d : Cp) :
    ∃ g o, A = some ⟨g, o, none⟩ ∧ B ≤ g ∧ g < T ∧ g < w.heap.size ∧ (∀ i, i < 4 → ∃ u, w.cell? ⟨g, o + k * 4 + i, none⟩ = some u) ∧ (∀ j, w.frozen? ⟨g, j, none⟩ = false) ∧
      Own ((((w.setCell ⟨g, o + k * 4, none⟩ (.int .i64 d.1)).setCell ⟨g, o + k * 4 + 1, none⟩ (.int .i64 d.2.1)).setCell ⟨g, o + k * 4 + 2, none⟩ (.int .i64 d.2.2.1)).setCell ⟨g, o + k * 4 + 3, none⟩ (.int .i64 d.2.2.2)) B T e 4 A n c (caps (cs.set k d)) := by
  have hl := h.1
  obtain ⟨g, o, h1, h2, h3, h4, h5, h6, h7⟩ := h.at_ (by omega)
  have s0 := h7 (k * 4) (.int .i64 d.1) (by omega)
  obtain ⟨g', o', e1, -, -, -, -, -, s1⟩ := s0.at_ (by omega)
  rw [h1] at e1
  injection e1 with e1
  injection e1 with eg eo
  subst eg
  subst eo
  have s1 := s1 (k * 4 + 1) (.int .i64 d.2.1) (by rw [List.length_set]; omega)
  obtain ⟨g', o', e1, -, -, -, -, -, s2⟩ := s1.at_ (by omega)
  rw [h1] at e1
  injection e1 with e1
  injection e1 with eg eo
  subst eg
  subst eo
  have s2 := s2 (k * 4 + 2) (.int .i64 d.2.2.1) (by simp only [List.length_set]; omega)
  obtain ⟨g', o', e1, -, -, -, -, -, s3⟩ := s2.at_ (by omega)
  rw [h1] at e1
  injection e1 with e1
  injection e1 with eg eo
  subst eg
  subst eo
  have s3 := s3 (k * 4 + 3) (.int .i64 d.2.2.2) (by simp only [List.length_set]; omega)
  rw [← caps_set] at s3
  refine ⟨g, o, h1, h2, h3, h4, fun i hi => ?_, h6, by simpa only [Nat.add_assoc] using s3⟩
  have hj : k * 4 + i < (caps cs).length := by omega
  exact ⟨_, by rw [Nat.add_assoc]; exact h5 _ _ (List.getElem?_eq_getElem hj)⟩

/-! ### validity -/
def bdg (k : Int) : Bool := decide (k = 4) || decide (k = 5)
def capOk (k o r b : Int) : Bool := if k = 0 then decide (o = 0) && (decide (r = 0) && decide (b = 0)) else inB k 1 7 && (inB o 0 99 && (inB r 0 15 && (decide (b = 0) || (bdg k && inB b 0 999))))
def okC (c : Cp) : Bool := capOk c.1 c.2.1 c.2.2.1 c.2.2.2
set_option maxHeartbeats 400000 in
theorem badged_any (k : Int) (w : World) : Calls Try.prog 56 #[.int .i64 k] w fun e w' => e = .returned (.bool (bdg k)) ∧ w = w' := by
  by_cases h4 : k = 4
  · subst h4
    go_enter Try.func56, Try.ntmps56
    go_wp2
    go_ret
    exact ⟨rfl, rfl⟩
  · have h4' : (k == 4) = false := by simp [h4]
    have HV := Lib.hid (show bdg k = (k == 5) by unfold bdg; rw [decide_eq_false h4]; rfl)
    clear h4
    go_enter Try.func56, Try.ntmps56
    go_wp2
    go_ret
    exact ⟨by rw [HV.out]; rfl, rfl⟩
set_option maxHeartbeats 400000 in
theorem l2Badged_any (k : Int) (w : World) : Calls Try.prog 61 #[.int .i64 k] w fun e w' => e = .returned (.bool (bdg k)) ∧ w = w' := by
  by_cases h4 : k = 4
  · subst h4
    go_enter Try.func61, Try.ntmps61
    go_wp2
    go_ret
    exact ⟨rfl, rfl⟩
  · have h4' : (k == 4) = false := by simp [h4]
    have HV := Lib.hid (show bdg k = (k == 5) by unfold bdg; rw [decide_eq_false h4]; rfl)
    clear h4
    go_enter Try.func61, Try.ntmps61
    go_wp2
    go_ret
    exact ⟨by rw [HV.out]; rfl, rfl⟩
set_option maxHeartbeats 400000 in
theorem iRightsValid_any (n : Int) (w : World) : Calls Try.prog 30 #[.int .i64 n] w fun e w' => e = .returned (.bool (inB n 0 15)) ∧ w = w' := by
  go_enter Try.func30, Try.ntmps30
  go_wp2_with fail
  refine (in_any _ _ _ _).mono ?_
  rintro e w1 ⟨rfl, rfl⟩
  go_wp2
  go_ret
  exact ⟨rfl, rfl⟩
set_option maxHeartbeats 400000 in
theorem sRightsValid_any (n : Int) (w : World) : Calls Try.prog 60 #[.int .i64 n] w fun e w' => e = .returned (.bool (inB n 0 15)) ∧ w = w' := by
  go_enter Try.func60, Try.ntmps60
  go_wp2_with fail
  refine (l1In_any _ _ _ _).mono ?_
  rintro e w1 ⟨rfl, rfl⟩
  go_wp2
  go_ret
  exact ⟨rfl, rfl⟩
end Go.Proofs.Ytpgmfjipkhldmaa
