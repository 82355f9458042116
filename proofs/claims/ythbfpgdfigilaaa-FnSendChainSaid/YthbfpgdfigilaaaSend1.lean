/- Contracts of the copies of slices of capabilities, and what SendOver answers. -/
import Derived.Test.YthbfpgdfigilaaaMsg2
namespace Go.Proofs.Ythbfpgdfigilaaa
set_option linter.unusedVariables false
open Go.RowKit
def andI (a b : Int) : Int := bits .and .i64 a b
def mask (r : Int) (c : Cp) : Cp := (c.1, c.2.1, andI c.2.2.1 r, c.2.2.2)
def sendOk (l : Int) (xs : List Int) (cs : List Cp) (k o r b : Int) : Bool := msgOk l xs cs && (capOk k o r b && ((k == 4) && !(andI r 2 == 0)))
def sendB (l : Int) (xs : List Int) (cs : List Cp) (k o r b : Int) : Int := if sendOk l xs cs k o r b = true then l else 0
def sendX (l : Int) (xs : List Int) (cs : List Cp) (k o r b : Int) : List Int := if sendOk l xs cs k o r b = true then xs else []
def sendC (l : Int) (xs : List Int) (cs : List Cp) (k o r b : Int) : List Cp := if (sendOk l xs cs k o r b && !(andI r 4 == 0)) = true then cs.map (mask r) else []
section
variable {l : Int} {xs : List Int} {cs : List Cp} {k o r b : Int}
theorem send_no (h : sendOk l xs cs k o r b = false) : sendOk l xs cs k o r b = false ∧ sendB l xs cs k o r b = 0 ∧ sendX l xs cs k o r b = [] ∧ sendC l xs cs k o r b = [] := by unfold sendB sendX sendC; simp [h]
theorem send_yes0 (h : sendOk l xs cs k o r b = true) (h4 : (andI r 4 == 0) = true) : sendOk l xs cs k o r b = true ∧ sendB l xs cs k o r b = l ∧ sendX l xs cs k o r b = xs ∧ sendC l xs cs k o r b = [] := by unfold sendB sendX sendC; simp [h, h4]
theorem send_yes1 (h : sendOk l xs cs k o r b = true) (h4 : (andI r 4 == 0) = false) : sendOk l xs cs k o r b = true ∧ sendB l xs cs k o r b = l ∧ sendX l xs cs k o r b = xs ∧ sendC l xs cs k o r b = cs.map (mask r) := by unfold sendB sendX sendC; simp [h, h4]
theorem send_no1 (h : msgOk l xs cs = false) : sendOk l xs cs k o r b = false := by unfold sendOk; rw [h]; rfl
theorem send_no2 (h : capOk k o r b = false) : sendOk l xs cs k o r b = false := by unfold sendOk; rw [h]; simp
theorem send_no3 (h : (k == 4) = false) : sendOk l xs cs k o r b = false := by unfold sendOk; rw [h]; simp
theorem send_no4 (h : (andI r 2 == 0) = true) : sendOk l xs cs k o r b = false := by unfold sendOk; rw [h]; simp
theorem send_ok (h1 : msgOk l xs cs = true) (h2 : capOk 4 o r b = true) (h4 : (andI r 2 == 0) = false) : sendOk l xs cs 4 o r b = true := by unfold sendOk; rw [h1, h2, h4]; rfl
theorem sendOk_msg (h : sendOk l xs cs k o r b = true) : msgOk l xs cs = true := by unfold sendOk at h; simp only [Bool.and_eq_true] at h; exact h.1
theorem sendX_len : (sendX l xs cs k o r b).length ≤ 8 := by
  unfold sendX
  split
  · rename_i h
    have := sendOk_msg h
    unfold msgOk at this
    simp only [Bool.and_eq_true, decide_eq_true_eq] at this
    omega
  · simp
theorem sendC_len : (sendC l xs cs k o r b).length ≤ 3 := by
  unfold sendC
  split
  · rename_i h
    simp only [Bool.and_eq_true] at h
    have := sendOk_msg h.1
    unfold msgOk at this
    simp only [Bool.and_eq_true, decide_eq_true_eq] at this
    rw [List.length_map]
    omega
  · simp
end
/-- A message whose words and capabilities lie in new memory, and whether it is one. -/
def NewMsgB (w : World) (l : Int) (xs : List Int) (cs : List Cp) (ok : Bool) (e : Ending) (w' : World) : Prop :=
  ∃ A c D d M, e = .returned (.tuple #[msg l A xs.length c D cs.length d, .bool ok]) ∧ Own w' w.heap.size M 3 1 A xs.length c (ints xs) ∧ Own w' M w'.heap.size 45 4 D cs.length d (caps cs) ∧ w.heap.size ≤ M ∧ M ≤ w'.heap.size ∧ Below w.heap.size w w'
theorem newMsgB_nil {w w' : World} (hb : Below w.heap.size w w') : NewMsgB w 0 [] [] false (.returned (.tuple #[msg 0 none 0 0 none 0 0, .bool false])) w' :=
  ⟨none, 0, none, 0, w.heap.size, rfl, Own.nil _ _ _ _ _ _, Own.nil _ _ _ _ _ _, Nat.le_refl _, hb.size, hb⟩
theorem caps_setR {cs : List Cp} {k : Nat} {a b c d : Int} (h : cs[k]? = some (a, b, c, d)) (v : Int) : caps (cs.set k (a, b, v, d)) = (caps cs).set (k * 4 + 2) (.int .i64 v) := by
  induction cs generalizing k with
  | nil => cases h
  | cons e cs ih =>
    cases k with
    | zero =>
      obtain rfl : e = (a, b, c, d) := by simpa using h
      simp [caps_cons, capC]
    | succ k =>
      rw [List.set_cons_succ, caps_cons, caps_cons, ih (by simpa using h)]
      have e0 : (k + 1) * 4 + 2 = (capC e).length + (k * 4 + 2) := by simp [capC]; omega
      rw [e0, List.set_append_right _ _ (Nat.le_add_right _ _), Nat.add_sub_cancel_left]
theorem map_drop_set {cs : List Cp} {f : Cp → Cp} {k : Nat} {x : Cp} (hx : cs[k]? = some x) : ((cs.take k).map f ++ cs.drop k).set k (f x) = (cs.take (k + 1)).map f ++ cs.drop (k + 1) := by
  obtain ⟨hl, rfl⟩ := List.getElem?_eq_some_iff.1 hx
  have e : cs.drop k = cs[k] :: cs.drop (k + 1) := List.drop_eq_getElem_cons hl
  rw [List.set_append_right _ _ (by simp; omega)]
  have e2 : k - ((cs.take k).map f).length = 0 := by simp; omega
  rw [e2, e, List.set_cons_zero, List.take_add_one, hx, List.map_append]
  simp only [Option.toList, List.map_cons, List.map_nil, List.append_assoc, List.cons_append, List.nil_append]
theorem map_drop_get {cs : List Cp} {f : Cp → Cp} {k : Nat} {x : Cp} (hx : cs[k]? = some x) : ((cs.take k).map f ++ cs.drop k)[k]? = some x := by
  obtain ⟨hl, rfl⟩ := List.getElem?_eq_some_iff.1 hx
  rw [List.getElem?_append_right (by simp; omega)]
  have e2 : k - ((cs.take k).map f).length = 0 := by simp; omega
  rw [e2, List.getElem?_drop, Nat.add_zero, hx]
set_option maxHeartbeats 400000 in
theorem ClipC_any (n c : Nat) (A : Option Addr) (w : World) (hA : 0 < n → ∃ b o, A = some ⟨b, o, none⟩) (hc : n ≤ c) (hn : n ≤ 1048576) :
    Calls Try.prog 77 #[.slice A n c] w fun e w' => e = .returned (.slice A n n) ∧ w = w' := by
  have hcc : (n : Int) ≤ (c : Int) := by omega
  rcases Nat.eq_zero_or_pos n with rfl | hp
  · go_enter Try.func77, Try.ntmps77
    go_wp2
    go_ret
    exact ⟨rfl, rfl⟩
  · obtain ⟨b, o, rfl⟩ := hA hp
    have hn0 : ¬ n = 0 := by omega
    clear hA
    go_enter Try.func77, Try.ntmps77
    go_wp2
    go_ret
    exact ⟨rfl, rfl⟩
set_option maxHeartbeats 400000 in
theorem CloneC_any (B T n c : Nat) (A : Option Addr) (cs : List Cp) (w : World) (hr : Rd w B T 4 A n (caps cs)) (hn : n ≤ 1048576) :
    Calls Try.prog 78 #[.slice A n c] w (NewCaps w cs) := by
  obtain ⟨i0, hi0, hz0, hz1, hz2⟩ := info_parts Try.infoCap
  have hl := caps_len hr
  have HL := Lib.hid hl
  cases A with
  | none =>
    have h0 : n = 0 := by
      rcases Nat.eq_zero_or_pos n with h0 | h0
      · exact h0
      · obtain ⟨b, o, h, _⟩ := hr.2 h0
        cases h
    subst h0
    obtain rfl : cs = [] := List.eq_nil_of_length_eq_zero hl
    have hnil := fun W : World => Lib.run_eql_slice_nil (P := Try.prog) W 28 45 none 0 c 0 0 Try.underlying28
    go_enter Try.func78, Try.ntmps78
    go_wp2
    go_ret
    exact ⟨none, 0, rfl, Own.nil _ _ _ _ _ _, Below.refl _ _⟩
  | some ad =>
    clear hl
    have hnil := fun W : World => Lib.run_eql_slice_nil (P := Try.prog) W 28 45 (some ad) n c 0 0 Try.underlying28
    go_enter Try.func78, Try.ntmps78
    go_wp2_with (at_builtin; refine wpList_app _ rfl (.tmp 5) (.tmp 6) 28 rfl 45 i0 (capv 0 0 0 0) 4 32 Try.underlying28 hi0 hz0 hz1 hz2 rfl (by omega) w.heap.size 0 B T (some ⟨w.heap.size, 0, none⟩) (some ad) 0 0 n c [] (caps cs) rfl rfl (Own.nil _ _ _ _ _ _) (hr.alloc _) (caps_one cs) (by unfold maxLen; omega) (by omega) (by simp) ?_; intro A1 c1 w1 hown hfr)
    go_ret
    refine ⟨A1, c1, by rw [HL.out]; simp, ?_, Below.via ((Below.refl _ _).alloc (Nat.le_refl _) _) hfr.below0⟩
    rw [HL.out]
    simpa using hown
set_option maxHeartbeats 400000 in
theorem cloneC_any (B T n c : Nat) (A : Option Addr) (cs : List Cp) (w : World) (hr : Rd w B T 4 A n (caps cs)) (hn : n ≤ 1048576) :
    Calls Try.prog 58 #[.slice A n c] w fun e w' => ∃ A', e = .returned (.slice A' cs.length cs.length) ∧ Own w' w.heap.size w'.heap.size 45 4 A' cs.length cs.length (caps cs) ∧ Below w.heap.size w w' := by
  have hl := caps_len hr
  have HL := Lib.hid hl
  clear hl
  go_enter Try.func58, Try.ntmps58
  go_wp2_with fail
  refine (CloneC_any B T n c A cs _ hr hn).mono ?_
  rintro e w1 ⟨A1, c1, rfl, ho, hb⟩
  rw [HL.out] at ho ⊢
  have hle := ho.le
  go_wp2_with fail
  refine (ClipC_any _ _ _ _ (fun h => by obtain ⟨b, o, h1, _⟩ := ho.rd.2 h; exact ⟨b, o, h1⟩) hle hn).mono ?_
  rintro e w2 ⟨rfl, rfl⟩
  go_wp2
  go_ret
  have h5 := ho.take (k := n) (m := n) (Nat.le_refl _) (Nat.le_refl _) hle
  rw [List.take_of_length_le (by rw [ho.1]; exact Nat.le_refl _)] at h5
  exact ⟨A1, by rw [HL.out]; rfl, by rw [HL.out]; exact h5, hb⟩
end Go.Proofs.Ythbfpgdfigilaaa
