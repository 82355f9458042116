/- Contracts of the seat's functions on slices of integers: toIntS, eqIntS, markIntS, heldIntS, sameInts. -/
import Derived.Test.YtccepnhnmpmkdaaRows
import Derived.Test.YtccepnhnmpmkdaaBase
import Derived.BigQuiet
import Derived.Deep.QuietTactic
import Derived.Handy
namespace Go.Proofs.Ytccepnhnmpmkdaa
set_option linter.unusedVariables false
open Go.RowKit

theorem Try.infoInt : (Try.prog.info? 3).map (fun i => (i.zero, i.size, i.bytes)) = some (some (.int .i64 0), 1, 8) := by kernel_rfl

/-- A slice of integers in new memory. -/
def NewInts (w : World) (xs : List Int) (e : Ending) (w' : World) : Prop :=
  ∃ A c, e = .returned (.slice A xs.length c) ∧ Own w' w.heap.size w'.heap.size 3 1 A xs.length c (ints xs) ∧ Below w.heap.size w w'

theorem ints_at {w : World} {B T n k : Nat} {A : Option Addr} {xs : List Int} (h : Rd w B T 1 A n (ints xs)) (hk : k < n) :
    ∃ b o x, A = some ⟨b, o, none⟩ ∧ b < w.heap.size ∧ xs[k]? = some x ∧ w.cell? ⟨b, o + k, none⟩ = some (.int .i64 x) := by
  obtain ⟨b, o, h1, h2, h3, h4⟩ := h.2 (by omega)
  have hl : k < xs.length := by have := h.1; rw [ints_length] at this; omega
  have hc := h4 k _ (ints_get (List.getElem?_eq_getElem hl))
  exact ⟨b, o, xs[k], h1, World.block_lt_of_cell? w _ hc, List.getElem?_eq_getElem hl, hc⟩
theorem ints_len {w : World} {B T n : Nat} {A : Option Addr} {xs : List Int} (h : Rd w B T 1 A n (ints xs)) : xs.length = n := by
  have := h.1; rw [ints_length] at this; omega

theorem take_rep_set (xs : List Int) (n k : Nat) (x : Int) (hl : xs.length = n) (hk : k < n) (hx : xs[k]? = some x) :
    (xs.take k ++ List.replicate (n - k) 0).set k x = xs.take (k + 1) ++ List.replicate (n - (k + 1)) 0 := by
  have e1 : n - k = (n - (k + 1)) + 1 := by omega
  rw [e1, List.replicate_succ, List.set_append_right _ _ (by simp; omega)]
  have e2 : k - (xs.take k).length = 0 := by simp; omega
  rw [e2, List.set_cons_zero, List.take_add_one, hx]
  simp

set_option maxHeartbeats 400000 in
theorem toIntS_any (B T n c : Nat) (A : Option Addr) (xs : List Int) (w : World) (hr : Rd w B T 1 A n (ints xs)) (hn : n ≤ 1048576) :
    Calls Try.prog 49 #[.slice A n c] w (NewInts w xs) := by
  obtain ⟨i0, hi0, hz0, hz1, hz2⟩ := info_parts Try.infoInt
  have hl := ints_len hr
  have HL := Lib.hid hl
  clear hl
  go_enter Try.func49, Try.ntmps49
  go_wp2_with (at_make; refine wpList_mk _ rfl _ _ 38 rfl 3 i0 (.int .i64 0) 1 Try.underlying38 hi0 hz0 hz1 _ _ _ _ n rfl rfl rfl rfl (by rw [hz2]; omega) (by unfold maxLen; omega) ?_; intro w1 hown hb1 hs1)
  rw [made_ints] at hown
  have HS := Lib.hid hs1
  clear hs1
  go_loopw [4] (fun i wr => ∃ k : Nat, k ≤ n ∧ i = .int .i64 k ∧ Own wr w.heap.size (w.heap.size + 1) 3 1 (some ⟨w.heap.size, 0, none⟩) n n (ints (xs.take k ++ List.replicate (n - k) 0)) ∧ Below w.heap.size w wr ∧ w.heap.size < wr.heap.size) (fun i _ => n - (intOf i).toNat)
  case atStart => exact ⟨0, by omega, rfl, by simpa using hown, hb1, by rw [HS.out]; omega⟩
  case round =>
    obtain ⟨k, hk, rfl, ho, hb, hs⟩ := hrel
    by_cases hlt : k < n
    · obtain ⟨b, o, x, rfl, hbl, hx, hc⟩ := ints_at (hr.below hb) hlt
      obtain ⟨g, o', h1, h2, h3, h4, h5, h6, h7⟩ := ho.at_ (by omega)
      injection h1 with h1
      injection h1 with hg ho'
      subst hg
      subst ho'
      have hcell : ∃ v, wr.cell? ⟨w.heap.size, k, none⟩ = some v := by
        have hlen : k < (ints (xs.take k ++ List.replicate (n - k) 0)).length := by rw [ho.1]; omega
        exact ⟨_, by simpa using h5 k _ (List.getElem?_eq_getElem hlen)⟩
      obtain ⟨v, hv⟩ := hcell
      have hf := h6 k
      have hset := h7 k (.int .i64 x) (by rw [ho.1]; omega)
      rw [Nat.zero_add, ← ints_set, take_rep_set xs n k x HL.out hlt hx] at hset
      have hkk : (k : Int) < (n : Int) := by omega
      have hk0 : (0 : Int) ≤ (k : Int) := by omega
      clear h5 h6 h7 ho hr hown
      have HX := Lib.hid hx
      clear hx
      go_wp2
      go_roundw
      case rel => exact ⟨k + 1, by omega, by go_num, hset, by (repeat (first | exact Below.refl _ _ | assumption | refine Below.setCell ?_ (by first | (simp; done) | (simp; omega) | omega) _ | refine Below.alloc1 ?_ _ | refine Below.alloc ?_ (by first | (simp; done) | (simp; omega) | omega) _ | refine Below.drew ?_ | refine Below.drewN ?_ _ | refine Below.via ?_ (by assumption))), by simpa using hs⟩
      case measure => simp [intOf]; omega
    · have hkn : k = n := by omega
      subst hkn
      clear hr hown
      go_wp2
      go_ret
      refine ⟨some ⟨w.heap.size, 0, none⟩, k, by rw [HL.out]; rfl, ?_, hb⟩
      rw [HL.out]
      have h := ho.mono (B' := w.heap.size) (T' := wr.heap.size) (Nat.le_refl _) (by omega)
      simpa [List.take_of_length_le (by rw [HL.out]; exact Nat.le_refl _ : xs.length ≤ k)] using h
theorem take_ne {xs ys : List Int} {k : Nat} {x y : Int} (hx : xs[k]? = some x) (hy : ys[k]? = some y) (h : x ≠ y) : decide (xs = ys) = false := by
  rw [decide_eq_false_iff_not]
  intro he
  subst he
  rw [hx] at hy
  exact h (by injection hy)
theorem take_eq_succ {xs ys : List Int} {k : Nat} {x : Int} (h : xs.take k = ys.take k) (hx : xs[k]? = some x) (hy : ys[k]? = some x) : xs.take (k + 1) = ys.take (k + 1) := by
  rw [List.take_add_one, List.take_add_one, h, hx, hy]

set_option maxHeartbeats 400000 in
theorem eqIntS_any (B T B2 T2 n c m c2 : Nat) (A A2 : Option Addr) (xs ys : List Int) (w : World) (hr : Rd w B T 1 A n (ints xs)) (hr2 : Rd w B2 T2 1 A2 m (ints ys)) (hn : n ≤ 1048576) :
    Calls Try.prog 45 #[.slice A n c, .slice A2 m c2] w fun e w' => e = .returned (.bool (decide (xs = ys))) ∧ Below w.heap.size w w' := by
  have hl := ints_len hr
  have hl2 := ints_len hr2
  by_cases hnm : n = m
  · subst hnm
    have HL := Lib.hid hl
    have HL2 := Lib.hid hl2
    clear hl hl2
    go_enter Try.func45, Try.ntmps45
    go_wp2
    go_loopw [5] (fun i wr => ∃ k : Nat, k ≤ n ∧ i = .int .i64 k ∧ Hid (xs.take k = ys.take k) ∧ Below w.heap.size w wr) (fun i _ => n - (intOf i).toNat)
    case atStart => exact ⟨0, by omega, rfl, Lib.hid rfl, Below.refl _ _⟩
    case round =>
      obtain ⟨k, hk, rfl, ht, hb⟩ := hrel
      by_cases hlt : k < n
      · obtain ⟨b, o, x, rfl, hbl, hx, hc⟩ := ints_at (hr.below hb) hlt
        obtain ⟨b2, o2, y, rfl, hbl2, hy, hc2⟩ := ints_at (hr2.below hb) hlt
        have hkk : (k : Int) < (n : Int) := by omega
        have hk0 : (0 : Int) ≤ (k : Int) := by omega
        have HX := Lib.hid hx
        have HY := Lib.hid hy
        clear hr hr2 hx hy
        by_cases hxy : x = y
        · subst hxy
          go_wp2
          go_quiet (fail)
          go_wp2
          go_roundw
          case rel => exact ⟨k + 1, by omega, by go_num, Lib.hid (take_eq_succ ht.out HX.out HY.out), by (repeat (first | exact Below.refl _ _ | assumption | refine Below.setCell ?_ (by first | (simp; done) | (simp; omega) | omega) _ | refine Below.alloc1 ?_ _ | refine Below.alloc ?_ (by first | (simp; done) | (simp; omega) | omega) _ | refine Below.drew ?_ | refine Below.drewN ?_ _ | refine Below.via ?_ (by assumption)))⟩
          case measure => simp [intOf]; omega
        · have hd : (x != y) = true := by simp [hxy]
          go_wp2
          go_quiet (fail)
          go_wp2
          go_ret
          exact ⟨by rw [take_ne HX.out HY.out hxy]; rfl, by (repeat (first | exact Below.refl _ _ | assumption | refine Below.setCell ?_ (by first | (simp; done) | (simp; omega) | omega) _ | refine Below.alloc1 ?_ _ | refine Below.alloc ?_ (by first | (simp; done) | (simp; omega) | omega) _ | refine Below.drew ?_ | refine Below.drewN ?_ _ | refine Below.via ?_ (by assumption)))⟩
      · have hkn : k = n := by omega
        subst hkn
        clear hr hr2
        go_wp2
        go_ret
        refine ⟨ret_bool ?_, hb⟩
        have h1 := ht.out
        rw [List.take_of_length_le (by rw [HL.out]; exact Nat.le_refl _), List.take_of_length_le (by rw [HL2.out]; exact Nat.le_refl _)] at h1
        simp [h1]
  · have hd : decide (xs = ys) = false := by
      rw [decide_eq_false_iff_not]
      intro he
      subst he
      omega
    have HD := Lib.hid hd
    have hne : ((n : Int) != (m : Int)) = true := by simp; omega
    clear hd hl hl2 hr hr2
    go_enter Try.func45, Try.ntmps45
    go_wp2
    go_ret
    exact ⟨by rw [HD.out]; rfl, Below.refl _ _⟩
/-- k, k + 1, .. -/
def marks (k : Int) (n : Nat) : List Int := (List.range n).map fun (j : Nat) => k + (j : Int)
theorem marks_length (k : Int) (n : Nat) : (marks k n).length = n := by simp [marks]
theorem marks_get (k : Int) (n j : Nat) (h : j < n) : (marks k n)[j]? = some (k + j) := by simp [marks, h]
theorem marks_set (k : Int) (xs : List Int) (n j : Nat) (hl : xs.length = n) (h : j < n) : (marks k j ++ xs.drop j).set j (k + j) = marks k (j + 1) ++ xs.drop (j + 1) := by
  rw [List.set_append_right _ _ (by simp [marks_length])]
  have e : xs.drop j = xs[j] :: xs.drop (j + 1) := List.drop_eq_getElem_cons (by omega)
  rw [marks_length, Nat.sub_self, e, List.set_cons_zero]
  simp [marks, List.range_succ]

set_option maxHeartbeats 400000 in
theorem markIntS_any (B T n c : Nat) (A : Option Addr) (xs : List Int) (k0 : Int) (w : World) (hr : Own w B T 3 1 A n c (ints xs)) (hn : n ≤ 1048576) (h0 : 0 ≤ k0) (h1 : k0 ≤ 100000000) :
    Calls Try.prog 46 #[.slice A n c, .int .i64 k0] w fun e w' => e = .returned (.int .i64 (k0 + n)) ∧ Own w' B T 3 1 A n c (ints (marks k0 n)) ∧ Fr B T w w' := by
  have hl := ints_len hr.rd
  have HL := Lib.hid hl
  clear hl
  go_enter Try.func46, Try.ntmps46
  go_wp2
  go_loopw [1, 5] (fun q i wr => ∃ k : Nat, k ≤ n ∧ i = .int .i64 k ∧ q = .int .i64 (k0 + k) ∧ Own wr B T 3 1 A n c (ints (marks k0 k ++ xs.drop k)) ∧ Fr B T w wr) (fun _ i _ => n - (intOf i).toNat)
  case atStart => exact ⟨0, by omega, rfl, by simp, by simpa [marks] using hr, Fr.refl _ _ _⟩
  case round =>
    obtain ⟨k, hk, rfl, rfl, ho, hb⟩ := hrel
    by_cases hlt : k < n
    · obtain ⟨g, o, rfl, h2, h3, h4, h5, h6, h7⟩ := ho.at_ (by omega)
      have hlen : k < (ints (marks k0 k ++ xs.drop k)).length := by rw [ho.1]; omega
      obtain ⟨v, hv⟩ : ∃ v, wr.cell? ⟨g, o + k, none⟩ = some v := ⟨_, h5 k _ (List.getElem?_eq_getElem hlen)⟩
      have hf := h6 (o + k)
      have hset := h7 k (.int .i64 (k0 + k)) hlen
      rw [← ints_set, marks_set k0 xs n k HL.out hlt] at hset
      have hkk : (k : Int) < (n : Int) := by omega
      have hk0 : (0 : Int) ≤ (k : Int) := by omega
      clear h5 h6 h7 ho hr
      go_wp2
      go_roundw
      case rel => exact ⟨k + 1, by omega, by go_num, by rw [show k0 + ((k + 1 : Nat) : Int) = k0 + (k : Int) + 1 by omega], hset, hb.setCell h2 h3 _⟩
      case measure => simp [intOf]; omega
    · have hkn : k = n := by omega
      subst hkn
      clear hr
      go_wp2
      go_ret
      refine ⟨rfl, ?_, hb⟩
      simpa [List.drop_of_length_le (by rw [HL.out]; exact Nat.le_refl _ : xs.length ≤ k)] using ho

set_option maxHeartbeats 400000 in
theorem heldIntS_any (B T n c : Nat) (A : Option Addr) (k0 : Int) (w : World) (hr : Rd w B T 1 A n (ints (marks k0 n))) (hn : n ≤ 1048576) (h0 : 0 ≤ k0) (h1 : k0 ≤ 100000000) :
    Calls Try.prog 47 #[.slice A n c, .int .i64 k0] w fun e w' => e = .returned (.int .i64 (k0 + n)) ∧ Below w.heap.size w w' := by
  go_enter Try.func47, Try.ntmps47
  go_wp2
  go_loopw [1, 5] (fun q i wr => ∃ k : Nat, k ≤ n ∧ i = .int .i64 k ∧ q = .int .i64 (k0 + k) ∧ Below w.heap.size w wr) (fun _ i _ => n - (intOf i).toNat)
  case atStart => exact ⟨0, by omega, rfl, by simp, Below.refl _ _⟩
  case round =>
    obtain ⟨k, hk, rfl, rfl, hb⟩ := hrel
    by_cases hlt : k < n
    · obtain ⟨b, o, x, rfl, hbl, hx, hc⟩ := ints_at (hr.below hb) hlt
      rw [marks_get k0 n k hlt] at hx
      injection hx with hx
      subst hx
      have hkk : (k : Int) < (n : Int) := by omega
      have hk0 : (0 : Int) ≤ (k : Int) := by omega
      clear hr
      go_wp2
      go_roundw
      case rel => exact ⟨k + 1, by omega, by go_num, by rw [show k0 + ((k + 1 : Nat) : Int) = k0 + (k : Int) + 1 by omega], by (repeat (first | exact Below.refl _ _ | assumption | refine Below.setCell ?_ (by first | (simp; done) | (simp; omega) | omega) _ | refine Below.alloc1 ?_ _ | refine Below.alloc ?_ (by first | (simp; done) | (simp; omega) | omega) _ | refine Below.drew ?_ | refine Below.drewN ?_ _ | refine Below.via ?_ (by assumption)))⟩
      case measure => simp [intOf]; omega
    · have hkn : k = n := by omega
      subst hkn
      clear hr
      go_wp2
      go_ret
      exact ⟨rfl, hb⟩
end Go.Proofs.Ytccepnhnmpmkdaa
