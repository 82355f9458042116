/- The walk of the law FnPopReply: it returns true and leaves all that was in memory as it was, for every code. -/
import Derived.Test.YtjpmgoejcafjiaaDrawCalls
namespace Go.Proofs.Ytjpmgoejcafjiaa
set_option linter.unusedVariables false
open Go.RowKit

theorem pop_case (xs : List Int) : (popM xs = -1 ∧ popL xs = []) ∨ (∃ k x, callsV xs = true ∧ xs.length = k + 1 ∧ popM xs = x ∧ 0 ≤ x) := by
  cases h : callsV xs
  · have := pop_no1 h; exact .inl ⟨this.2, this.1⟩
  · cases hl : xs.length with
    | zero =>
      obtain rfl : xs = [] := List.eq_nil_of_length_eq_zero hl
      exact .inl ⟨pop_no2.2, pop_no2.1⟩
    | succ k =>
      have hx : xs[k]? = some (xs[k]'(by omega)) := List.getElem?_eq_getElem (by omega)
      refine .inr ⟨k, _, rfl, rfl, (pop_yes h hl hx).2, ?_⟩
      unfold callsV diff at h
      simp only [Bool.and_eq_true, decide_eq_true_eq, List.all_eq_true] at h
      have := h.2.1 _ (List.getElem_mem (by omega : k < xs.length))
      rw [inB_true] at this
      exact this.1
theorem calls_take {xs : List Int} (k : Nat) (h : callsV xs = true) : callsV (xs.take k) = true := by
  unfold callsV at *
  simp only [Bool.and_eq_true, decide_eq_true_eq] at *
  exact ⟨by rw [List.length_take]; omega, diff_take k h.2⟩
theorem pop_take {xs : List Int} {j : Nat} {x : Int} (h : callsV xs = true) (hx : xs[j]? = some x) : popL (xs.take (j + 1)) = xs.take j ∧ popM (xs.take (j + 1)) = x ∧ (xs.take (j + 1)).length = j + 1 := by
  have hl : (xs.take (j + 1)).length = j + 1 := by
    have := (List.getElem?_eq_some_iff.1 hx).1
    rw [List.length_take]; omega
  have := pop_yes (x := x) (calls_take (j + 1) h) hl (by rw [List.getElem?_take, if_pos (by omega)]; exact hx)
  rw [List.take_take, Nat.min_eq_left (by omega)] at this
  exact ⟨this.1, this.2, hl⟩
set_option maxHeartbeats 4000000 in
theorem law_PopReply (B T n c : Nat) (A : Option Addr) (bs : List Value) (w : World) (hr : Rd w B T 1 A n bs) (hb : Bytes bs) (hnc : n ≤ c) :
    Calls Try.prog 12 #[.slice A n c] w fun e w' => e = .returned (.bool true) ∧ Below w.heap.size w w' := by
  by_cases hbig : 1048576 < n
  · have hd : (1048576 : Int) < (n : Int) := by omega
    go_enter Try.func12, Try.ntmps12
    go_wp2_with fail
    go_ret
    exact ⟨rfl, Below.refl _ _⟩
  have hn : n ≤ 1048576 := by omega
  have hd : ¬ (1048576 : Int) < (n : Int) := by omega
  have hB := Below.refl w.heap.size w
  go_enter Try.func12, Try.ntmps12
  go_wp2_with fail
  refine (DrawPopReply_any B T n c A bs _ hr hb hn hnc).mono ?_
  rintro e w1 ⟨A1, c1, xs, rfl, o1, hl, hb1⟩
  have z1 := hb1.size
  replace hB := Below.via hB hb1
  go_wp2_with fail
  refine (iPopReply_any _ _ _ _ _ xs _ o1.rd (by omega) o1.le).mono ?_
  rintro e w2 ⟨A2, c2, rfl, o2, hb2⟩
  have z2 := hb2.size
  replace hB := Below.via hB hb2
  replace o1 := o1.below hb2
  go_wp2_with fail
  refine (sPopReply_any _ _ _ _ _ xs _ o1.rd (by omega) o1.le).mono ?_
  rintro e w3 ⟨A3, c3, rfl, o3, hb3⟩
  have z3 := hb3.size
  replace hB := Below.via hB hb3
  replace o1 := o1.below hb3
  replace o2 := o2.below hb3
  go_wp2_with fail
  refine (sameInts_any _ _ _ _ _ _ _ _ _ _ _ _ _ o2.rd o3.rd (pop_len xs)).mono ?_
  rintro e w4 ⟨rfl, hb4⟩
  have z4 := hb4.size
  replace hB := Below.via hB hb4
  replace o1 := o1.below hb4
  replace o2 := o2.below hb4
  rcases pop_case xs with ⟨h1, h2⟩ | ⟨k, x, h1, h2, h3, h4⟩
  · rw [h1, h2]
    clear h1 h2
    go_wp2_with fail
    refine (alive_any _).mono ?_
    rintro e w5 ⟨rfl, hb5⟩
    have z5 := hb5.size
    replace hB := Below.via hB hb5
    go_wp2
    go_ret
    exact ⟨rfl, hB⟩
  · rw [h3]
    have H1 := Lib.hid h1
    have H2 := Lib.hid h2
    have h4' : ¬ x < 0 := by omega
    clear h1 h2 h3 o2
    have hle := o1.le
    have HO := Lib.hid o1
    clear o1
    go_wp2
    go_loopw [8, 9] (fun z i wr => ∃ (j : Nat) (D : Option Addr) (d : Nat), j ≤ xs.length ∧ i = .int .i64 ((j : Int) - 1) ∧ z = .slice D j d ∧ Own wr w.heap.size wr.heap.size 3 1 D j d (ints (xs.take j)) ∧ Below w.heap.size w wr ∧ Rd wr w.heap.size wr.heap.size 1 A1 xs.length (ints xs)) (fun _ i _ => (intOf i + 1).toNat)
    case atStart => exact ⟨xs.length, A1, c1, Nat.le_refl _, rfl, rfl, by rw [List.take_length]; exact HO.out.mono (by omega) (by omega), hB, HO.out.rd.mono (by omega) (by omega)⟩
    case round =>
      obtain ⟨j, D, d, hj, rfl, rfl, ol, hb', hrl⟩ := hrel
      cases j with
      | zero =>
        have hjm : ((0 : Nat) : Int) - 1 = -1 := rfl
        rw [hjm]
        go_wp2_with fail
        refine (iPopReply_any _ _ _ _ _ (xs.take 0) _ ol.rd (by omega) ol.le).mono ?_
        rintro e w11 ⟨A5, c5, rfl, o5, hb5⟩
        have hz : popM (xs.take 0) = -1 := by rw [List.take_zero]; exact pop_no2.2
        rw [hz]
        go_wp2
        go_ret
        exact ⟨rfl, Below.via hb' hb5⟩
      | succ q =>
        obtain ⟨b, o, y, rfl, hbl, hx, hc⟩ := ints_at hrl (show q < xs.length by omega)
        have hqs : ((q + 1 : Nat) : Int) - 1 = (q : Int) := by omega
        have hpt := pop_take H1.out hx
        have HPT := Lib.hid hpt
        have hq0 : (0 : Int) ≤ (q : Int) := by omega
        have hq1 : (q : Int) < (xs.length : Int) := by omega
        rw [hqs]
        clear hqs hx hpt
        go_wp2_with fail
        refine (iPopReply_any _ _ _ _ _ (xs.take (q + 1)) _ ol.rd (by omega) ol.le).mono ?_
        rintro e w11 ⟨A5, c5, rfl, o5, hb5⟩
        have hc5 := (hb5.cell (p := ⟨b, o + q, none⟩) hbl).trans hc
        have hz5 := hb5.size
        have hr5 := hrl.below hb5
        have hlq : (xs.take q).length = q := by rw [List.length_take]; omega
        rw [HPT.out.1, hlq] at o5 ⊢
        rw [HPT.out.2.1]
        clear hlq hc
        go_wp2
        go_roundw
        case rel => exact ⟨q, A5, c5, by omega, by go_num, rfl, o5.mono (by have := hb'.size; omega) (Nat.le_refl _), Below.via hb' hb5, hr5.mono (Nat.le_refl _) hz5⟩
        case measure => simp [intOf]
end Go.Proofs.Ytjpmgoejcafjiaa
