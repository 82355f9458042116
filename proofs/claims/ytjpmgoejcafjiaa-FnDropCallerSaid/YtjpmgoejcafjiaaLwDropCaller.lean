/- The walk of the law FnDropCaller: it returns true and leaves all that was in memory as it was, for every code. -/
import Derived.Test.YtjpmgoejcafjiaaDrawCalls
namespace Go.Proofs.Ytjpmgoejcafjiaa
set_option linter.unusedVariables false
open Go.RowKit

theorem drop_case (xs : List Int) (v : Int) : (callsV xs = false ∧ dropA xs v = [] ∧ dropB xs v = []) ∨ (callsV xs = true ∧ dropA xs v = xs ∧ dropB xs v = []) ∨
    (callsV xs = true ∧ ∃ k, dropA xs v = xs.take k ∧ dropB xs v = (xs.drop (k + 1)).reverse ∧ k < xs.length ∧ xs[k]? = some v) := by
  cases h : callsV xs
  · exact .inl ⟨rfl, drop_no1 h⟩
  · by_cases hm : v ∈ xs
    · have hl := List.idxOf_lt_length_of_mem hm
      obtain ⟨h1, h2⟩ := drop_yes h (rfl : xs.idxOf v = xs.idxOf v)
      exact .inr (.inr ⟨rfl, xs.idxOf v, h1, h2, hl, by rw [List.getElem?_eq_getElem hl, List.getElem_idxOf hl]⟩)
    · exact .inr (.inl ⟨rfl, drop_no2 h hm⟩)
theorem drop_join {xs : List Int} {k : Nat} {v : Int} (h : xs[k]? = some v) : xs.take k ++ [v] = xs.take (k + 1) := by rw [List.take_add_one, h]; rfl
theorem rev_get {xs : List Int} {k j : Nat} (h : k + 1 + j < xs.length) : (xs.drop (k + 1)).reverse[xs.length - (k + 1) - 1 - j]? = xs[k + 1 + j]? := by
  rw [List.getElem?_reverse (by simp; omega), List.getElem?_drop]
  congr 1
  simp
  omega
set_option maxHeartbeats 4000000 in
theorem law_DropCaller (B T n c : Nat) (A : Option Addr) (bs : List Value) (w : World) (hr : Rd w B T 1 A n bs) (hb : Bytes bs) (hnc : n ≤ c) :
    Calls Try.prog 14 #[.slice A n c] w fun e w' => e = .returned (.bool true) ∧ Below w.heap.size w w' := by
  obtain ⟨i0, hi0, hz0, hz1, hz2⟩ := info_parts Try.infoInt
  by_cases hbig : 1048576 < n
  · have hd : (1048576 : Int) < (n : Int) := by omega
    go_enter Try.func14, Try.ntmps14
    go_wp2_with fail
    go_ret
    exact ⟨rfl, Below.refl _ _⟩
  have hn : n ≤ 1048576 := by omega
  have hd : ¬ (1048576 : Int) < (n : Int) := by omega
  have hB := Below.refl w.heap.size w
  go_enter Try.func14, Try.ntmps14
  go_wp2_with fail
  refine (DrawDropCaller_any B T n c A bs _ hr hb hn hnc).mono ?_
  rintro e w1 ⟨A1, c1, xs, v, rfl, o1, hl, hb1⟩
  have z1 := hb1.size
  replace hB := Below.via hB hb1
  go_wp2_with fail
  refine (iDropCaller_any _ _ _ _ _ xs v _ o1.rd (by omega) o1.le).mono ?_
  rintro e w2 ⟨A2, c2, D2, d2, M2, rfl, zM2, zN2, o2, q2, hb2⟩
  have z2 := hb2.size
  replace hB := Below.via hB hb2
  replace o1 := o1.below hb2
  go_wp2_with fail
  refine (sDropCaller_any _ _ _ _ _ xs v _ o1.rd (by omega) o1.le).mono ?_
  rintro e w3 ⟨A3, c3, D3, d3, M3, rfl, zM3, zN3, o3, q3, hb3⟩
  have z3 := hb3.size
  replace hB := Below.via hB hb3
  replace o1 := o1.below hb3
  replace o2 := o2.below hb3
  replace q2 := q2.below hb3
  go_wp2_with fail
  refine (sameInts_any _ _ _ _ _ _ _ _ _ _ _ _ _ o2.rd o3.rd (dropA_len xs v)).mono ?_
  rintro e w4 ⟨rfl, hb4⟩
  have z4 := hb4.size
  replace hB := Below.via hB hb4
  replace o1 := o1.below hb4
  replace o2 := o2.below hb4
  replace q2 := q2.below hb4
  replace q3 := q3.below hb4
  go_wp2_with fail
  refine (sameInts_any _ _ _ _ _ _ _ _ _ _ _ _ _ q2.rd q3.rd (dropB_len xs v)).mono ?_
  rintro e w5 ⟨rfl, hb5⟩
  have z5 := hb5.size
  replace hB := Below.via hB hb5
  replace o1 := o1.below hb5
  replace o2 := o2.below hb5
  replace q2 := q2.below hb5
  go_wp2_with fail
  refine (sCallsValid_any _ _ _ _ _ xs _ o1.rd (by omega)).mono ?_
  rintro e w6 ⟨rfl, hb6⟩
  have z6 := hb6.size
  replace hB := Below.via hB hb6
  replace o1 := o1.below hb6
  replace o2 := o2.below hb6
  replace q2 := q2.below hb6
  rcases drop_case xs v with ⟨h0, h1, h2⟩ | ⟨h0, h1, h2⟩ | ⟨h0, k, h1, h2, h3, h4⟩
  · rw [h0, h1, h2]
    clear h0 h1 h2
    go_wp2_with fail
    refine (alive_any _).mono ?_
    rintro e w7 ⟨rfl, hb7⟩
    have z7 := hb7.size
    replace hB := Below.via hB hb7
    go_wp2
    go_ret
    exact ⟨rfl, hB⟩
  · rw [h0, h1, h2]
    rw [h1] at o2
    clear h0 h1 h2
    go_wp2_with fail
    refine (sameInts_any _ _ _ _ _ _ _ _ _ _ xs xs _ o2.rd o1.rd (by omega)).mono ?_
    rintro e w7 ⟨rfl, hb7⟩
    have z7 := hb7.size
    replace hB := Below.via hB hb7
    go_wp2
    go_ret
    exact ⟨rfl, hB⟩
  · have hA1 : (xs.take k).length = k := by rw [List.length_take]; omega
    obtain ⟨m, hm⟩ : ∃ m, xs.length = k + 1 + m := ⟨xs.length - (k + 1), by omega⟩
    have hB1 : (xs.drop (k + 1)).reverse.length = m := by rw [List.length_reverse, List.length_drop]; omega
    rw [h1, hA1] at o2
    rw [h2, hB1] at q2
    rw [h0, h1, h2, hA1, hB1]
    have hne : ((k : Int) == (xs.length : Int)) = false := by simp; omega
    have hm8 : (m : Int) ≤ 8 := by omega
    have hm1 : k + 1 ≤ 8 := by omega
    have HM := Lib.hid hm
    have H4 := Lib.hid h4
    clear h0 h1 h2 hA1 hB1 hm h4
    have hle := o1.le
    have HO := Lib.hid o1
    have HQ := Lib.hid q2
    clear o1 q2
    go_wp2_with (first | (at_builtin; refine wpList_appg _ (by rfl) (.tmp 68) (.tmp 69) 22 rfl 3 i0 (.int .i64 0) 1 8 Try.underlying22 hi0 hz0 hz1 hz2 rfl (by omega) w6.heap.size 0 _ _ (some ⟨w6.heap.size, 0, none⟩) A2 0 0 k c2 [] (ints (xs.take k)) rfl rfl (Own.nil _ _ _ _ _ _) (o2.rd.alloc _) (ints_one _) (by unfold maxLen; omega) (by omega) (by simp) ?_; intro A7 c7 w7 o7 f7; rw [Nat.zero_add, List.nil_append] at o7; have z7 := f7.size; (try simp at z7)) | (at_builtin; refine wpList_appg _ (by rfl) (.tmp 70) (.tmp 72) 22 rfl 3 i0 (.int .i64 0) 1 8 Try.underlying22 hi0 hz0 hz1 hz2 rfl (by omega) (w6.heap.size) _ w7.heap.size (w7.heap.size + 1) A7 (some ⟨w7.heap.size, 0, none⟩) k c7 1 1 (ints (xs.take k)) (ints [v]) rfl rfl (o7.alloc _) (Own.new (e := 3) (size := 1) w7 #[.int .i64 (v)] 1 (by unfold maxLen; omega) rfl).rd (ints_one _) (by unfold maxLen; omega) (by omega) (by simp; omega) ?_; intro A8 c8 w8 o8 f8; have z8 := f8.size; (try simp at z8)))
    have z6 := hB.size
    have g7 := (hB.alloc hB.size _).trans (f7.below (W := w.heap.size) (by omega) (by simp; omega))
    have g8 := (g7.alloc (by omega) _).trans (f8.below (W := w.heap.size) (by omega) (by simp; omega))
    rw [← ints_append, drop_join H4.out] at o8
    have o1 := (((HO.out.alloc (.cells #[] 3)).fr f7 (.inr (Nat.zero_le _))).alloc (.cells #[.int .i64 v] 3)).fr f8 (.inl (by omega))
    have q2 := (((HQ.out.alloc (.cells #[] 3)).fr f7 (.inr (Nat.zero_le _))).alloc (.cells #[.int .i64 v] 3)).fr f8 (.inl (by omega))
    replace q2 := q2.rd
    clear HO HQ g7
    go_loopw [9, 10] (fun a i wr => ∃ (j : Nat) (D : Option Addr) (d : Nat), j ≤ m ∧ i = .int .i64 ((m : Int) - 1 - j) ∧ a = .slice D (k + 1 + j) d ∧ Own wr w6.heap.size wr.heap.size 3 1 D (k + 1 + j) d (ints (xs.take (k + 1 + j))) ∧ Below w.heap.size w wr ∧ Below w6.heap.size w8 wr ∧ w8.heap.size ≤ wr.heap.size) (fun _ i _ => (intOf i + 1).toNat)
    case atStart => exact ⟨0, A8, c8, by omega, by simp, rfl, by simpa using o8, g8, Below.refl _ _, Nat.le_refl _⟩
    case round =>
      obtain ⟨j, D, d, hj, rfl, rfl, ol, hb', hb8, hzw⟩ := hrel
      have hzb := hb8.size
      have q3 := q2.belowT (hb8.mono (by omega))
      have o3 := o1.rd.belowT (hb8.mono (by omega))
      have hkm := HM.out
      by_cases hjm : j < m
      · obtain ⟨p, hp⟩ : ∃ p, m - 1 - j = p := ⟨_, rfl⟩
        have hpp : (m : Int) - 1 - j = (p : Int) := by omega
        have hpm : p < m := by omega
        obtain ⟨b, o, x, rfl, hbl, hx, hc⟩ := ints_at q3 hpm
        rw [← hp, show m - 1 - j = xs.length - (k + 1) - 1 - j by omega, rev_get (by omega)] at hx
        have HX := Lib.hid hx
        rw [hpp]
        have hp0 : (0 : Int) ≤ (p : Int) := by omega
        have hp1 : (p : Int) < (m : Int) := by omega
        have HP := Lib.hid hp
        have HPP := Lib.hid hpp
        clear hx hp hpp hkm q3 o3 q2 o1
        go_wp2_with (at_builtin; refine wpList_appg _ (by rfl) (.tmp 81) (.tmp 86) 22 rfl 3 i0 (.int .i64 0) 1 8 Try.underlying22 hi0 hz0 hz1 hz2 rfl (by omega) (w6.heap.size) _ wr.heap.size (wr.heap.size + 1) D (some ⟨wr.heap.size, 0, none⟩) (k + 1 + j) d 1 1 (ints (xs.take (k + 1 + j))) (ints [x]) rfl rfl (ol.alloc _) (Own.new (e := 3) (size := 1) wr #[.int .i64 (x)] 1 (by unfold maxLen; omega) rfl).rd (ints_one _) (by unfold maxLen; omega) (by omega) (by simp; omega) ?_; intro A9 c9 w9 o9 f9; have z9 := f9.size; (try simp at z9))
        rw [← ints_append, drop_join HX.out] at o9
        go_roundw
        case rel => exact ⟨j + 1, A9, c9, by omega, by have := HPP.out; go_num, by rw [Nat.add_assoc], by rw [← Nat.add_assoc]; exact o9, (hb'.alloc hb'.size _).trans (f9.below (by omega) (by have := hb'.size; simp; omega)), (hb8.alloc (by omega) _).trans (f9.below (by omega) (by simp; omega)), by omega⟩
        case measure => simp [intOf]
      · have hjm' : j = m := by omega
        subst hjm'
        rw [List.take_of_length_le (by omega)] at ol
        have hneg : (j : Int) - 1 - j = -1 := by omega
        rw [hneg]
        have hlj : k + 1 + j ≤ 1048576 := by omega
        clear hneg hkm q3 q2 o1
        go_wp2_with fail
        refine (sameInts_any _ _ _ _ _ _ _ _ _ _ xs xs _ ol.rd o3 hlj).mono ?_
        rintro e w10 ⟨rfl, hb10⟩
        go_wp2
        go_ret
        exact ⟨by simp, Below.via hb' hb10⟩
end Go.Proofs.Ytjpmgoejcafjiaa
