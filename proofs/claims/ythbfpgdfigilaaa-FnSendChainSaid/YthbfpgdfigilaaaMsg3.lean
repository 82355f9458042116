/- Contracts of PackCap and PackMessage (impl and spec). -/
import Derived.Test.YthbfpgdfigilaaaMsg2
namespace Go.Proofs.Ythbfpgdfigilaaa
set_option linter.unusedVariables false
open Go.RowKit
def packF (k o r b : Int) : Int := if capOk k o r b = true then k + 8 * (o + 100 * (r + 16 * b)) else -1
def packC (c : Cp) : Int := packF c.1 c.2.1 c.2.2.1 c.2.2.2
theorem packF_no {k o r b : Int} (h : capOk k o r b = false) : packF k o r b = -1 := by unfold packF; rw [h]; rfl
theorem packF_yes {k o r b : Int} (h : capOk k o r b = true) : packF k o r b = k + 8 * (o + 100 * (r + 16 * b)) := by unfold packF; rw [h]; rfl
theorem capOk_bounds {k o r b : Int} (h : capOk k o r b = true) : 0 ≤ k ∧ k ≤ 7 ∧ 0 ≤ o ∧ o ≤ 99 ∧ 0 ≤ r ∧ r ≤ 15 ∧ 0 ≤ b ∧ b ≤ 999 := by
  unfold capOk at h
  split at h
  · simp only [Bool.and_eq_true, decide_eq_true_eq] at h
    omega
  · simp only [Bool.and_eq_true, Bool.or_eq_true, decide_eq_true_eq, inB_true] at h
    omega
def packL (l : Int) (xs : List Int) (cs : List Cp) : List Int := if msgOk l xs cs = true then [l, (xs.length : Int) + 16 * (cs.length : Int)] ++ xs ++ cs.map packC else []
theorem packL_no {l : Int} {xs : List Int} {cs : List Cp} (h : msgOk l xs cs = false) : packL l xs cs = [] := by unfold packL; rw [h]; rfl
theorem packL_yes {l : Int} {xs : List Int} {cs : List Cp} (h : msgOk l xs cs = true) : packL l xs cs = [l, (xs.length : Int) + 16 * (cs.length : Int)] ++ xs ++ cs.map packC := by unfold packL; rw [h]; rfl
theorem msgOk_len {l : Int} {xs : List Int} {cs : List Cp} (h : msgOk l xs cs = true) : xs.length ≤ 8 ∧ cs.length ≤ 3 := by
  unfold msgOk at h
  simp only [Bool.and_eq_true, decide_eq_true_eq] at h
  omega
theorem packL_len (l : Int) (xs : List Int) (cs : List Cp) : (packL l xs cs).length ≤ 1048576 := by
  cases h : msgOk l xs cs
  · rw [packL_no h]; simp
  · have := msgOk_len h
    rw [packL_yes h]
    simp
    omega
theorem Blk.own4 {w w' : World} {b : Nat} {e : TypeId} {cs : Array Value} {B T : Nat} (h : Blk w b e cs) (hf : Fr B T w w') (hb : b < B := by omega) : Blk w' b e cs := h.fr hf (.inl hb)
set_option maxHeartbeats 1000000 in
theorem iPackCap_any (k o r b : Int) (w : World) : Calls Try.prog 53 #[capv k o r b] w fun e w' => e = .returned (.int .i64 (packF k o r b)) ∧ Below w.heap.size w w' := by
  have TP := Blk.new w 45 #[.int .i64 k, .int .i64 o, .int .i64 r, .int .i64 b]
  cases hv : capOk k o r b
  · have HV := Lib.hid (packF_no hv)
    go_enter Try.func53, Try.ntmps53
    go_wp2_with fail
    refine (iCapValid_any _ _ _ _ _).mono ?_
    rintro e w1 ⟨rfl, hb1⟩
    rw [hv]
    go_wp2
    go_ret
    exact ⟨by rw [HV.out]; rfl, Below.via (by (repeat (first | (with_reducible assumption) | (with_reducible exact Below.refl _ _) | (with_reducible refine Below.setCell ?_ (by first | (simp; done) | (simp; omega) | omega) _) | (with_reducible refine Below.alloc ?_ (by first | (simp; done) | (simp; omega) | omega) _) | (with_reducible refine Below.drew ?_) | (with_reducible refine Below.drewN ?_ _))) : Below w.heap.size w _) hb1⟩
  · have HV := Lib.hid (packF_yes hv)
    obtain ⟨k0, k1, o0, o1, r0, r1, b0, b1⟩ := capOk_bounds hv
    go_enter Try.func53, Try.ntmps53
    go_wp2_with fail
    refine (iCapValid_any _ _ _ _ _).mono ?_
    rintro e w1 ⟨rfl, hb1⟩
    rw [hv]
    replace TP := TP.below hb1
    obtain ⟨q0, q1, q2, q3⟩ := TP.four
    go_wp2
    go_ret
    exact ⟨by rw [HV.out]; rfl, Below.via (by (repeat (first | (with_reducible assumption) | (with_reducible exact Below.refl _ _) | (with_reducible refine Below.setCell ?_ (by first | (simp; done) | (simp; omega) | omega) _) | (with_reducible refine Below.alloc ?_ (by first | (simp; done) | (simp; omega) | omega) _) | (with_reducible refine Below.drew ?_) | (with_reducible refine Below.drewN ?_ _))) : Below w.heap.size w _) hb1⟩
set_option maxHeartbeats 1000000 in
theorem sPackCap_any (k o r b : Int) (w : World) : Calls Try.prog 52 #[capv k o r b] w fun e w' => e = .returned (.int .i64 (packF k o r b)) ∧ Below w.heap.size w w' := by
  have TP := Blk.new w 45 #[.int .i64 k, .int .i64 o, .int .i64 r, .int .i64 b]
  cases hv : capOk k o r b
  · have HV := Lib.hid (packF_no hv)
    go_enter Try.func52, Try.ntmps52
    go_wp2_with fail
    refine (sCapValid_any _ _ _ _ _).mono ?_
    rintro e w1 ⟨rfl, hb1⟩
    rw [hv]
    go_wp2
    go_ret
    exact ⟨by rw [HV.out]; rfl, Below.via (by (repeat (first | (with_reducible assumption) | (with_reducible exact Below.refl _ _) | (with_reducible refine Below.setCell ?_ (by first | (simp; done) | (simp; omega) | omega) _) | (with_reducible refine Below.alloc ?_ (by first | (simp; done) | (simp; omega) | omega) _) | (with_reducible refine Below.drew ?_) | (with_reducible refine Below.drewN ?_ _))) : Below w.heap.size w _) hb1⟩
  · have HV := Lib.hid (packF_yes hv)
    obtain ⟨k0, k1, o0, o1, r0, r1, b0, b1⟩ := capOk_bounds hv
    go_enter Try.func52, Try.ntmps52
    go_wp2_with fail
    refine (sCapValid_any _ _ _ _ _).mono ?_
    rintro e w1 ⟨rfl, hb1⟩
    rw [hv]
    replace TP := TP.below hb1
    obtain ⟨q0, q1, q2, q3⟩ := TP.four
    go_wp2
    go_ret
    exact ⟨by rw [HV.out]; rfl, Below.via (by (repeat (first | (with_reducible assumption) | (with_reducible exact Below.refl _ _) | (with_reducible refine Below.setCell ?_ (by first | (simp; done) | (simp; omega) | omega) _) | (with_reducible refine Below.alloc ?_ (by first | (simp; done) | (simp; omega) | omega) _) | (with_reducible refine Below.drew ?_) | (with_reducible refine Below.drewN ?_ _))) : Below w.heap.size w _) hb1⟩
set_option maxHeartbeats 4000000 in
theorem iPackMessage_any (B T n c m d : Nat) (l : Int) (A D : Option Addr) (xs : List Int) (cs : List Cp) (w : World) (hr : Rd w B T 1 A n (ints xs)) (hn : n ≤ 1048576) (hr2 : Rd w B T 4 D m (caps cs)) (hm : m ≤ 1048576) :
    Calls Try.prog 18 #[msg l A n c D m d] w (NewInts w (packL l xs cs)) := by
  obtain ⟨i0, hi0, hz0, hz1, hz2⟩ := info_parts Try.infoInt
  have HL := Lib.hid (ints_len hr)
  have HM := Lib.hid (caps_len hr2)
  replace hr := hr.here Nat.one_pos
  replace hr2 := hr2.here (by omega)
  have TP := Blk.new w 30 #[.int .i64 l, .slice A n c, .slice D m d]
  have hB : Below w.heap.size w (w.alloc (.cells #[.int .i64 l, .slice A n c, .slice D m d] 30)) := by (repeat (first | (with_reducible assumption) | (with_reducible exact Below.refl _ _) | (with_reducible refine Below.setCell ?_ (by first | (simp; done) | (simp; omega) | omega) _) | (with_reducible refine Below.alloc ?_ (by first | (simp; done) | (simp; omega) | omega) _) | (with_reducible refine Below.drew ?_) | (with_reducible refine Below.drewN ?_ _)))
  cases hv : msgOk l xs cs
  · have HV := Lib.hid (packL_no hv)
    go_enter Try.func18, Try.ntmps18
    go_wp2_with fail
    refine (iMessageValid_any _ _ _ _ _ _ l _ _ xs cs _ (hr.belowT hB) hn (hr2.belowT hB) hm).mono ?_
    rintro e w1 ⟨rfl, hb1⟩
    rw [hv]
    go_wp2
    go_ret
    rw [HV.out]
    exact ⟨none, 0, rfl, Own.nil _ _ _ _ _ _, Below.via hB hb1⟩
  · have HV := Lib.hid (packL_yes hv)
    have hml := msgOk_len hv
    rw [HL.out, HM.out] at hml
    obtain ⟨hn8, hm3⟩ := hml
    have hs2 : n + m ≤ 11 := by omega
    go_enter Try.func18, Try.ntmps18
    go_wp2_with fail
    refine (iMessageValid_any _ _ _ _ _ _ l _ _ xs cs _ (hr.belowT hB) hn (hr2.belowT hB) hm).mono ?_
    rintro e w1 ⟨rfl, hb1⟩
    rw [hv]
    have z1 := hb1.size
    simp at z1
    replace TP := TP.below hb1
    replace hB := Below.via hB hb1
    have hr1 := hr.belowT hB
    have q0 := TP.cell 0 rfl
    have q1 := TP.cell 1 rfl
    have q2 := TP.cell 2 rfl
    have lP := TP.lt
    clear hb1
    go_wp2_with (at_builtin; refine wpList_app _ rfl (.tmp 19) (.tmp 21) 22 rfl 3 i0 (.int .i64 0) 1 8 Try.underlying22 hi0 hz0 hz1 hz2 rfl (by omega) w1.heap.size (w1.heap.size + 1) 0 w.heap.size (some ⟨w1.heap.size, 0, none⟩) A 2 2 n c (ints [l, (n : Int) + 16 * (m : Int)]) (ints xs) rfl rfl (Own.new (e := 3) (size := 1) w1 #[.int .i64 l, .int .i64 ((n : Int) + 16 * (m : Int))] 2 (by unfold maxLen; omega) rfl) (hr1.alloc _) (ints_one _) (by unfold maxLen; omega) (by omega) (by simp) ?_; intro A2 c2 w2 o2 f2; rw [← ints_append] at o2; have z2 := f2.size; (try simp at z2); have hB2 := Below.trans (by (repeat (first | (with_reducible assumption) | (with_reducible exact Below.refl _ _) | (with_reducible refine Below.setCell ?_ (by first | (simp; done) | (simp; omega) | omega) _) | (with_reducible refine Below.alloc ?_ (by first | (simp; done) | (simp; omega) | omega) _) | (with_reducible refine Below.drew ?_) | (with_reducible refine Below.drewN ?_ _))) : Below w.heap.size w _) (f2.below (W := w.heap.size) (by omega) (by simp; omega)); replace TP := (TP.alloc (.cells #[.int .i64 l, .int .i64 ((n : Int) + 16 * (m : Int))] 3)).fr f2 (.inl (by omega)); clear q0 q1 q2 hr1 f2; have q0 := TP.cell 0 rfl; have q1 := TP.cell 1 rfl; have q2 := TP.cell 2 rfl; have lP2 := TP.lt)
    clear q0 q1 q2
    go_loopw [3, 26] (fun z i wr => ∃ q : Nat, q ≤ m ∧ i = .int .i64 q ∧ ∃ (A2 : Option Addr) (nn c2 : Nat) (acc : List Int), z = .slice A2 nn c2 ∧ Own wr (w.heap.size + 1) wr.heap.size 3 1 A2 nn c2 (ints acc) ∧ Hid (acc = [l, (n : Int) + 16 * (m : Int)] ++ xs ++ (cs.take q).map packC) ∧ nn ≤ 12 + q ∧ w.heap.size < wr.heap.size ∧ Below w.heap.size w wr) (fun _ i _ => m - (intOf i).toNat)
    case atStart => exact ⟨0, by omega, rfl, A2, 2 + n, c2, _, rfl, o2.mono (by omega) (Nat.le_refl _), Lib.hid (by simp), by omega, by omega, hB2⟩
    case round =>
      clear o2 hB2 TP hB
      obtain ⟨q, hq, rfl, A5, nn, c5, acc, rfl, ho, hacc, hnn, hlt0, hb⟩ := hrel
      have hB := hb
      by_cases hlt : q < m
      · obtain ⟨b, o, kk, oo, rr, bb, rfl, hbl, hx, e0, e1, e2, e3⟩ := cap_at (hr2.belowT hb) hlt
        have hqq : (q : Int) < (m : Int) := by omega
        have hq0 : (0 : Int) ≤ (q : Int) := by omega
        have HX := Lib.hid hx
        clear hx hr hr2
        go_wp2_with fail
        refine (iPackCap_any _ _ _ _ _).mono ?_
        rintro e w3 ⟨rfl, hb3⟩
        have z3 := hb3.size
        (try simp at z3)
        have hB3 := Below.via (by (repeat (first | (with_reducible assumption) | (with_reducible exact Below.refl _ _) | (with_reducible refine Below.setCell ?_ (by first | (simp; done) | (simp; omega) | omega) _) | (with_reducible refine Below.alloc ?_ (by first | (simp; done) | (simp; omega) | omega) _) | (with_reducible refine Below.drew ?_) | (with_reducible refine Below.drewN ?_ _))) : Below w.heap.size w _) hb3
        have ho3 := Own.below (Own.alloc ho _) hb3
        clear hb3 ho e0 e1 e2 e3
        go_wp2_with ((at_builtin; refine wpList_appg _ (by rfl) (.tmp 30) (.tmp 33) 22 rfl 3 i0 (.int .i64 0) 1 8 Try.underlying22 hi0 hz0 hz1 hz2 rfl (by omega) (w.heap.size + 1) _ w3.heap.size (w3.heap.size + 1) A5 (some ⟨w3.heap.size, 0, none⟩) nn c5 1 1 (ints acc) (ints [packF kk oo rr bb]) rfl rfl (ho3.alloc _) (Own.new (e := 3) (size := 1) w3 #[.int .i64 (packF kk oo rr bb)] 1 (by unfold maxLen; omega) rfl).rd (ints_one _) (by unfold maxLen; omega) (by omega) (by simp; omega) ?_; intro A4 c4 w4 o4 f4; have z4 := f4.size; (try simp at z4)); rw [← ints_append] at o4; have hB4 := Below.trans (by (repeat (first | (with_reducible assumption) | (with_reducible exact Below.refl _ _) | (with_reducible refine Below.setCell ?_ (by first | (simp; done) | (simp; omega) | omega) _) | (with_reducible refine Below.alloc ?_ (by first | (simp; done) | (simp; omega) | omega) _) | (with_reducible refine Below.drew ?_) | (with_reducible refine Below.drewN ?_ _))) : Below w.heap.size w _) (f4.below (W := w.heap.size) (by omega) (by simp; omega)))
        go_roundw
        case rel => exact ⟨q + 1, by omega, by go_num, A4, nn + 1, c4, acc ++ [packF kk oo rr bb], rfl, o4, Lib.hid (by rw [hacc.out, List.take_add_one, HX.out]; simp [packC]), by omega, by omega, hB4⟩
        case measure => simp [intOf]; omega
      · have hkn : q = m := by omega
        subst hkn
        have HE := Lib.hid (show acc = packL l xs cs by
          rw [hacc.out, HV.out, HL.out, HM.out, List.take_of_length_le (by rw [HM.out]; exact Nat.le_refl _)])
        have hal : acc.length = nn := ints_len ho.rd
        have HAL := Lib.hid hal
        clear hal hr hr2
        go_wp2_with fail
        refine (clone_any _ _ _ _ _ acc _ ho.rd (by omega)).mono ?_
        rintro e w6 ⟨A6, c6, rfl, o6, hb6⟩
        go_wp2
        go_ret
        rw [← HE.out]
        exact ⟨A6, c6, rfl, o6.mono hb.size (Nat.le_refl _), Below.via hb hb6⟩
set_option maxHeartbeats 4000000 in
theorem sPackMessage_any (B T n c m d : Nat) (l : Int) (A D : Option Addr) (xs : List Int) (cs : List Cp) (w : World) (hr : Rd w B T 1 A n (ints xs)) (hn : n ≤ 1048576) (hr2 : Rd w B T 4 D m (caps cs)) (hm : m ≤ 1048576) :
    Calls Try.prog 17 #[msg l A n c D m d] w (NewInts w (packL l xs cs)) := by
  obtain ⟨i0, hi0, hz0, hz1, hz2⟩ := info_parts Try.infoInt
  have HL := Lib.hid (ints_len hr)
  have HM := Lib.hid (caps_len hr2)
  replace hr := hr.here Nat.one_pos
  replace hr2 := hr2.here (by omega)
  have TP := Blk.new w 30 #[.int .i64 l, .slice A n c, .slice D m d]
  have hB : Below w.heap.size w (w.alloc (.cells #[.int .i64 l, .slice A n c, .slice D m d] 30)) := by (repeat (first | (with_reducible assumption) | (with_reducible exact Below.refl _ _) | (with_reducible refine Below.setCell ?_ (by first | (simp; done) | (simp; omega) | omega) _) | (with_reducible refine Below.alloc ?_ (by first | (simp; done) | (simp; omega) | omega) _) | (with_reducible refine Below.drew ?_) | (with_reducible refine Below.drewN ?_ _)))
  cases hv : msgOk l xs cs
  · have HV := Lib.hid (packL_no hv)
    go_enter Try.func17, Try.ntmps17
    go_wp2_with fail
    refine (sMessageValid_any _ _ _ _ _ _ l _ _ xs cs _ (hr.belowT hB) hn (hr2.belowT hB) hm).mono ?_
    rintro e w1 ⟨rfl, hb1⟩
    rw [hv]
    have hB9 := Below.via hB hb1
    go_wp2
    go_ret
    rw [HV.out]
    exact ⟨some ⟨w1.heap.size, 0, none⟩, 0, rfl, Own.nil _ _ _ _ _ _, hB9.alloc hB9.size _⟩
  · have HV := Lib.hid (packL_yes hv)
    have hml := msgOk_len hv
    rw [HL.out, HM.out] at hml
    obtain ⟨hn8, hm3⟩ := hml
    have hs2 : n + m ≤ 11 := by omega
    go_enter Try.func17, Try.ntmps17
    go_wp2_with fail
    refine (sMessageValid_any _ _ _ _ _ _ l _ _ xs cs _ (hr.belowT hB) hn (hr2.belowT hB) hm).mono ?_
    rintro e w1 ⟨rfl, hb1⟩
    rw [hv]
    have z1 := hb1.size
    simp at z1
    replace TP := TP.below hb1
    replace hB := Below.via hB hb1
    have hr1 := hr.belowT hB
    have q0 := TP.cell 0 rfl
    have q1 := TP.cell 1 rfl
    have q2 := TP.cell 2 rfl
    have lP := TP.lt
    clear hb1
    go_wp2_with (at_builtin; refine wpList_app _ rfl (.tmp 19) (.tmp 21) 22 rfl 3 i0 (.int .i64 0) 1 8 Try.underlying22 hi0 hz0 hz1 hz2 rfl (by omega) w1.heap.size (w1.heap.size + 1) 0 w.heap.size (some ⟨w1.heap.size, 0, none⟩) A 2 2 n c (ints [l, (n : Int) + 16 * (m : Int)]) (ints xs) rfl rfl (Own.new (e := 3) (size := 1) w1 #[.int .i64 l, .int .i64 ((n : Int) + 16 * (m : Int))] 2 (by unfold maxLen; omega) rfl) (hr1.alloc _) (ints_one _) (by unfold maxLen; omega) (by omega) (by simp) ?_; intro A2 c2 w2 o2 f2; rw [← ints_append] at o2; have z2 := f2.size; (try simp at z2); have hB2 := Below.trans (by (repeat (first | (with_reducible assumption) | (with_reducible exact Below.refl _ _) | (with_reducible refine Below.setCell ?_ (by first | (simp; done) | (simp; omega) | omega) _) | (with_reducible refine Below.alloc ?_ (by first | (simp; done) | (simp; omega) | omega) _) | (with_reducible refine Below.drew ?_) | (with_reducible refine Below.drewN ?_ _))) : Below w.heap.size w _) (f2.below (W := w.heap.size) (by omega) (by simp; omega)); replace TP := (TP.alloc (.cells #[.int .i64 l, .int .i64 ((n : Int) + 16 * (m : Int))] 3)).fr f2 (.inl (by omega)); clear q0 q1 q2 hr1 f2; have q0 := TP.cell 0 rfl; have q1 := TP.cell 1 rfl; have q2 := TP.cell 2 rfl; have lP2 := TP.lt)
    clear q0 q1 q2
    go_loopw [3, 4] (fun z i wr => ∃ q : Nat, q ≤ m ∧ i = .int .i64 q ∧ ∃ (A2 : Option Addr) (nn c2 : Nat) (acc : List Int), z = .slice A2 nn c2 ∧ Own wr (w.heap.size + 1) wr.heap.size 3 1 A2 nn c2 (ints acc) ∧ Hid (acc = [l, (n : Int) + 16 * (m : Int)] ++ xs ++ (cs.take q).map packC) ∧ nn ≤ 12 + q ∧ w.heap.size < wr.heap.size ∧ Blk wr w.heap.size 30 #[.int .i64 l, .slice A n c, .slice D m d] ∧ Below w.heap.size w wr) (fun _ i _ => m - (intOf i).toNat)
    case atStart => exact ⟨0, by omega, rfl, A2, 2 + n, c2, _, rfl, o2.mono (by omega) (Nat.le_refl _), Lib.hid (by simp), by omega, by omega, TP, hB2⟩
    case round =>
      clear o2 hB2 TP hB
      obtain ⟨q, hq, rfl, A5, nn, c5, acc, rfl, ho, hacc, hnn, hlt0, TP, hb⟩ := hrel
      have hB := hb
      have q2 := TP.cell 2 rfl
      have lP := TP.lt
      by_cases hlt : q < m
      · obtain ⟨b, o, kk, oo, rr, bb, rfl, hbl, hx, e0, e1, e2, e3⟩ := cap_at (hr2.belowT hb) hlt
        have hqq : (q : Int) < (m : Int) := by omega
        have hq0 : (0 : Int) ≤ (q : Int) := by omega
        have HX := Lib.hid hx
        clear hx hr hr2
        go_wp2_with fail
        refine (sPackCap_any _ _ _ _ _).mono ?_
        rintro e w3 ⟨rfl, hb3⟩
        have z3 := hb3.size
        (try simp at z3)
        have hB3 := Below.via (by (repeat (first | (with_reducible assumption) | (with_reducible exact Below.refl _ _) | (with_reducible refine Below.setCell ?_ (by first | (simp; done) | (simp; omega) | omega) _) | (with_reducible refine Below.alloc ?_ (by first | (simp; done) | (simp; omega) | omega) _) | (with_reducible refine Below.drew ?_) | (with_reducible refine Below.drewN ?_ _))) : Below w.heap.size w _) hb3
        have ho3 := Own.below ho hb3
        replace TP := TP.below hb3
        have lP3 := TP.lt
        clear hb3 ho e0 e1 e2 e3 q2
        go_wp2_with ((at_builtin; refine wpList_appg _ (by rfl) (.tmp 30) (.tmp 37) 22 rfl 3 i0 (.int .i64 0) 1 8 Try.underlying22 hi0 hz0 hz1 hz2 rfl (by omega) (w.heap.size + 1) _ w3.heap.size (w3.heap.size + 1) A5 (some ⟨w3.heap.size, 0, none⟩) nn c5 1 1 (ints acc) (ints [packF kk oo rr bb]) rfl rfl (ho3.alloc _) (Own.new (e := 3) (size := 1) w3 #[.int .i64 (packF kk oo rr bb)] 1 (by unfold maxLen; omega) rfl).rd (ints_one _) (by unfold maxLen; omega) (by omega) (by simp; omega) ?_; intro A4 c4 w4 o4 f4; have z4 := f4.size; (try simp at z4)); rw [← ints_append] at o4; have hB4 := Below.trans (by (repeat (first | (with_reducible assumption) | (with_reducible exact Below.refl _ _) | (with_reducible refine Below.setCell ?_ (by first | (simp; done) | (simp; omega) | omega) _) | (with_reducible refine Below.alloc ?_ (by first | (simp; done) | (simp; omega) | omega) _) | (with_reducible refine Below.drew ?_) | (with_reducible refine Below.drewN ?_ _))) : Below w.heap.size w _) (f4.below (W := w.heap.size) (by omega) (by simp; omega)); replace TP := (TP.alloc (.cells #[.int .i64 (packF kk oo rr bb)] 3)).own4 f4)
        go_roundw
        case rel => exact ⟨q + 1, by omega, by go_num, A4, nn + 1, c4, acc ++ [packF kk oo rr bb], rfl, o4, Lib.hid (by rw [hacc.out, List.take_add_one, HX.out]; simp [packC]), by omega, by omega, TP, hB4⟩
        case measure => simp [intOf]; omega
      · have hkn : q = m := by omega
        subst hkn
        have HE := Lib.hid (show acc = packL l xs cs by
          rw [hacc.out, HV.out, HL.out, HM.out, List.take_of_length_le (by rw [HM.out]; exact Nat.le_refl _)])
        have hal : acc.length = nn := ints_len ho.rd
        have HAL := Lib.hid hal
        clear hal hr hr2
        go_wp2
        go_ret
        refine ⟨A5, c5, by rw [← HE.out, HAL.out]; rfl, by rw [← HE.out, HAL.out]; exact ho.mono (by omega) (Nat.le_refl _), hb⟩
end Go.Proofs.Ythbfpgdfigilaaa
