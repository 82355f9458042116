/- The walk of the law FnCallsAll: it returns true and leaves all that was in memory as it was, for every code. -/
import Derived.Test.YtjpmgoejcafjiaaDrawCalls
namespace Go.Proofs.Ytjpmgoejcafjiaa
set_option linter.unusedVariables false
open Go.RowKit

theorem calls_pre {xs : List Int} {j : Nat} {x : Int} (h : callsV xs = true) (hl : xs.length ≤ 8) (hx : xs[j]? = some x) : pushO (xs.take j) x = true ∧ pushL (xs.take j) x = xs.take (j + 1) ∧ (xs.take (j + 1)).length = j + 1 := by
  have h1 : callsV (xs.take (j + 1)) = true := by
    unfold callsV at *
    simp only [Bool.and_eq_true, decide_eq_true_eq] at *
    exact ⟨by rw [List.length_take]; omega, diff_take _ h.2⟩
  have hlen : (xs.take (j + 1)).length = j + 1 := by
    have := (List.getElem?_eq_some_iff.1 hx).1
    rw [List.length_take]; omega
  have e : xs.take (j + 1) = xs.take j ++ [x] := take_snoc' hx
  rw [e] at h1
  unfold callsV at h1
  simp only [Bool.and_eq_true, decide_eq_true_eq] at h1
  rw [diff_snoc] at h1
  simp only [Bool.and_eq_true, decide_eq_true_eq] at h1
  have h2 : callsV (xs.take j) = true := by
    unfold callsV
    rw [h1.2.1]
    simp
    omega
  have := push_yes h2 h1.2.2.1 h1.2.2.2
  exact ⟨this.2, by rw [this.1, e], hlen⟩
theorem calls_pop {xs : List Int} {j : Nat} {x : Int} (h : callsV xs = true) (hx : xs[j]? = some x) : popL (xs.take (j + 1)) = xs.take j ∧ popM (xs.take (j + 1)) = x := by
  have h1 : callsV (xs.take (j + 1)) = true := by
    unfold callsV at *
    simp only [Bool.and_eq_true, decide_eq_true_eq] at *
    exact ⟨by rw [List.length_take]; omega, diff_take _ h.2⟩
  have hl : (xs.take (j + 1)).length = j + 1 := by
    have := (List.getElem?_eq_some_iff.1 hx).1
    rw [List.length_take]; omega
  have := pop_yes (x := x) h1 hl (by rw [List.getElem?_take, if_pos (by omega)]; exact hx)
  rw [List.take_take, Nat.min_eq_left (by omega)] at this
  exact this
set_option maxHeartbeats 4000000 in
theorem law_CallsAll (B T n c : Nat) (A : Option Addr) (bs : List Value) (w : World) (hr : Rd w B T 1 A n bs) (hb : Bytes bs) (hnc : n ≤ c) :
    Calls Try.prog 11 #[.slice A n c] w fun e w' => e = .returned (.bool true) ∧ Below w.heap.size w w' := by
  by_cases hbig : 1048576 < n
  · have hd : (1048576 : Int) < (n : Int) := by omega
    go_enter Try.func11, Try.ntmps11
    go_wp2_with fail
    go_ret
    exact ⟨rfl, Below.refl _ _⟩
  have hn : n ≤ 1048576 := by omega
  have hd : ¬ (1048576 : Int) < (n : Int) := by omega
  have hB := Below.refl w.heap.size w
  go_enter Try.func11, Try.ntmps11
  go_wp2_with fail
  refine (DrawCallsValid_any B T n c A bs _ hr hb hn hnc).mono ?_
  rintro e w1 ⟨A1, c1, xs, rfl, o1, hl, hb1⟩
  have z1 := hb1.size
  replace hB := Below.via hB hb1
  go_wp2_with fail
  refine (iCallsValid_any _ _ _ _ _ xs _ o1.rd (by omega) o1.le).mono ?_
  rintro e w2 ⟨rfl, hb2⟩
  have z2 := hb2.size
  replace hB := Below.via hB hb2
  replace o1 := o1.below hb2
  go_wp2_with fail
  refine (sCallsValid_any _ _ _ _ _ xs _ o1.rd (by omega)).mono ?_
  rintro e w3 ⟨rfl, hb3⟩
  have z3 := hb3.size
  replace hB := Below.via hB hb3
  replace o1 := o1.below hb3
  go_wp2_with fail
  refine (sCallsValid_any _ _ _ _ _ xs _ o1.rd (by omega)).mono ?_
  rintro e w4 ⟨rfl, hb4⟩
  have z4 := hb4.size
  replace hB := Below.via hB hb4
  replace o1 := o1.below hb4
  cases hv : callsV xs
  · skip
    go_wp2_with fail
    refine (alive_any _).mono ?_
    rintro e w5 ⟨rfl, hb5⟩
    have z5 := hb5.size
    replace hB := Below.via hB hb5
    go_wp2
    go_ret
    exact ⟨rfl, hB⟩
  · have HV := Lib.hid hv
    have HO := Lib.hid (o1.rd.mono (Nat.zero_le _) (show w1.heap.size ≤ w4.heap.size by omega))
    have z0 := hB.size
    clear hv o1
    go_wp2
    go_loopw [4, 5] (fun a i wr => ∃ (j : Nat) (D : Option Addr) (d : Nat), j ≤ xs.length ∧ i = .int .i64 j ∧ a = .slice D j d ∧ Own wr w4.heap.size wr.heap.size 3 1 D j d (ints (xs.take j)) ∧ Below w4.heap.size w4 wr) (fun _ i _ => xs.length - (intOf i).toNat)
    case atStart => exact ⟨0, _, 0, by omega, rfl, rfl, Own.nil _ _ _ _ _ _, (Below.refl _ _).alloc (Nat.le_refl _) _⟩
    case round =>
      obtain ⟨j, D, d, hj, rfl, rfl, ol, hb'⟩ := hrel
      have hzb := hb'.size
      have o3 := HO.out.below hb'
      by_cases hlt : j < xs.length
      · obtain ⟨b, o, x, rfl, hbl, hx, hc⟩ := ints_at o3 hlt
        have hcp := calls_pre HV.out hl hx
        have HP := Lib.hid hcp
        have hj0 : (0 : Int) ≤ (j : Int) := by omega
        have hj1 : (j : Int) < (xs.length : Int) := by omega
        clear hcp hx o3
        go_wp2_with fail
        refine (iPushCall_any _ _ _ _ _ (xs.take j) x _ ol.rd (by omega) ol.le).mono ?_
        rintro e w5 ⟨A5, c5, rfl, o5, hb5⟩
        have hz5 := hb5.size
        rw [HP.out.2.1, HP.out.2.2] at o5 ⊢
        rw [HP.out.1]
        go_wp2
        go_roundw
        case rel => exact ⟨j + 1, A5, c5, by omega, by go_num, rfl, o5.mono (by omega) (Nat.le_refl _), Below.via hb' hb5⟩
        case measure => simp [intOf]; omega
      · have hjn : j = xs.length := by omega
        subst hjn
        clear o3
        rw [List.take_length] at ol
        have hjj : ¬ ((xs.length : Int) < (xs.length : Int)) := by omega
        obtain ⟨wo, rfl⟩ : ∃ wo : World, wo = wr := ⟨_, rfl⟩
        go_wp2
        go_loopw [4, 8] (fun a i wr => ∃ (j : Nat) (D : Option Addr) (d : Nat), j ≤ xs.length ∧ i = .int .i64 ((j : Int) - 1) ∧ a = .slice D j d ∧ Own wr w4.heap.size wr.heap.size 3 1 D j d (ints (xs.take j)) ∧ Below w4.heap.size w4 wr) (fun _ i _ => (intOf i + 1).toNat)
        case atStart => exact ⟨xs.length, D, d, Nat.le_refl _, rfl, rfl, by rw [List.take_length]; exact ol, hb'⟩
        case round =>
          clear ol hb' hzb
          obtain ⟨j, D, d, hj, rfl, rfl, ol, hb'⟩ := hrel
          have hzb := hb'.size
          have o3 := HO.out.below hb'
          cases j with
          | zero =>
            have hjm : ((0 : Nat) : Int) - 1 = -1 := rfl
            rw [hjm]
            clear o3
            go_wp2
            go_ret
            exact ⟨rfl, hB.trans (hb'.mono (by omega))⟩
          | succ q =>
            obtain ⟨b, o, y, rfl, hbl, hx, hc⟩ := ints_at o3 (show q < xs.length by omega)
            have hqs : ((q + 1 : Nat) : Int) - 1 = (q : Int) := by omega
            have hpt := calls_pop HV.out hx
            have HPT := Lib.hid hpt
            have hq0 : (0 : Int) ≤ (q : Int) := by omega
            have hq1 : (q : Int) < (xs.length : Int) := by omega
            rw [hqs]
            clear hqs hx hpt o3
            go_wp2_with fail
            refine (iPopReply_any _ _ _ _ _ (xs.take (q + 1)) _ ol.rd (by omega) ol.le).mono ?_
            rintro e w11 ⟨A5, c5, rfl, o5, hb5⟩
            have hc5 := (hb5.cell (p := ⟨b, o + q, none⟩) hbl).trans hc
            have hz5 := hb5.size
            have hlq : (xs.take q).length = q := by rw [List.length_take]; omega
            rw [HPT.out.1, hlq] at o5 ⊢
            rw [HPT.out.2]
            clear hlq hc
            go_wp2
            go_roundw
            case rel => exact ⟨q, A5, c5, by omega, by go_num, rfl, o5.mono (by omega) (Nat.le_refl _), Below.via hb' hb5⟩
            case measure => simp [intOf]
end Go.Proofs.Ytjpmgoejcafjiaa
