/- The walk of the law FnPushCall: it returns true and leaves all that was in memory as it was, for every code. -/
import Derived.Test.YtjpmgoejcafjiaaDrawCalls
namespace Go.Proofs.Ytjpmgoejcafjiaa
set_option linter.unusedVariables false
open Go.RowKit

theorem push_case {xs : List Int} {v : Int} (hl : xs.length ≤ 15) : (pushO xs v = false ∧ pushL xs v = []) ∨ (pushO xs v = false ∧ pushL xs v = xs) ∨
    (pushO xs v = true ∧ pushL xs v = xs ++ [v] ∧ callsV (xs ++ [v]) = true ∧ v ∈ xs ++ [v] ∧ inB v 0 15 = true) := by
  cases h1 : callsV xs
  · have := push_no1 (v := v) h1; exact .inl ⟨this.2, this.1⟩
  · cases h2 : inB v 0 15
    · have := push_no2 (xs := xs) h2; exact .inl ⟨this.2, this.1⟩
    · by_cases h3 : v ∈ xs
      · have := push_no3 h1 h2 h3; exact .inr (.inl ⟨this.2, this.1⟩)
      · have := push_yes h1 h2 h3
        refine .inr (.inr ⟨this.2, this.1, ?_, by simp, rfl⟩)
        unfold callsV at *
        simp only [Bool.and_eq_true, decide_eq_true_eq] at *
        exact ⟨by simp; omega, by rw [diff_snoc, h1.2, h2]; simp [h3]⟩
theorem snoc_get (xs : List Int) (v : Int) : (xs ++ [v])[xs.length]? = some v := by simp
set_option maxHeartbeats 4000000 in
theorem law_PushCall (B T n c : Nat) (A : Option Addr) (bs : List Value) (w : World) (hr : Rd w B T 1 A n bs) (hb : Bytes bs) (hnc : n ≤ c) :
    Calls Try.prog 13 #[.slice A n c] w fun e w' => e = .returned (.bool true) ∧ Below w.heap.size w w' := by
  by_cases hbig : 1048576 < n
  · have hd : (1048576 : Int) < (n : Int) := by omega
    go_enter Try.func13, Try.ntmps13
    go_wp2_with fail
    go_ret
    exact ⟨rfl, Below.refl _ _⟩
  have hn : n ≤ 1048576 := by omega
  have hd : ¬ (1048576 : Int) < (n : Int) := by omega
  have hB := Below.refl w.heap.size w
  go_enter Try.func13, Try.ntmps13
  go_wp2_with fail
  refine (DrawPushCall_any B T n c A bs _ hr hb hn hnc).mono ?_
  rintro e w1 ⟨A1, c1, xs, v, rfl, o1, hl, hb1⟩
  have z1 := hb1.size
  replace hB := Below.via hB hb1
  go_wp2_with fail
  refine (iPushCall_any _ _ _ _ _ xs v _ o1.rd (by omega) o1.le).mono ?_
  rintro e w2 ⟨A2, c2, rfl, o2, hb2⟩
  have z2 := hb2.size
  replace hB := Below.via hB hb2
  replace o1 := o1.below hb2
  go_wp2_with fail
  refine (sPushCall_any _ _ _ _ _ xs v _ o1.rd (by omega)).mono ?_
  rintro e w3 ⟨A3, c3, rfl, o3, hb3⟩
  have z3 := hb3.size
  replace hB := Below.via hB hb3
  replace o1 := o1.below hb3
  replace o2 := o2.below hb3
  go_wp2_with fail
  refine (sameInts_any _ _ _ _ _ _ _ _ _ _ _ _ _ o2.rd o3.rd (push_len xs v)).mono ?_
  rintro e w4 ⟨rfl, hb4⟩
  have z4 := hb4.size
  replace hB := Below.via hB hb4
  replace o1 := o1.below hb4
  replace o2 := o2.below hb4
  rcases push_case (v := v) (show xs.length ≤ 15 by omega) with ⟨h1, h2⟩ | ⟨h1, h2⟩ | ⟨h1, h2, h3, h4, h5⟩
  · rw [h2] at o2
    rw [h1, h2]
    clear h1 h2
    go_wp2_with fail
    refine (alive_any _).mono ?_
    rintro e w5 ⟨rfl, hb5⟩
    have z5 := hb5.size
    replace hB := Below.via hB hb5
    go_wp2
    go_ret
    exact ⟨rfl, hB⟩
  · rw [h2] at o2
    rw [h1, h2]
    clear h1 h2
    by_cases h0 : xs = []
    · subst h0
      go_wp2_with fail
      refine (alive_any _).mono ?_
      rintro e w5 ⟨rfl, hb5⟩
      have z5 := hb5.size
      replace hB := Below.via hB hb5
      go_wp2
      go_ret
      exact ⟨rfl, hB⟩
    · have h0' : (xs.length == 0) = false := by simp [h0]
      have h00 : ¬ xs.length = 0 := by simpa using h0
      go_wp2_with fail
      refine (sameInts_any _ _ _ _ _ _ _ _ _ _ xs xs _ o2.rd o1.rd (by omega)).mono ?_
      rintro e w5 ⟨rfl, hb5⟩
      have z5 := hb5.size
      replace hB := Below.via hB hb5
      go_wp2_with fail
      refine (alive_any _).mono ?_
      rintro e w6 ⟨rfl, hb6⟩
      have z6 := hb6.size
      replace hB := Below.via hB hb6
      go_wp2
      go_ret
      exact ⟨rfl, hB⟩
  · have hp := pop_yes h3 (by simp : (xs ++ [v]).length = xs.length + 1) (snoc_get xs v)
    have hq := push_no3 h3 h5 h4
    have hlen : (xs ++ [v]).length ≤ 1048576 := by simp; omega
    rw [List.take_left] at hp
    obtain ⟨ys, hys⟩ : ∃ ys, xs ++ [v] = ys := ⟨_, rfl⟩
    rw [hys] at h2 h3 hp hq hlen
    rw [h2] at o2
    rw [h1, h2]
    have H3 := Lib.hid h3
    have HP := Lib.hid hp
    have HQ := Lib.hid hq
    clear h1 h2 h3 h4 h5 hp hq hys
    go_wp2_with fail
    refine (iPopReply_any _ _ _ _ _ ys _ o2.rd hlen o2.le).mono ?_
    rintro e w5 ⟨A5, c5, rfl, o5, hb5⟩
    have z5 := hb5.size
    replace hB := Below.via hB hb5
    replace o1 := o1.below hb5
    replace o2 := o2.below hb5
    rw [HP.out.1] at o5 ⊢
    rw [HP.out.2]
    go_wp2_with fail
    refine (iPushCall_any _ _ _ _ _ ys v _ o2.rd hlen o2.le).mono ?_
    rintro e w6 ⟨A6, c6, rfl, o6, hb6⟩
    have z6 := hb6.size
    replace hB := Below.via hB hb6
    replace o1 := o1.below hb6
    replace o2 := o2.below hb6
    replace o5 := o5.below hb6
    rw [HQ.out.2]
    go_wp2_with fail
    refine (sameInts_any _ _ _ _ _ _ _ _ _ _ xs xs _ o5.rd o1.rd (by omega)).mono ?_
    rintro e w7 ⟨rfl, hb7⟩
    have z7 := hb7.size
    replace hB := Below.via hB hb7
    replace o2 := o2.below hb7
    go_wp2_with fail
    refine (iCallsValid_any _ _ _ _ _ ys _ o2.rd hlen o2.le).mono ?_
    rintro e w8 ⟨rfl, hb8⟩
    have z8 := hb8.size
    replace hB := Below.via hB hb8
    rw [H3.out]
    go_wp2
    go_ret
    exact ⟨rfl, hB⟩
end Go.Proofs.Ytjpmgoejcafjiaa
