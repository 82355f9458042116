/- The walk of the law FnFindPlace: it returns true and leaves all that was in memory as it was, for every code. -/
import Derived.Test.YthjjhlgdljkkfaaLwPlacesHead
namespace Go.Proofs.Ythjjhlgdljkkfaa
set_option linter.unusedVariables false
open Go.RowKit
set_option maxHeartbeats 4000000 in
theorem law_FindPlace (B T n c : Nat) (A : Option Addr) (bs : List Value) (w : World) (hr : Rd w B T 1 A n bs) (hb : Bytes bs) (hnc : n ≤ c) :
    Calls Try.prog 8 #[.slice A n c] w fun e w' => e = .returned (.bool true) ∧ Below w.heap.size w w' := by
  by_cases hbig : 1048576 < n
  · have hd : (1048576 : Int) < (n : Int) := by omega
    go_enter Try.func8, Try.ntmps8
    go_wp2_with fail
    go_ret
    exact ⟨rfl, Below.refl _ _⟩
  have hn : n ≤ 1048576 := by omega
  have hd : ¬ (1048576 : Int) < (n : Int) := by omega
  have hB := Below.refl w.heap.size w
  go_enter Try.func8, Try.ntmps8
  go_wp2_with fail
  refine (DrawFindPlace_any B T n c A bs _ hr hb hn hnc).mono ?_
  rintro e w1 ⟨A1, c1, xs, v, rfl, o1, hl, hb1⟩
  have z1 := hb1.size
  replace hB := Below.via hB hb1
  go_wp2_with fail
  refine (iFindPlace_any _ _ _ _ _ xs v _ o1.rd (by omega) o1.le).mono ?_
  rintro e w2 ⟨rfl, hb2⟩
  have z2 := hb2.size
  replace hB := Below.via hB hb2
  replace o1 := o1.below hb2
  go_wp2_with fail
  refine (sFindPlace_any _ _ _ _ _ xs v _ o1.rd (by omega)).mono ?_
  rintro e w3 ⟨rfl, hb3⟩
  have z3 := hb3.size
  replace hB := Below.via hB hb3
  replace o1 := o1.below hb3
  rcases findP_case xs v with h1 | ⟨h0, k, h1, h2, h3⟩
  · have H2 := Lib.hid (findP_no2 (xs := xs) (v := -1) (by omega))
    rw [h1]
    clear h1
    go_wp2_with fail
    refine (iFindPlace_any _ _ _ _ _ xs (-1) _ o1.rd (by omega) o1.le).mono ?_
    rintro e w4 ⟨rfl, hb4⟩
    have z4 := hb4.size
    replace hB := Below.via hB hb4
    rw [H2.out]
    go_wp2_with fail
    refine (alive_any _).mono ?_
    rintro e w5 ⟨rfl, hb5⟩
    have z5 := hb5.size
    replace hB := Below.via hB hb5
    go_wp2
    go_ret
    exact ⟨rfl, hB⟩
  · rw [h1]
    obtain ⟨b, o, x, rfl, hbl, hx, hc⟩ := ints_at o1.rd h2
    obtain rfl : x = v := by rw [hx] at h3; injection h3
    have hk0 : ¬ (k : Int) < 0 := by omega
    have hk1 : (0 : Int) ≤ (k : Int) := by omega
    have hk2 : (k : Int) < (xs.length : Int) := by omega
    clear h1 h3 hx o1
    go_wp2
    go_ret
    exact ⟨rfl, hB⟩
end Go.Proofs.Ythjjhlgdljkkfaa
