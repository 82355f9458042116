/- The walk of the law FnPlacesTurn: it returns true and leaves all that was in memory as it was, for every code. -/
import Derived.Test.YthjjhlgdljkkfaaLwPlacesHead
namespace Go.Proofs.Ythjjhlgdljkkfaa
set_option linter.unusedVariables false
open Go.RowKit
set_option maxHeartbeats 4000000 in
theorem law_PlacesTurn (B T n c : Nat) (A : Option Addr) (bs : List Value) (B2 T2 n2 c2 : Nat) (A2 : Option Addr) (bs2 : List Value) (w : World) (hr : Rd w B T 1 A n bs) (hb : Bytes bs) (hnc : n ≤ c) (hr2 : Rd w B2 T2 1 A2 n2 bs2) (hb2 : Bytes bs2) (hnc2 : n2 ≤ c2) :
    Calls Try.prog 10 #[.slice A n c, .slice A2 n2 c2] w fun e w' => e = .returned (.bool true) ∧ Below w.heap.size w w' := by
  by_cases hbig : 1048576 < n
  · have hd : (1048576 : Int) < (n : Int) := by omega
    go_enter Try.func10, Try.ntmps10
    go_wp2_with fail
    go_ret
    exact ⟨rfl, Below.refl _ _⟩
  have hn : n ≤ 1048576 := by omega
  have hd : ¬ (1048576 : Int) < (n : Int) := by omega
  by_cases hbig2 : 1048576 < n2
  · have hd2 : (1048576 : Int) < (n2 : Int) := by omega
    go_enter Try.func10, Try.ntmps10
    go_wp2_with fail
    go_ret
    exact ⟨rfl, Below.refl _ _⟩
  have hn2 : n2 ≤ 1048576 := by omega
  have hd2 : ¬ (1048576 : Int) < (n2 : Int) := by omega
  have hB := Below.refl w.heap.size w
  go_enter Try.func10, Try.ntmps10
  go_wp2_with fail
  refine (DrawSwapPlaces_any B T n c A bs _ hr hb hn hnc).mono ?_
  rintro e w1 ⟨A11, c11, xs, u, v, rfl, o1, hl, hb1⟩
  have z1 := hb1.size
  replace hB := Below.via hB hb1
  go_wp2_with fail
  refine (iSwapPlaces_any _ _ _ _ _ xs u v _ o1.rd (by omega) o1.le).mono ?_
  rintro e w22 ⟨A12, c12, rfl, o2, hb22⟩
  have z22 := hb22.size
  replace hB := Below.via hB hb22
  replace o1 := o1.below hb22
  go_wp2_with fail
  refine (sSwapPlaces_any _ _ _ _ _ xs u v _ o1.rd (by omega)).mono ?_
  rintro e w3 ⟨A13, c13, rfl, o3, hb3⟩
  have z3 := hb3.size
  replace hB := Below.via hB hb3
  replace o1 := o1.below hb3
  replace o2 := o2.below hb3
  go_wp2_with fail
  refine (sameInts_any _ _ _ _ _ _ _ _ _ _ _ _ _ o2.rd o3.rd (ex_len true xs u v)).mono ?_
  rintro e w4 ⟨rfl, hb4⟩
  have z4 := hb4.size
  replace hB := Below.via hB hb4
  replace o1 := o1.below hb4
  replace o2 := o2.below hb4
  rcases ex_case true xs u v with ⟨h1, h2⟩ | ⟨h1, h2⟩ | ⟨h1, hv, -, i, j, x, y, rfl, rfl, hi, hj, hx, hy, h2⟩
  · rw [h1]
    clear h1 h2
    go_wp2_with fail
    refine (alive_any _).mono ?_
    rintro e w5 ⟨rfl, hb5⟩
    have z5 := hb5.size
    replace hB := Below.via hB hb5
    go_wp2
    go_ret
    exact ⟨rfl, hB⟩
  · rw [h1]
    clear h1 h2
    go_wp2_with fail
    refine (alive_any _).mono ?_
    rintro e w5 ⟨rfl, hb5⟩
    have z5 := hb5.size
    replace hB := Below.via hB hb5
    go_wp2
    go_ret
    exact ⟨rfl, hB⟩
  · have hlen : xs.length ≤ 1048576 := by omega
    obtain ⟨k, hk⟩ : ∃ k, n2 % xs.length = k := ⟨_, rfl⟩
    have hk1 : k < xs.length := by rw [← hk]; exact Nat.mod_lt _ (by omega)
    have hq : (n2 : Int) % (xs.length : Int) = (k : Int) := by rw [← hk]; simp
    have hne : ¬ (xs.length : Int) = 0 := by omega
    have hne2 : ¬ xs.length = 0 := by omega
    have hn20 : (0 : Int) ≤ (n2 : Int) := by omega
    have hl0 : (0 : Int) < (xs.length : Int) := by omega
    rw [h1]
    rw [h2, swp_len] at o2
    rw [h2, swp_len]
    clear hk h1 h2
    by_cases e1 : k = i
    · subst e1
      clear hx hy
      go_wp2_with fail
      refine (alive_any _).mono ?_
      rintro e w5 ⟨rfl, hb5⟩
      have z5 := hb5.size
      replace hB := Below.via hB hb5
      go_wp2
      go_ret
      exact ⟨rfl, hB⟩
    · have d1 : ((k : Int) == (i : Int)) = false := by simp; omega
      by_cases e2 : k = j
      · subst e2
        clear hx hy
        go_wp2_with fail
        refine (alive_any _).mono ?_
        rintro e w5 ⟨rfl, hb5⟩
        have z5 := hb5.size
        replace hB := Below.via hB hb5
        go_wp2
        go_ret
        exact ⟨rfl, hB⟩
      · have d2 : ((k : Int) == (j : Int)) = false := by simp; omega
        by_cases e3 : i = j
        · subst e3
          clear hx hy
          go_wp2_with fail
          refine (alive_any _).mono ?_
          rintro e w5 ⟨rfl, hb5⟩
          have z5 := hb5.size
          replace hB := Below.via hB hb5
          go_wp2
          go_ret
          exact ⟨rfl, hB⟩
        · have d3 : ((i : Int) == (j : Int)) = false := by simp; omega
          have x1 := ex_swap hv hi hk1
          have v1 := placesV_swp hi hk1 hv
          have l1 := swp_len xs i k
          have x2 := ex_swap v1 (by rw [l1]; exact hk1 : k < _) (by rw [l1]; exact hj : j < _)
          have v2 := placesV_swp (by rw [l1]; exact hk1 : k < _) (by rw [l1]; exact hj : j < _) v1
          have l2 : (swp (swp xs i k) k j).length = xs.length := by rw [swp_len, swp_len]
          have x3 := ex_swap v2 (by rw [l2]; exact hi : i < _) (by rw [l2]; exact hk1 : k < _)
          rw [swp_turn hi hj hk1 e1 e2 e3] at x3
          have l3 := swp_len xs i j
          obtain ⟨ps, hps⟩ : ∃ ps, swp xs i k = ps := ⟨_, rfl⟩
          rw [hps] at x1 x2 x3 l1 l2
          obtain ⟨qs, hqs⟩ : ∃ qs, swp ps k j = qs := ⟨_, rfl⟩
          rw [hqs] at x2 x3 l2
          obtain ⟨rs, hrs⟩ : ∃ rs, swp xs i j = rs := ⟨_, rfl⟩
          rw [hrs] at x3 l3 o2
          have X1 := Lib.hid x1
          have X2 := Lib.hid x2
          have X3 := Lib.hid x3
          have L1 := Lib.hid l1
          have L2 := Lib.hid l2
          have L3 := Lib.hid l3
          clear x1 x2 x3 l1 l2 l3 v1 v2 hps hqs hrs hv hx hy e1 e2 e3
          go_wp2_with fail
          refine (iSwapPlaces_any _ _ _ _ _ xs (i : Int) (k : Int) _ o1.rd hlen o1.le).mono ?_
          rintro e w5 ⟨A5, c5, rfl, o5, hb5⟩
          have z5 := hb5.size
          replace hB := Below.via hB hb5
          replace o2 := o2.below hb5
          rw [X1.out.1, L1.out] at o5 ⊢
          go_wp2_with fail
          refine (iSwapPlaces_any _ _ _ _ _ ps (k : Int) (j : Int) _ o5.rd hlen o5.le).mono ?_
          rintro e w6 ⟨A6, c6, rfl, o6, hb6⟩
          have z6 := hb6.size
          replace hB := Below.via hB hb6
          replace o2 := o2.below hb6
          rw [X2.out.1, L2.out] at o6 ⊢
          go_wp2_with fail
          refine (iSwapPlaces_any _ _ _ _ _ qs (i : Int) (k : Int) _ o6.rd hlen o6.le).mono ?_
          rintro e w7 ⟨A7, c7, rfl, o7, hb7⟩
          have z7 := hb7.size
          replace hB := Below.via hB hb7
          replace o2 := o2.below hb7
          rw [X3.out.1, L3.out] at o7 ⊢
          go_wp2_with fail
          refine (sameInts_any _ _ _ _ _ _ _ _ _ _ rs rs _ o7.rd o2.rd hlen).mono ?_
          rintro e w8 ⟨rfl, hb8⟩
          have z8 := hb8.size
          replace hB := Below.via hB hb8
          go_wp2
          go_ret
          exact ⟨by simp, hB⟩
end Go.Proofs.Ythjjhlgdljkkfaa
