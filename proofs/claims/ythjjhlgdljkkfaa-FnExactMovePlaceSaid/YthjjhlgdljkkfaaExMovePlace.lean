/- The walk of the law FnExactMovePlace: it returns true and leaves all that was in memory as it was, for every list. -/
import Derived.Test.YthjjhlgdljkkfaaPlaces4
namespace Go.Proofs.Ythjjhlgdljkkfaa
set_option linter.unusedVariables false
open Go.RowKit
set_option maxHeartbeats 4000000 in
theorem law_ExactMovePlace (B T n c : Nat) (A : Option Addr) (xs : List Int) (a b : Int) (w : World) (hr : Rd w B T 1 A n (ints xs)) :
    Calls Try.prog 5 #[.slice A n c, .int .i64 a, .int .i64 b] w fun e w' => e = .returned (.bool true) ∧ Below w.heap.size w w' := by
  have hl := ints_len hr
  subst hl
  by_cases hbig : 1048576 < xs.length
  · have hd : (1048576 : Int) < (xs.length : Int) := by omega
    go_enter Try.func5, Try.ntmps5
    go_wp2_with fail
    go_ret
    exact ⟨rfl, Below.refl _ _⟩
  · have hn : xs.length ≤ 1048576 := by omega
    have hd : ¬ (1048576 : Int) < (xs.length : Int) := by omega
    have hB := Below.refl w.heap.size w
    replace hr := hr.here Nat.one_pos
    have hlen0 := (ex_len (mayM xs a b) xs a b)
    have hneg0 : ¬ (1 + (((exL (mayM xs a b) xs a b).length : Nat) : Int)) < 0 := by omega
    go_enter Try.func5, Try.ntmps5
    go_wp2_with fail
    refine (toIntS_any _ _ xs.length c A xs _ hr hn).mono ?_
    rintro e w1 ⟨A1, c1, rfl, o1, hb1⟩
    have z1 := hb1.size
    replace hB := Below.via hB hb1
    replace hr := hr.below hb1
    go_wp2_with fail
    refine (sMovePlace_any _ _ _ _ _ xs a b _ o1.rd hn).mono ?_
    rintro e w2 ⟨A2, c2, rfl, o2, hb2⟩
    have z2 := hb2.size
    replace hB := Below.via hB hb2
    replace hr := hr.below hb2
    go_wp2_with fail
    refine (toIntS_any _ _ xs.length c A xs _ hr hn).mono ?_
    rintro e w3 ⟨A3, c3, rfl, o3, hb3⟩
    have z3 := hb3.size
    replace hB := Below.via hB hb3
    replace hr := hr.below hb3
    replace o2 := o2.below hb3
    go_wp2_with fail
    refine (iMovePlace_any _ _ _ _ _ xs a b _ o3.rd hn o3.le).mono ?_
    rintro e w4 ⟨A4, c4, rfl, o4, hb4⟩
    have z4 := hb4.size
    replace hB := Below.via hB hb4
    replace hr := hr.below hb4
    replace o2 := o2.below hb4
    replace o3 := o3.below hb4
    go_wp2_with fail
    refine (eqIntS_any _ _ _ _ _ _ _ _ _ _ _ _ _ o4.rd o2.rd (ex_len (mayM xs a b) xs a b)).mono ?_
    rintro e w5 ⟨rfl, hb5⟩
    have z5 := hb5.size
    replace hB := Below.via hB hb5
    replace hr := hr.below hb5
    replace o2 := o2.below hb5
    replace o3 := o3.below hb5
    replace o4 := o4.below hb5
    go_wp2_with fail
    refine (toIntS_any _ _ xs.length c A xs _ hr hn).mono ?_
    rintro e w6 ⟨A6, c6, rfl, o6, hb6⟩
    have z6 := hb6.size
    replace hB := Below.via hB hb6
    replace hr := hr.below hb6
    replace o2 := o2.below hb6
    replace o3 := o3.below hb6
    replace o4 := o4.below hb6
    go_wp2_with fail
    refine (eqIntS_any _ _ _ _ _ _ _ _ _ _ _ _ _ o3.rd o6.rd hn).mono ?_
    rintro e w7 ⟨rfl, hb7⟩
    have z7 := hb7.size
    replace hB := Below.via hB hb7
    replace hr := hr.below hb7
    replace o2 := o2.below hb7
    replace o3 := o3.below hb7
    replace o4 := o4.below hb7
    go_wp2_with fail
    refine (markIntS_any _ _ _ _ _ xs 1 _ o3 hn (by omega) (by omega)).mono ?_
    rintro e w8 ⟨rfl, o8, f8⟩
    have z8 := f8.size
    replace hB := hB.trans (f8.below (by omega) (by omega))
    replace hr := hr.fr f8 (by omega)
    replace o2 := o2.fr f8 (by omega)
    replace o4 := o4.fr f8 (by omega)
    have hm8 : ¬ (1 + (xs.length : Int)) < 0 := by omega
    go_wp2_with fail
    refine (eqIntS_any _ _ _ _ _ _ _ _ _ _ _ _ _ o4.rd o2.rd (ex_len (mayM xs a b) xs a b)).mono ?_
    rintro e w9 ⟨rfl, hb9⟩
    have z9 := hb9.size
    replace hB := Below.via hB hb9
    replace hr := hr.below hb9
    replace o2 := o2.below hb9
    replace o4 := o4.below hb9
    go_wp2_with fail
    refine (markIntS_any _ _ _ _ _ _ 1 _ o4 (ex_len (mayM xs a b) xs a b) (by omega) (by omega)).mono ?_
    rintro e w10 ⟨rfl, m10, f10⟩
    have z10 := f10.size
    replace hB := hB.trans (f10.below (by omega) (by omega))
    replace hr := hr.fr f10 (by omega)
    replace o2 := o2.fr f10 (by omega)
    go_wp2_with fail
    refine (heldIntS_any _ _ _ _ _ 1 _ m10.rd (ex_len (mayM xs a b) xs a b) (by omega) (by omega)).mono ?_
    rintro e w11 ⟨rfl, hb11⟩
    have z11 := hb11.size
    replace hB := Below.via hB hb11
    replace hr := hr.below hb11
    replace o2 := o2.below hb11
    replace m10 := m10.below hb11
    go_wp2_with fail
    refine (toIntS_any _ _ xs.length c A xs _ hr hn).mono ?_
    rintro e w12 ⟨A12, c12, rfl, o12, hb12⟩
    have z12 := hb12.size
    replace hB := Below.via hB hb12
    replace hr := hr.below hb12
    replace o2 := o2.below hb12
    replace m10 := m10.below hb12
    go_wp2_with fail
    refine (iMovePlace_any _ _ _ _ _ xs a b _ o12.rd hn o12.le).mono ?_
    rintro e w13 ⟨A13, c13, rfl, o13, hb13⟩
    have z13 := hb13.size
    replace hB := Below.via hB hb13
    replace hr := hr.below hb13
    replace o2 := o2.below hb13
    replace m10 := m10.below hb13
    go_wp2_with fail
    refine (eqIntS_any _ _ _ _ _ _ _ _ _ _ _ _ _ o13.rd o2.rd (ex_len (mayM xs a b) xs a b)).mono ?_
    rintro e w14 ⟨rfl, hb14⟩
    have z14 := hb14.size
    replace hB := Below.via hB hb14
    replace hr := hr.below hb14
    replace o2 := o2.below hb14
    replace m10 := m10.below hb14
    replace o13 := o13.below hb14
    go_wp2_with fail
    refine (heldIntS_any _ _ _ _ _ 1 _ m10.rd (ex_len (mayM xs a b) xs a b) (by omega) (by omega)).mono ?_
    rintro e w15 ⟨rfl, hb15⟩
    have z15 := hb15.size
    replace hB := Below.via hB hb15
    replace hr := hr.below hb15
    replace o2 := o2.below hb15
    replace m10 := m10.below hb15
    replace o13 := o13.below hb15
    go_wp2
    go_ret
    exact ⟨rfl, hB⟩
end Go.Proofs.Ythjjhlgdljkkfaa
