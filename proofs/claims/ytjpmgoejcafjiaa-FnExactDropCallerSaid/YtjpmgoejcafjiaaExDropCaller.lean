/- The walk of the law FnExactDropCaller: it returns true and leaves all that was in memory as it was, for every list. -/
import Derived.Test.YtjpmgoejcafjiaaCalls3
namespace Go.Proofs.Ytjpmgoejcafjiaa
set_option linter.unusedVariables false
open Go.RowKit
set_option maxHeartbeats 4000000 in
theorem law_ExactDropCaller (B T n c : Nat) (A : Option Addr) (xs : List Int) (v : Int) (w : World) (hr : Rd w B T 1 A n (ints xs)) :
    Calls Try.prog 9 #[.slice A n c, .int .i64 v] w fun e w' => e = .returned (.bool true) ∧ Below w.heap.size w w' := by
  have hl := ints_len hr
  subst hl
  by_cases hbig : 1048576 < xs.length
  · have hd : (1048576 : Int) < (xs.length : Int) := by omega
    go_enter Try.func9, Try.ntmps9
    go_wp2_with fail
    go_ret
    exact ⟨rfl, Below.refl _ _⟩
  · have hn : xs.length ≤ 1048576 := by omega
    have hd : ¬ (1048576 : Int) < (xs.length : Int) := by omega
    have hB := Below.refl w.heap.size w
    replace hr := hr.here Nat.one_pos
    have hlen0 := (dropA_len xs v)
    have hlen1 := (dropB_len xs v)
    have hneg0 : ¬ (1 + (((dropA xs v).length : Nat) : Int)) < 0 := by omega
    have hneg1 : ¬ (1 + (((dropA xs v).length : Nat) : Int) + (((dropB xs v).length : Nat) : Int)) < 0 := by omega
    go_enter Try.func9, Try.ntmps9
    go_wp2_with fail
    refine (toIntS_any _ _ xs.length c A xs _ hr hn).mono ?_
    rintro e w1 ⟨A1, c1, rfl, o1, hb1⟩
    have z1 := hb1.size
    replace hB := Below.via hB hb1
    replace hr := hr.below hb1
    go_wp2_with fail
    refine (sDropCaller_any _ _ _ _ _ xs v _ o1.rd hn o1.le).mono ?_
    rintro e w2 ⟨A2, c2, D2, d2, M2, rfl, zM2, zN2, o2, q2, hb2⟩
    have z2 := hb2.size
    replace hB := Below.via hB hb2
    replace hr := hr.below hb2
    go_wp2_with fail
    refine (toIntS_any _ _ xs.length c A xs _ hr hn).mono ?_
    rintro e w3 ⟨A3, c3, rfl, o3, hb3⟩
    have z3 := hb3.size
    replace hB := Below.via hB hb3
    replace hr := hr.below hb3
    replace o2 := o2.below hb3
    replace q2 := q2.below hb3
    go_wp2_with fail
    refine (iDropCaller_any _ _ _ _ _ xs v _ o3.rd hn o3.le).mono ?_
    rintro e w4 ⟨A4, c4, D4, d4, M4, rfl, zM4, zN4, o4, q4, hb4⟩
    have z4 := hb4.size
    replace hB := Below.via hB hb4
    replace hr := hr.below hb4
    replace o2 := o2.below hb4
    replace o3 := o3.below hb4
    replace q2 := q2.below hb4
    go_wp2_with fail
    refine (eqIntS_any _ _ _ _ _ _ _ _ _ _ _ _ _ o4.rd o2.rd (dropA_len xs v)).mono ?_
    rintro e w5 ⟨rfl, hb5⟩
    have z5 := hb5.size
    replace hB := Below.via hB hb5
    replace hr := hr.below hb5
    replace o2 := o2.below hb5
    replace o3 := o3.below hb5
    replace o4 := o4.below hb5
    replace q2 := q2.below hb5
    replace q4 := q4.below hb5
    go_wp2_with fail
    refine (eqIntS_any _ _ _ _ _ _ _ _ _ _ _ _ _ q4.rd q2.rd (dropB_len xs v)).mono ?_
    rintro e w6 ⟨rfl, hb6⟩
    have z6 := hb6.size
    replace hB := Below.via hB hb6
    replace hr := hr.below hb6
    replace o2 := o2.below hb6
    replace o3 := o3.below hb6
    replace o4 := o4.below hb6
    replace q2 := q2.below hb6
    replace q4 := q4.below hb6
    go_wp2_with fail
    refine (toIntS_any _ _ xs.length c A xs _ hr hn).mono ?_
    rintro e w7 ⟨A7, c7, rfl, o7, hb7⟩
    have z7 := hb7.size
    replace hB := Below.via hB hb7
    replace hr := hr.below hb7
    replace o2 := o2.below hb7
    replace o3 := o3.below hb7
    replace o4 := o4.below hb7
    replace q2 := q2.below hb7
    replace q4 := q4.below hb7
    go_wp2_with fail
    refine (eqIntS_any _ _ _ _ _ _ _ _ _ _ _ _ _ o3.rd o7.rd hn).mono ?_
    rintro e w8 ⟨rfl, hb8⟩
    have z8 := hb8.size
    replace hB := Below.via hB hb8
    replace hr := hr.below hb8
    replace o2 := o2.below hb8
    replace o3 := o3.below hb8
    replace o4 := o4.below hb8
    replace q2 := q2.below hb8
    replace q4 := q4.below hb8
    go_wp2_with fail
    refine (markIntS_any _ _ _ _ _ xs 1 _ o3 hn (by omega) (by omega)).mono ?_
    rintro e w9 ⟨rfl, o9, f9⟩
    have z9 := f9.size
    replace hB := hB.trans (f9.below (by omega) (by omega))
    replace hr := hr.fr f9 (by omega)
    replace o2 := o2.fr f9 (by omega)
    replace o4 := o4.fr f9 (by omega)
    replace q2 := q2.fr f9 (by omega)
    replace q4 := q4.fr f9 (by omega)
    have hm9 : ¬ (1 + (xs.length : Int)) < 0 := by omega
    go_wp2_with fail
    refine (eqIntS_any _ _ _ _ _ _ _ _ _ _ _ _ _ o4.rd o2.rd (dropA_len xs v)).mono ?_
    rintro e w10 ⟨rfl, hb10⟩
    have z10 := hb10.size
    replace hB := Below.via hB hb10
    replace hr := hr.below hb10
    replace o2 := o2.below hb10
    replace o4 := o4.below hb10
    replace q2 := q2.below hb10
    replace q4 := q4.below hb10
    go_wp2_with fail
    refine (eqIntS_any _ _ _ _ _ _ _ _ _ _ _ _ _ q4.rd q2.rd (dropB_len xs v)).mono ?_
    rintro e w11 ⟨rfl, hb11⟩
    have z11 := hb11.size
    replace hB := Below.via hB hb11
    replace hr := hr.below hb11
    replace o2 := o2.below hb11
    replace o4 := o4.below hb11
    replace q2 := q2.below hb11
    replace q4 := q4.below hb11
    go_wp2_with fail
    refine (markIntS_any _ _ _ _ _ _ 1 _ o4 (dropA_len xs v) (by omega) (by omega)).mono ?_
    rintro e w12 ⟨rfl, m12, f12⟩
    have z12 := f12.size
    replace hB := hB.trans (f12.below (by omega) (by omega))
    replace hr := hr.fr f12 (by omega)
    replace o2 := o2.fr f12 (by omega)
    replace q2 := q2.fr f12 (by omega)
    replace q4 := q4.fr f12 (by omega)
    go_wp2_with fail
    refine (markIntS_any _ _ _ _ _ _ (1 + _) _ q4 (dropB_len xs v) (by omega) (by have := (dropA_len xs v); omega)).mono ?_
    rintro e w13 ⟨rfl, m13, f13⟩
    have z13 := f13.size
    replace hB := hB.trans (f13.below (by omega) (by omega))
    replace hr := hr.fr f13 (by omega)
    replace o2 := o2.fr f13 (by omega)
    replace q2 := q2.fr f13 (by omega)
    replace m12 := m12.fr f13 (by omega)
    go_wp2_with fail
    refine (heldIntS_any _ _ _ _ _ 1 _ m12.rd (dropA_len xs v) (by omega) (by omega)).mono ?_
    rintro e w14 ⟨rfl, hb14⟩
    have z14 := hb14.size
    replace hB := Below.via hB hb14
    replace hr := hr.below hb14
    replace o2 := o2.below hb14
    replace q2 := q2.below hb14
    replace m12 := m12.below hb14
    replace m13 := m13.below hb14
    go_wp2_with fail
    refine (heldIntS_any _ _ _ _ _ (1 + _) _ m13.rd (dropB_len xs v) (by omega) (by have := (dropA_len xs v); omega)).mono ?_
    rintro e w15 ⟨rfl, hb15⟩
    have z15 := hb15.size
    replace hB := Below.via hB hb15
    replace hr := hr.below hb15
    replace o2 := o2.below hb15
    replace q2 := q2.below hb15
    replace m12 := m12.below hb15
    replace m13 := m13.below hb15
    go_wp2_with fail
    refine (toIntS_any _ _ xs.length c A xs _ hr hn).mono ?_
    rintro e w16 ⟨A16, c16, rfl, o16, hb16⟩
    have z16 := hb16.size
    replace hB := Below.via hB hb16
    replace hr := hr.below hb16
    replace o2 := o2.below hb16
    replace q2 := q2.below hb16
    replace m12 := m12.below hb16
    replace m13 := m13.below hb16
    go_wp2_with fail
    refine (iDropCaller_any _ _ _ _ _ xs v _ o16.rd hn o16.le).mono ?_
    rintro e w17 ⟨A17, c17, D17, d17, M17, rfl, zM17, zN17, o17, q17, hb17⟩
    have z17 := hb17.size
    replace hB := Below.via hB hb17
    replace hr := hr.below hb17
    replace o2 := o2.below hb17
    replace q2 := q2.below hb17
    replace m12 := m12.below hb17
    replace m13 := m13.below hb17
    go_wp2_with fail
    refine (eqIntS_any _ _ _ _ _ _ _ _ _ _ _ _ _ o17.rd o2.rd (dropA_len xs v)).mono ?_
    rintro e w18 ⟨rfl, hb18⟩
    have z18 := hb18.size
    replace hB := Below.via hB hb18
    replace hr := hr.below hb18
    replace o2 := o2.below hb18
    replace q2 := q2.below hb18
    replace m12 := m12.below hb18
    replace m13 := m13.below hb18
    replace o17 := o17.below hb18
    replace q17 := q17.below hb18
    go_wp2_with fail
    refine (eqIntS_any _ _ _ _ _ _ _ _ _ _ _ _ _ q17.rd q2.rd (dropB_len xs v)).mono ?_
    rintro e w19 ⟨rfl, hb19⟩
    have z19 := hb19.size
    replace hB := Below.via hB hb19
    replace hr := hr.below hb19
    replace o2 := o2.below hb19
    replace q2 := q2.below hb19
    replace m12 := m12.below hb19
    replace m13 := m13.below hb19
    replace o17 := o17.below hb19
    replace q17 := q17.below hb19
    go_wp2_with fail
    refine (heldIntS_any _ _ _ _ _ 1 _ m12.rd (dropA_len xs v) (by omega) (by omega)).mono ?_
    rintro e w20 ⟨rfl, hb20⟩
    have z20 := hb20.size
    replace hB := Below.via hB hb20
    replace hr := hr.below hb20
    replace o2 := o2.below hb20
    replace q2 := q2.below hb20
    replace m12 := m12.below hb20
    replace m13 := m13.below hb20
    replace o17 := o17.below hb20
    replace q17 := q17.below hb20
    go_wp2_with fail
    refine (heldIntS_any _ _ _ _ _ (1 + _) _ m13.rd (dropB_len xs v) (by omega) (by have := (dropA_len xs v); omega)).mono ?_
    rintro e w21 ⟨rfl, hb21⟩
    have z21 := hb21.size
    replace hB := Below.via hB hb21
    replace hr := hr.below hb21
    replace o2 := o2.below hb21
    replace q2 := q2.below hb21
    replace m12 := m12.below hb21
    replace m13 := m13.below hb21
    replace o17 := o17.below hb21
    replace q17 := q17.below hb21
    go_wp2
    go_ret
    exact ⟨rfl, hB⟩
end Go.Proofs.Ytjpmgoejcafjiaa
