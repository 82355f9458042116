/- The walk of the law FnExactRevokeSome: it returns true and leaves all that was in memory as it was, for every tree and numbers. -/
import Derived.Test.YtpgmfjipkhldmaaRev6
import Derived.Test.YtpgmfjipkhldmaaEntS2
namespace Go.Proofs.Ytpgmfjipkhldmaa
set_option linter.unusedVariables false
open Go.RowKit
theorem someL_len {es : List En} {n most : Int} : (someL es n most).length ≤ es.length := by
  unfold someL
  split
  · rw [left_len]; exact Nat.le_refl _
  · simp
set_option maxHeartbeats 8000000 in
theorem law_ExactRevokeSome (B T n c : Nat) (A : Option Addr) (es : List En) (n0 most : Int) (w : World) (hr : Rd w B T 6 A n (ents es)) (hml : n ≤ 9223372036854775807) :
    Calls Try.prog 6 #[.slice A n c, .int .i64 n0, .int .i64 most] w fun e w' => e = .returned (.bool true) ∧ Below w.heap.size w w' := by
  have hl := ents_len hr
  subst hl
  by_cases hbig : (es.length : Int) ≤ 1048576
  case neg =>
    have HZ := Lib.hid (szLeft_no hbig)
    go_enter Try.func6, Try.ntmps6
    go_wp2_with fail
    refine (szEntryS_left _ _ _ 1048576 _ (by omega) (by omega) hml).mono ?_
    rintro e w1 ⟨rfl, rfl⟩
    rw [HZ.out]
    go_wp2
    go_ret
    exact ⟨rfl, Below.refl _ _⟩
  have HZ := Lib.hid (szLeft_yes hbig)
  have h0 : ¬ (1048576 - (es.length : Int)) < 0 := by omega
  have hn : es.length ≤ 1048576 := by omega
  have hB := Below.refl w.heap.size w
  replace hr := hr.here (by omega)
  obtain ⟨gs, h1⟩ : ∃ gs, someL es n0 most = gs := ⟨_, rfl⟩
  obtain ⟨ng, h2⟩ : ∃ ng, gs.length = ng := ⟨_, rfl⟩
  obtain ⟨M, h3⟩ : ∃ M, someM es n0 most = M := ⟨_, rfl⟩
  obtain ⟨t, h4⟩ : ∃ t, someB es n0 most = t := ⟨_, rfl⟩
  have hng : ng ≤ 1048576 := by have := someL_len (es := es) (n := n0) (most := most); rw [h1, h2] at this; omega
  have HG := Lib.hid (And.intro h1 (And.intro h2 (And.intro h3 h4)))
  have hm0 : ¬ (1 + 6 * (es.length : Int)) < 0 := by omega
  have hg0 : ¬ (1 + 6 * (ng : Int)) < 0 := by omega
  clear h1 h2 h3 h4 hbig
  go_enter Try.func6, Try.ntmps6
  go_wp2_with fail
  refine (szEntryS_left _ _ _ 1048576 _ (by omega) (by omega) hml).mono ?_
  rintro e w1 ⟨rfl, rfl⟩
  rw [HZ.out]
  go_wp2_with fail
  refine (toEntryS_any _ _ es.length c A es _ hr hn).mono ?_
  rintro e w2 ⟨A2, c2, rfl, o2, hb2⟩
  have z2 := hb2.size
  replace hB := Below.via hB hb2
  replace hr := hr.below hb2
  go_wp2_with fail
  refine (sRevokeSome_any _ _ _ _ _ es n0 most _ o2.rd hn).mono ?_
  rintro e w3 ⟨A3, c3, rfl, o3, hb3⟩
  have z3 := hb3.size
  replace hB := Below.via hB hb3
  replace hr := hr.below hb3
  rw [HG.out.1, HG.out.2.1] at o3
  rw [HG.out.1, HG.out.2.1, HG.out.2.2.1, HG.out.2.2.2]
  go_wp2_with fail
  refine (toEntryS_any _ _ es.length c A es _ hr hn).mono ?_
  rintro e w4 ⟨A4, c4, rfl, o4, hb4⟩
  have z4 := hb4.size
  replace hB := Below.via hB hb4
  replace hr := hr.below hb4
  replace o3 := o3.below hb4
  go_wp2_with fail
  refine (iRevokeSome_any _ _ _ _ _ es n0 most _ o4.rd hn).mono ?_
  rintro e w5 ⟨A5, c5, rfl, o5, hb5⟩
  have z5 := hb5.size
  replace hB := Below.via hB hb5
  replace hr := hr.below hb5
  replace o3 := o3.below hb5
  replace o4 := o4.below hb5
  rw [HG.out.1, HG.out.2.1] at o5
  rw [HG.out.1, HG.out.2.1, HG.out.2.2.1, HG.out.2.2.2]
  go_wp2_with fail
  refine (eqEntryS_any _ _ _ _ _ _ _ _ _ _ _ _ _ o5.rd o3.rd hng).mono ?_
  rintro e w6 ⟨rfl, hb6⟩
  have z6 := hb6.size
  replace hB := Below.via hB hb6
  replace hr := hr.below hb6
  replace o3 := o3.below hb6
  replace o4 := o4.below hb6
  replace o5 := o5.below hb6
  go_wp2_with fail
  refine (toEntryS_any _ _ es.length c A es _ hr hn).mono ?_
  rintro e w7 ⟨A7, c7, rfl, o7, hb7⟩
  have z7 := hb7.size
  replace hB := Below.via hB hb7
  replace hr := hr.below hb7
  replace o3 := o3.below hb7
  replace o4 := o4.below hb7
  replace o5 := o5.below hb7
  go_wp2_with fail
  refine (eqEntryS_any _ _ _ _ _ _ _ _ _ _ _ _ _ o4.rd o7.rd hn).mono ?_
  rintro e w8 ⟨rfl, hb8⟩
  have z8 := hb8.size
  replace hB := Below.via hB hb8
  replace hr := hr.below hb8
  replace o3 := o3.below hb8
  replace o4 := o4.below hb8
  replace o5 := o5.below hb8
  go_wp2_with fail
  refine (markEntryS_any _ _ _ _ _ es 1 _ o4 hn (by omega) (by omega)).mono ?_
  rintro e w9 ⟨rfl, o9, f9⟩
  have z9 := f9.size
  replace hB := hB.trans (f9.below (by omega) (by omega))
  replace hr := hr.fr f9 (by omega)
  replace o3 := o3.fr f9 (by omega)
  replace o5 := o5.fr f9 (by omega)
  go_wp2_with fail
  refine (eqEntryS_any _ _ _ _ _ _ _ _ _ _ _ _ _ o5.rd o3.rd hng).mono ?_
  rintro e w10 ⟨rfl, hb10⟩
  have z10 := hb10.size
  replace hB := Below.via hB hb10
  replace hr := hr.below hb10
  replace o3 := o3.below hb10
  replace o5 := o5.below hb10
  go_wp2_with fail
  refine (markEntryS_any _ _ _ _ _ gs 1 _ o5 hng (by omega) (by omega)).mono ?_
  rintro e w11 ⟨rfl, m11, f11⟩
  have z11 := f11.size
  replace hB := hB.trans (f11.below (by omega) (by omega))
  replace hr := hr.fr f11 (by omega)
  replace o3 := o3.fr f11 (by omega)
  go_wp2_with fail
  refine (heldEntryS_any _ _ _ _ _ 1 _ m11.rd hng (by omega) (by omega)).mono ?_
  rintro e w12 ⟨rfl, hb12⟩
  have z12 := hb12.size
  replace hB := Below.via hB hb12
  replace hr := hr.below hb12
  replace o3 := o3.below hb12
  replace m11 := m11.below hb12
  go_wp2_with fail
  refine (toEntryS_any _ _ es.length c A es _ hr hn).mono ?_
  rintro e w13 ⟨A13, c13, rfl, o13, hb13⟩
  have z13 := hb13.size
  replace hB := Below.via hB hb13
  replace hr := hr.below hb13
  replace o3 := o3.below hb13
  replace m11 := m11.below hb13
  go_wp2_with fail
  refine (iRevokeSome_any _ _ _ _ _ es n0 most _ o13.rd hn).mono ?_
  rintro e w14 ⟨A14, c14, rfl, o14, hb14⟩
  have z14 := hb14.size
  replace hB := Below.via hB hb14
  replace hr := hr.below hb14
  replace o3 := o3.below hb14
  replace m11 := m11.below hb14
  rw [HG.out.1, HG.out.2.1] at o14
  rw [HG.out.1, HG.out.2.1, HG.out.2.2.1, HG.out.2.2.2]
  go_wp2_with fail
  refine (eqEntryS_any _ _ _ _ _ _ _ _ _ _ _ _ _ o14.rd o3.rd hng).mono ?_
  rintro e w15 ⟨rfl, hb15⟩
  have z15 := hb15.size
  replace hB := Below.via hB hb15
  replace hr := hr.below hb15
  replace o3 := o3.below hb15
  replace m11 := m11.below hb15
  replace o14 := o14.below hb15
  go_wp2_with fail
  refine (heldEntryS_any _ _ _ _ _ 1 _ m11.rd hng (by omega) (by omega)).mono ?_
  rintro e w16 ⟨rfl, hb16⟩
  have z16 := hb16.size
  replace hB := Below.via hB hb16
  replace hr := hr.below hb16
  replace o3 := o3.below hb16
  replace m11 := m11.below hb16
  replace o14 := o14.below hb16
  go_wp2
  go_ret
  exact ⟨rfl, hB⟩
end Go.Proofs.Ytpgmfjipkhldmaa
