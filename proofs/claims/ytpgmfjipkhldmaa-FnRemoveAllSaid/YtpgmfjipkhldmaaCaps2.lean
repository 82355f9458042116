/- Contracts of CapValid (impl and spec). -/
import Derived.Test.YtpgmfjipkhldmaaCaps1
namespace Go.Proofs.Ytpgmfjipkhldmaa
set_option linter.unusedVariables false
open Go.RowKit
set_option maxHeartbeats 2000000 in
theorem iCapValid_any (k o r b : Int) (w : World) : Calls Try.prog 42 #[capv k o r b] w fun e w' => e = .returned (.bool (capOk k o r b)) ∧ Below w.heap.size w w' := by
  by_cases hk : k = 0
  · subst hk
    have HV := Lib.hid (show capOk 0 o r b = (decide (o = 0) && (decide (r = 0) && decide (b = 0))) from if_pos rfl)
    cases ho : decide (o = 0)
    · rw [ho] at HV
      have ho2 : (o == 0) = false := by simpa using ho
      clear ho
      go_enter Try.func42, Try.ntmps42
      go_wp2_with (first | (go_at_call 32; refine (in_any _ _ _ _).mono ?_; rintro e w' ⟨rfl, rfl⟩) | (go_at_call 55; refine (isObject_any _ _).mono ?_; rintro e w' ⟨rfl, rfl⟩) | (go_at_call 30; refine (iRightsValid_any _ _).mono ?_; rintro e w' ⟨rfl, rfl⟩) | (go_at_call 56; refine (badged_any _ _).mono ?_; rintro e w' ⟨rfl, rfl⟩))
      go_ret
      exact ⟨by rw [HV.out]; rfl, by (repeat (first | (with_reducible assumption) | (with_reducible exact Below.refl _ _) | (with_reducible refine Below.setCell ?_ (by first | (simp; done) | (simp; omega) | omega) _) | (with_reducible refine Below.alloc ?_ (by first | (simp; done) | (simp; omega) | omega) _) | (with_reducible refine Below.drew ?_) | (with_reducible refine Below.drewN ?_ _)))⟩
    · rw [ho] at HV
      obtain rfl : o = 0 := by simpa using ho
      clear ho
      cases hr : decide (r = 0)
      · rw [hr] at HV
        have hr2 : (r == 0) = false := by simpa using hr
        clear hr
        go_enter Try.func42, Try.ntmps42
        go_wp2_with (first | (go_at_call 32; refine (in_any _ _ _ _).mono ?_; rintro e w' ⟨rfl, rfl⟩) | (go_at_call 55; refine (isObject_any _ _).mono ?_; rintro e w' ⟨rfl, rfl⟩) | (go_at_call 30; refine (iRightsValid_any _ _).mono ?_; rintro e w' ⟨rfl, rfl⟩) | (go_at_call 56; refine (badged_any _ _).mono ?_; rintro e w' ⟨rfl, rfl⟩))
        go_ret
        exact ⟨by rw [HV.out]; rfl, by (repeat (first | (with_reducible assumption) | (with_reducible exact Below.refl _ _) | (with_reducible refine Below.setCell ?_ (by first | (simp; done) | (simp; omega) | omega) _) | (with_reducible refine Below.alloc ?_ (by first | (simp; done) | (simp; omega) | omega) _) | (with_reducible refine Below.drew ?_) | (with_reducible refine Below.drewN ?_ _)))⟩
      · rw [hr] at HV
        obtain rfl : r = 0 := by simpa using hr
        clear hr
        cases hb : decide (b = 0)
        · rw [hb] at HV
          have hb2 : (b == 0) = false := by simpa using hb
          clear hb
          go_enter Try.func42, Try.ntmps42
          go_wp2_with (first | (go_at_call 32; refine (in_any _ _ _ _).mono ?_; rintro e w' ⟨rfl, rfl⟩) | (go_at_call 55; refine (isObject_any _ _).mono ?_; rintro e w' ⟨rfl, rfl⟩) | (go_at_call 30; refine (iRightsValid_any _ _).mono ?_; rintro e w' ⟨rfl, rfl⟩) | (go_at_call 56; refine (badged_any _ _).mono ?_; rintro e w' ⟨rfl, rfl⟩))
          go_ret
          exact ⟨by rw [HV.out]; rfl, by (repeat (first | (with_reducible assumption) | (with_reducible exact Below.refl _ _) | (with_reducible refine Below.setCell ?_ (by first | (simp; done) | (simp; omega) | omega) _) | (with_reducible refine Below.alloc ?_ (by first | (simp; done) | (simp; omega) | omega) _) | (with_reducible refine Below.drew ?_) | (with_reducible refine Below.drewN ?_ _)))⟩
        · rw [hb] at HV
          obtain rfl : b = 0 := by simpa using hb
          clear hb
          go_enter Try.func42, Try.ntmps42
          go_wp2_with (first | (go_at_call 32; refine (in_any _ _ _ _).mono ?_; rintro e w' ⟨rfl, rfl⟩) | (go_at_call 55; refine (isObject_any _ _).mono ?_; rintro e w' ⟨rfl, rfl⟩) | (go_at_call 30; refine (iRightsValid_any _ _).mono ?_; rintro e w' ⟨rfl, rfl⟩) | (go_at_call 56; refine (badged_any _ _).mono ?_; rintro e w' ⟨rfl, rfl⟩))
          go_ret
          exact ⟨by rw [HV.out]; rfl, by (repeat (first | (with_reducible assumption) | (with_reducible exact Below.refl _ _) | (with_reducible refine Below.setCell ?_ (by first | (simp; done) | (simp; omega) | omega) _) | (with_reducible refine Below.alloc ?_ (by first | (simp; done) | (simp; omega) | omega) _) | (with_reducible refine Below.drew ?_) | (with_reducible refine Below.drewN ?_ _)))⟩
  · have hk2 : (k == 0) = false := by simp [hk]
    have HV := Lib.hid (show capOk k o r b = (inB k 1 7 && (inB o 0 99 && (inB r 0 15 && (decide (b = 0) || (bdg k && inB b 0 999))))) from if_neg hk)
    clear hk
    cases h1 : inB k 1 7
    · rw [h1] at HV
      go_enter Try.func42, Try.ntmps42
      go_wp2_with (first | (go_at_call 32; refine (in_any _ _ _ _).mono ?_; rintro e w' ⟨rfl, rfl⟩) | (go_at_call 55; refine (isObject_any _ _).mono ?_; rintro e w' ⟨rfl, rfl⟩) | (go_at_call 30; refine (iRightsValid_any _ _).mono ?_; rintro e w' ⟨rfl, rfl⟩) | (go_at_call 56; refine (badged_any _ _).mono ?_; rintro e w' ⟨rfl, rfl⟩))
      go_ret
      exact ⟨by rw [HV.out]; rfl, by (repeat (first | (with_reducible assumption) | (with_reducible exact Below.refl _ _) | (with_reducible refine Below.setCell ?_ (by first | (simp; done) | (simp; omega) | omega) _) | (with_reducible refine Below.alloc ?_ (by first | (simp; done) | (simp; omega) | omega) _) | (with_reducible refine Below.drew ?_) | (with_reducible refine Below.drewN ?_ _)))⟩
    · rw [h1] at HV
      cases h2 : inB o 0 99
      · rw [h2] at HV
        go_enter Try.func42, Try.ntmps42
        go_wp2_with (first | (go_at_call 32; refine (in_any _ _ _ _).mono ?_; rintro e w' ⟨rfl, rfl⟩) | (go_at_call 55; refine (isObject_any _ _).mono ?_; rintro e w' ⟨rfl, rfl⟩) | (go_at_call 30; refine (iRightsValid_any _ _).mono ?_; rintro e w' ⟨rfl, rfl⟩) | (go_at_call 56; refine (badged_any _ _).mono ?_; rintro e w' ⟨rfl, rfl⟩))
        go_ret
        exact ⟨by rw [HV.out]; rfl, by (repeat (first | (with_reducible assumption) | (with_reducible exact Below.refl _ _) | (with_reducible refine Below.setCell ?_ (by first | (simp; done) | (simp; omega) | omega) _) | (with_reducible refine Below.alloc ?_ (by first | (simp; done) | (simp; omega) | omega) _) | (with_reducible refine Below.drew ?_) | (with_reducible refine Below.drewN ?_ _)))⟩
      · rw [h2] at HV
        cases h3 : inB r 0 15
        · rw [h3] at HV
          go_enter Try.func42, Try.ntmps42
          go_wp2_with (first | (go_at_call 32; refine (in_any _ _ _ _).mono ?_; rintro e w' ⟨rfl, rfl⟩) | (go_at_call 55; refine (isObject_any _ _).mono ?_; rintro e w' ⟨rfl, rfl⟩) | (go_at_call 30; refine (iRightsValid_any _ _).mono ?_; rintro e w' ⟨rfl, rfl⟩) | (go_at_call 56; refine (badged_any _ _).mono ?_; rintro e w' ⟨rfl, rfl⟩))
          go_ret
          exact ⟨by rw [HV.out]; rfl, by (repeat (first | (with_reducible assumption) | (with_reducible exact Below.refl _ _) | (with_reducible refine Below.setCell ?_ (by first | (simp; done) | (simp; omega) | omega) _) | (with_reducible refine Below.alloc ?_ (by first | (simp; done) | (simp; omega) | omega) _) | (with_reducible refine Below.drew ?_) | (with_reducible refine Below.drewN ?_ _)))⟩
        · rw [h3] at HV
          cases h4 : bdg k
          · rw [h4] at HV
            by_cases hb : b = 0
            · subst hb
              have hb3 : inB 0 0 999 = true := by decide +kernel
              go_enter Try.func42, Try.ntmps42
              go_wp2_with (first | (go_at_call 32; refine (in_any _ _ _ _).mono ?_; rintro e w' ⟨rfl, rfl⟩) | (go_at_call 55; refine (isObject_any _ _).mono ?_; rintro e w' ⟨rfl, rfl⟩) | (go_at_call 30; refine (iRightsValid_any _ _).mono ?_; rintro e w' ⟨rfl, rfl⟩) | (go_at_call 56; refine (badged_any _ _).mono ?_; rintro e w' ⟨rfl, rfl⟩))
              go_ret
              exact ⟨by rw [HV.out]; rfl, by (repeat (first | (with_reducible assumption) | (with_reducible exact Below.refl _ _) | (with_reducible refine Below.setCell ?_ (by first | (simp; done) | (simp; omega) | omega) _) | (with_reducible refine Below.alloc ?_ (by first | (simp; done) | (simp; omega) | omega) _) | (with_reducible refine Below.drew ?_) | (with_reducible refine Below.drewN ?_ _)))⟩
            · rw [decide_eq_false hb] at HV
              have hb2 : (b == 0) = false := by simp [hb]
              clear hb
              go_enter Try.func42, Try.ntmps42
              go_wp2_with (first | (go_at_call 32; refine (in_any _ _ _ _).mono ?_; rintro e w' ⟨rfl, rfl⟩) | (go_at_call 55; refine (isObject_any _ _).mono ?_; rintro e w' ⟨rfl, rfl⟩) | (go_at_call 30; refine (iRightsValid_any _ _).mono ?_; rintro e w' ⟨rfl, rfl⟩) | (go_at_call 56; refine (badged_any _ _).mono ?_; rintro e w' ⟨rfl, rfl⟩))
              go_ret
              exact ⟨by rw [HV.out]; rfl, by (repeat (first | (with_reducible assumption) | (with_reducible exact Below.refl _ _) | (with_reducible refine Below.setCell ?_ (by first | (simp; done) | (simp; omega) | omega) _) | (with_reducible refine Below.alloc ?_ (by first | (simp; done) | (simp; omega) | omega) _) | (with_reducible refine Below.drew ?_) | (with_reducible refine Below.drewN ?_ _)))⟩
          · rw [h4] at HV
            by_cases hb : b = 0
            · subst hb
              have hb3 : inB 0 0 999 = true := by decide +kernel
              go_enter Try.func42, Try.ntmps42
              go_wp2_with (first | (go_at_call 32; refine (in_any _ _ _ _).mono ?_; rintro e w' ⟨rfl, rfl⟩) | (go_at_call 55; refine (isObject_any _ _).mono ?_; rintro e w' ⟨rfl, rfl⟩) | (go_at_call 30; refine (iRightsValid_any _ _).mono ?_; rintro e w' ⟨rfl, rfl⟩) | (go_at_call 56; refine (badged_any _ _).mono ?_; rintro e w' ⟨rfl, rfl⟩))
              go_ret
              exact ⟨by rw [HV.out]; rfl, by (repeat (first | (with_reducible assumption) | (with_reducible exact Below.refl _ _) | (with_reducible refine Below.setCell ?_ (by first | (simp; done) | (simp; omega) | omega) _) | (with_reducible refine Below.alloc ?_ (by first | (simp; done) | (simp; omega) | omega) _) | (with_reducible refine Below.drew ?_) | (with_reducible refine Below.drewN ?_ _)))⟩
            · rw [decide_eq_false hb] at HV
              have hb2 : (b == 0) = false := by simp [hb]
              clear hb
              cases h5 : inB b 0 999
              · rw [h5] at HV
                go_enter Try.func42, Try.ntmps42
                go_wp2_with (first | (go_at_call 32; refine (in_any _ _ _ _).mono ?_; rintro e w' ⟨rfl, rfl⟩) | (go_at_call 55; refine (isObject_any _ _).mono ?_; rintro e w' ⟨rfl, rfl⟩) | (go_at_call 30; refine (iRightsValid_any _ _).mono ?_; rintro e w' ⟨rfl, rfl⟩) | (go_at_call 56; refine (badged_any _ _).mono ?_; rintro e w' ⟨rfl, rfl⟩))
                go_ret
                exact ⟨by rw [HV.out]; rfl, by (repeat (first | (with_reducible assumption) | (with_reducible exact Below.refl _ _) | (with_reducible refine Below.setCell ?_ (by first | (simp; done) | (simp; omega) | omega) _) | (with_reducible refine Below.alloc ?_ (by first | (simp; done) | (simp; omega) | omega) _) | (with_reducible refine Below.drew ?_) | (with_reducible refine Below.drewN ?_ _)))⟩
              · rw [h5] at HV
                go_enter Try.func42, Try.ntmps42
                go_wp2_with (first | (go_at_call 32; refine (in_any _ _ _ _).mono ?_; rintro e w' ⟨rfl, rfl⟩) | (go_at_call 55; refine (isObject_any _ _).mono ?_; rintro e w' ⟨rfl, rfl⟩) | (go_at_call 30; refine (iRightsValid_any _ _).mono ?_; rintro e w' ⟨rfl, rfl⟩) | (go_at_call 56; refine (badged_any _ _).mono ?_; rintro e w' ⟨rfl, rfl⟩))
                go_ret
                exact ⟨by rw [HV.out]; rfl, by (repeat (first | (with_reducible assumption) | (with_reducible exact Below.refl _ _) | (with_reducible refine Below.setCell ?_ (by first | (simp; done) | (simp; omega) | omega) _) | (with_reducible refine Below.alloc ?_ (by first | (simp; done) | (simp; omega) | omega) _) | (with_reducible refine Below.drew ?_) | (with_reducible refine Below.drewN ?_ _)))⟩
set_option maxHeartbeats 2000000 in
theorem sCapValid_any (k o r b : Int) (w : World) : Calls Try.prog 45 #[capv k o r b] w fun e w' => e = .returned (.bool (capOk k o r b)) ∧ Below w.heap.size w w' := by
  by_cases hk : k = 0
  · subst hk
    have HV := Lib.hid (show capOk 0 o r b = (decide (o = 0) && (decide (r = 0) && decide (b = 0))) from if_pos rfl)
    cases ho : decide (o = 0)
    · rw [ho] at HV
      have ho2 : (o == 0) = false := by simpa using ho
      clear ho
      go_enter Try.func45, Try.ntmps45
      go_wp2_with (first | (go_at_call 35; refine (l1In_any _ _ _ _).mono ?_; rintro e w' ⟨rfl, rfl⟩) | (go_at_call 60; refine (sRightsValid_any _ _).mono ?_; rintro e w' ⟨rfl, rfl⟩) | (go_at_call 61; refine (l2Badged_any _ _).mono ?_; rintro e w' ⟨rfl, rfl⟩))
      go_ret
      exact ⟨by rw [HV.out]; rfl, by (repeat (first | (with_reducible assumption) | (with_reducible exact Below.refl _ _) | (with_reducible refine Below.setCell ?_ (by first | (simp; done) | (simp; omega) | omega) _) | (with_reducible refine Below.alloc ?_ (by first | (simp; done) | (simp; omega) | omega) _) | (with_reducible refine Below.drew ?_) | (with_reducible refine Below.drewN ?_ _)))⟩
    · rw [ho] at HV
      obtain rfl : o = 0 := by simpa using ho
      clear ho
      cases hr : decide (r = 0)
      · rw [hr] at HV
        have hr2 : (r == 0) = false := by simpa using hr
        clear hr
        go_enter Try.func45, Try.ntmps45
        go_wp2_with (first | (go_at_call 35; refine (l1In_any _ _ _ _).mono ?_; rintro e w' ⟨rfl, rfl⟩) | (go_at_call 60; refine (sRightsValid_any _ _).mono ?_; rintro e w' ⟨rfl, rfl⟩) | (go_at_call 61; refine (l2Badged_any _ _).mono ?_; rintro e w' ⟨rfl, rfl⟩))
        go_ret
        exact ⟨by rw [HV.out]; rfl, by (repeat (first | (with_reducible assumption) | (with_reducible exact Below.refl _ _) | (with_reducible refine Below.setCell ?_ (by first | (simp; done) | (simp; omega) | omega) _) | (with_reducible refine Below.alloc ?_ (by first | (simp; done) | (simp; omega) | omega) _) | (with_reducible refine Below.drew ?_) | (with_reducible refine Below.drewN ?_ _)))⟩
      · rw [hr] at HV
        obtain rfl : r = 0 := by simpa using hr
        clear hr
        cases hb : decide (b = 0)
        · rw [hb] at HV
          have hb2 : (b == 0) = false := by simpa using hb
          clear hb
          go_enter Try.func45, Try.ntmps45
          go_wp2_with (first | (go_at_call 35; refine (l1In_any _ _ _ _).mono ?_; rintro e w' ⟨rfl, rfl⟩) | (go_at_call 60; refine (sRightsValid_any _ _).mono ?_; rintro e w' ⟨rfl, rfl⟩) | (go_at_call 61; refine (l2Badged_any _ _).mono ?_; rintro e w' ⟨rfl, rfl⟩))
          go_ret
          exact ⟨by rw [HV.out]; rfl, by (repeat (first | (with_reducible assumption) | (with_reducible exact Below.refl _ _) | (with_reducible refine Below.setCell ?_ (by first | (simp; done) | (simp; omega) | omega) _) | (with_reducible refine Below.alloc ?_ (by first | (simp; done) | (simp; omega) | omega) _) | (with_reducible refine Below.drew ?_) | (with_reducible refine Below.drewN ?_ _)))⟩
        · rw [hb] at HV
          obtain rfl : b = 0 := by simpa using hb
          clear hb
          go_enter Try.func45, Try.ntmps45
          go_wp2_with (first | (go_at_call 35; refine (l1In_any _ _ _ _).mono ?_; rintro e w' ⟨rfl, rfl⟩) | (go_at_call 60; refine (sRightsValid_any _ _).mono ?_; rintro e w' ⟨rfl, rfl⟩) | (go_at_call 61; refine (l2Badged_any _ _).mono ?_; rintro e w' ⟨rfl, rfl⟩))
          go_ret
          exact ⟨by rw [HV.out]; rfl, by (repeat (first | (with_reducible assumption) | (with_reducible exact Below.refl _ _) | (with_reducible refine Below.setCell ?_ (by first | (simp; done) | (simp; omega) | omega) _) | (with_reducible refine Below.alloc ?_ (by first | (simp; done) | (simp; omega) | omega) _) | (with_reducible refine Below.drew ?_) | (with_reducible refine Below.drewN ?_ _)))⟩
  · have hk2 : (k == 0) = false := by simp [hk]
    have HV := Lib.hid (show capOk k o r b = (inB k 1 7 && (inB o 0 99 && (inB r 0 15 && (decide (b = 0) || (bdg k && inB b 0 999))))) from if_neg hk)
    clear hk
    cases h1 : inB k 1 7
    · rw [h1] at HV
      go_enter Try.func45, Try.ntmps45
      go_wp2_with (first | (go_at_call 35; refine (l1In_any _ _ _ _).mono ?_; rintro e w' ⟨rfl, rfl⟩) | (go_at_call 60; refine (sRightsValid_any _ _).mono ?_; rintro e w' ⟨rfl, rfl⟩) | (go_at_call 61; refine (l2Badged_any _ _).mono ?_; rintro e w' ⟨rfl, rfl⟩))
      go_ret
      exact ⟨by rw [HV.out]; rfl, by (repeat (first | (with_reducible assumption) | (with_reducible exact Below.refl _ _) | (with_reducible refine Below.setCell ?_ (by first | (simp; done) | (simp; omega) | omega) _) | (with_reducible refine Below.alloc ?_ (by first | (simp; done) | (simp; omega) | omega) _) | (with_reducible refine Below.drew ?_) | (with_reducible refine Below.drewN ?_ _)))⟩
    · rw [h1] at HV
      cases h2 : inB o 0 99
      · rw [h2] at HV
        go_enter Try.func45, Try.ntmps45
        go_wp2_with (first | (go_at_call 35; refine (l1In_any _ _ _ _).mono ?_; rintro e w' ⟨rfl, rfl⟩) | (go_at_call 60; refine (sRightsValid_any _ _).mono ?_; rintro e w' ⟨rfl, rfl⟩) | (go_at_call 61; refine (l2Badged_any _ _).mono ?_; rintro e w' ⟨rfl, rfl⟩))
        go_ret
        exact ⟨by rw [HV.out]; rfl, by (repeat (first | (with_reducible assumption) | (with_reducible exact Below.refl _ _) | (with_reducible refine Below.setCell ?_ (by first | (simp; done) | (simp; omega) | omega) _) | (with_reducible refine Below.alloc ?_ (by first | (simp; done) | (simp; omega) | omega) _) | (with_reducible refine Below.drew ?_) | (with_reducible refine Below.drewN ?_ _)))⟩
      · rw [h2] at HV
        cases h3 : inB r 0 15
        · rw [h3] at HV
          go_enter Try.func45, Try.ntmps45
          go_wp2_with (first | (go_at_call 35; refine (l1In_any _ _ _ _).mono ?_; rintro e w' ⟨rfl, rfl⟩) | (go_at_call 60; refine (sRightsValid_any _ _).mono ?_; rintro e w' ⟨rfl, rfl⟩) | (go_at_call 61; refine (l2Badged_any _ _).mono ?_; rintro e w' ⟨rfl, rfl⟩))
          go_ret
          exact ⟨by rw [HV.out]; rfl, by (repeat (first | (with_reducible assumption) | (with_reducible exact Below.refl _ _) | (with_reducible refine Below.setCell ?_ (by first | (simp; done) | (simp; omega) | omega) _) | (with_reducible refine Below.alloc ?_ (by first | (simp; done) | (simp; omega) | omega) _) | (with_reducible refine Below.drew ?_) | (with_reducible refine Below.drewN ?_ _)))⟩
        · rw [h3] at HV
          cases h4 : bdg k
          · rw [h4] at HV
            by_cases hb : b = 0
            · subst hb
              have hb3 : inB 0 0 999 = true := by decide +kernel
              go_enter Try.func45, Try.ntmps45
              go_wp2_with (first | (go_at_call 35; refine (l1In_any _ _ _ _).mono ?_; rintro e w' ⟨rfl, rfl⟩) | (go_at_call 60; refine (sRightsValid_any _ _).mono ?_; rintro e w' ⟨rfl, rfl⟩) | (go_at_call 61; refine (l2Badged_any _ _).mono ?_; rintro e w' ⟨rfl, rfl⟩))
              go_ret
              exact ⟨by rw [HV.out]; rfl, by (repeat (first | (with_reducible assumption) | (with_reducible exact Below.refl _ _) | (with_reducible refine Below.setCell ?_ (by first | (simp; done) | (simp; omega) | omega) _) | (with_reducible refine Below.alloc ?_ (by first | (simp; done) | (simp; omega) | omega) _) | (with_reducible refine Below.drew ?_) | (with_reducible refine Below.drewN ?_ _)))⟩
            · rw [decide_eq_false hb] at HV
              have hb2 : (b == 0) = false := by simp [hb]
              clear hb
              go_enter Try.func45, Try.ntmps45
              go_wp2_with (first | (go_at_call 35; refine (l1In_any _ _ _ _).mono ?_; rintro e w' ⟨rfl, rfl⟩) | (go_at_call 60; refine (sRightsValid_any _ _).mono ?_; rintro e w' ⟨rfl, rfl⟩) | (go_at_call 61; refine (l2Badged_any _ _).mono ?_; rintro e w' ⟨rfl, rfl⟩))
              go_ret
              exact ⟨by rw [HV.out]; rfl, by (repeat (first | (with_reducible assumption) | (with_reducible exact Below.refl _ _) | (with_reducible refine Below.setCell ?_ (by first | (simp; done) | (simp; omega) | omega) _) | (with_reducible refine Below.alloc ?_ (by first | (simp; done) | (simp; omega) | omega) _) | (with_reducible refine Below.drew ?_) | (with_reducible refine Below.drewN ?_ _)))⟩
          · rw [h4] at HV
            by_cases hb : b = 0
            · subst hb
              have hb3 : inB 0 0 999 = true := by decide +kernel
              go_enter Try.func45, Try.ntmps45
              go_wp2_with (first | (go_at_call 35; refine (l1In_any _ _ _ _).mono ?_; rintro e w' ⟨rfl, rfl⟩) | (go_at_call 60; refine (sRightsValid_any _ _).mono ?_; rintro e w' ⟨rfl, rfl⟩) | (go_at_call 61; refine (l2Badged_any _ _).mono ?_; rintro e w' ⟨rfl, rfl⟩))
              go_ret
              exact ⟨by rw [HV.out]; rfl, by (repeat (first | (with_reducible assumption) | (with_reducible exact Below.refl _ _) | (with_reducible refine Below.setCell ?_ (by first | (simp; done) | (simp; omega) | omega) _) | (with_reducible refine Below.alloc ?_ (by first | (simp; done) | (simp; omega) | omega) _) | (with_reducible refine Below.drew ?_) | (with_reducible refine Below.drewN ?_ _)))⟩
            · rw [decide_eq_false hb] at HV
              have hb2 : (b == 0) = false := by simp [hb]
              clear hb
              cases h5 : inB b 0 999
              · rw [h5] at HV
                go_enter Try.func45, Try.ntmps45
                go_wp2_with (first | (go_at_call 35; refine (l1In_any _ _ _ _).mono ?_; rintro e w' ⟨rfl, rfl⟩) | (go_at_call 60; refine (sRightsValid_any _ _).mono ?_; rintro e w' ⟨rfl, rfl⟩) | (go_at_call 61; refine (l2Badged_any _ _).mono ?_; rintro e w' ⟨rfl, rfl⟩))
                go_ret
                exact ⟨by rw [HV.out]; rfl, by (repeat (first | (with_reducible assumption) | (with_reducible exact Below.refl _ _) | (with_reducible refine Below.setCell ?_ (by first | (simp; done) | (simp; omega) | omega) _) | (with_reducible refine Below.alloc ?_ (by first | (simp; done) | (simp; omega) | omega) _) | (with_reducible refine Below.drew ?_) | (with_reducible refine Below.drewN ?_ _)))⟩
              · rw [h5] at HV
                go_enter Try.func45, Try.ntmps45
                go_wp2_with (first | (go_at_call 35; refine (l1In_any _ _ _ _).mono ?_; rintro e w' ⟨rfl, rfl⟩) | (go_at_call 60; refine (sRightsValid_any _ _).mono ?_; rintro e w' ⟨rfl, rfl⟩) | (go_at_call 61; refine (l2Badged_any _ _).mono ?_; rintro e w' ⟨rfl, rfl⟩))
                go_ret
                exact ⟨by rw [HV.out]; rfl, by (repeat (first | (with_reducible assumption) | (with_reducible exact Below.refl _ _) | (with_reducible refine Below.setCell ?_ (by first | (simp; done) | (simp; omega) | omega) _) | (with_reducible refine Below.alloc ?_ (by first | (simp; done) | (simp; omega) | omega) _) | (with_reducible refine Below.drew ?_) | (with_reducible refine Below.drewN ?_ _)))⟩
end Go.Proofs.Ytpgmfjipkhldmaa
