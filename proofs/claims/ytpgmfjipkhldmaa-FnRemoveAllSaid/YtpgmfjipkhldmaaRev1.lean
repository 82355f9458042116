/- Contracts of CapWithin (impl and spec). -/
import Derived.Test.YtpgmfjipkhldmaaCaps2
import Derived.Test.YtpgmfjipkhldmaaCaps3
import Derived.Test.YtpgmfjipkhldmaaTree2
namespace Go.Proofs.Ytpgmfjipkhldmaa
set_option linter.unusedVariables false
open Go.RowKit
set_option maxHeartbeats 4000000 in
theorem iCapWithin_any (k o r b k2 o2 r2 b2 : Int) (w : World) :
    Calls Try.prog 43 #[capv k o r b, capv k2 o2 r2 b2] w fun e w' => e = .returned (.bool (capW (k, o, r, b) (k2, o2, r2, b2))) ∧ Below w.heap.size w w' := by
  have TP := (Blk.new w 37 #[.int .i64 k, .int .i64 o, .int .i64 r, .int .i64 b]).alloc (.cells #[.int .i64 k2, .int .i64 o2, .int .i64 r2, .int .i64 b2] 37)
  have TQ := Blk.newAt (w := w.alloc (.cells #[.int .i64 k, .int .i64 o, .int .i64 r, .int .i64 b] 37)) (n := w.heap.size + 1) 37 #[.int .i64 k2, .int .i64 o2, .int .i64 r2, .int .i64 b2] (by simp)
  cases h1 : capOk k o r b
  · have HV := Lib.hid (show capW (k, o, r, b) (k2, o2, r2, b2) = false by unfold capW okC; simp only; rw [h1]; rfl)
    go_enter Try.func43, Try.ntmps43
    go_wp2_with fail
    refine (iCapValid_any _ _ _ _ _).mono ?_
    rintro e w1 ⟨rfl, hb1⟩
    rw [h1]
    go_wp2
    go_ret
    exact ⟨by rw [HV.out]; rfl, Below.via (by (repeat (first | (with_reducible assumption) | (with_reducible exact Below.refl _ _) | (with_reducible refine Below.setCell ?_ (by first | (simp; done) | (simp; omega) | omega) _) | (with_reducible refine Below.alloc ?_ (by first | (simp; done) | (simp; omega) | omega) _) | (with_reducible refine Below.drew ?_) | (with_reducible refine Below.drewN ?_ _))) : Below w.heap.size w _) hb1⟩
  cases h2 : capOk k2 o2 r2 b2
  · have HV := Lib.hid (show capW (k, o, r, b) (k2, o2, r2, b2) = false by unfold capW okC; simp only; rw [h1, h2]; rfl)
    go_enter Try.func43, Try.ntmps43
    go_wp2_with fail
    refine (iCapValid_any _ _ _ _ _).mono ?_
    rintro e w1 ⟨rfl, hb1⟩
    rw [h1]
    have z1 := hb1.size
    simp at z1
    replace TP := TP.below hb1
    replace TQ := TQ.below hb1
    have hB := Below.via (by (repeat (first | (with_reducible assumption) | (with_reducible exact Below.refl _ _) | (with_reducible refine Below.setCell ?_ (by first | (simp; done) | (simp; omega) | omega) _) | (with_reducible refine Below.alloc ?_ (by first | (simp; done) | (simp; omega) | omega) _) | (with_reducible refine Below.drew ?_) | (with_reducible refine Below.drewN ?_ _))) : Below w.heap.size w _) hb1
    clear hb1
    obtain ⟨q0, q1, q2, q3⟩ := TQ.four
    have lQ := TQ.lt
    go_wp2_with fail
    refine (iCapValid_any _ _ _ _ _).mono ?_
    rintro e w2 ⟨rfl, hb2⟩
    rw [h2]
    replace hB := Below.via hB hb2
    go_wp2
    go_ret
    exact ⟨by rw [HV.out]; rfl, hB⟩
  have hV : capW (k, o, r, b) (k2, o2, r2, b2) = ((k == k2) && ((o == o2) && ((andN r r2 == 0) && ((b == b2) || (b2 == 0))))) := by unfold capW okC; simp only; rw [h1, h2]; rfl
  go_enter Try.func43, Try.ntmps43
  go_wp2_with fail
  refine (iCapValid_any _ _ _ _ _).mono ?_
  rintro e w1 ⟨rfl, hb1⟩
  rw [h1]
  have z1 := hb1.size
  simp at z1
  replace TP := TP.below hb1
  replace TQ := TQ.below hb1
  have hB := Below.via (by (repeat (first | (with_reducible assumption) | (with_reducible exact Below.refl _ _) | (with_reducible refine Below.setCell ?_ (by first | (simp; done) | (simp; omega) | omega) _) | (with_reducible refine Below.alloc ?_ (by first | (simp; done) | (simp; omega) | omega) _) | (with_reducible refine Below.drew ?_) | (with_reducible refine Below.drewN ?_ _))) : Below w.heap.size w _) hb1
  clear hb1
  obtain ⟨q0, q1, q2, q3⟩ := TQ.four
  have lQ := TQ.lt
  go_wp2_with fail
  refine (iCapValid_any _ _ _ _ _).mono ?_
  rintro e w2 ⟨rfl, hb2⟩
  rw [h2]
  replace TP := TP.below hb2
  replace TQ := TQ.below hb2
  replace hB := Below.via hB hb2
  clear hb2 q0 q1 q2 q3 lQ
  obtain ⟨q0, q1, q2, q3⟩ := TQ.four
  obtain ⟨p0, p1, p2, p3⟩ := TP.four
  have lQ := TQ.lt
  have lP := TP.lt
  by_cases ek : k = k2
  case neg =>
    have HV := Lib.hid (show capW (k, o, r, b) (k2, o2, r2, b2) = false by rw [hV, show (k == k2) = false from beq_eq_false_iff_ne.2 ek]; rfl)
    have ek2 : (k == k2) = false := beq_eq_false_iff_ne.2 ek
    clear ek hV
    go_wp2
    go_ret
    exact ⟨by first | rfl | (rw [HV.out]; rfl), hB⟩
  subst ek
  by_cases eo : o = o2
  case neg =>
    have HV := Lib.hid (show capW (k, o, r, b) (k, o2, r2, b2) = false by rw [hV, show (o == o2) = false from beq_eq_false_iff_ne.2 eo, Bool.false_and, Bool.and_false])
    have eo2 : (o == o2) = false := beq_eq_false_iff_ne.2 eo
    clear eo hV
    go_wp2
    go_ret
    exact ⟨by first | rfl | (rw [HV.out]; rfl), hB⟩
  subst eo
  cases eN : (andN r r2 == 0)
  case false =>
    have HV := Lib.hid (show capW (k, o, r, b) (k, o, r2, b2) = false by rw [hV, eN]; simp)
    unfold andN at eN
    clear hV
    go_wp2
    go_ret
    exact ⟨by first | rfl | (rw [HV.out]; rfl), hB⟩
  by_cases eb : b = b2
  case pos =>
    subst eb
    have HV := Lib.hid (show capW (k, o, r, b) (k, o, r2, b) = true by rw [hV, eN]; simp)
    unfold andN at eN
    clear hV
    go_wp2
    go_ret
    exact ⟨by first | rfl | (rw [HV.out]; rfl), hB⟩
  have eb2 : (b == b2) = false := beq_eq_false_iff_ne.2 eb
  by_cases ez : b2 = 0
  case pos =>
    subst ez
    have HV := Lib.hid (show capW (k, o, r, b) (k, o, r2, 0) = true by rw [hV, eN, eb2]; simp)
    unfold andN at eN
    clear hV eb
    go_wp2
    go_ret
    exact ⟨by first | rfl | (rw [HV.out]; rfl), hB⟩
  have ez2 : (b2 == 0) = false := beq_eq_false_iff_ne.2 ez
  have HV := Lib.hid (show capW (k, o, r, b) (k, o, r2, b2) = false by rw [hV, eN, eb2, ez2]; simp)
  unfold andN at eN
  clear hV eb ez
  go_wp2
  go_ret
  exact ⟨by first | rfl | (rw [HV.out]; rfl), hB⟩
set_option maxHeartbeats 4000000 in
theorem sCapWithin_any (k o r b k2 o2 r2 b2 : Int) (w : World) :
    Calls Try.prog 46 #[capv k o r b, capv k2 o2 r2 b2] w fun e w' => e = .returned (.bool (capW (k, o, r, b) (k2, o2, r2, b2))) ∧ Below w.heap.size w w' := by
  have TP := (Blk.new w 37 #[.int .i64 k, .int .i64 o, .int .i64 r, .int .i64 b]).alloc (.cells #[.int .i64 k2, .int .i64 o2, .int .i64 r2, .int .i64 b2] 37)
  have TQ := Blk.newAt (w := w.alloc (.cells #[.int .i64 k, .int .i64 o, .int .i64 r, .int .i64 b] 37)) (n := w.heap.size + 1) 37 #[.int .i64 k2, .int .i64 o2, .int .i64 r2, .int .i64 b2] (by simp)
  cases h1 : capOk k o r b
  · have HV := Lib.hid (show capW (k, o, r, b) (k2, o2, r2, b2) = false by unfold capW okC; simp only; rw [h1]; rfl)
    go_enter Try.func46, Try.ntmps46
    go_wp2_with fail
    refine (sCapValid_any _ _ _ _ _).mono ?_
    rintro e w1 ⟨rfl, hb1⟩
    rw [h1]
    go_wp2
    go_ret
    exact ⟨by rw [HV.out]; rfl, Below.via (by (repeat (first | (with_reducible assumption) | (with_reducible exact Below.refl _ _) | (with_reducible refine Below.setCell ?_ (by first | (simp; done) | (simp; omega) | omega) _) | (with_reducible refine Below.alloc ?_ (by first | (simp; done) | (simp; omega) | omega) _) | (with_reducible refine Below.drew ?_) | (with_reducible refine Below.drewN ?_ _))) : Below w.heap.size w _) hb1⟩
  cases h2 : capOk k2 o2 r2 b2
  · have HV := Lib.hid (show capW (k, o, r, b) (k2, o2, r2, b2) = false by unfold capW okC; simp only; rw [h1, h2]; rfl)
    go_enter Try.func46, Try.ntmps46
    go_wp2_with fail
    refine (sCapValid_any _ _ _ _ _).mono ?_
    rintro e w1 ⟨rfl, hb1⟩
    rw [h1]
    have z1 := hb1.size
    simp at z1
    replace TP := TP.below hb1
    replace TQ := TQ.below hb1
    have hB := Below.via (by (repeat (first | (with_reducible assumption) | (with_reducible exact Below.refl _ _) | (with_reducible refine Below.setCell ?_ (by first | (simp; done) | (simp; omega) | omega) _) | (with_reducible refine Below.alloc ?_ (by first | (simp; done) | (simp; omega) | omega) _) | (with_reducible refine Below.drew ?_) | (with_reducible refine Below.drewN ?_ _))) : Below w.heap.size w _) hb1
    clear hb1
    obtain ⟨q0, q1, q2, q3⟩ := TQ.four
    have lQ := TQ.lt
    go_wp2_with fail
    refine (sCapValid_any _ _ _ _ _).mono ?_
    rintro e w2 ⟨rfl, hb2⟩
    rw [h2]
    replace hB := Below.via hB hb2
    go_wp2
    go_ret
    exact ⟨by rw [HV.out]; rfl, hB⟩
  have hV : capW (k, o, r, b) (k2, o2, r2, b2) = ((k == k2) && ((o == o2) && ((andN r r2 == 0) && ((b == b2) || (b2 == 0))))) := by unfold capW okC; simp only; rw [h1, h2]; rfl
  have hN : (bits .and .i64 r r2 == r) = (andN r r2 == 0) := by
    have h := and_in_iff (okC_r4 (c := (k, o, r, b)) h1) (okC_r4 (c := (k2, o2, r2, b2)) h2)
    rw [Bool.eq_iff_iff, beq_iff_eq, beq_iff_eq]; exact h
  go_enter Try.func46, Try.ntmps46
  go_wp2_with fail
  refine (sCapValid_any _ _ _ _ _).mono ?_
  rintro e w1 ⟨rfl, hb1⟩
  rw [h1]
  have z1 := hb1.size
  simp at z1
  replace TP := TP.below hb1
  replace TQ := TQ.below hb1
  have hB := Below.via (by (repeat (first | (with_reducible assumption) | (with_reducible exact Below.refl _ _) | (with_reducible refine Below.setCell ?_ (by first | (simp; done) | (simp; omega) | omega) _) | (with_reducible refine Below.alloc ?_ (by first | (simp; done) | (simp; omega) | omega) _) | (with_reducible refine Below.drew ?_) | (with_reducible refine Below.drewN ?_ _))) : Below w.heap.size w _) hb1
  clear hb1
  obtain ⟨q0, q1, q2, q3⟩ := TQ.four
  have lQ := TQ.lt
  go_wp2_with fail
  refine (sCapValid_any _ _ _ _ _).mono ?_
  rintro e w2 ⟨rfl, hb2⟩
  rw [h2]
  replace TP := TP.below hb2
  replace TQ := TQ.below hb2
  replace hB := Below.via hB hb2
  clear hb2 q0 q1 q2 q3 lQ
  obtain ⟨q0, q1, q2, q3⟩ := TQ.four
  obtain ⟨p0, p1, p2, p3⟩ := TP.four
  have lQ := TQ.lt
  have lP := TP.lt
  by_cases ek : k = k2
  case neg =>
    have HV := Lib.hid (show capW (k, o, r, b) (k2, o2, r2, b2) = false by rw [hV, show (k == k2) = false from beq_eq_false_iff_ne.2 ek]; rfl)
    have ek2 : (k == k2) = false := beq_eq_false_iff_ne.2 ek
    clear ek hV
    go_wp2
    go_ret
    exact ⟨by first | rfl | (rw [HV.out]; rfl), hB⟩
  subst ek
  by_cases eo : o = o2
  case neg =>
    have HV := Lib.hid (show capW (k, o, r, b) (k, o2, r2, b2) = false by rw [hV, show (o == o2) = false from beq_eq_false_iff_ne.2 eo, Bool.false_and, Bool.and_false])
    have eo2 : (o == o2) = false := beq_eq_false_iff_ne.2 eo
    clear eo hV
    go_wp2
    go_ret
    exact ⟨by first | rfl | (rw [HV.out]; rfl), hB⟩
  subst eo
  cases eN : (andN r r2 == 0)
  case false =>
    have HV := Lib.hid (show capW (k, o, r, b) (k, o, r2, b2) = false by rw [hV, eN]; simp)
    rw [eN] at hN
    clear eN hV
    go_wp2
    go_ret
    exact ⟨by first | rfl | (rw [HV.out]; rfl), hB⟩
  rw [eN] at hN
  by_cases eb : b = b2
  case pos =>
    subst eb
    have HV := Lib.hid (show capW (k, o, r, b) (k, o, r2, b) = true by rw [hV, eN]; simp)
    clear eN hV
    go_wp2
    go_ret
    exact ⟨by first | rfl | (rw [HV.out]; rfl), hB⟩
  have eb2 : (b == b2) = false := beq_eq_false_iff_ne.2 eb
  by_cases ez : b2 = 0
  case pos =>
    subst ez
    have HV := Lib.hid (show capW (k, o, r, b) (k, o, r2, 0) = true by rw [hV, eN, eb2]; simp)
    clear eN hV eb
    go_wp2
    go_ret
    exact ⟨by first | rfl | (rw [HV.out]; rfl), hB⟩
  have ez2 : (b2 == 0) = false := beq_eq_false_iff_ne.2 ez
  have HV := Lib.hid (show capW (k, o, r, b) (k, o, r2, b2) = false by rw [hV, eN, eb2, ez2]; simp)
  clear eN hV eb ez
  go_wp2
  go_ret
  exact ⟨by first | rfl | (rw [HV.out]; rfl), hB⟩
end Go.Proofs.Ytpgmfjipkhldmaa
