/- Contracts of NoticeValid (impl and spec). -/
import Derived.Test.YtcdbamaifdabnaaNotice1
namespace Go.Proofs.Ytcdbamaifdabnaa
set_option linter.unusedVariables false
open Go.RowKit
set_option maxHeartbeats 1000000 in
theorem iNoticeValid_any (B T n c : Nat) (b : Int) (A : Option Addr) (xs : List Int) (w : World) (hr : Rd w B T 1 A n (ints xs)) (hn : n ≤ 1048576) (hnc : n ≤ c) :
    Calls Try.prog 15 #[notice b A n c] w fun e w' => e = .returned (.bool (noticeV b xs)) ∧ Below w.heap.size w w' := by
  have hl := ints_len hr
  subst hl
  cases hi : inB b 0 255
  · have HV := Lib.hid (show noticeV b xs = false by unfold noticeV; rw [hi]; rfl)
    go_enter Try.func15, Try.ntmps15
    go_wp2_with fail
    refine (in_any _ _ _ _).mono ?_
    rintro e w1 ⟨rfl, rfl⟩
    go_wp2
    go_ret
    exact ⟨by rw [HV.out]; rfl, by (repeat (first | (with_reducible assumption) | (with_reducible exact Below.refl _ _) | (with_reducible refine Below.setCell ?_ (by first | (simp; done) | (simp; omega) | omega) _) | (with_reducible refine Below.alloc ?_ (by first | (simp; done) | (simp; omega) | omega) _) | (with_reducible refine Below.drew ?_) | (with_reducible refine Below.drewN ?_ _)))⟩
  · cases hv : callsV xs
    · have HV := Lib.hid (show noticeV b xs = false by unfold noticeV; rw [hi, hv]; rfl)
      go_enter Try.func15, Try.ntmps15
      go_wp2_with fail
      refine (in_any _ _ _ _).mono ?_
      rintro e w1 ⟨rfl, rfl⟩
      go_wp2_with fail
      refine (iCallsValid_any _ _ _ _ _ xs _ (hr.alloc _) hn hnc).mono ?_
      rintro e w2 ⟨rfl, hb2⟩
      go_wp2
      go_ret
      exact ⟨by rw [HV.out]; rfl, Below.via (Below.alloc1 (Below.refl _ _) _) hb2⟩
    · by_cases h0 : b = 0
      · have HV := Lib.hid (show noticeV b xs = true by unfold noticeV; rw [hi, hv, h0]; rfl)
        have h0' : (b == 0) = true := by simp [h0]
        clear h0
        go_enter Try.func15, Try.ntmps15
        go_wp2_with fail
        refine (in_any _ _ _ _).mono ?_
        rintro e w1 ⟨rfl, rfl⟩
        go_wp2_with fail
        refine (iCallsValid_any _ _ _ _ _ xs _ (hr.alloc _) hn hnc).mono ?_
        rintro e w2 ⟨rfl, hb2⟩
        obtain ⟨p0, p1⟩ := ((Blk.new w 27 #[.int .i64 b, .slice A xs.length c]).below hb2).two
        go_wp2
        go_ret
        exact ⟨by rw [HV.out]; rfl, Below.via (Below.alloc1 (Below.refl _ _) _) hb2⟩
      · have h0' : (b == 0) = false := by simp [h0]
        have HV := Lib.hid (show noticeV b xs = xs.isEmpty by unfold noticeV; rw [hi, hv, h0']; rfl)
        clear h0
        go_enter Try.func15, Try.ntmps15
        go_wp2_with fail
        refine (in_any _ _ _ _).mono ?_
        rintro e w1 ⟨rfl, rfl⟩
        go_wp2_with fail
        refine (iCallsValid_any _ _ _ _ _ xs _ (hr.alloc _) hn hnc).mono ?_
        rintro e w2 ⟨rfl, hb2⟩
        obtain ⟨p0, p1⟩ := ((Blk.new w 27 #[.int .i64 b, .slice A xs.length c]).below hb2).two
        cases xs with
        | nil =>
          go_wp2
          go_ret
          exact ⟨by rw [HV.out]; rfl, Below.via (Below.alloc1 (Below.refl _ _) _) hb2⟩
        | cons x l =>
          have hne : ((l.length : Int) + 1 == 0) = false := by simp; omega
          go_wp2
          go_ret
          exact ⟨by rw [HV.out]; simp, Below.via (Below.alloc1 (Below.refl _ _) _) hb2⟩
set_option maxHeartbeats 1000000 in
theorem sNoticeValid_any (B T n c : Nat) (b : Int) (A : Option Addr) (xs : List Int) (w : World) (hr : Rd w B T 1 A n (ints xs)) (hn : n ≤ 1048576) :
    Calls Try.prog 13 #[notice b A n c] w fun e w' => e = .returned (.bool (noticeV b xs)) ∧ Below w.heap.size w w' := by
  have hl := ints_len hr
  subst hl
  cases hi : inB b 0 255
  · have HV := Lib.hid (show noticeV b xs = false by unfold noticeV; rw [hi]; rfl)
    go_enter Try.func13, Try.ntmps13
    go_wp2_with fail
    refine (l1In_any _ _ _ _).mono ?_
    rintro e w1 ⟨rfl, rfl⟩
    go_wp2
    go_ret
    exact ⟨by rw [HV.out]; rfl, by (repeat (first | (with_reducible assumption) | (with_reducible exact Below.refl _ _) | (with_reducible refine Below.setCell ?_ (by first | (simp; done) | (simp; omega) | omega) _) | (with_reducible refine Below.alloc ?_ (by first | (simp; done) | (simp; omega) | omega) _) | (with_reducible refine Below.drew ?_) | (with_reducible refine Below.drewN ?_ _)))⟩
  · cases hv : callsV xs
    · have HV := Lib.hid (show noticeV b xs = false by unfold noticeV; rw [hi, hv]; rfl)
      go_enter Try.func13, Try.ntmps13
      go_wp2_with fail
      refine (l1In_any _ _ _ _).mono ?_
      rintro e w1 ⟨rfl, rfl⟩
      go_wp2_with fail
      refine (sCallsValid_any _ _ _ _ _ xs _ (hr.alloc _) hn).mono ?_
      rintro e w2 ⟨rfl, hb2⟩
      go_wp2
      go_ret
      exact ⟨by rw [HV.out]; rfl, Below.via (Below.alloc1 (Below.refl _ _) _) hb2⟩
    · by_cases h0 : b = 0
      · have HV := Lib.hid (show noticeV b xs = true by unfold noticeV; rw [hi, hv, h0]; rfl)
        have h0' : (b == 0) = true := by simp [h0]
        clear h0
        go_enter Try.func13, Try.ntmps13
        go_wp2_with fail
        refine (l1In_any _ _ _ _).mono ?_
        rintro e w1 ⟨rfl, rfl⟩
        go_wp2_with fail
        refine (sCallsValid_any _ _ _ _ _ xs _ (hr.alloc _) hn).mono ?_
        rintro e w2 ⟨rfl, hb2⟩
        obtain ⟨p0, p1⟩ := ((Blk.new w 27 #[.int .i64 b, .slice A xs.length c]).below hb2).two
        go_wp2
        go_ret
        exact ⟨by rw [HV.out]; rfl, Below.via (Below.alloc1 (Below.refl _ _) _) hb2⟩
      · have h0' : (b == 0) = false := by simp [h0]
        have HV := Lib.hid (show noticeV b xs = xs.isEmpty by unfold noticeV; rw [hi, hv, h0']; rfl)
        clear h0
        go_enter Try.func13, Try.ntmps13
        go_wp2_with fail
        refine (l1In_any _ _ _ _).mono ?_
        rintro e w1 ⟨rfl, rfl⟩
        go_wp2_with fail
        refine (sCallsValid_any _ _ _ _ _ xs _ (hr.alloc _) hn).mono ?_
        rintro e w2 ⟨rfl, hb2⟩
        obtain ⟨p0, p1⟩ := ((Blk.new w 27 #[.int .i64 b, .slice A xs.length c]).below hb2).two
        cases xs with
        | nil =>
          go_wp2
          go_ret
          exact ⟨by rw [HV.out]; rfl, Below.via (Below.alloc1 (Below.refl _ _) _) hb2⟩
        | cons x l =>
          have hne : ((l.length : Int) + 1 == 0) = false := by simp; omega
          go_wp2
          go_ret
          exact ⟨by rw [HV.out]; simp, Below.via (Below.alloc1 (Below.refl _ _) _) hb2⟩
end Go.Proofs.Ytcdbamaifdabnaa
