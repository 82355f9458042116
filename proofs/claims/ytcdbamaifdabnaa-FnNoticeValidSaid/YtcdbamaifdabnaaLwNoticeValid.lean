/- The walk of the law FnNoticeValid: it returns true and leaves all that was in memory as it was, for every code. -/
import Derived.Test.YtcdbamaifdabnaaLwNoticeHead
namespace Go.Proofs.Ytcdbamaifdabnaa
set_option linter.unusedVariables false
open Go.RowKit
set_option maxHeartbeats 4000000 in
theorem law_NoticeValid (B T n c : Nat) (A : Option Addr) (bs : List Value) (w : World) (hr : Rd w B T 1 A n bs) (hb : Bytes bs) (hnc : n ≤ c) :
    Calls Try.prog 7 #[.slice A n c] w fun e w' => e = .returned (.bool true) ∧ Below w.heap.size w w' := by
  obtain ⟨i0, hi0, hz0, hz1, hz2⟩ := info_parts Try.infoInt
  by_cases hbig : 1048576 < n
  · have hd : (1048576 : Int) < (n : Int) := by omega
    go_enter Try.func7, Try.ntmps7
    go_wp2_with fail
    go_ret
    exact ⟨rfl, Below.refl _ _⟩
  have hn : n ≤ 1048576 := by omega
  have hd : ¬ (1048576 : Int) < (n : Int) := by omega
  have hB := Below.refl w.heap.size w
  go_enter Try.func7, Try.ntmps7
  go_wp2_with fail
  refine (DrawNoticeValid_any B T n c A bs _ hr hb hn hnc).mono ?_
  rintro e w1 ⟨b, A1, c1, xs, rfl, o1, hl, hb1⟩
  have z1 := hb1.size
  (try simp at z1)
  replace hB := Below.via (by (repeat (first | (with_reducible assumption) | (with_reducible exact Below.refl _ _) | (with_reducible refine Below.setCell ?_ (by first | (simp; done) | (simp; omega) | omega) _) | (with_reducible refine Below.alloc ?_ (by first | (simp; done) | (simp; omega) | omega) _) | (with_reducible refine Below.drew ?_) | (with_reducible refine Below.drewN ?_ _))) : Below w.heap.size w _) hb1
  clear hb1
  have TP := Blk.newAt (w := w1) (n := w1.heap.size) 27 #[.int .i64 (b), .slice A1 (xs.length) c1] (by simp)
  have hle := o1.le
  go_wp2_with fail
  refine (iNoticeValid_any _ _ _ _ b _ xs _ (o1.alloc _).rd (by omega) hle).mono ?_
  rintro e w2 ⟨rfl, hb2⟩
  have z2 := hb2.size
  (try simp at z2)
  replace o1 := o1.via hb2 (by (repeat (first | (with_reducible assumption) | (with_reducible exact Below.refl _ _) | (with_reducible refine Below.setCell ?_ (by first | (simp; done) | (simp; omega) | omega) _) | (with_reducible refine Below.alloc ?_ (by first | (simp; done) | (simp; omega) | omega) _) | (with_reducible refine Below.drew ?_) | (with_reducible refine Below.drewN ?_ _))))
  replace TP := TP.via hb2 (by (repeat (first | (with_reducible assumption) | (with_reducible exact Below.refl _ _) | (with_reducible refine Below.setCell ?_ (by first | (simp; done) | (simp; omega) | omega) _) | (with_reducible refine Below.alloc ?_ (by first | (simp; done) | (simp; omega) | omega) _) | (with_reducible refine Below.drew ?_) | (with_reducible refine Below.drewN ?_ _))))
  replace hB := Below.via (by (repeat (first | (with_reducible assumption) | (with_reducible exact Below.refl _ _) | (with_reducible refine Below.setCell ?_ (by first | (simp; done) | (simp; omega) | omega) _) | (with_reducible refine Below.alloc ?_ (by first | (simp; done) | (simp; omega) | omega) _) | (with_reducible refine Below.drew ?_) | (with_reducible refine Below.drewN ?_ _))) : Below w.heap.size w _) hb2
  clear hb2
  have cP_0 := TP.cell 0 rfl
  have cP_1 := TP.cell 1 rfl
  have lP := TP.lt
  go_wp2_with fail
  refine (sNoticeValid_any _ _ _ _ b _ xs _ o1.rd (by omega)).mono ?_
  rintro e w3 ⟨rfl, hb3⟩
  clear cP_0 cP_1 lP
  have z3 := hb3.size
  (try simp at z3)
  replace o1 := o1.via hb3 (by (repeat (first | (with_reducible assumption) | (with_reducible exact Below.refl _ _) | (with_reducible refine Below.setCell ?_ (by first | (simp; done) | (simp; omega) | omega) _) | (with_reducible refine Below.alloc ?_ (by first | (simp; done) | (simp; omega) | omega) _) | (with_reducible refine Below.drew ?_) | (with_reducible refine Below.drewN ?_ _))))
  replace TP := TP.via hb3 (by (repeat (first | (with_reducible assumption) | (with_reducible exact Below.refl _ _) | (with_reducible refine Below.setCell ?_ (by first | (simp; done) | (simp; omega) | omega) _) | (with_reducible refine Below.alloc ?_ (by first | (simp; done) | (simp; omega) | omega) _) | (with_reducible refine Below.drew ?_) | (with_reducible refine Below.drewN ?_ _))))
  replace hB := Below.via (by (repeat (first | (with_reducible assumption) | (with_reducible exact Below.refl _ _) | (with_reducible refine Below.setCell ?_ (by first | (simp; done) | (simp; omega) | omega) _) | (with_reducible refine Below.alloc ?_ (by first | (simp; done) | (simp; omega) | omega) _) | (with_reducible refine Below.drew ?_) | (with_reducible refine Below.drewN ?_ _))) : Below w.heap.size w _) hb3
  clear hb3
  have cP_0 := TP.cell 0 rfl
  have cP_1 := TP.cell 1 rfl
  have lP := TP.lt
  cases hv : noticeV b xs
  · skip
    have e1 : noticeV 1 [0] = false := by decide +kernel
    have e2 : noticeV 0 [] = true := by decide +kernel
    go_wp2_with fail
    refine (iNoticeValid_any _ _ 1 _ 1 _ [0] _ (one_rd w3 0 3) (by omega) (by omega)).mono ?_
    rintro e w4 ⟨rfl, hb4⟩
    clear cP_0 cP_1 lP
    have z4 := hb4.size
    (try simp at z4)
    replace TP := TP.via hb4 (by (repeat (first | (with_reducible assumption) | (with_reducible exact Below.refl _ _) | (with_reducible refine Below.setCell ?_ (by first | (simp; done) | (simp; omega) | omega) _) | (with_reducible refine Below.alloc ?_ (by first | (simp; done) | (simp; omega) | omega) _) | (with_reducible refine Below.drew ?_) | (with_reducible refine Below.drewN ?_ _))))
    replace hB := Below.via (by (repeat (first | (with_reducible assumption) | (with_reducible exact Below.refl _ _) | (with_reducible refine Below.setCell ?_ (by first | (simp; done) | (simp; omega) | omega) _) | (with_reducible refine Below.alloc ?_ (by first | (simp; done) | (simp; omega) | omega) _) | (with_reducible refine Below.drew ?_) | (with_reducible refine Below.drewN ?_ _))) : Below w.heap.size w _) hb4
    clear hb4
    have cP_0 := TP.cell 0 rfl
    have cP_1 := TP.cell 1 rfl
    have lP := TP.lt
    rw [e1]
    go_wp2_with fail
    refine (iNoticeValid_any 0 0 0 _ 0 _ [] _ (Rd.nil _ _ _ _ _) (by omega) (by omega)).mono ?_
    rintro e w5 ⟨rfl, hb5⟩
    clear cP_0 cP_1 lP
    have z5 := hb5.size
    (try simp at z5)
    replace TP := TP.via hb5 (by (repeat (first | (with_reducible assumption) | (with_reducible exact Below.refl _ _) | (with_reducible refine Below.setCell ?_ (by first | (simp; done) | (simp; omega) | omega) _) | (with_reducible refine Below.alloc ?_ (by first | (simp; done) | (simp; omega) | omega) _) | (with_reducible refine Below.drew ?_) | (with_reducible refine Below.drewN ?_ _))))
    replace hB := Below.via (by (repeat (first | (with_reducible assumption) | (with_reducible exact Below.refl _ _) | (with_reducible refine Below.setCell ?_ (by first | (simp; done) | (simp; omega) | omega) _) | (with_reducible refine Below.alloc ?_ (by first | (simp; done) | (simp; omega) | omega) _) | (with_reducible refine Below.drew ?_) | (with_reducible refine Below.drewN ?_ _))) : Below w.heap.size w _) hb5
    clear hb5
    have cP_0 := TP.cell 0 rfl
    have cP_1 := TP.cell 1 rfl
    have lP := TP.lt
    rw [e2]
    go_wp2_with fail
    refine (alive_any _).mono ?_
    rintro e w6 ⟨rfl, hb6⟩
    clear cP_0 cP_1 lP
    have z6 := hb6.size
    (try simp at z6)
    replace TP := TP.via hb6 (by (repeat (first | (with_reducible assumption) | (with_reducible exact Below.refl _ _) | (with_reducible refine Below.setCell ?_ (by first | (simp; done) | (simp; omega) | omega) _) | (with_reducible refine Below.alloc ?_ (by first | (simp; done) | (simp; omega) | omega) _) | (with_reducible refine Below.drew ?_) | (with_reducible refine Below.drewN ?_ _))))
    replace hB := Below.via (by (repeat (first | (with_reducible assumption) | (with_reducible exact Below.refl _ _) | (with_reducible refine Below.setCell ?_ (by first | (simp; done) | (simp; omega) | omega) _) | (with_reducible refine Below.alloc ?_ (by first | (simp; done) | (simp; omega) | omega) _) | (with_reducible refine Below.drew ?_) | (with_reducible refine Below.drewN ?_ _))) : Below w.heap.size w _) hb6
    clear hb6
    have cP_0 := TP.cell 0 rfl
    have cP_1 := TP.cell 1 rfl
    have lP := TP.lt
    go_wp2
    go_ret
    exact ⟨rfl, by (repeat (first | (with_reducible assumption) | (with_reducible exact Below.refl _ _) | (with_reducible refine Below.setCell ?_ (by first | (simp; done) | (simp; omega) | omega) _) | (with_reducible refine Below.alloc ?_ (by first | (simp; done) | (simp; omega) | omega) _) | (with_reducible refine Below.drew ?_) | (with_reducible refine Below.drewN ?_ _)))⟩
  · skip
    have e1 : noticeV 1 [0] = false := by decide +kernel
    have e2 : noticeV 0 [] = true := by decide +kernel
    have e3 := noticeV_nil hv
    go_wp2_with fail
    refine (iNoticeValid_any _ _ 1 _ 1 _ [0] _ (one_rd w3 0 3) (by omega) (by omega)).mono ?_
    rintro e w4 ⟨rfl, hb4⟩
    clear cP_0 cP_1 lP
    have z4 := hb4.size
    (try simp at z4)
    replace TP := TP.via hb4 (by (repeat (first | (with_reducible assumption) | (with_reducible exact Below.refl _ _) | (with_reducible refine Below.setCell ?_ (by first | (simp; done) | (simp; omega) | omega) _) | (with_reducible refine Below.alloc ?_ (by first | (simp; done) | (simp; omega) | omega) _) | (with_reducible refine Below.drew ?_) | (with_reducible refine Below.drewN ?_ _))))
    replace hB := Below.via (by (repeat (first | (with_reducible assumption) | (with_reducible exact Below.refl _ _) | (with_reducible refine Below.setCell ?_ (by first | (simp; done) | (simp; omega) | omega) _) | (with_reducible refine Below.alloc ?_ (by first | (simp; done) | (simp; omega) | omega) _) | (with_reducible refine Below.drew ?_) | (with_reducible refine Below.drewN ?_ _))) : Below w.heap.size w _) hb4
    clear hb4
    have cP_0 := TP.cell 0 rfl
    have cP_1 := TP.cell 1 rfl
    have lP := TP.lt
    rw [e1]
    go_wp2_with fail
    refine (iNoticeValid_any 0 0 0 _ b _ [] _ (Rd.nil _ _ _ _ _) (by omega) (by omega)).mono ?_
    rintro e w5 ⟨rfl, hb5⟩
    clear cP_0 cP_1 lP
    have z5 := hb5.size
    (try simp at z5)
    replace TP := TP.via hb5 (by (repeat (first | (with_reducible assumption) | (with_reducible exact Below.refl _ _) | (with_reducible refine Below.setCell ?_ (by first | (simp; done) | (simp; omega) | omega) _) | (with_reducible refine Below.alloc ?_ (by first | (simp; done) | (simp; omega) | omega) _) | (with_reducible refine Below.drew ?_) | (with_reducible refine Below.drewN ?_ _))))
    replace hB := Below.via (by (repeat (first | (with_reducible assumption) | (with_reducible exact Below.refl _ _) | (with_reducible refine Below.setCell ?_ (by first | (simp; done) | (simp; omega) | omega) _) | (with_reducible refine Below.alloc ?_ (by first | (simp; done) | (simp; omega) | omega) _) | (with_reducible refine Below.drew ?_) | (with_reducible refine Below.drewN ?_ _))) : Below w.heap.size w _) hb5
    clear hb5
    have cP_0 := TP.cell 0 rfl
    have cP_1 := TP.cell 1 rfl
    have lP := TP.lt
    rw [e3]
    go_wp2_with fail
    refine (iNoticeValid_any 0 0 0 _ 0 _ [] _ (Rd.nil _ _ _ _ _) (by omega) (by omega)).mono ?_
    rintro e w6 ⟨rfl, hb6⟩
    clear cP_0 cP_1 lP
    have z6 := hb6.size
    (try simp at z6)
    replace TP := TP.via hb6 (by (repeat (first | (with_reducible assumption) | (with_reducible exact Below.refl _ _) | (with_reducible refine Below.setCell ?_ (by first | (simp; done) | (simp; omega) | omega) _) | (with_reducible refine Below.alloc ?_ (by first | (simp; done) | (simp; omega) | omega) _) | (with_reducible refine Below.drew ?_) | (with_reducible refine Below.drewN ?_ _))))
    replace hB := Below.via (by (repeat (first | (with_reducible assumption) | (with_reducible exact Below.refl _ _) | (with_reducible refine Below.setCell ?_ (by first | (simp; done) | (simp; omega) | omega) _) | (with_reducible refine Below.alloc ?_ (by first | (simp; done) | (simp; omega) | omega) _) | (with_reducible refine Below.drew ?_) | (with_reducible refine Below.drewN ?_ _))) : Below w.heap.size w _) hb6
    clear hb6
    have cP_0 := TP.cell 0 rfl
    have cP_1 := TP.cell 1 rfl
    have lP := TP.lt
    rw [e2]
    go_wp2_with fail
    refine (alive_any _).mono ?_
    rintro e w7 ⟨rfl, hb7⟩
    clear cP_0 cP_1 lP
    have z7 := hb7.size
    (try simp at z7)
    replace TP := TP.via hb7 (by (repeat (first | (with_reducible assumption) | (with_reducible exact Below.refl _ _) | (with_reducible refine Below.setCell ?_ (by first | (simp; done) | (simp; omega) | omega) _) | (with_reducible refine Below.alloc ?_ (by first | (simp; done) | (simp; omega) | omega) _) | (with_reducible refine Below.drew ?_) | (with_reducible refine Below.drewN ?_ _))))
    replace hB := Below.via (by (repeat (first | (with_reducible assumption) | (with_reducible exact Below.refl _ _) | (with_reducible refine Below.setCell ?_ (by first | (simp; done) | (simp; omega) | omega) _) | (with_reducible refine Below.alloc ?_ (by first | (simp; done) | (simp; omega) | omega) _) | (with_reducible refine Below.drew ?_) | (with_reducible refine Below.drewN ?_ _))) : Below w.heap.size w _) hb7
    clear hb7
    have cP_0 := TP.cell 0 rfl
    have cP_1 := TP.cell 1 rfl
    have lP := TP.lt
    go_wp2
    go_ret
    exact ⟨rfl, by (repeat (first | (with_reducible assumption) | (with_reducible exact Below.refl _ _) | (with_reducible refine Below.setCell ?_ (by first | (simp; done) | (simp; omega) | omega) _) | (with_reducible refine Below.alloc ?_ (by first | (simp; done) | (simp; omega) | omega) _) | (with_reducible refine Below.drew ?_) | (with_reducible refine Below.drewN ?_ _)))⟩
end Go.Proofs.Ytcdbamaifdabnaa
