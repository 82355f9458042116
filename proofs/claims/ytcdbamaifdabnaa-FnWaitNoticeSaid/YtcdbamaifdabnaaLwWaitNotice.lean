/- The walk of the law FnWaitNotice: it returns true and leaves all that was in memory as it was, for every code. -/
import Derived.Test.YtcdbamaifdabnaaLwNoticeHead
namespace Go.Proofs.Ytcdbamaifdabnaa
set_option linter.unusedVariables false
open Go.RowKit
set_option maxHeartbeats 4000000 in
theorem law_WaitNotice (B T n c : Nat) (A : Option Addr) (bs : List Value) (w : World) (hr : Rd w B T 1 A n bs) (hb : Bytes bs) (hnc : n ≤ c) :
    Calls Try.prog 11 #[.slice A n c] w fun e w' => e = .returned (.bool true) ∧ Below w.heap.size w w' := by
  obtain ⟨i0, hi0, hz0, hz1, hz2⟩ := info_parts Try.infoInt
  by_cases hbig : 1048576 < n
  · have hd : (1048576 : Int) < (n : Int) := by omega
    go_enter Try.func11, Try.ntmps11
    go_wp2_with fail
    go_ret
    exact ⟨rfl, Below.refl _ _⟩
  have hn : n ≤ 1048576 := by omega
  have hd : ¬ (1048576 : Int) < (n : Int) := by omega
  have hB := Below.refl w.heap.size w
  go_enter Try.func11, Try.ntmps11
  go_wp2_with fail
  refine (DrawWaitNotice_any B T n c A bs _ hr hb hn hnc).mono ?_
  rintro e w1 ⟨b, A1, c1, xs, v, rfl, o1, hl, hb1⟩
  have z1 := hb1.size
  (try simp at z1)
  replace hB := Below.via (by (repeat (first | (with_reducible assumption) | (with_reducible exact Below.refl _ _) | (with_reducible refine Below.setCell ?_ (by first | (simp; done) | (simp; omega) | omega) _) | (with_reducible refine Below.alloc ?_ (by first | (simp; done) | (simp; omega) | omega) _) | (with_reducible refine Below.drew ?_) | (with_reducible refine Below.drewN ?_ _))) : Below w.heap.size w _) hb1
  clear hb1
  obtain ⟨n1, hn1⟩ : ∃ n1, xs.length = n1 := ⟨_, rfl⟩
  rw [hn1] at o1 hl ⊢
  have hle := o1.le
  rcases wait_split b xs v with hk | ⟨hk, hb0, hne⟩ | ⟨hk, hb0⟩
  · skip
    clear hn1
    have TP := Blk.newAt (w := w1) (n := w1.heap.size) 27 #[.int .i64 (b), .slice A1 (n1) c1] (by simp)
    go_wp2_with fail
    refine (iWait_no _ _ _ _ b _ xs _ (o1.alloc _).rd (by omega) hle v hk).mono ?_
    rintro e w2 ⟨A2, c2, rfl, o2, hb2⟩
    have z2 := hb2.size
    (try simp at z2)
    replace o2 := o2.mono (B' := w1.heap.size + 1) (T' := w2.heap.size) (by simp) (Nat.le_refl _)
    replace o1 := o1.via hb2 (by (repeat (first | (with_reducible assumption) | (with_reducible exact Below.refl _ _) | (with_reducible refine Below.setCell ?_ (by first | (simp; done) | (simp; omega) | omega) _) | (with_reducible refine Below.alloc ?_ (by first | (simp; done) | (simp; omega) | omega) _) | (with_reducible refine Below.drew ?_) | (with_reducible refine Below.drewN ?_ _))))
    replace TP := TP.via hb2 (by (repeat (first | (with_reducible assumption) | (with_reducible exact Below.refl _ _) | (with_reducible refine Below.setCell ?_ (by first | (simp; done) | (simp; omega) | omega) _) | (with_reducible refine Below.alloc ?_ (by first | (simp; done) | (simp; omega) | omega) _) | (with_reducible refine Below.drew ?_) | (with_reducible refine Below.drewN ?_ _))))
    replace hB := Below.via (by (repeat (first | (with_reducible assumption) | (with_reducible exact Below.refl _ _) | (with_reducible refine Below.setCell ?_ (by first | (simp; done) | (simp; omega) | omega) _) | (with_reducible refine Below.alloc ?_ (by first | (simp; done) | (simp; omega) | omega) _) | (with_reducible refine Below.drew ?_) | (with_reducible refine Below.drewN ?_ _))) : Below w.heap.size w _) hb2
    clear hb2
    have cP_0 := TP.cell 0 rfl
    have cP_1 := TP.cell 1 rfl
    have lP := TP.lt
    have TV := Blk.newAt (w := w2) (n := w2.heap.size) 27 #[.int .i64 (0), .slice A2 (0) c2] (by simp)
    go_wp2_with fail
    refine (sWait_no _ _ _ _ b _ xs _ (o1.alloc _).rd (by omega) hle v hk).mono ?_
    rintro e w3 ⟨A3, c3, rfl, o3, hb3⟩
    clear cP_0 cP_1 lP
    have z3 := hb3.size
    (try simp at z3)
    replace o3 := o3.mono (B' := w2.heap.size + 1) (T' := w3.heap.size) (by simp) (Nat.le_refl _)
    replace o1 := o1.via hb3 (by (repeat (first | (with_reducible assumption) | (with_reducible exact Below.refl _ _) | (with_reducible refine Below.setCell ?_ (by first | (simp; done) | (simp; omega) | omega) _) | (with_reducible refine Below.alloc ?_ (by first | (simp; done) | (simp; omega) | omega) _) | (with_reducible refine Below.drew ?_) | (with_reducible refine Below.drewN ?_ _))))
    replace o2 := o2.via hb3 (by (repeat (first | (with_reducible assumption) | (with_reducible exact Below.refl _ _) | (with_reducible refine Below.setCell ?_ (by first | (simp; done) | (simp; omega) | omega) _) | (with_reducible refine Below.alloc ?_ (by first | (simp; done) | (simp; omega) | omega) _) | (with_reducible refine Below.drew ?_) | (with_reducible refine Below.drewN ?_ _))))
    replace TP := TP.via hb3 (by (repeat (first | (with_reducible assumption) | (with_reducible exact Below.refl _ _) | (with_reducible refine Below.setCell ?_ (by first | (simp; done) | (simp; omega) | omega) _) | (with_reducible refine Below.alloc ?_ (by first | (simp; done) | (simp; omega) | omega) _) | (with_reducible refine Below.drew ?_) | (with_reducible refine Below.drewN ?_ _))))
    replace TV := TV.via hb3 (by (repeat (first | (with_reducible assumption) | (with_reducible exact Below.refl _ _) | (with_reducible refine Below.setCell ?_ (by first | (simp; done) | (simp; omega) | omega) _) | (with_reducible refine Below.alloc ?_ (by first | (simp; done) | (simp; omega) | omega) _) | (with_reducible refine Below.drew ?_) | (with_reducible refine Below.drewN ?_ _))))
    replace hB := Below.via (by (repeat (first | (with_reducible assumption) | (with_reducible exact Below.refl _ _) | (with_reducible refine Below.setCell ?_ (by first | (simp; done) | (simp; omega) | omega) _) | (with_reducible refine Below.alloc ?_ (by first | (simp; done) | (simp; omega) | omega) _) | (with_reducible refine Below.drew ?_) | (with_reducible refine Below.drewN ?_ _))) : Below w.heap.size w _) hb3
    clear hb3
    have cP_0 := TP.cell 0 rfl
    have cP_1 := TP.cell 1 rfl
    have lP := TP.lt
    have cV_0 := TV.cell 0 rfl
    have cV_1 := TV.cell 1 rfl
    have lV := TV.lt
    have TR := Blk.newAt (w := w3) (n := w3.heap.size) 27 #[.int .i64 (0), .slice A3 (0) c3] (by simp)
    go_wp2_with fail
    refine (sameNotice_any _ _ _ _ _ _ _ _ _ _ _ _ _ _ _ (o2.alloc _).rd (o3.alloc _).rd (by simp)).mono ?_
    rintro e w4 ⟨rfl, hb4⟩
    clear cP_0 cP_1 lP cV_0 cV_1 lV
    have z4 := hb4.size
    (try simp at z4)
    replace o1 := o1.via hb4 (by (repeat (first | (with_reducible assumption) | (with_reducible exact Below.refl _ _) | (with_reducible refine Below.setCell ?_ (by first | (simp; done) | (simp; omega) | omega) _) | (with_reducible refine Below.alloc ?_ (by first | (simp; done) | (simp; omega) | omega) _) | (with_reducible refine Below.drew ?_) | (with_reducible refine Below.drewN ?_ _))))
    replace o2 := o2.via hb4 (by (repeat (first | (with_reducible assumption) | (with_reducible exact Below.refl _ _) | (with_reducible refine Below.setCell ?_ (by first | (simp; done) | (simp; omega) | omega) _) | (with_reducible refine Below.alloc ?_ (by first | (simp; done) | (simp; omega) | omega) _) | (with_reducible refine Below.drew ?_) | (with_reducible refine Below.drewN ?_ _))))
    replace o3 := o3.via hb4 (by (repeat (first | (with_reducible assumption) | (with_reducible exact Below.refl _ _) | (with_reducible refine Below.setCell ?_ (by first | (simp; done) | (simp; omega) | omega) _) | (with_reducible refine Below.alloc ?_ (by first | (simp; done) | (simp; omega) | omega) _) | (with_reducible refine Below.drew ?_) | (with_reducible refine Below.drewN ?_ _))))
    replace TP := TP.via hb4 (by (repeat (first | (with_reducible assumption) | (with_reducible exact Below.refl _ _) | (with_reducible refine Below.setCell ?_ (by first | (simp; done) | (simp; omega) | omega) _) | (with_reducible refine Below.alloc ?_ (by first | (simp; done) | (simp; omega) | omega) _) | (with_reducible refine Below.drew ?_) | (with_reducible refine Below.drewN ?_ _))))
    replace TV := TV.via hb4 (by (repeat (first | (with_reducible assumption) | (with_reducible exact Below.refl _ _) | (with_reducible refine Below.setCell ?_ (by first | (simp; done) | (simp; omega) | omega) _) | (with_reducible refine Below.alloc ?_ (by first | (simp; done) | (simp; omega) | omega) _) | (with_reducible refine Below.drew ?_) | (with_reducible refine Below.drewN ?_ _))))
    replace TR := TR.via hb4 (by (repeat (first | (with_reducible assumption) | (with_reducible exact Below.refl _ _) | (with_reducible refine Below.setCell ?_ (by first | (simp; done) | (simp; omega) | omega) _) | (with_reducible refine Below.alloc ?_ (by first | (simp; done) | (simp; omega) | omega) _) | (with_reducible refine Below.drew ?_) | (with_reducible refine Below.drewN ?_ _))))
    replace hB := Below.via (by (repeat (first | (with_reducible assumption) | (with_reducible exact Below.refl _ _) | (with_reducible refine Below.setCell ?_ (by first | (simp; done) | (simp; omega) | omega) _) | (with_reducible refine Below.alloc ?_ (by first | (simp; done) | (simp; omega) | omega) _) | (with_reducible refine Below.drew ?_) | (with_reducible refine Below.drewN ?_ _))) : Below w.heap.size w _) hb4
    clear hb4
    have cP_0 := TP.cell 0 rfl
    have cP_1 := TP.cell 1 rfl
    have lP := TP.lt
    have cV_0 := TV.cell 0 rfl
    have cV_1 := TV.cell 1 rfl
    have lV := TV.lt
    have cR_0 := TR.cell 0 rfl
    have cR_1 := TR.cell 1 rfl
    have lR := TR.lt
    (try simp only [decide_true, Bool.and_true, Bool.true_and, Bool.and_self])
    go_wp2_with fail
    refine (alive_any _).mono ?_
    rintro e w5 ⟨rfl, hb5⟩
    clear cP_0 cP_1 lP cV_0 cV_1 lV cR_0 cR_1 lR
    have z5 := hb5.size
    (try simp at z5)
    replace o1 := o1.via hb5 (by (repeat (first | (with_reducible assumption) | (with_reducible exact Below.refl _ _) | (with_reducible refine Below.setCell ?_ (by first | (simp; done) | (simp; omega) | omega) _) | (with_reducible refine Below.alloc ?_ (by first | (simp; done) | (simp; omega) | omega) _) | (with_reducible refine Below.drew ?_) | (with_reducible refine Below.drewN ?_ _))))
    replace o2 := o2.via hb5 (by (repeat (first | (with_reducible assumption) | (with_reducible exact Below.refl _ _) | (with_reducible refine Below.setCell ?_ (by first | (simp; done) | (simp; omega) | omega) _) | (with_reducible refine Below.alloc ?_ (by first | (simp; done) | (simp; omega) | omega) _) | (with_reducible refine Below.drew ?_) | (with_reducible refine Below.drewN ?_ _))))
    replace o3 := o3.via hb5 (by (repeat (first | (with_reducible assumption) | (with_reducible exact Below.refl _ _) | (with_reducible refine Below.setCell ?_ (by first | (simp; done) | (simp; omega) | omega) _) | (with_reducible refine Below.alloc ?_ (by first | (simp; done) | (simp; omega) | omega) _) | (with_reducible refine Below.drew ?_) | (with_reducible refine Below.drewN ?_ _))))
    replace TP := TP.via hb5 (by (repeat (first | (with_reducible assumption) | (with_reducible exact Below.refl _ _) | (with_reducible refine Below.setCell ?_ (by first | (simp; done) | (simp; omega) | omega) _) | (with_reducible refine Below.alloc ?_ (by first | (simp; done) | (simp; omega) | omega) _) | (with_reducible refine Below.drew ?_) | (with_reducible refine Below.drewN ?_ _))))
    replace TV := TV.via hb5 (by (repeat (first | (with_reducible assumption) | (with_reducible exact Below.refl _ _) | (with_reducible refine Below.setCell ?_ (by first | (simp; done) | (simp; omega) | omega) _) | (with_reducible refine Below.alloc ?_ (by first | (simp; done) | (simp; omega) | omega) _) | (with_reducible refine Below.drew ?_) | (with_reducible refine Below.drewN ?_ _))))
    replace TR := TR.via hb5 (by (repeat (first | (with_reducible assumption) | (with_reducible exact Below.refl _ _) | (with_reducible refine Below.setCell ?_ (by first | (simp; done) | (simp; omega) | omega) _) | (with_reducible refine Below.alloc ?_ (by first | (simp; done) | (simp; omega) | omega) _) | (with_reducible refine Below.drew ?_) | (with_reducible refine Below.drewN ?_ _))))
    replace hB := Below.via (by (repeat (first | (with_reducible assumption) | (with_reducible exact Below.refl _ _) | (with_reducible refine Below.setCell ?_ (by first | (simp; done) | (simp; omega) | omega) _) | (with_reducible refine Below.alloc ?_ (by first | (simp; done) | (simp; omega) | omega) _) | (with_reducible refine Below.drew ?_) | (with_reducible refine Below.drewN ?_ _))) : Below w.heap.size w _) hb5
    clear hb5
    have cP_0 := TP.cell 0 rfl
    have cP_1 := TP.cell 1 rfl
    have lP := TP.lt
    have cV_0 := TV.cell 0 rfl
    have cV_1 := TV.cell 1 rfl
    have lV := TV.lt
    have cR_0 := TR.cell 0 rfl
    have cR_1 := TR.cell 1 rfl
    have lR := TR.lt
    go_wp2
    go_ret
    exact ⟨rfl, by (repeat (first | (with_reducible assumption) | (with_reducible exact Below.refl _ _) | (with_reducible refine Below.setCell ?_ (by first | (simp; done) | (simp; omega) | omega) _) | (with_reducible refine Below.alloc ?_ (by first | (simp; done) | (simp; omega) | omega) _) | (with_reducible refine Below.drew ?_) | (with_reducible refine Below.drewN ?_ _)))⟩
  · skip
    clear hn1
    have TP := Blk.newAt (w := w1) (n := w1.heap.size) 27 #[.int .i64 (b), .slice A1 (n1) c1] (by simp)
    go_wp2_with fail
    refine (iWait_bits _ _ _ _ b _ xs _ (o1.alloc _).rd (by omega) hle v ⟨hk, hb0⟩).mono ?_
    rintro e w2 ⟨A2, c2, rfl, o2, hb2⟩
    have z2 := hb2.size
    (try simp at z2)
    replace o2 := o2.mono (B' := w1.heap.size + 1) (T' := w2.heap.size) (by simp) (Nat.le_refl _)
    replace o1 := o1.via hb2 (by (repeat (first | (with_reducible assumption) | (with_reducible exact Below.refl _ _) | (with_reducible refine Below.setCell ?_ (by first | (simp; done) | (simp; omega) | omega) _) | (with_reducible refine Below.alloc ?_ (by first | (simp; done) | (simp; omega) | omega) _) | (with_reducible refine Below.drew ?_) | (with_reducible refine Below.drewN ?_ _))))
    replace TP := TP.via hb2 (by (repeat (first | (with_reducible assumption) | (with_reducible exact Below.refl _ _) | (with_reducible refine Below.setCell ?_ (by first | (simp; done) | (simp; omega) | omega) _) | (with_reducible refine Below.alloc ?_ (by first | (simp; done) | (simp; omega) | omega) _) | (with_reducible refine Below.drew ?_) | (with_reducible refine Below.drewN ?_ _))))
    replace hB := Below.via (by (repeat (first | (with_reducible assumption) | (with_reducible exact Below.refl _ _) | (with_reducible refine Below.setCell ?_ (by first | (simp; done) | (simp; omega) | omega) _) | (with_reducible refine Below.alloc ?_ (by first | (simp; done) | (simp; omega) | omega) _) | (with_reducible refine Below.drew ?_) | (with_reducible refine Below.drewN ?_ _))) : Below w.heap.size w _) hb2
    clear hb2
    have cP_0 := TP.cell 0 rfl
    have cP_1 := TP.cell 1 rfl
    have lP := TP.lt
    have TV := Blk.newAt (w := w2) (n := w2.heap.size) 27 #[.int .i64 (0), .slice A2 (0) c2] (by simp)
    go_wp2_with fail
    refine (sWait_bits _ _ _ _ b _ xs _ (o1.alloc _).rd (by omega) hle v ⟨hk, hb0⟩).mono ?_
    rintro e w3 ⟨A3, c3, rfl, o3, hb3⟩
    clear cP_0 cP_1 lP
    have z3 := hb3.size
    (try simp at z3)
    replace o3 := o3.mono (B' := w2.heap.size + 1) (T' := w3.heap.size) (by simp) (Nat.le_refl _)
    replace o1 := o1.via hb3 (by (repeat (first | (with_reducible assumption) | (with_reducible exact Below.refl _ _) | (with_reducible refine Below.setCell ?_ (by first | (simp; done) | (simp; omega) | omega) _) | (with_reducible refine Below.alloc ?_ (by first | (simp; done) | (simp; omega) | omega) _) | (with_reducible refine Below.drew ?_) | (with_reducible refine Below.drewN ?_ _))))
    replace o2 := o2.via hb3 (by (repeat (first | (with_reducible assumption) | (with_reducible exact Below.refl _ _) | (with_reducible refine Below.setCell ?_ (by first | (simp; done) | (simp; omega) | omega) _) | (with_reducible refine Below.alloc ?_ (by first | (simp; done) | (simp; omega) | omega) _) | (with_reducible refine Below.drew ?_) | (with_reducible refine Below.drewN ?_ _))))
    replace TP := TP.via hb3 (by (repeat (first | (with_reducible assumption) | (with_reducible exact Below.refl _ _) | (with_reducible refine Below.setCell ?_ (by first | (simp; done) | (simp; omega) | omega) _) | (with_reducible refine Below.alloc ?_ (by first | (simp; done) | (simp; omega) | omega) _) | (with_reducible refine Below.drew ?_) | (with_reducible refine Below.drewN ?_ _))))
    replace TV := TV.via hb3 (by (repeat (first | (with_reducible assumption) | (with_reducible exact Below.refl _ _) | (with_reducible refine Below.setCell ?_ (by first | (simp; done) | (simp; omega) | omega) _) | (with_reducible refine Below.alloc ?_ (by first | (simp; done) | (simp; omega) | omega) _) | (with_reducible refine Below.drew ?_) | (with_reducible refine Below.drewN ?_ _))))
    replace hB := Below.via (by (repeat (first | (with_reducible assumption) | (with_reducible exact Below.refl _ _) | (with_reducible refine Below.setCell ?_ (by first | (simp; done) | (simp; omega) | omega) _) | (with_reducible refine Below.alloc ?_ (by first | (simp; done) | (simp; omega) | omega) _) | (with_reducible refine Below.drew ?_) | (with_reducible refine Below.drewN ?_ _))) : Below w.heap.size w _) hb3
    clear hb3
    have cP_0 := TP.cell 0 rfl
    have cP_1 := TP.cell 1 rfl
    have lP := TP.lt
    have cV_0 := TV.cell 0 rfl
    have cV_1 := TV.cell 1 rfl
    have lV := TV.lt
    have TR := Blk.newAt (w := w3) (n := w3.heap.size) 27 #[.int .i64 (0), .slice A3 (0) c3] (by simp)
    go_wp2_with fail
    refine (sameNotice_any _ _ _ _ _ _ _ _ _ _ _ _ _ _ _ (o2.alloc _).rd (o3.alloc _).rd (by simp)).mono ?_
    rintro e w4 ⟨rfl, hb4⟩
    clear cP_0 cP_1 lP cV_0 cV_1 lV
    have z4 := hb4.size
    (try simp at z4)
    replace o1 := o1.via hb4 (by (repeat (first | (with_reducible assumption) | (with_reducible exact Below.refl _ _) | (with_reducible refine Below.setCell ?_ (by first | (simp; done) | (simp; omega) | omega) _) | (with_reducible refine Below.alloc ?_ (by first | (simp; done) | (simp; omega) | omega) _) | (with_reducible refine Below.drew ?_) | (with_reducible refine Below.drewN ?_ _))))
    replace o2 := o2.via hb4 (by (repeat (first | (with_reducible assumption) | (with_reducible exact Below.refl _ _) | (with_reducible refine Below.setCell ?_ (by first | (simp; done) | (simp; omega) | omega) _) | (with_reducible refine Below.alloc ?_ (by first | (simp; done) | (simp; omega) | omega) _) | (with_reducible refine Below.drew ?_) | (with_reducible refine Below.drewN ?_ _))))
    replace o3 := o3.via hb4 (by (repeat (first | (with_reducible assumption) | (with_reducible exact Below.refl _ _) | (with_reducible refine Below.setCell ?_ (by first | (simp; done) | (simp; omega) | omega) _) | (with_reducible refine Below.alloc ?_ (by first | (simp; done) | (simp; omega) | omega) _) | (with_reducible refine Below.drew ?_) | (with_reducible refine Below.drewN ?_ _))))
    replace TP := TP.via hb4 (by (repeat (first | (with_reducible assumption) | (with_reducible exact Below.refl _ _) | (with_reducible refine Below.setCell ?_ (by first | (simp; done) | (simp; omega) | omega) _) | (with_reducible refine Below.alloc ?_ (by first | (simp; done) | (simp; omega) | omega) _) | (with_reducible refine Below.drew ?_) | (with_reducible refine Below.drewN ?_ _))))
    replace TV := TV.via hb4 (by (repeat (first | (with_reducible assumption) | (with_reducible exact Below.refl _ _) | (with_reducible refine Below.setCell ?_ (by first | (simp; done) | (simp; omega) | omega) _) | (with_reducible refine Below.alloc ?_ (by first | (simp; done) | (simp; omega) | omega) _) | (with_reducible refine Below.drew ?_) | (with_reducible refine Below.drewN ?_ _))))
    replace TR := TR.via hb4 (by (repeat (first | (with_reducible assumption) | (with_reducible exact Below.refl _ _) | (with_reducible refine Below.setCell ?_ (by first | (simp; done) | (simp; omega) | omega) _) | (with_reducible refine Below.alloc ?_ (by first | (simp; done) | (simp; omega) | omega) _) | (with_reducible refine Below.drew ?_) | (with_reducible refine Below.drewN ?_ _))))
    replace hB := Below.via (by (repeat (first | (with_reducible assumption) | (with_reducible exact Below.refl _ _) | (with_reducible refine Below.setCell ?_ (by first | (simp; done) | (simp; omega) | omega) _) | (with_reducible refine Below.alloc ?_ (by first | (simp; done) | (simp; omega) | omega) _) | (with_reducible refine Below.drew ?_) | (with_reducible refine Below.drewN ?_ _))) : Below w.heap.size w _) hb4
    clear hb4
    have cP_0 := TP.cell 0 rfl
    have cP_1 := TP.cell 1 rfl
    have lP := TP.lt
    have cV_0 := TV.cell 0 rfl
    have cV_1 := TV.cell 1 rfl
    have lV := TV.lt
    have cR_0 := TR.cell 0 rfl
    have cR_1 := TR.cell 1 rfl
    have lR := TR.lt
    (try simp only [decide_true, Bool.and_true, Bool.true_and, Bool.and_self])
    go_wp2_with fail
    refine (sameNotice_any _ _ 0 0 _ _ _ _ _ _ _ _ _ [] _ o2.rd (Rd.nil _ _ _ _ _) (by simp)).mono ?_
    rintro e w5 ⟨rfl, hb5⟩
    clear cP_0 cP_1 lP cV_0 cV_1 lV cR_0 cR_1 lR
    have z5 := hb5.size
    (try simp at z5)
    replace o1 := o1.via hb5 (by (repeat (first | (with_reducible assumption) | (with_reducible exact Below.refl _ _) | (with_reducible refine Below.setCell ?_ (by first | (simp; done) | (simp; omega) | omega) _) | (with_reducible refine Below.alloc ?_ (by first | (simp; done) | (simp; omega) | omega) _) | (with_reducible refine Below.drew ?_) | (with_reducible refine Below.drewN ?_ _))))
    replace o2 := o2.via hb5 (by (repeat (first | (with_reducible assumption) | (with_reducible exact Below.refl _ _) | (with_reducible refine Below.setCell ?_ (by first | (simp; done) | (simp; omega) | omega) _) | (with_reducible refine Below.alloc ?_ (by first | (simp; done) | (simp; omega) | omega) _) | (with_reducible refine Below.drew ?_) | (with_reducible refine Below.drewN ?_ _))))
    replace o3 := o3.via hb5 (by (repeat (first | (with_reducible assumption) | (with_reducible exact Below.refl _ _) | (with_reducible refine Below.setCell ?_ (by first | (simp; done) | (simp; omega) | omega) _) | (with_reducible refine Below.alloc ?_ (by first | (simp; done) | (simp; omega) | omega) _) | (with_reducible refine Below.drew ?_) | (with_reducible refine Below.drewN ?_ _))))
    replace TP := TP.via hb5 (by (repeat (first | (with_reducible assumption) | (with_reducible exact Below.refl _ _) | (with_reducible refine Below.setCell ?_ (by first | (simp; done) | (simp; omega) | omega) _) | (with_reducible refine Below.alloc ?_ (by first | (simp; done) | (simp; omega) | omega) _) | (with_reducible refine Below.drew ?_) | (with_reducible refine Below.drewN ?_ _))))
    replace TV := TV.via hb5 (by (repeat (first | (with_reducible assumption) | (with_reducible exact Below.refl _ _) | (with_reducible refine Below.setCell ?_ (by first | (simp; done) | (simp; omega) | omega) _) | (with_reducible refine Below.alloc ?_ (by first | (simp; done) | (simp; omega) | omega) _) | (with_reducible refine Below.drew ?_) | (with_reducible refine Below.drewN ?_ _))))
    replace TR := TR.via hb5 (by (repeat (first | (with_reducible assumption) | (with_reducible exact Below.refl _ _) | (with_reducible refine Below.setCell ?_ (by first | (simp; done) | (simp; omega) | omega) _) | (with_reducible refine Below.alloc ?_ (by first | (simp; done) | (simp; omega) | omega) _) | (with_reducible refine Below.drew ?_) | (with_reducible refine Below.drewN ?_ _))))
    replace hB := Below.via (by (repeat (first | (with_reducible assumption) | (with_reducible exact Below.refl _ _) | (with_reducible refine Below.setCell ?_ (by first | (simp; done) | (simp; omega) | omega) _) | (with_reducible refine Below.alloc ?_ (by first | (simp; done) | (simp; omega) | omega) _) | (with_reducible refine Below.drew ?_) | (with_reducible refine Below.drewN ?_ _))) : Below w.heap.size w _) hb5
    clear hb5
    have cP_0 := TP.cell 0 rfl
    have cP_1 := TP.cell 1 rfl
    have lP := TP.lt
    have cV_0 := TV.cell 0 rfl
    have cV_1 := TV.cell 1 rfl
    have lV := TV.lt
    have cR_0 := TR.cell 0 rfl
    have cR_1 := TR.cell 1 rfl
    have lR := TR.lt
    (try simp only [decide_true, Bool.and_true, Bool.true_and, Bool.and_self])
    go_wp2
    go_ret
    exact ⟨rfl, by (repeat (first | (with_reducible assumption) | (with_reducible exact Below.refl _ _) | (with_reducible refine Below.setCell ?_ (by first | (simp; done) | (simp; omega) | omega) _) | (with_reducible refine Below.alloc ?_ (by first | (simp; done) | (simp; omega) | omega) _) | (with_reducible refine Below.drew ?_) | (with_reducible refine Below.drewN ?_ _)))⟩
  · subst hb0
    obtain ⟨ys, hys⟩ : ∃ ys, xs ++ [v] = ys := ⟨_, rfl⟩
    have hyv : noticeV 0 ys = true := by rw [← hys]; exact noticeV_snoc hk (by omega)
    have hyl : ys.length = n1 + 1 := by rw [← hys, ← hn1]; simp
    have hyx : ys[n1]? = some v := by rw [← hys, ← hn1]; simp
    have HYL := Lib.hid hyl
    have HYX := Lib.hid hyx
    have hne : ((ys.length : Int) == 0) = false := by rw [beq_eq_false_iff_ne]; omega
    have hm : ys.length ≤ 11 := by omega
    clear hn1 hyl hyx
    have TP := Blk.newAt (w := w1) (n := w1.heap.size) 27 #[.int .i64 (0), .slice A1 (n1) c1] (by simp)
    go_wp2_with fail
    refine (iWait_ys _ _ _ _ _ xs ys v _ (o1.alloc _).rd (by omega) hle hk hys).mono ?_
    rintro e w2 ⟨A2, c2, rfl, o2, hb2⟩
    have z2 := hb2.size
    (try simp at z2)
    replace o2 := o2.mono (B' := w1.heap.size + 1) (T' := w2.heap.size) (by simp) (Nat.le_refl _)
    replace o1 := o1.via hb2 (by (repeat (first | (with_reducible assumption) | (with_reducible exact Below.refl _ _) | (with_reducible refine Below.setCell ?_ (by first | (simp; done) | (simp; omega) | omega) _) | (with_reducible refine Below.alloc ?_ (by first | (simp; done) | (simp; omega) | omega) _) | (with_reducible refine Below.drew ?_) | (with_reducible refine Below.drewN ?_ _))))
    replace TP := TP.via hb2 (by (repeat (first | (with_reducible assumption) | (with_reducible exact Below.refl _ _) | (with_reducible refine Below.setCell ?_ (by first | (simp; done) | (simp; omega) | omega) _) | (with_reducible refine Below.alloc ?_ (by first | (simp; done) | (simp; omega) | omega) _) | (with_reducible refine Below.drew ?_) | (with_reducible refine Below.drewN ?_ _))))
    replace hB := Below.via (by (repeat (first | (with_reducible assumption) | (with_reducible exact Below.refl _ _) | (with_reducible refine Below.setCell ?_ (by first | (simp; done) | (simp; omega) | omega) _) | (with_reducible refine Below.alloc ?_ (by first | (simp; done) | (simp; omega) | omega) _) | (with_reducible refine Below.drew ?_) | (with_reducible refine Below.drewN ?_ _))) : Below w.heap.size w _) hb2
    clear hb2
    have cP_0 := TP.cell 0 rfl
    have cP_1 := TP.cell 1 rfl
    have lP := TP.lt
    have TV := Blk.newAt (w := w2) (n := w2.heap.size) 27 #[.int .i64 (0), .slice A2 (ys.length) c2] (by simp)
    go_wp2_with fail
    refine (sWait_ys _ _ _ _ _ xs ys v _ (o1.alloc _).rd (by omega) hle hk hys).mono ?_
    rintro e w3 ⟨A3, c3, rfl, o3, hb3⟩
    clear cP_0 cP_1 lP
    have z3 := hb3.size
    (try simp at z3)
    replace o3 := o3.mono (B' := w2.heap.size + 1) (T' := w3.heap.size) (by simp) (Nat.le_refl _)
    replace o1 := o1.via hb3 (by (repeat (first | (with_reducible assumption) | (with_reducible exact Below.refl _ _) | (with_reducible refine Below.setCell ?_ (by first | (simp; done) | (simp; omega) | omega) _) | (with_reducible refine Below.alloc ?_ (by first | (simp; done) | (simp; omega) | omega) _) | (with_reducible refine Below.drew ?_) | (with_reducible refine Below.drewN ?_ _))))
    replace o2 := o2.via hb3 (by (repeat (first | (with_reducible assumption) | (with_reducible exact Below.refl _ _) | (with_reducible refine Below.setCell ?_ (by first | (simp; done) | (simp; omega) | omega) _) | (with_reducible refine Below.alloc ?_ (by first | (simp; done) | (simp; omega) | omega) _) | (with_reducible refine Below.drew ?_) | (with_reducible refine Below.drewN ?_ _))))
    replace TP := TP.via hb3 (by (repeat (first | (with_reducible assumption) | (with_reducible exact Below.refl _ _) | (with_reducible refine Below.setCell ?_ (by first | (simp; done) | (simp; omega) | omega) _) | (with_reducible refine Below.alloc ?_ (by first | (simp; done) | (simp; omega) | omega) _) | (with_reducible refine Below.drew ?_) | (with_reducible refine Below.drewN ?_ _))))
    replace TV := TV.via hb3 (by (repeat (first | (with_reducible assumption) | (with_reducible exact Below.refl _ _) | (with_reducible refine Below.setCell ?_ (by first | (simp; done) | (simp; omega) | omega) _) | (with_reducible refine Below.alloc ?_ (by first | (simp; done) | (simp; omega) | omega) _) | (with_reducible refine Below.drew ?_) | (with_reducible refine Below.drewN ?_ _))))
    replace hB := Below.via (by (repeat (first | (with_reducible assumption) | (with_reducible exact Below.refl _ _) | (with_reducible refine Below.setCell ?_ (by first | (simp; done) | (simp; omega) | omega) _) | (with_reducible refine Below.alloc ?_ (by first | (simp; done) | (simp; omega) | omega) _) | (with_reducible refine Below.drew ?_) | (with_reducible refine Below.drewN ?_ _))) : Below w.heap.size w _) hb3
    clear hb3
    have cP_0 := TP.cell 0 rfl
    have cP_1 := TP.cell 1 rfl
    have lP := TP.lt
    have cV_0 := TV.cell 0 rfl
    have cV_1 := TV.cell 1 rfl
    have lV := TV.lt
    have TR := Blk.newAt (w := w3) (n := w3.heap.size) 27 #[.int .i64 (0), .slice A3 (ys.length) c3] (by simp)
    go_wp2_with fail
    refine (sameNotice_any _ _ _ _ _ _ _ _ _ _ _ _ _ _ _ (o2.alloc _).rd (o3.alloc _).rd (by omega)).mono ?_
    rintro e w4 ⟨rfl, hb4⟩
    clear cP_0 cP_1 lP cV_0 cV_1 lV
    have z4 := hb4.size
    (try simp at z4)
    replace o1 := o1.via hb4 (by (repeat (first | (with_reducible assumption) | (with_reducible exact Below.refl _ _) | (with_reducible refine Below.setCell ?_ (by first | (simp; done) | (simp; omega) | omega) _) | (with_reducible refine Below.alloc ?_ (by first | (simp; done) | (simp; omega) | omega) _) | (with_reducible refine Below.drew ?_) | (with_reducible refine Below.drewN ?_ _))))
    replace o2 := o2.via hb4 (by (repeat (first | (with_reducible assumption) | (with_reducible exact Below.refl _ _) | (with_reducible refine Below.setCell ?_ (by first | (simp; done) | (simp; omega) | omega) _) | (with_reducible refine Below.alloc ?_ (by first | (simp; done) | (simp; omega) | omega) _) | (with_reducible refine Below.drew ?_) | (with_reducible refine Below.drewN ?_ _))))
    replace o3 := o3.via hb4 (by (repeat (first | (with_reducible assumption) | (with_reducible exact Below.refl _ _) | (with_reducible refine Below.setCell ?_ (by first | (simp; done) | (simp; omega) | omega) _) | (with_reducible refine Below.alloc ?_ (by first | (simp; done) | (simp; omega) | omega) _) | (with_reducible refine Below.drew ?_) | (with_reducible refine Below.drewN ?_ _))))
    replace TP := TP.via hb4 (by (repeat (first | (with_reducible assumption) | (with_reducible exact Below.refl _ _) | (with_reducible refine Below.setCell ?_ (by first | (simp; done) | (simp; omega) | omega) _) | (with_reducible refine Below.alloc ?_ (by first | (simp; done) | (simp; omega) | omega) _) | (with_reducible refine Below.drew ?_) | (with_reducible refine Below.drewN ?_ _))))
    replace TV := TV.via hb4 (by (repeat (first | (with_reducible assumption) | (with_reducible exact Below.refl _ _) | (with_reducible refine Below.setCell ?_ (by first | (simp; done) | (simp; omega) | omega) _) | (with_reducible refine Below.alloc ?_ (by first | (simp; done) | (simp; omega) | omega) _) | (with_reducible refine Below.drew ?_) | (with_reducible refine Below.drewN ?_ _))))
    replace TR := TR.via hb4 (by (repeat (first | (with_reducible assumption) | (with_reducible exact Below.refl _ _) | (with_reducible refine Below.setCell ?_ (by first | (simp; done) | (simp; omega) | omega) _) | (with_reducible refine Below.alloc ?_ (by first | (simp; done) | (simp; omega) | omega) _) | (with_reducible refine Below.drew ?_) | (with_reducible refine Below.drewN ?_ _))))
    replace hB := Below.via (by (repeat (first | (with_reducible assumption) | (with_reducible exact Below.refl _ _) | (with_reducible refine Below.setCell ?_ (by first | (simp; done) | (simp; omega) | omega) _) | (with_reducible refine Below.alloc ?_ (by first | (simp; done) | (simp; omega) | omega) _) | (with_reducible refine Below.drew ?_) | (with_reducible refine Below.drewN ?_ _))) : Below w.heap.size w _) hb4
    clear hb4
    have cP_0 := TP.cell 0 rfl
    have cP_1 := TP.cell 1 rfl
    have lP := TP.lt
    have cV_0 := TV.cell 0 rfl
    have cV_1 := TV.cell 1 rfl
    have lV := TV.lt
    have cR_0 := TR.cell 0 rfl
    have cR_1 := TR.cell 1 rfl
    have lR := TR.lt
    (try simp only [decide_true, Bool.and_true, Bool.true_and, Bool.and_self])
    have hle2 := o2.le
    have HT := Lib.hid (And.intro TP (And.intro TV o2))
    clear o1 o3 TR cR_0 cR_1 lR
    go_wp2
    go_loopw [10] (fun i wr => ∃ k : Nat, k ≤ ys.length ∧ i = .int .i64 k ∧ WaitInv w (w1.heap.size) (w2.heap.size) w4.heap.size A1 A2 n1 c1 c2 ys k wr) (fun i _ => ys.length - (intOf i).toNat)
    case atStart => exact ⟨0, by omega, rfl, A2, c2, ys, _, _, rfl, Blk.newAt _ _ rfl, (HT.out.2.2.rd.alloc _), .inl (by omega), hle2, hyv, HT.out.2.1.alloc _, (HT.out.2.2.rd.mono (T' := w4.heap.size) (Nat.zero_le _) (by omega)).alloc _, HT.out.1.alloc _, by (repeat (first | (with_reducible assumption) | (with_reducible exact Below.refl _ _) | (with_reducible refine Below.setCell ?_ (by first | (simp; done) | (simp; omega) | omega) _) | (with_reducible refine Below.alloc ?_ (by first | (simp; done) | (simp; omega) | omega) _) | (with_reducible refine Below.drew ?_) | (with_reducible refine Below.drewN ?_ _)))⟩
    case round =>
      clear TP TV o2 HT cP_0 cP_1 cV_0 cV_1 lP lV hB
      obtain ⟨k, hk2, rfl, D, d, l, B', T', hdrop, TZ, hrl, hsep, hld, hlv, TV, hry, TP, hB⟩ := hrel
      have lZ := TZ.lt
      have lV := TV.lt
      have lP := TP.lt
      obtain ⟨z0, z1⟩ := TZ.two
      have zf := TZ.free
      obtain ⟨v0, v1⟩ := TV.two
      obtain ⟨p0, p1⟩ := TP.two
      have HD := Lib.hid hdrop
      by_cases hlt : k < ys.length
      · skip
        cases l with
        | nil =>
          exfalso
          have := congrArg List.length hdrop
          simp at this
          omega
        | cons x l =>
          obtain ⟨gb, go, y, rfl, hbl, hy, hc⟩ := ints_at hry hlt
          have hxy : x = y := by have h := congrArg (fun q => q[0]?) hdrop; rw [List.getElem?_drop, Nat.add_zero, hy] at h; injection h with h; exact h.symm
          subst hxy
          have hd2 : ys.drop (k + 1) = l := by rw [← List.drop_drop, hdrop]; rfl
          have HD2 := Lib.hid hd2
          clear hdrop HD hd2 hy
          have hkk : (k : Int) < (ys.length : Int) := by omega
          have hk0 : (0 : Int) ≤ (k : Int) := by omega
          have hs1 := sig_one hlv
          have hlv2 := noticeV_tail hlv
          obtain ⟨m, hm2⟩ : ∃ m, (x :: l).length = m := ⟨_, rfl⟩
          have hmx : m ≤ 11 := by have := congrArg List.length HD2.out; rw [List.length_drop] at this; rw [← hm2, List.length_cons]; omega
          have hm3 : m = l.length + 1 := hm2.symm
          rw [hm2] at hrl hld TZ z1
          go_wp2_with fail
          refine (iSig_some _ _ _ _ 0 _ x l 1 _ (hm3 ▸ hrl) (by omega) (hm3 ▸ hld) hs1).mono ?_
          rintro e w9 ⟨D9, d9, rfl, o9, hb9⟩
          have z9 := hb9.size
          have hle9 := o9.le
          replace TZ := TZ.below hb9
          replace TV := TV.below hb9
          replace TP := TP.below hb9
          replace hry := hry.below hb9
          replace hB := Below.via hB hb9
          have hc9 := (hb9.cell (p := ⟨gb, go + k, none⟩) hbl).trans hc
          clear z0 z1 zf v0 v1 p0 p1 hc hrl hb9
          obtain ⟨z0, z1⟩ := TZ.two
          have zf := TZ.free
          obtain ⟨v0, v1⟩ := TV.two
          clear hm2 hm3
          have lZ9 := TZ.lt
          have lV9 := TV.lt
          have hbl9 : gb < w9.heap.size := by omega
          go_wp2
          go_roundw
          case rel =>
            refine ⟨k + 1, by omega, by go_num, D9, d9, l, wr.heap.size, w9.heap.size, HD2.out, ?_, ?_, .inr lZ, hle9, hlv2, ?_, ?_, ?_, by (repeat (first | (with_reducible assumption) | (with_reducible exact Below.refl _ _) | (with_reducible refine Below.setCell ?_ (by first | (simp; done) | (simp; omega) | omega) _) | (with_reducible refine Below.alloc ?_ (by first | (simp; done) | (simp; omega) | omega) _) | (with_reducible refine Below.drew ?_) | (with_reducible refine Below.drewN ?_ _)))⟩
            · exact ((TZ.set 0 (.int .i64 0)).set 1 (.slice D9 l.length d9)).alloc _
            · exact ((o9.rd.set (.inl lZ) _).set (.inl lZ) _).alloc _
            · (repeat (first | (with_reducible assumption) | (with_reducible refine Blk.drew ?_) | (with_reducible refine Blk.other ?_ (by first | (simp; done) | (simp; omega) | omega) _) | (with_reducible refine Blk.alloc ?_ _)))
            · exact ((hry.set (.inr (Nat.le_refl _)) _).set (.inr (Nat.le_refl _)) _).alloc _
            · (repeat (first | (with_reducible assumption) | (with_reducible refine Blk.drew ?_) | (with_reducible refine Blk.other ?_ (by first | (simp; done) | (simp; omega) | omega) _) | (with_reducible refine Blk.alloc ?_ _)))
          case measure => simp [intOf]; omega
      · have hkn : k = ys.length := by omega
        subst hkn
        obtain rfl : l = [] := by rw [← HD.out]; simp
        clear hdrop HD
        obtain ⟨gb, go, y, rfl, hbl, hy, hc⟩ := ints_at hry (show n1 < ys.length by have := HYL.out; omega)
        obtain rfl : v = y := by have h := HYX.out; rw [hy] at h; injection h with h; exact h.symm
        have hi : (ys.length : Int) - 1 = (n1 : Int) := by have := HYL.out; omega
        have hil : (ys.length : Int) = (n1 : Int) + 1 := by omega
        have hnl : (n1 : Int) < (ys.length : Int) := by omega
        have hn0 : (0 : Int) ≤ (n1 : Int) := by omega
        clear hy
        go_wp2_with fail
        refine (iNoticeValid_any _ _ _ _ 0 _ ys _ hry (by omega) hle2).mono ?_
        rintro e w9 ⟨rfl, hb9⟩
        rw [hyv]
        replace TZ := TZ.below hb9
        replace hB := Below.via hB hb9
        have z9 := hb9.size
        clear z0 z1 zf v0 v1 p0 p1 hc hrl hb9
        obtain ⟨z0, z1⟩ := TZ.two
        go_wp2_with fail
        refine (sameNotice_any 0 0 0 0 _ _ _ _ _ _ _ _ [] [] _ (Rd.nil _ _ _ _ _) (Rd.nil _ _ _ _ _) (by omega)).mono ?_
        rintro e w10 ⟨rfl, hb10⟩
        replace hB := Below.via hB hb10
        go_wp2
        go_ret
        exact ⟨rfl, hB⟩
end Go.Proofs.Ytcdbamaifdabnaa
