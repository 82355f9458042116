/- The walk of the law FnNoticeBoth: it returns true and leaves all that was in memory as it was, for every code. -/
import Derived.Test.YtcdbamaifdabnaaLwNoticeHead2
namespace Go.Proofs.Ytcdbamaifdabnaa
set_option linter.unusedVariables false
open Go.RowKit
set_option maxHeartbeats 4000000 in
theorem law_NoticeBoth (B T n c : Nat) (A : Option Addr) (bs : List Value) (B2 T2 n2 c2 : Nat) (A2 : Option Addr) (bs2 : List Value) (w : World) (hr : Rd w B T 1 A n bs) (hb : Bytes bs) (hnc : n ≤ c) (hr2 : Rd w B2 T2 1 A2 n2 bs2) (hb2 : Bytes bs2) (hnc2 : n2 ≤ c2) :
    Calls Try.prog 9 #[.slice A n c, .slice A2 n2 c2] w fun e w' => e = .returned (.bool true) ∧ Below w.heap.size w w' := by
  obtain ⟨i0, hi0, hz0, hz1, hz2⟩ := info_parts Try.infoInt
  by_cases hbig : 1048576 < n
  · have hd : (1048576 : Int) < (n : Int) := by omega
    go_enter Try.func9, Try.ntmps9
    go_wp2_with fail
    go_ret
    exact ⟨rfl, Below.refl _ _⟩
  have hn : n ≤ 1048576 := by omega
  have hd : ¬ (1048576 : Int) < (n : Int) := by omega
  by_cases hbig2 : 1048576 < n2
  · have hd2 : (1048576 : Int) < (n2 : Int) := by omega
    go_enter Try.func9, Try.ntmps9
    go_wp2_with fail
    go_ret
    exact ⟨rfl, Below.refl _ _⟩
  have hn2 : n2 ≤ 1048576 := by omega
  have hd2 : ¬ (1048576 : Int) < (n2 : Int) := by omega
  have hB := Below.refl w.heap.size w
  go_enter Try.func9, Try.ntmps9
  go_wp2_with fail
  refine (DrawSignalNotice_any B T n c A bs _ hr hb hn hnc).mono ?_
  rintro e w11 ⟨b1, A3, d3, xs1, a, rfl, o11, hl1, hb11⟩
  have z11 := hb11.size
  (try simp at z11)
  replace hr2 := hr2.via hb11 (by (repeat (first | (with_reducible assumption) | (with_reducible exact Below.refl _ _) | (with_reducible refine Below.setCell ?_ (by first | (simp; done) | (simp; omega) | omega) _) | (with_reducible refine Below.alloc ?_ (by first | (simp; done) | (simp; omega) | omega) _) | (with_reducible refine Below.drew ?_) | (with_reducible refine Below.drewN ?_ _))))
  replace hB := Below.via (by (repeat (first | (with_reducible assumption) | (with_reducible exact Below.refl _ _) | (with_reducible refine Below.setCell ?_ (by first | (simp; done) | (simp; omega) | omega) _) | (with_reducible refine Below.alloc ?_ (by first | (simp; done) | (simp; omega) | omega) _) | (with_reducible refine Below.drew ?_) | (with_reducible refine Below.drewN ?_ _))) : Below w.heap.size w _) hb11
  clear hb11
  clear o11
  go_wp2_with fail
  refine (DrawSignalNotice_any B2 T2 n2 c2 A2 bs2 _ (hr2.alloc _) hb2 hn2 hnc2).mono ?_
  rintro e w12 ⟨b2, A4, d4, xs2, v, rfl, o12, hl2, hb12⟩
  have z12 := hb12.size
  (try simp at z12)
  replace hB := Below.via (by (repeat (first | (with_reducible assumption) | (with_reducible exact Below.refl _ _) | (with_reducible refine Below.setCell ?_ (by first | (simp; done) | (simp; omega) | omega) _) | (with_reducible refine Below.alloc ?_ (by first | (simp; done) | (simp; omega) | omega) _) | (with_reducible refine Below.drew ?_) | (with_reducible refine Below.drewN ?_ _))) : Below w.heap.size w _) hb12
  clear hb12
  clear o12 hr2
  rcases both_split a v with h1 | ⟨h1, h2⟩ | ⟨h1, h2, h3⟩ | ⟨h1, h2, h3, h4⟩ | ⟨h1, h2, h3, h4⟩
  · skip
    have hk := sig_bad (a := a) (by omega)
    go_wp2_with fail
    refine (iSig_no 0 0 0 _ 0 _ [] _ (Rd.nil _ _ _ _ _) (by omega) (by omega) a hk).mono ?_
    rintro e w13 ⟨A13, c13, rfl, o13, hb13⟩
    have z13 := hb13.size
    (try simp at z13)
    replace o13 := o13.mono (B' := w12.heap.size + 1) (T' := w13.heap.size) (by simp) (Nat.le_refl _)
    replace hB := Below.via (by (repeat (first | (with_reducible assumption) | (with_reducible exact Below.refl _ _) | (with_reducible refine Below.setCell ?_ (by first | (simp; done) | (simp; omega) | omega) _) | (with_reducible refine Below.alloc ?_ (by first | (simp; done) | (simp; omega) | omega) _) | (with_reducible refine Below.drew ?_) | (with_reducible refine Below.drewN ?_ _))) : Below w.heap.size w _) hb13
    clear hb13
    have TV := Blk.newAt (w := w13) (n := w13.heap.size) 27 #[.int .i64 (0), .slice A13 (0) c13] (by simp)
    go_wp2_with fail
    refine (sSig_no 0 0 0 _ 0 _ [] _ (Rd.nil _ _ _ _ _) (by omega) (by omega) a hk).mono ?_
    rintro e w14 ⟨A14, c14, rfl, o14, hb14⟩
    have z14 := hb14.size
    (try simp at z14)
    replace o14 := o14.mono (B' := w13.heap.size + 1) (T' := w14.heap.size) (by simp) (Nat.le_refl _)
    replace o13 := o13.via hb14 (by (repeat (first | (with_reducible assumption) | (with_reducible exact Below.refl _ _) | (with_reducible refine Below.setCell ?_ (by first | (simp; done) | (simp; omega) | omega) _) | (with_reducible refine Below.alloc ?_ (by first | (simp; done) | (simp; omega) | omega) _) | (with_reducible refine Below.drew ?_) | (with_reducible refine Below.drewN ?_ _))))
    replace TV := TV.via hb14 (by (repeat (first | (with_reducible assumption) | (with_reducible exact Below.refl _ _) | (with_reducible refine Below.setCell ?_ (by first | (simp; done) | (simp; omega) | omega) _) | (with_reducible refine Below.alloc ?_ (by first | (simp; done) | (simp; omega) | omega) _) | (with_reducible refine Below.drew ?_) | (with_reducible refine Below.drewN ?_ _))))
    replace hB := Below.via (by (repeat (first | (with_reducible assumption) | (with_reducible exact Below.refl _ _) | (with_reducible refine Below.setCell ?_ (by first | (simp; done) | (simp; omega) | omega) _) | (with_reducible refine Below.alloc ?_ (by first | (simp; done) | (simp; omega) | omega) _) | (with_reducible refine Below.drew ?_) | (with_reducible refine Below.drewN ?_ _))) : Below w.heap.size w _) hb14
    clear hb14
    have cV_0 := TV.cell 0 rfl
    have cV_1 := TV.cell 1 rfl
    have lV := TV.lt
    have TR := Blk.newAt (w := w14) (n := w14.heap.size) 27 #[.int .i64 (0), .slice A14 (0) c14] (by simp)
    go_wp2_with fail
    refine (sameNotice_any _ _ _ _ _ _ _ _ _ _ _ _ _ _ _ (o13.alloc _).rd (o14.alloc _).rd (by simp)).mono ?_
    rintro e w15 ⟨rfl, hb15⟩
    clear cV_0 cV_1 lV
    have z15 := hb15.size
    (try simp at z15)
    replace o13 := o13.via hb15 (by (repeat (first | (with_reducible assumption) | (with_reducible exact Below.refl _ _) | (with_reducible refine Below.setCell ?_ (by first | (simp; done) | (simp; omega) | omega) _) | (with_reducible refine Below.alloc ?_ (by first | (simp; done) | (simp; omega) | omega) _) | (with_reducible refine Below.drew ?_) | (with_reducible refine Below.drewN ?_ _))))
    replace o14 := o14.via hb15 (by (repeat (first | (with_reducible assumption) | (with_reducible exact Below.refl _ _) | (with_reducible refine Below.setCell ?_ (by first | (simp; done) | (simp; omega) | omega) _) | (with_reducible refine Below.alloc ?_ (by first | (simp; done) | (simp; omega) | omega) _) | (with_reducible refine Below.drew ?_) | (with_reducible refine Below.drewN ?_ _))))
    replace TV := TV.via hb15 (by (repeat (first | (with_reducible assumption) | (with_reducible exact Below.refl _ _) | (with_reducible refine Below.setCell ?_ (by first | (simp; done) | (simp; omega) | omega) _) | (with_reducible refine Below.alloc ?_ (by first | (simp; done) | (simp; omega) | omega) _) | (with_reducible refine Below.drew ?_) | (with_reducible refine Below.drewN ?_ _))))
    replace TR := TR.via hb15 (by (repeat (first | (with_reducible assumption) | (with_reducible exact Below.refl _ _) | (with_reducible refine Below.setCell ?_ (by first | (simp; done) | (simp; omega) | omega) _) | (with_reducible refine Below.alloc ?_ (by first | (simp; done) | (simp; omega) | omega) _) | (with_reducible refine Below.drew ?_) | (with_reducible refine Below.drewN ?_ _))))
    replace hB := Below.via (by (repeat (first | (with_reducible assumption) | (with_reducible exact Below.refl _ _) | (with_reducible refine Below.setCell ?_ (by first | (simp; done) | (simp; omega) | omega) _) | (with_reducible refine Below.alloc ?_ (by first | (simp; done) | (simp; omega) | omega) _) | (with_reducible refine Below.drew ?_) | (with_reducible refine Below.drewN ?_ _))) : Below w.heap.size w _) hb15
    clear hb15
    have cV_0 := TV.cell 0 rfl
    have cV_1 := TV.cell 1 rfl
    have lV := TV.lt
    have cR_0 := TR.cell 0 rfl
    have cR_1 := TR.cell 1 rfl
    have lR := TR.lt
    (try simp only [decide_true, Bool.and_true, Bool.true_and, Bool.and_self])
    go_wp2_with fail
    refine (alive_any _).mono ?_
    rintro e w16 ⟨rfl, hb16⟩
    clear cV_0 cV_1 lV cR_0 cR_1 lR
    have z16 := hb16.size
    (try simp at z16)
    replace o13 := o13.via hb16 (by (repeat (first | (with_reducible assumption) | (with_reducible exact Below.refl _ _) | (with_reducible refine Below.setCell ?_ (by first | (simp; done) | (simp; omega) | omega) _) | (with_reducible refine Below.alloc ?_ (by first | (simp; done) | (simp; omega) | omega) _) | (with_reducible refine Below.drew ?_) | (with_reducible refine Below.drewN ?_ _))))
    replace o14 := o14.via hb16 (by (repeat (first | (with_reducible assumption) | (with_reducible exact Below.refl _ _) | (with_reducible refine Below.setCell ?_ (by first | (simp; done) | (simp; omega) | omega) _) | (with_reducible refine Below.alloc ?_ (by first | (simp; done) | (simp; omega) | omega) _) | (with_reducible refine Below.drew ?_) | (with_reducible refine Below.drewN ?_ _))))
    replace TV := TV.via hb16 (by (repeat (first | (with_reducible assumption) | (with_reducible exact Below.refl _ _) | (with_reducible refine Below.setCell ?_ (by first | (simp; done) | (simp; omega) | omega) _) | (with_reducible refine Below.alloc ?_ (by first | (simp; done) | (simp; omega) | omega) _) | (with_reducible refine Below.drew ?_) | (with_reducible refine Below.drewN ?_ _))))
    replace TR := TR.via hb16 (by (repeat (first | (with_reducible assumption) | (with_reducible exact Below.refl _ _) | (with_reducible refine Below.setCell ?_ (by first | (simp; done) | (simp; omega) | omega) _) | (with_reducible refine Below.alloc ?_ (by first | (simp; done) | (simp; omega) | omega) _) | (with_reducible refine Below.drew ?_) | (with_reducible refine Below.drewN ?_ _))))
    replace hB := Below.via (by (repeat (first | (with_reducible assumption) | (with_reducible exact Below.refl _ _) | (with_reducible refine Below.setCell ?_ (by first | (simp; done) | (simp; omega) | omega) _) | (with_reducible refine Below.alloc ?_ (by first | (simp; done) | (simp; omega) | omega) _) | (with_reducible refine Below.drew ?_) | (with_reducible refine Below.drewN ?_ _))) : Below w.heap.size w _) hb16
    clear hb16
    have cV_0 := TV.cell 0 rfl
    have cV_1 := TV.cell 1 rfl
    have lV := TV.lt
    have cR_0 := TR.cell 0 rfl
    have cR_1 := TR.cell 1 rfl
    have lR := TR.lt
    go_wp2
    go_ret
    exact ⟨rfl, by (repeat (first | (with_reducible assumption) | (with_reducible exact Below.refl _ _) | (with_reducible refine Below.setCell ?_ (by first | (simp; done) | (simp; omega) | omega) _) | (with_reducible refine Below.alloc ?_ (by first | (simp; done) | (simp; omega) | omega) _) | (with_reducible refine Below.drew ?_) | (with_reducible refine Below.drewN ?_ _)))⟩
  · skip
    have hk := sig_bad (a := a) (by omega)
    go_wp2_with fail
    refine (iSig_no 0 0 0 _ 0 _ [] _ (Rd.nil _ _ _ _ _) (by omega) (by omega) a hk).mono ?_
    rintro e w13 ⟨A13, c13, rfl, o13, hb13⟩
    have z13 := hb13.size
    (try simp at z13)
    replace o13 := o13.mono (B' := w12.heap.size + 1) (T' := w13.heap.size) (by simp) (Nat.le_refl _)
    replace hB := Below.via (by (repeat (first | (with_reducible assumption) | (with_reducible exact Below.refl _ _) | (with_reducible refine Below.setCell ?_ (by first | (simp; done) | (simp; omega) | omega) _) | (with_reducible refine Below.alloc ?_ (by first | (simp; done) | (simp; omega) | omega) _) | (with_reducible refine Below.drew ?_) | (with_reducible refine Below.drewN ?_ _))) : Below w.heap.size w _) hb13
    clear hb13
    have TV := Blk.newAt (w := w13) (n := w13.heap.size) 27 #[.int .i64 (0), .slice A13 (0) c13] (by simp)
    go_wp2_with fail
    refine (sSig_no 0 0 0 _ 0 _ [] _ (Rd.nil _ _ _ _ _) (by omega) (by omega) a hk).mono ?_
    rintro e w14 ⟨A14, c14, rfl, o14, hb14⟩
    have z14 := hb14.size
    (try simp at z14)
    replace o14 := o14.mono (B' := w13.heap.size + 1) (T' := w14.heap.size) (by simp) (Nat.le_refl _)
    replace o13 := o13.via hb14 (by (repeat (first | (with_reducible assumption) | (with_reducible exact Below.refl _ _) | (with_reducible refine Below.setCell ?_ (by first | (simp; done) | (simp; omega) | omega) _) | (with_reducible refine Below.alloc ?_ (by first | (simp; done) | (simp; omega) | omega) _) | (with_reducible refine Below.drew ?_) | (with_reducible refine Below.drewN ?_ _))))
    replace TV := TV.via hb14 (by (repeat (first | (with_reducible assumption) | (with_reducible exact Below.refl _ _) | (with_reducible refine Below.setCell ?_ (by first | (simp; done) | (simp; omega) | omega) _) | (with_reducible refine Below.alloc ?_ (by first | (simp; done) | (simp; omega) | omega) _) | (with_reducible refine Below.drew ?_) | (with_reducible refine Below.drewN ?_ _))))
    replace hB := Below.via (by (repeat (first | (with_reducible assumption) | (with_reducible exact Below.refl _ _) | (with_reducible refine Below.setCell ?_ (by first | (simp; done) | (simp; omega) | omega) _) | (with_reducible refine Below.alloc ?_ (by first | (simp; done) | (simp; omega) | omega) _) | (with_reducible refine Below.drew ?_) | (with_reducible refine Below.drewN ?_ _))) : Below w.heap.size w _) hb14
    clear hb14
    have cV_0 := TV.cell 0 rfl
    have cV_1 := TV.cell 1 rfl
    have lV := TV.lt
    have TR := Blk.newAt (w := w14) (n := w14.heap.size) 27 #[.int .i64 (0), .slice A14 (0) c14] (by simp)
    go_wp2_with fail
    refine (sameNotice_any _ _ _ _ _ _ _ _ _ _ _ _ _ _ _ (o13.alloc _).rd (o14.alloc _).rd (by simp)).mono ?_
    rintro e w15 ⟨rfl, hb15⟩
    clear cV_0 cV_1 lV
    have z15 := hb15.size
    (try simp at z15)
    replace o13 := o13.via hb15 (by (repeat (first | (with_reducible assumption) | (with_reducible exact Below.refl _ _) | (with_reducible refine Below.setCell ?_ (by first | (simp; done) | (simp; omega) | omega) _) | (with_reducible refine Below.alloc ?_ (by first | (simp; done) | (simp; omega) | omega) _) | (with_reducible refine Below.drew ?_) | (with_reducible refine Below.drewN ?_ _))))
    replace o14 := o14.via hb15 (by (repeat (first | (with_reducible assumption) | (with_reducible exact Below.refl _ _) | (with_reducible refine Below.setCell ?_ (by first | (simp; done) | (simp; omega) | omega) _) | (with_reducible refine Below.alloc ?_ (by first | (simp; done) | (simp; omega) | omega) _) | (with_reducible refine Below.drew ?_) | (with_reducible refine Below.drewN ?_ _))))
    replace TV := TV.via hb15 (by (repeat (first | (with_reducible assumption) | (with_reducible exact Below.refl _ _) | (with_reducible refine Below.setCell ?_ (by first | (simp; done) | (simp; omega) | omega) _) | (with_reducible refine Below.alloc ?_ (by first | (simp; done) | (simp; omega) | omega) _) | (with_reducible refine Below.drew ?_) | (with_reducible refine Below.drewN ?_ _))))
    replace TR := TR.via hb15 (by (repeat (first | (with_reducible assumption) | (with_reducible exact Below.refl _ _) | (with_reducible refine Below.setCell ?_ (by first | (simp; done) | (simp; omega) | omega) _) | (with_reducible refine Below.alloc ?_ (by first | (simp; done) | (simp; omega) | omega) _) | (with_reducible refine Below.drew ?_) | (with_reducible refine Below.drewN ?_ _))))
    replace hB := Below.via (by (repeat (first | (with_reducible assumption) | (with_reducible exact Below.refl _ _) | (with_reducible refine Below.setCell ?_ (by first | (simp; done) | (simp; omega) | omega) _) | (with_reducible refine Below.alloc ?_ (by first | (simp; done) | (simp; omega) | omega) _) | (with_reducible refine Below.drew ?_) | (with_reducible refine Below.drewN ?_ _))) : Below w.heap.size w _) hb15
    clear hb15
    have cV_0 := TV.cell 0 rfl
    have cV_1 := TV.cell 1 rfl
    have lV := TV.lt
    have cR_0 := TR.cell 0 rfl
    have cR_1 := TR.cell 1 rfl
    have lR := TR.lt
    (try simp only [decide_true, Bool.and_true, Bool.true_and, Bool.and_self])
    go_wp2_with fail
    refine (alive_any _).mono ?_
    rintro e w16 ⟨rfl, hb16⟩
    clear cV_0 cV_1 lV cR_0 cR_1 lR
    have z16 := hb16.size
    (try simp at z16)
    replace o13 := o13.via hb16 (by (repeat (first | (with_reducible assumption) | (with_reducible exact Below.refl _ _) | (with_reducible refine Below.setCell ?_ (by first | (simp; done) | (simp; omega) | omega) _) | (with_reducible refine Below.alloc ?_ (by first | (simp; done) | (simp; omega) | omega) _) | (with_reducible refine Below.drew ?_) | (with_reducible refine Below.drewN ?_ _))))
    replace o14 := o14.via hb16 (by (repeat (first | (with_reducible assumption) | (with_reducible exact Below.refl _ _) | (with_reducible refine Below.setCell ?_ (by first | (simp; done) | (simp; omega) | omega) _) | (with_reducible refine Below.alloc ?_ (by first | (simp; done) | (simp; omega) | omega) _) | (with_reducible refine Below.drew ?_) | (with_reducible refine Below.drewN ?_ _))))
    replace TV := TV.via hb16 (by (repeat (first | (with_reducible assumption) | (with_reducible exact Below.refl _ _) | (with_reducible refine Below.setCell ?_ (by first | (simp; done) | (simp; omega) | omega) _) | (with_reducible refine Below.alloc ?_ (by first | (simp; done) | (simp; omega) | omega) _) | (with_reducible refine Below.drew ?_) | (with_reducible refine Below.drewN ?_ _))))
    replace TR := TR.via hb16 (by (repeat (first | (with_reducible assumption) | (with_reducible exact Below.refl _ _) | (with_reducible refine Below.setCell ?_ (by first | (simp; done) | (simp; omega) | omega) _) | (with_reducible refine Below.alloc ?_ (by first | (simp; done) | (simp; omega) | omega) _) | (with_reducible refine Below.drew ?_) | (with_reducible refine Below.drewN ?_ _))))
    replace hB := Below.via (by (repeat (first | (with_reducible assumption) | (with_reducible exact Below.refl _ _) | (with_reducible refine Below.setCell ?_ (by first | (simp; done) | (simp; omega) | omega) _) | (with_reducible refine Below.alloc ?_ (by first | (simp; done) | (simp; omega) | omega) _) | (with_reducible refine Below.drew ?_) | (with_reducible refine Below.drewN ?_ _))) : Below w.heap.size w _) hb16
    clear hb16
    have cV_0 := TV.cell 0 rfl
    have cV_1 := TV.cell 1 rfl
    have lV := TV.lt
    have cR_0 := TR.cell 0 rfl
    have cR_1 := TR.cell 1 rfl
    have lR := TR.lt
    go_wp2
    go_ret
    exact ⟨rfl, by (repeat (first | (with_reducible assumption) | (with_reducible exact Below.refl _ _) | (with_reducible refine Below.setCell ?_ (by first | (simp; done) | (simp; omega) | omega) _) | (with_reducible refine Below.alloc ?_ (by first | (simp; done) | (simp; omega) | omega) _) | (with_reducible refine Below.drew ?_) | (with_reducible refine Below.drewN ?_ _)))⟩
  · skip
    obtain ⟨hk, hz, hva⟩ := sig_zero h1 h2
    have HZ := Lib.hid hz
    clear hz
    go_wp2_with fail
    refine (iSig_none 0 0 0 _ 0 _ a _ (Rd.nil _ _ _ _ _) (by omega) (by omega) hk).mono ?_
    rintro e w13 ⟨A13, c13, rfl, o13, hb13⟩
    have z13 := hb13.size
    (try simp at z13)
    replace o13 := o13.mono (B' := w12.heap.size + 1) (T' := w13.heap.size) (by simp) (Nat.le_refl _)
    replace hB := Below.via (by (repeat (first | (with_reducible assumption) | (with_reducible exact Below.refl _ _) | (with_reducible refine Below.setCell ?_ (by first | (simp; done) | (simp; omega) | omega) _) | (with_reducible refine Below.alloc ?_ (by first | (simp; done) | (simp; omega) | omega) _) | (with_reducible refine Below.drew ?_) | (with_reducible refine Below.drewN ?_ _))) : Below w.heap.size w _) hb13
    clear hb13
    rw [HZ.out]
    have TV := Blk.newAt (w := w13) (n := w13.heap.size) 27 #[.int .i64 (a), .slice A13 (0) c13] (by simp)
    have hle := o13.le
    go_wp2_with fail
    refine (sSig_none 0 0 0 _ 0 _ a _ (Rd.nil _ _ _ _ _) (by omega) (by omega) hk).mono ?_
    rintro e w14 ⟨A14, c14, rfl, o14, hb14⟩
    have z14 := hb14.size
    (try simp at z14)
    replace o14 := o14.mono (B' := w13.heap.size + 1) (T' := w14.heap.size) (by simp) (Nat.le_refl _)
    replace o13 := o13.via hb14 (by (repeat (first | (with_reducible assumption) | (with_reducible exact Below.refl _ _) | (with_reducible refine Below.setCell ?_ (by first | (simp; done) | (simp; omega) | omega) _) | (with_reducible refine Below.alloc ?_ (by first | (simp; done) | (simp; omega) | omega) _) | (with_reducible refine Below.drew ?_) | (with_reducible refine Below.drewN ?_ _))))
    replace TV := TV.via hb14 (by (repeat (first | (with_reducible assumption) | (with_reducible exact Below.refl _ _) | (with_reducible refine Below.setCell ?_ (by first | (simp; done) | (simp; omega) | omega) _) | (with_reducible refine Below.alloc ?_ (by first | (simp; done) | (simp; omega) | omega) _) | (with_reducible refine Below.drew ?_) | (with_reducible refine Below.drewN ?_ _))))
    replace hB := Below.via (by (repeat (first | (with_reducible assumption) | (with_reducible exact Below.refl _ _) | (with_reducible refine Below.setCell ?_ (by first | (simp; done) | (simp; omega) | omega) _) | (with_reducible refine Below.alloc ?_ (by first | (simp; done) | (simp; omega) | omega) _) | (with_reducible refine Below.drew ?_) | (with_reducible refine Below.drewN ?_ _))) : Below w.heap.size w _) hb14
    clear hb14
    have cV_0 := TV.cell 0 rfl
    have cV_1 := TV.cell 1 rfl
    have lV := TV.lt
    rw [HZ.out]
    have TR := Blk.newAt (w := w14) (n := w14.heap.size) 27 #[.int .i64 (a), .slice A14 (0) c14] (by simp)
    go_wp2_with fail
    refine (sameNotice_any _ _ _ _ _ _ _ _ _ _ _ _ _ _ _ (o13.alloc _).rd (o14.alloc _).rd (by simp)).mono ?_
    rintro e w15 ⟨rfl, hb15⟩
    clear cV_0 cV_1 lV
    have z15 := hb15.size
    (try simp at z15)
    replace o13 := o13.via hb15 (by (repeat (first | (with_reducible assumption) | (with_reducible exact Below.refl _ _) | (with_reducible refine Below.setCell ?_ (by first | (simp; done) | (simp; omega) | omega) _) | (with_reducible refine Below.alloc ?_ (by first | (simp; done) | (simp; omega) | omega) _) | (with_reducible refine Below.drew ?_) | (with_reducible refine Below.drewN ?_ _))))
    replace o14 := o14.via hb15 (by (repeat (first | (with_reducible assumption) | (with_reducible exact Below.refl _ _) | (with_reducible refine Below.setCell ?_ (by first | (simp; done) | (simp; omega) | omega) _) | (with_reducible refine Below.alloc ?_ (by first | (simp; done) | (simp; omega) | omega) _) | (with_reducible refine Below.drew ?_) | (with_reducible refine Below.drewN ?_ _))))
    replace TV := TV.via hb15 (by (repeat (first | (with_reducible assumption) | (with_reducible exact Below.refl _ _) | (with_reducible refine Below.setCell ?_ (by first | (simp; done) | (simp; omega) | omega) _) | (with_reducible refine Below.alloc ?_ (by first | (simp; done) | (simp; omega) | omega) _) | (with_reducible refine Below.drew ?_) | (with_reducible refine Below.drewN ?_ _))))
    replace TR := TR.via hb15 (by (repeat (first | (with_reducible assumption) | (with_reducible exact Below.refl _ _) | (with_reducible refine Below.setCell ?_ (by first | (simp; done) | (simp; omega) | omega) _) | (with_reducible refine Below.alloc ?_ (by first | (simp; done) | (simp; omega) | omega) _) | (with_reducible refine Below.drew ?_) | (with_reducible refine Below.drewN ?_ _))))
    replace hB := Below.via (by (repeat (first | (with_reducible assumption) | (with_reducible exact Below.refl _ _) | (with_reducible refine Below.setCell ?_ (by first | (simp; done) | (simp; omega) | omega) _) | (with_reducible refine Below.alloc ?_ (by first | (simp; done) | (simp; omega) | omega) _) | (with_reducible refine Below.drew ?_) | (with_reducible refine Below.drewN ?_ _))) : Below w.heap.size w _) hb15
    clear hb15
    have cV_0 := TV.cell 0 rfl
    have cV_1 := TV.cell 1 rfl
    have lV := TV.lt
    have cR_0 := TR.cell 0 rfl
    have cR_1 := TR.cell 1 rfl
    have lR := TR.lt
    (try simp only [decide_true, Bool.and_true, Bool.true_and, Bool.and_self])
    go_wp2_with fail
    refine (alive_any _).mono ?_
    rintro e w16 ⟨rfl, hb16⟩
    clear cV_0 cV_1 lV cR_0 cR_1 lR
    have z16 := hb16.size
    (try simp at z16)
    replace o13 := o13.via hb16 (by (repeat (first | (with_reducible assumption) | (with_reducible exact Below.refl _ _) | (with_reducible refine Below.setCell ?_ (by first | (simp; done) | (simp; omega) | omega) _) | (with_reducible refine Below.alloc ?_ (by first | (simp; done) | (simp; omega) | omega) _) | (with_reducible refine Below.drew ?_) | (with_reducible refine Below.drewN ?_ _))))
    replace o14 := o14.via hb16 (by (repeat (first | (with_reducible assumption) | (with_reducible exact Below.refl _ _) | (with_reducible refine Below.setCell ?_ (by first | (simp; done) | (simp; omega) | omega) _) | (with_reducible refine Below.alloc ?_ (by first | (simp; done) | (simp; omega) | omega) _) | (with_reducible refine Below.drew ?_) | (with_reducible refine Below.drewN ?_ _))))
    replace TV := TV.via hb16 (by (repeat (first | (with_reducible assumption) | (with_reducible exact Below.refl _ _) | (with_reducible refine Below.setCell ?_ (by first | (simp; done) | (simp; omega) | omega) _) | (with_reducible refine Below.alloc ?_ (by first | (simp; done) | (simp; omega) | omega) _) | (with_reducible refine Below.drew ?_) | (with_reducible refine Below.drewN ?_ _))))
    replace TR := TR.via hb16 (by (repeat (first | (with_reducible assumption) | (with_reducible exact Below.refl _ _) | (with_reducible refine Below.setCell ?_ (by first | (simp; done) | (simp; omega) | omega) _) | (with_reducible refine Below.alloc ?_ (by first | (simp; done) | (simp; omega) | omega) _) | (with_reducible refine Below.drew ?_) | (with_reducible refine Below.drewN ?_ _))))
    replace hB := Below.via (by (repeat (first | (with_reducible assumption) | (with_reducible exact Below.refl _ _) | (with_reducible refine Below.setCell ?_ (by first | (simp; done) | (simp; omega) | omega) _) | (with_reducible refine Below.alloc ?_ (by first | (simp; done) | (simp; omega) | omega) _) | (with_reducible refine Below.drew ?_) | (with_reducible refine Below.drewN ?_ _))) : Below w.heap.size w _) hb16
    clear hb16
    have cV_0 := TV.cell 0 rfl
    have cV_1 := TV.cell 1 rfl
    have lV := TV.lt
    have cR_0 := TR.cell 0 rfl
    have cR_1 := TR.cell 1 rfl
    have lR := TR.lt
    go_wp2
    go_ret
    exact ⟨rfl, by (repeat (first | (with_reducible assumption) | (with_reducible exact Below.refl _ _) | (with_reducible refine Below.setCell ?_ (by first | (simp; done) | (simp; omega) | omega) _) | (with_reducible refine Below.alloc ?_ (by first | (simp; done) | (simp; omega) | omega) _) | (with_reducible refine Below.drew ?_) | (with_reducible refine Below.drewN ?_ _)))⟩
  · skip
    obtain ⟨hk, hz, hva⟩ := sig_zero h1 h2
    have HZ := Lib.hid hz
    clear hz
    go_wp2_with fail
    refine (iSig_none 0 0 0 _ 0 _ a _ (Rd.nil _ _ _ _ _) (by omega) (by omega) hk).mono ?_
    rintro e w13 ⟨A13, c13, rfl, o13, hb13⟩
    have z13 := hb13.size
    (try simp at z13)
    replace o13 := o13.mono (B' := w12.heap.size + 1) (T' := w13.heap.size) (by simp) (Nat.le_refl _)
    replace hB := Below.via (by (repeat (first | (with_reducible assumption) | (with_reducible exact Below.refl _ _) | (with_reducible refine Below.setCell ?_ (by first | (simp; done) | (simp; omega) | omega) _) | (with_reducible refine Below.alloc ?_ (by first | (simp; done) | (simp; omega) | omega) _) | (with_reducible refine Below.drew ?_) | (with_reducible refine Below.drewN ?_ _))) : Below w.heap.size w _) hb13
    clear hb13
    rw [HZ.out]
    have TV := Blk.newAt (w := w13) (n := w13.heap.size) 27 #[.int .i64 (a), .slice A13 (0) c13] (by simp)
    have hle := o13.le
    go_wp2_with fail
    refine (sSig_none 0 0 0 _ 0 _ a _ (Rd.nil _ _ _ _ _) (by omega) (by omega) hk).mono ?_
    rintro e w14 ⟨A14, c14, rfl, o14, hb14⟩
    have z14 := hb14.size
    (try simp at z14)
    replace o14 := o14.mono (B' := w13.heap.size + 1) (T' := w14.heap.size) (by simp) (Nat.le_refl _)
    replace o13 := o13.via hb14 (by (repeat (first | (with_reducible assumption) | (with_reducible exact Below.refl _ _) | (with_reducible refine Below.setCell ?_ (by first | (simp; done) | (simp; omega) | omega) _) | (with_reducible refine Below.alloc ?_ (by first | (simp; done) | (simp; omega) | omega) _) | (with_reducible refine Below.drew ?_) | (with_reducible refine Below.drewN ?_ _))))
    replace TV := TV.via hb14 (by (repeat (first | (with_reducible assumption) | (with_reducible exact Below.refl _ _) | (with_reducible refine Below.setCell ?_ (by first | (simp; done) | (simp; omega) | omega) _) | (with_reducible refine Below.alloc ?_ (by first | (simp; done) | (simp; omega) | omega) _) | (with_reducible refine Below.drew ?_) | (with_reducible refine Below.drewN ?_ _))))
    replace hB := Below.via (by (repeat (first | (with_reducible assumption) | (with_reducible exact Below.refl _ _) | (with_reducible refine Below.setCell ?_ (by first | (simp; done) | (simp; omega) | omega) _) | (with_reducible refine Below.alloc ?_ (by first | (simp; done) | (simp; omega) | omega) _) | (with_reducible refine Below.drew ?_) | (with_reducible refine Below.drewN ?_ _))) : Below w.heap.size w _) hb14
    clear hb14
    have cV_0 := TV.cell 0 rfl
    have cV_1 := TV.cell 1 rfl
    have lV := TV.lt
    rw [HZ.out]
    have TR := Blk.newAt (w := w14) (n := w14.heap.size) 27 #[.int .i64 (a), .slice A14 (0) c14] (by simp)
    go_wp2_with fail
    refine (sameNotice_any _ _ _ _ _ _ _ _ _ _ _ _ _ _ _ (o13.alloc _).rd (o14.alloc _).rd (by simp)).mono ?_
    rintro e w15 ⟨rfl, hb15⟩
    clear cV_0 cV_1 lV
    have z15 := hb15.size
    (try simp at z15)
    replace o13 := o13.via hb15 (by (repeat (first | (with_reducible assumption) | (with_reducible exact Below.refl _ _) | (with_reducible refine Below.setCell ?_ (by first | (simp; done) | (simp; omega) | omega) _) | (with_reducible refine Below.alloc ?_ (by first | (simp; done) | (simp; omega) | omega) _) | (with_reducible refine Below.drew ?_) | (with_reducible refine Below.drewN ?_ _))))
    replace o14 := o14.via hb15 (by (repeat (first | (with_reducible assumption) | (with_reducible exact Below.refl _ _) | (with_reducible refine Below.setCell ?_ (by first | (simp; done) | (simp; omega) | omega) _) | (with_reducible refine Below.alloc ?_ (by first | (simp; done) | (simp; omega) | omega) _) | (with_reducible refine Below.drew ?_) | (with_reducible refine Below.drewN ?_ _))))
    replace TV := TV.via hb15 (by (repeat (first | (with_reducible assumption) | (with_reducible exact Below.refl _ _) | (with_reducible refine Below.setCell ?_ (by first | (simp; done) | (simp; omega) | omega) _) | (with_reducible refine Below.alloc ?_ (by first | (simp; done) | (simp; omega) | omega) _) | (with_reducible refine Below.drew ?_) | (with_reducible refine Below.drewN ?_ _))))
    replace TR := TR.via hb15 (by (repeat (first | (with_reducible assumption) | (with_reducible exact Below.refl _ _) | (with_reducible refine Below.setCell ?_ (by first | (simp; done) | (simp; omega) | omega) _) | (with_reducible refine Below.alloc ?_ (by first | (simp; done) | (simp; omega) | omega) _) | (with_reducible refine Below.drew ?_) | (with_reducible refine Below.drewN ?_ _))))
    replace hB := Below.via (by (repeat (first | (with_reducible assumption) | (with_reducible exact Below.refl _ _) | (with_reducible refine Below.setCell ?_ (by first | (simp; done) | (simp; omega) | omega) _) | (with_reducible refine Below.alloc ?_ (by first | (simp; done) | (simp; omega) | omega) _) | (with_reducible refine Below.drew ?_) | (with_reducible refine Below.drewN ?_ _))) : Below w.heap.size w _) hb15
    clear hb15
    have cV_0 := TV.cell 0 rfl
    have cV_1 := TV.cell 1 rfl
    have lV := TV.lt
    have cR_0 := TR.cell 0 rfl
    have cR_1 := TR.cell 1 rfl
    have lR := TR.lt
    (try simp only [decide_true, Bool.and_true, Bool.true_and, Bool.and_self])
    go_wp2_with fail
    refine (alive_any _).mono ?_
    rintro e w16 ⟨rfl, hb16⟩
    clear cV_0 cV_1 lV cR_0 cR_1 lR
    have z16 := hb16.size
    (try simp at z16)
    replace o13 := o13.via hb16 (by (repeat (first | (with_reducible assumption) | (with_reducible exact Below.refl _ _) | (with_reducible refine Below.setCell ?_ (by first | (simp; done) | (simp; omega) | omega) _) | (with_reducible refine Below.alloc ?_ (by first | (simp; done) | (simp; omega) | omega) _) | (with_reducible refine Below.drew ?_) | (with_reducible refine Below.drewN ?_ _))))
    replace o14 := o14.via hb16 (by (repeat (first | (with_reducible assumption) | (with_reducible exact Below.refl _ _) | (with_reducible refine Below.setCell ?_ (by first | (simp; done) | (simp; omega) | omega) _) | (with_reducible refine Below.alloc ?_ (by first | (simp; done) | (simp; omega) | omega) _) | (with_reducible refine Below.drew ?_) | (with_reducible refine Below.drewN ?_ _))))
    replace TV := TV.via hb16 (by (repeat (first | (with_reducible assumption) | (with_reducible exact Below.refl _ _) | (with_reducible refine Below.setCell ?_ (by first | (simp; done) | (simp; omega) | omega) _) | (with_reducible refine Below.alloc ?_ (by first | (simp; done) | (simp; omega) | omega) _) | (with_reducible refine Below.drew ?_) | (with_reducible refine Below.drewN ?_ _))))
    replace TR := TR.via hb16 (by (repeat (first | (with_reducible assumption) | (with_reducible exact Below.refl _ _) | (with_reducible refine Below.setCell ?_ (by first | (simp; done) | (simp; omega) | omega) _) | (with_reducible refine Below.alloc ?_ (by first | (simp; done) | (simp; omega) | omega) _) | (with_reducible refine Below.drew ?_) | (with_reducible refine Below.drewN ?_ _))))
    replace hB := Below.via (by (repeat (first | (with_reducible assumption) | (with_reducible exact Below.refl _ _) | (with_reducible refine Below.setCell ?_ (by first | (simp; done) | (simp; omega) | omega) _) | (with_reducible refine Below.alloc ?_ (by first | (simp; done) | (simp; omega) | omega) _) | (with_reducible refine Below.drew ?_) | (with_reducible refine Below.drewN ?_ _))) : Below w.heap.size w _) hb16
    clear hb16
    have cV_0 := TV.cell 0 rfl
    have cV_1 := TV.cell 1 rfl
    have lV := TV.lt
    have cR_0 := TR.cell 0 rfl
    have cR_1 := TR.cell 1 rfl
    have lR := TR.lt
    go_wp2
    go_ret
    exact ⟨rfl, by (repeat (first | (with_reducible assumption) | (with_reducible exact Below.refl _ _) | (with_reducible refine Below.setCell ?_ (by first | (simp; done) | (simp; omega) | omega) _) | (with_reducible refine Below.alloc ?_ (by first | (simp; done) | (simp; omega) | omega) _) | (with_reducible refine Below.drew ?_) | (with_reducible refine Below.drewN ?_ _)))⟩
  · skip
    obtain ⟨hk2, hy, hvb⟩ := sig_zero h3 h4
    obtain ⟨hk3, hp, hvo⟩ := sig_pair h1 h2 h3 h4
    obtain ⟨hk4, -, -⟩ := sig_pair h3 h4 h1 h2
    have HY := Lib.hid hy
    have HP := Lib.hid hp
    clear hy hp
    obtain ⟨hk, hz, hva⟩ := sig_zero h1 h2
    have HZ := Lib.hid hz
    clear hz
    go_wp2_with fail
    refine (iSig_none 0 0 0 _ 0 _ a _ (Rd.nil _ _ _ _ _) (by omega) (by omega) hk).mono ?_
    rintro e w13 ⟨A13, c13, rfl, o13, hb13⟩
    have z13 := hb13.size
    (try simp at z13)
    replace o13 := o13.mono (B' := w12.heap.size + 1) (T' := w13.heap.size) (by simp) (Nat.le_refl _)
    replace hB := Below.via (by (repeat (first | (with_reducible assumption) | (with_reducible exact Below.refl _ _) | (with_reducible refine Below.setCell ?_ (by first | (simp; done) | (simp; omega) | omega) _) | (with_reducible refine Below.alloc ?_ (by first | (simp; done) | (simp; omega) | omega) _) | (with_reducible refine Below.drew ?_) | (with_reducible refine Below.drewN ?_ _))) : Below w.heap.size w _) hb13
    clear hb13
    rw [HZ.out]
    have TV := Blk.newAt (w := w13) (n := w13.heap.size) 27 #[.int .i64 (a), .slice A13 (0) c13] (by simp)
    have hle := o13.le
    go_wp2_with fail
    refine (sSig_none 0 0 0 _ 0 _ a _ (Rd.nil _ _ _ _ _) (by omega) (by omega) hk).mono ?_
    rintro e w14 ⟨A14, c14, rfl, o14, hb14⟩
    have z14 := hb14.size
    (try simp at z14)
    replace o14 := o14.mono (B' := w13.heap.size + 1) (T' := w14.heap.size) (by simp) (Nat.le_refl _)
    replace o13 := o13.via hb14 (by (repeat (first | (with_reducible assumption) | (with_reducible exact Below.refl _ _) | (with_reducible refine Below.setCell ?_ (by first | (simp; done) | (simp; omega) | omega) _) | (with_reducible refine Below.alloc ?_ (by first | (simp; done) | (simp; omega) | omega) _) | (with_reducible refine Below.drew ?_) | (with_reducible refine Below.drewN ?_ _))))
    replace TV := TV.via hb14 (by (repeat (first | (with_reducible assumption) | (with_reducible exact Below.refl _ _) | (with_reducible refine Below.setCell ?_ (by first | (simp; done) | (simp; omega) | omega) _) | (with_reducible refine Below.alloc ?_ (by first | (simp; done) | (simp; omega) | omega) _) | (with_reducible refine Below.drew ?_) | (with_reducible refine Below.drewN ?_ _))))
    replace hB := Below.via (by (repeat (first | (with_reducible assumption) | (with_reducible exact Below.refl _ _) | (with_reducible refine Below.setCell ?_ (by first | (simp; done) | (simp; omega) | omega) _) | (with_reducible refine Below.alloc ?_ (by first | (simp; done) | (simp; omega) | omega) _) | (with_reducible refine Below.drew ?_) | (with_reducible refine Below.drewN ?_ _))) : Below w.heap.size w _) hb14
    clear hb14
    have cV_0 := TV.cell 0 rfl
    have cV_1 := TV.cell 1 rfl
    have lV := TV.lt
    rw [HZ.out]
    have TR := Blk.newAt (w := w14) (n := w14.heap.size) 27 #[.int .i64 (a), .slice A14 (0) c14] (by simp)
    go_wp2_with fail
    refine (sameNotice_any _ _ _ _ _ _ _ _ _ _ _ _ _ _ _ (o13.alloc _).rd (o14.alloc _).rd (by simp)).mono ?_
    rintro e w15 ⟨rfl, hb15⟩
    clear cV_0 cV_1 lV
    have z15 := hb15.size
    (try simp at z15)
    replace o13 := o13.via hb15 (by (repeat (first | (with_reducible assumption) | (with_reducible exact Below.refl _ _) | (with_reducible refine Below.setCell ?_ (by first | (simp; done) | (simp; omega) | omega) _) | (with_reducible refine Below.alloc ?_ (by first | (simp; done) | (simp; omega) | omega) _) | (with_reducible refine Below.drew ?_) | (with_reducible refine Below.drewN ?_ _))))
    replace o14 := o14.via hb15 (by (repeat (first | (with_reducible assumption) | (with_reducible exact Below.refl _ _) | (with_reducible refine Below.setCell ?_ (by first | (simp; done) | (simp; omega) | omega) _) | (with_reducible refine Below.alloc ?_ (by first | (simp; done) | (simp; omega) | omega) _) | (with_reducible refine Below.drew ?_) | (with_reducible refine Below.drewN ?_ _))))
    replace TV := TV.via hb15 (by (repeat (first | (with_reducible assumption) | (with_reducible exact Below.refl _ _) | (with_reducible refine Below.setCell ?_ (by first | (simp; done) | (simp; omega) | omega) _) | (with_reducible refine Below.alloc ?_ (by first | (simp; done) | (simp; omega) | omega) _) | (with_reducible refine Below.drew ?_) | (with_reducible refine Below.drewN ?_ _))))
    replace TR := TR.via hb15 (by (repeat (first | (with_reducible assumption) | (with_reducible exact Below.refl _ _) | (with_reducible refine Below.setCell ?_ (by first | (simp; done) | (simp; omega) | omega) _) | (with_reducible refine Below.alloc ?_ (by first | (simp; done) | (simp; omega) | omega) _) | (with_reducible refine Below.drew ?_) | (with_reducible refine Below.drewN ?_ _))))
    replace hB := Below.via (by (repeat (first | (with_reducible assumption) | (with_reducible exact Below.refl _ _) | (with_reducible refine Below.setCell ?_ (by first | (simp; done) | (simp; omega) | omega) _) | (with_reducible refine Below.alloc ?_ (by first | (simp; done) | (simp; omega) | omega) _) | (with_reducible refine Below.drew ?_) | (with_reducible refine Below.drewN ?_ _))) : Below w.heap.size w _) hb15
    clear hb15
    have cV_0 := TV.cell 0 rfl
    have cV_1 := TV.cell 1 rfl
    have lV := TV.lt
    have cR_0 := TR.cell 0 rfl
    have cR_1 := TR.cell 1 rfl
    have lR := TR.lt
    (try simp only [decide_true, Bool.and_true, Bool.true_and, Bool.and_self])
    go_wp2_with fail
    refine (iSig_none _ _ _ _ a _ v _ o13.rd (by simp) hle hk3).mono ?_
    rintro e w16 ⟨A16, c16, rfl, o16, hb16⟩
    clear cV_0 cV_1 lV cR_0 cR_1 lR
    have z16 := hb16.size
    (try simp at z16)
    replace o13 := o13.via hb16 (by (repeat (first | (with_reducible assumption) | (with_reducible exact Below.refl _ _) | (with_reducible refine Below.setCell ?_ (by first | (simp; done) | (simp; omega) | omega) _) | (with_reducible refine Below.alloc ?_ (by first | (simp; done) | (simp; omega) | omega) _) | (with_reducible refine Below.drew ?_) | (with_reducible refine Below.drewN ?_ _))))
    replace o14 := o14.via hb16 (by (repeat (first | (with_reducible assumption) | (with_reducible exact Below.refl _ _) | (with_reducible refine Below.setCell ?_ (by first | (simp; done) | (simp; omega) | omega) _) | (with_reducible refine Below.alloc ?_ (by first | (simp; done) | (simp; omega) | omega) _) | (with_reducible refine Below.drew ?_) | (with_reducible refine Below.drewN ?_ _))))
    replace TV := TV.via hb16 (by (repeat (first | (with_reducible assumption) | (with_reducible exact Below.refl _ _) | (with_reducible refine Below.setCell ?_ (by first | (simp; done) | (simp; omega) | omega) _) | (with_reducible refine Below.alloc ?_ (by first | (simp; done) | (simp; omega) | omega) _) | (with_reducible refine Below.drew ?_) | (with_reducible refine Below.drewN ?_ _))))
    replace TR := TR.via hb16 (by (repeat (first | (with_reducible assumption) | (with_reducible exact Below.refl _ _) | (with_reducible refine Below.setCell ?_ (by first | (simp; done) | (simp; omega) | omega) _) | (with_reducible refine Below.alloc ?_ (by first | (simp; done) | (simp; omega) | omega) _) | (with_reducible refine Below.drew ?_) | (with_reducible refine Below.drewN ?_ _))))
    replace hB := Below.via (by (repeat (first | (with_reducible assumption) | (with_reducible exact Below.refl _ _) | (with_reducible refine Below.setCell ?_ (by first | (simp; done) | (simp; omega) | omega) _) | (with_reducible refine Below.alloc ?_ (by first | (simp; done) | (simp; omega) | omega) _) | (with_reducible refine Below.drew ?_) | (with_reducible refine Below.drewN ?_ _))) : Below w.heap.size w _) hb16
    clear hb16
    have cV_0 := TV.cell 0 rfl
    have cV_1 := TV.cell 1 rfl
    have lV := TV.lt
    have cR_0 := TR.cell 0 rfl
    have cR_1 := TR.cell 1 rfl
    have lR := TR.lt
    have hle16 := o16.le
    (try simp only [orI])
    have TU := Blk.newAt (w := w16) (n := w16.heap.size) 27 #[.int .i64 ((bits .or .i64 a v)), .slice A16 (0) c16] (by simp)
    go_wp2_with fail
    refine (iSig_none 0 0 0 _ 0 _ v _ (Rd.nil _ _ _ _ _) (by omega) (by omega) hk2).mono ?_
    rintro e w17 ⟨A17, c17, rfl, o17, hb17⟩
    clear cV_0 cV_1 lV cR_0 cR_1 lR
    have z17 := hb17.size
    (try simp at z17)
    replace o17 := o17.mono (B' := w16.heap.size + 1) (T' := w17.heap.size) (by simp) (Nat.le_refl _)
    replace o13 := o13.via hb17 (by (repeat (first | (with_reducible assumption) | (with_reducible exact Below.refl _ _) | (with_reducible refine Below.setCell ?_ (by first | (simp; done) | (simp; omega) | omega) _) | (with_reducible refine Below.alloc ?_ (by first | (simp; done) | (simp; omega) | omega) _) | (with_reducible refine Below.drew ?_) | (with_reducible refine Below.drewN ?_ _))))
    replace o14 := o14.via hb17 (by (repeat (first | (with_reducible assumption) | (with_reducible exact Below.refl _ _) | (with_reducible refine Below.setCell ?_ (by first | (simp; done) | (simp; omega) | omega) _) | (with_reducible refine Below.alloc ?_ (by first | (simp; done) | (simp; omega) | omega) _) | (with_reducible refine Below.drew ?_) | (with_reducible refine Below.drewN ?_ _))))
    replace o16 := o16.via hb17 (by (repeat (first | (with_reducible assumption) | (with_reducible exact Below.refl _ _) | (with_reducible refine Below.setCell ?_ (by first | (simp; done) | (simp; omega) | omega) _) | (with_reducible refine Below.alloc ?_ (by first | (simp; done) | (simp; omega) | omega) _) | (with_reducible refine Below.drew ?_) | (with_reducible refine Below.drewN ?_ _))))
    replace TV := TV.via hb17 (by (repeat (first | (with_reducible assumption) | (with_reducible exact Below.refl _ _) | (with_reducible refine Below.setCell ?_ (by first | (simp; done) | (simp; omega) | omega) _) | (with_reducible refine Below.alloc ?_ (by first | (simp; done) | (simp; omega) | omega) _) | (with_reducible refine Below.drew ?_) | (with_reducible refine Below.drewN ?_ _))))
    replace TR := TR.via hb17 (by (repeat (first | (with_reducible assumption) | (with_reducible exact Below.refl _ _) | (with_reducible refine Below.setCell ?_ (by first | (simp; done) | (simp; omega) | omega) _) | (with_reducible refine Below.alloc ?_ (by first | (simp; done) | (simp; omega) | omega) _) | (with_reducible refine Below.drew ?_) | (with_reducible refine Below.drewN ?_ _))))
    replace TU := TU.via hb17 (by (repeat (first | (with_reducible assumption) | (with_reducible exact Below.refl _ _) | (with_reducible refine Below.setCell ?_ (by first | (simp; done) | (simp; omega) | omega) _) | (with_reducible refine Below.alloc ?_ (by first | (simp; done) | (simp; omega) | omega) _) | (with_reducible refine Below.drew ?_) | (with_reducible refine Below.drewN ?_ _))))
    replace hB := Below.via (by (repeat (first | (with_reducible assumption) | (with_reducible exact Below.refl _ _) | (with_reducible refine Below.setCell ?_ (by first | (simp; done) | (simp; omega) | omega) _) | (with_reducible refine Below.alloc ?_ (by first | (simp; done) | (simp; omega) | omega) _) | (with_reducible refine Below.drew ?_) | (with_reducible refine Below.drewN ?_ _))) : Below w.heap.size w _) hb17
    clear hb17
    have cV_0 := TV.cell 0 rfl
    have cV_1 := TV.cell 1 rfl
    have lV := TV.lt
    have cR_0 := TR.cell 0 rfl
    have cR_1 := TR.cell 1 rfl
    have lR := TR.lt
    have cU_0 := TU.cell 0 rfl
    have cU_1 := TU.cell 1 rfl
    have lU := TU.lt
    have hle17 := o17.le
    rw [HY.out]
    have TX := Blk.newAt (w := w17) (n := w17.heap.size) 27 #[.int .i64 (v), .slice A17 (0) c17] (by simp)
    go_wp2_with fail
    refine (iSig_none _ _ _ _ v _ a _ (o17.alloc _).rd (by simp) hle17 hk4).mono ?_
    rintro e w18 ⟨A18, c18, rfl, o18, hb18⟩
    clear cV_0 cV_1 lV cR_0 cR_1 lR cU_0 cU_1 lU
    have z18 := hb18.size
    (try simp at z18)
    replace o18 := o18.mono (B' := w17.heap.size + 1) (T' := w18.heap.size) (by simp) (Nat.le_refl _)
    replace o13 := o13.via hb18 (by (repeat (first | (with_reducible assumption) | (with_reducible exact Below.refl _ _) | (with_reducible refine Below.setCell ?_ (by first | (simp; done) | (simp; omega) | omega) _) | (with_reducible refine Below.alloc ?_ (by first | (simp; done) | (simp; omega) | omega) _) | (with_reducible refine Below.drew ?_) | (with_reducible refine Below.drewN ?_ _))))
    replace o14 := o14.via hb18 (by (repeat (first | (with_reducible assumption) | (with_reducible exact Below.refl _ _) | (with_reducible refine Below.setCell ?_ (by first | (simp; done) | (simp; omega) | omega) _) | (with_reducible refine Below.alloc ?_ (by first | (simp; done) | (simp; omega) | omega) _) | (with_reducible refine Below.drew ?_) | (with_reducible refine Below.drewN ?_ _))))
    replace o16 := o16.via hb18 (by (repeat (first | (with_reducible assumption) | (with_reducible exact Below.refl _ _) | (with_reducible refine Below.setCell ?_ (by first | (simp; done) | (simp; omega) | omega) _) | (with_reducible refine Below.alloc ?_ (by first | (simp; done) | (simp; omega) | omega) _) | (with_reducible refine Below.drew ?_) | (with_reducible refine Below.drewN ?_ _))))
    replace o17 := o17.via hb18 (by (repeat (first | (with_reducible assumption) | (with_reducible exact Below.refl _ _) | (with_reducible refine Below.setCell ?_ (by first | (simp; done) | (simp; omega) | omega) _) | (with_reducible refine Below.alloc ?_ (by first | (simp; done) | (simp; omega) | omega) _) | (with_reducible refine Below.drew ?_) | (with_reducible refine Below.drewN ?_ _))))
    replace TV := TV.via hb18 (by (repeat (first | (with_reducible assumption) | (with_reducible exact Below.refl _ _) | (with_reducible refine Below.setCell ?_ (by first | (simp; done) | (simp; omega) | omega) _) | (with_reducible refine Below.alloc ?_ (by first | (simp; done) | (simp; omega) | omega) _) | (with_reducible refine Below.drew ?_) | (with_reducible refine Below.drewN ?_ _))))
    replace TR := TR.via hb18 (by (repeat (first | (with_reducible assumption) | (with_reducible exact Below.refl _ _) | (with_reducible refine Below.setCell ?_ (by first | (simp; done) | (simp; omega) | omega) _) | (with_reducible refine Below.alloc ?_ (by first | (simp; done) | (simp; omega) | omega) _) | (with_reducible refine Below.drew ?_) | (with_reducible refine Below.drewN ?_ _))))
    replace TU := TU.via hb18 (by (repeat (first | (with_reducible assumption) | (with_reducible exact Below.refl _ _) | (with_reducible refine Below.setCell ?_ (by first | (simp; done) | (simp; omega) | omega) _) | (with_reducible refine Below.alloc ?_ (by first | (simp; done) | (simp; omega) | omega) _) | (with_reducible refine Below.drew ?_) | (with_reducible refine Below.drewN ?_ _))))
    replace TX := TX.via hb18 (by (repeat (first | (with_reducible assumption) | (with_reducible exact Below.refl _ _) | (with_reducible refine Below.setCell ?_ (by first | (simp; done) | (simp; omega) | omega) _) | (with_reducible refine Below.alloc ?_ (by first | (simp; done) | (simp; omega) | omega) _) | (with_reducible refine Below.drew ?_) | (with_reducible refine Below.drewN ?_ _))))
    replace hB := Below.via (by (repeat (first | (with_reducible assumption) | (with_reducible exact Below.refl _ _) | (with_reducible refine Below.setCell ?_ (by first | (simp; done) | (simp; omega) | omega) _) | (with_reducible refine Below.alloc ?_ (by first | (simp; done) | (simp; omega) | omega) _) | (with_reducible refine Below.drew ?_) | (with_reducible refine Below.drewN ?_ _))) : Below w.heap.size w _) hb18
    clear hb18
    have cV_0 := TV.cell 0 rfl
    have cV_1 := TV.cell 1 rfl
    have lV := TV.lt
    have cR_0 := TR.cell 0 rfl
    have cR_1 := TR.cell 1 rfl
    have lR := TR.lt
    have cU_0 := TU.cell 0 rfl
    have cU_1 := TU.cell 1 rfl
    have lU := TU.lt
    have cX_0 := TX.cell 0 rfl
    have cX_1 := TX.cell 1 rfl
    have lX := TX.lt
    rw [HP.out]
    (try simp only [orI])
    have TY := Blk.newAt (w := w18) (n := w18.heap.size) 27 #[.int .i64 ((bits .or .i64 a v)), .slice A18 (0) c18] (by simp)
    go_wp2_with fail
    refine (iPoll_ok _ _ _ _ (orI a v) _ [] _ (o16.alloc _).rd (by simp) hle16 hvo).mono ?_
    rintro e w19 ⟨A19, c19, rfl, o19, hb19⟩
    clear cV_0 cV_1 lV cR_0 cR_1 lR cU_0 cU_1 lU cX_0 cX_1 lX
    have z19 := hb19.size
    (try simp at z19)
    replace o19 := o19.mono (B' := w18.heap.size + 1) (T' := w19.heap.size) (by simp) (Nat.le_refl _)
    replace o13 := o13.via hb19 (by (repeat (first | (with_reducible assumption) | (with_reducible exact Below.refl _ _) | (with_reducible refine Below.setCell ?_ (by first | (simp; done) | (simp; omega) | omega) _) | (with_reducible refine Below.alloc ?_ (by first | (simp; done) | (simp; omega) | omega) _) | (with_reducible refine Below.drew ?_) | (with_reducible refine Below.drewN ?_ _))))
    replace o14 := o14.via hb19 (by (repeat (first | (with_reducible assumption) | (with_reducible exact Below.refl _ _) | (with_reducible refine Below.setCell ?_ (by first | (simp; done) | (simp; omega) | omega) _) | (with_reducible refine Below.alloc ?_ (by first | (simp; done) | (simp; omega) | omega) _) | (with_reducible refine Below.drew ?_) | (with_reducible refine Below.drewN ?_ _))))
    replace o16 := o16.via hb19 (by (repeat (first | (with_reducible assumption) | (with_reducible exact Below.refl _ _) | (with_reducible refine Below.setCell ?_ (by first | (simp; done) | (simp; omega) | omega) _) | (with_reducible refine Below.alloc ?_ (by first | (simp; done) | (simp; omega) | omega) _) | (with_reducible refine Below.drew ?_) | (with_reducible refine Below.drewN ?_ _))))
    replace o17 := o17.via hb19 (by (repeat (first | (with_reducible assumption) | (with_reducible exact Below.refl _ _) | (with_reducible refine Below.setCell ?_ (by first | (simp; done) | (simp; omega) | omega) _) | (with_reducible refine Below.alloc ?_ (by first | (simp; done) | (simp; omega) | omega) _) | (with_reducible refine Below.drew ?_) | (with_reducible refine Below.drewN ?_ _))))
    replace o18 := o18.via hb19 (by (repeat (first | (with_reducible assumption) | (with_reducible exact Below.refl _ _) | (with_reducible refine Below.setCell ?_ (by first | (simp; done) | (simp; omega) | omega) _) | (with_reducible refine Below.alloc ?_ (by first | (simp; done) | (simp; omega) | omega) _) | (with_reducible refine Below.drew ?_) | (with_reducible refine Below.drewN ?_ _))))
    replace TV := TV.via hb19 (by (repeat (first | (with_reducible assumption) | (with_reducible exact Below.refl _ _) | (with_reducible refine Below.setCell ?_ (by first | (simp; done) | (simp; omega) | omega) _) | (with_reducible refine Below.alloc ?_ (by first | (simp; done) | (simp; omega) | omega) _) | (with_reducible refine Below.drew ?_) | (with_reducible refine Below.drewN ?_ _))))
    replace TR := TR.via hb19 (by (repeat (first | (with_reducible assumption) | (with_reducible exact Below.refl _ _) | (with_reducible refine Below.setCell ?_ (by first | (simp; done) | (simp; omega) | omega) _) | (with_reducible refine Below.alloc ?_ (by first | (simp; done) | (simp; omega) | omega) _) | (with_reducible refine Below.drew ?_) | (with_reducible refine Below.drewN ?_ _))))
    replace TU := TU.via hb19 (by (repeat (first | (with_reducible assumption) | (with_reducible exact Below.refl _ _) | (with_reducible refine Below.setCell ?_ (by first | (simp; done) | (simp; omega) | omega) _) | (with_reducible refine Below.alloc ?_ (by first | (simp; done) | (simp; omega) | omega) _) | (with_reducible refine Below.drew ?_) | (with_reducible refine Below.drewN ?_ _))))
    replace TX := TX.via hb19 (by (repeat (first | (with_reducible assumption) | (with_reducible exact Below.refl _ _) | (with_reducible refine Below.setCell ?_ (by first | (simp; done) | (simp; omega) | omega) _) | (with_reducible refine Below.alloc ?_ (by first | (simp; done) | (simp; omega) | omega) _) | (with_reducible refine Below.drew ?_) | (with_reducible refine Below.drewN ?_ _))))
    replace TY := TY.via hb19 (by (repeat (first | (with_reducible assumption) | (with_reducible exact Below.refl _ _) | (with_reducible refine Below.setCell ?_ (by first | (simp; done) | (simp; omega) | omega) _) | (with_reducible refine Below.alloc ?_ (by first | (simp; done) | (simp; omega) | omega) _) | (with_reducible refine Below.drew ?_) | (with_reducible refine Below.drewN ?_ _))))
    replace hB := Below.via (by (repeat (first | (with_reducible assumption) | (with_reducible exact Below.refl _ _) | (with_reducible refine Below.setCell ?_ (by first | (simp; done) | (simp; omega) | omega) _) | (with_reducible refine Below.alloc ?_ (by first | (simp; done) | (simp; omega) | omega) _) | (with_reducible refine Below.drew ?_) | (with_reducible refine Below.drewN ?_ _))) : Below w.heap.size w _) hb19
    clear hb19
    have cV_0 := TV.cell 0 rfl
    have cV_1 := TV.cell 1 rfl
    have lV := TV.lt
    have cR_0 := TR.cell 0 rfl
    have cR_1 := TR.cell 1 rfl
    have lR := TR.lt
    have cU_0 := TU.cell 0 rfl
    have cU_1 := TU.cell 1 rfl
    have lU := TU.lt
    have cX_0 := TX.cell 0 rfl
    have cX_1 := TX.cell 1 rfl
    have lX := TX.lt
    have cY_0 := TY.cell 0 rfl
    have cY_1 := TY.cell 1 rfl
    have lY := TY.lt
    (try simp only [orI])
    have TM := Blk.newAt (w := w19) (n := w19.heap.size) 27 #[.int .i64 (0), .slice A19 (0) c19] (by simp)
    go_wp2_with fail
    refine (sameNotice_any _ _ _ _ _ _ _ _ _ _ _ _ _ _ _ (o16.alloc _).rd (o18.alloc _).rd (by simp)).mono ?_
    rintro e w20 ⟨rfl, hb20⟩
    clear cV_0 cV_1 lV cR_0 cR_1 lR cU_0 cU_1 lU cX_0 cX_1 lX cY_0 cY_1 lY
    have z20 := hb20.size
    (try simp at z20)
    replace o13 := o13.via hb20 (by (repeat (first | (with_reducible assumption) | (with_reducible exact Below.refl _ _) | (with_reducible refine Below.setCell ?_ (by first | (simp; done) | (simp; omega) | omega) _) | (with_reducible refine Below.alloc ?_ (by first | (simp; done) | (simp; omega) | omega) _) | (with_reducible refine Below.drew ?_) | (with_reducible refine Below.drewN ?_ _))))
    replace o14 := o14.via hb20 (by (repeat (first | (with_reducible assumption) | (with_reducible exact Below.refl _ _) | (with_reducible refine Below.setCell ?_ (by first | (simp; done) | (simp; omega) | omega) _) | (with_reducible refine Below.alloc ?_ (by first | (simp; done) | (simp; omega) | omega) _) | (with_reducible refine Below.drew ?_) | (with_reducible refine Below.drewN ?_ _))))
    replace o16 := o16.via hb20 (by (repeat (first | (with_reducible assumption) | (with_reducible exact Below.refl _ _) | (with_reducible refine Below.setCell ?_ (by first | (simp; done) | (simp; omega) | omega) _) | (with_reducible refine Below.alloc ?_ (by first | (simp; done) | (simp; omega) | omega) _) | (with_reducible refine Below.drew ?_) | (with_reducible refine Below.drewN ?_ _))))
    replace o17 := o17.via hb20 (by (repeat (first | (with_reducible assumption) | (with_reducible exact Below.refl _ _) | (with_reducible refine Below.setCell ?_ (by first | (simp; done) | (simp; omega) | omega) _) | (with_reducible refine Below.alloc ?_ (by first | (simp; done) | (simp; omega) | omega) _) | (with_reducible refine Below.drew ?_) | (with_reducible refine Below.drewN ?_ _))))
    replace o18 := o18.via hb20 (by (repeat (first | (with_reducible assumption) | (with_reducible exact Below.refl _ _) | (with_reducible refine Below.setCell ?_ (by first | (simp; done) | (simp; omega) | omega) _) | (with_reducible refine Below.alloc ?_ (by first | (simp; done) | (simp; omega) | omega) _) | (with_reducible refine Below.drew ?_) | (with_reducible refine Below.drewN ?_ _))))
    replace o19 := o19.via hb20 (by (repeat (first | (with_reducible assumption) | (with_reducible exact Below.refl _ _) | (with_reducible refine Below.setCell ?_ (by first | (simp; done) | (simp; omega) | omega) _) | (with_reducible refine Below.alloc ?_ (by first | (simp; done) | (simp; omega) | omega) _) | (with_reducible refine Below.drew ?_) | (with_reducible refine Below.drewN ?_ _))))
    replace TV := TV.via hb20 (by (repeat (first | (with_reducible assumption) | (with_reducible exact Below.refl _ _) | (with_reducible refine Below.setCell ?_ (by first | (simp; done) | (simp; omega) | omega) _) | (with_reducible refine Below.alloc ?_ (by first | (simp; done) | (simp; omega) | omega) _) | (with_reducible refine Below.drew ?_) | (with_reducible refine Below.drewN ?_ _))))
    replace TR := TR.via hb20 (by (repeat (first | (with_reducible assumption) | (with_reducible exact Below.refl _ _) | (with_reducible refine Below.setCell ?_ (by first | (simp; done) | (simp; omega) | omega) _) | (with_reducible refine Below.alloc ?_ (by first | (simp; done) | (simp; omega) | omega) _) | (with_reducible refine Below.drew ?_) | (with_reducible refine Below.drewN ?_ _))))
    replace TU := TU.via hb20 (by (repeat (first | (with_reducible assumption) | (with_reducible exact Below.refl _ _) | (with_reducible refine Below.setCell ?_ (by first | (simp; done) | (simp; omega) | omega) _) | (with_reducible refine Below.alloc ?_ (by first | (simp; done) | (simp; omega) | omega) _) | (with_reducible refine Below.drew ?_) | (with_reducible refine Below.drewN ?_ _))))
    replace TX := TX.via hb20 (by (repeat (first | (with_reducible assumption) | (with_reducible exact Below.refl _ _) | (with_reducible refine Below.setCell ?_ (by first | (simp; done) | (simp; omega) | omega) _) | (with_reducible refine Below.alloc ?_ (by first | (simp; done) | (simp; omega) | omega) _) | (with_reducible refine Below.drew ?_) | (with_reducible refine Below.drewN ?_ _))))
    replace TY := TY.via hb20 (by (repeat (first | (with_reducible assumption) | (with_reducible exact Below.refl _ _) | (with_reducible refine Below.setCell ?_ (by first | (simp; done) | (simp; omega) | omega) _) | (with_reducible refine Below.alloc ?_ (by first | (simp; done) | (simp; omega) | omega) _) | (with_reducible refine Below.drew ?_) | (with_reducible refine Below.drewN ?_ _))))
    replace TM := TM.via hb20 (by (repeat (first | (with_reducible assumption) | (with_reducible exact Below.refl _ _) | (with_reducible refine Below.setCell ?_ (by first | (simp; done) | (simp; omega) | omega) _) | (with_reducible refine Below.alloc ?_ (by first | (simp; done) | (simp; omega) | omega) _) | (with_reducible refine Below.drew ?_) | (with_reducible refine Below.drewN ?_ _))))
    replace hB := Below.via (by (repeat (first | (with_reducible assumption) | (with_reducible exact Below.refl _ _) | (with_reducible refine Below.setCell ?_ (by first | (simp; done) | (simp; omega) | omega) _) | (with_reducible refine Below.alloc ?_ (by first | (simp; done) | (simp; omega) | omega) _) | (with_reducible refine Below.drew ?_) | (with_reducible refine Below.drewN ?_ _))) : Below w.heap.size w _) hb20
    clear hb20
    have cV_0 := TV.cell 0 rfl
    have cV_1 := TV.cell 1 rfl
    have lV := TV.lt
    have cR_0 := TR.cell 0 rfl
    have cR_1 := TR.cell 1 rfl
    have lR := TR.lt
    have cU_0 := TU.cell 0 rfl
    have cU_1 := TU.cell 1 rfl
    have lU := TU.lt
    have cX_0 := TX.cell 0 rfl
    have cX_1 := TX.cell 1 rfl
    have lX := TX.lt
    have cY_0 := TY.cell 0 rfl
    have cY_1 := TY.cell 1 rfl
    have lY := TY.lt
    have cM_0 := TM.cell 0 rfl
    have cM_1 := TM.cell 1 rfl
    have lM := TM.lt
    (try simp only [decide_true, Bool.and_true, Bool.true_and, Bool.and_self])
    go_wp2
    go_ret
    exact ⟨rfl, by (repeat (first | (with_reducible assumption) | (with_reducible exact Below.refl _ _) | (with_reducible refine Below.setCell ?_ (by first | (simp; done) | (simp; omega) | omega) _) | (with_reducible refine Below.alloc ?_ (by first | (simp; done) | (simp; omega) | omega) _) | (with_reducible refine Below.drew ?_) | (with_reducible refine Below.drewN ?_ _)))⟩
end Go.Proofs.Ytcdbamaifdabnaa
