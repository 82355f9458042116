/- The walk of the law FnSendChain: it returns true and leaves all that was in memory as it was, for every code. -/
import Derived.Test.YthbfpgdfigilaaaLwMsgHead
namespace Go.Proofs.Ythbfpgdfigilaaa
set_option linter.unusedVariables false
open Go.RowKit
set_option maxHeartbeats 4000000 in
theorem law_SendChain (B T n c : Nat) (A : Option Addr) (bs : List Value) (B2 T2 n2 c2 : Nat) (A2 : Option Addr) (bs2 : List Value) (w : World) (hr : Rd w B T 1 A n bs) (hb : Bytes bs) (hnc : n ≤ c) (hr2 : Rd w B2 T2 1 A2 n2 bs2) (hb2 : Bytes bs2) (hnc2 : n2 ≤ c2) :
    Calls Try.prog 10 #[.slice A n c, .slice A2 n2 c2] w fun e w' => e = .returned (.bool true) ∧ Below w.heap.size w w' := by
  obtain ⟨i0, hi0, hz0, hz1, hz2⟩ := info_parts Try.infoInt
  by_cases hbig : 1048576 < n
  · have hd : (1048576 : Int) < (n : Int) := by omega
    go_enter Try.func10, Try.ntmps10
    go_wp2_with fail
    go_ret
    exact ⟨rfl, Below.refl _ _⟩
  have hn : n ≤ 1048576 := by omega
  have hd : ¬ (1048576 : Int) < (n : Int) := by omega
  by_cases hbig2 : 1048576 < n2
  · have hd2 : (1048576 : Int) < (n2 : Int) := by omega
    go_enter Try.func10, Try.ntmps10
    go_wp2_with fail
    go_ret
    exact ⟨rfl, Below.refl _ _⟩
  have hn2 : n2 ≤ 1048576 := by omega
  have hd2 : ¬ (1048576 : Int) < (n2 : Int) := by omega
  have hB := Below.refl w.heap.size w
  go_enter Try.func10, Try.ntmps10
  go_wp2_with fail
  refine (DrawSendOver_any B T n c A bs _ hr hb hn hnc).mono ?_
  rintro e w1 ⟨l, A1, c1, D1, d1, xs, cs, ka, oa, ra, ba, rfl, r1, s1, hl, hl2, hb1⟩
  have z1 := hb1.size
  (try simp at z1)
  replace hr2 := hr2.via hb1 (by (repeat (first | (with_reducible assumption) | (with_reducible exact Below.refl _ _) | (with_reducible refine Below.setCell ?_ (by first | (simp; done) | (simp; omega) | omega) _) | (with_reducible refine Below.alloc ?_ (by first | (simp; done) | (simp; omega) | omega) _) | (with_reducible refine Below.drew ?_) | (with_reducible refine Below.drewN ?_ _))))
  replace hB := Below.via (by (repeat (first | (with_reducible assumption) | (with_reducible exact Below.refl _ _) | (with_reducible refine Below.setCell ?_ (by first | (simp; done) | (simp; omega) | omega) _) | (with_reducible refine Below.alloc ?_ (by first | (simp; done) | (simp; omega) | omega) _) | (with_reducible refine Below.drew ?_) | (with_reducible refine Below.drewN ?_ _))) : Below w.heap.size w _) hb1
  clear hb1
  obtain ⟨n1, hn1⟩ : ∃ n1, xs.length = n1 := ⟨_, rfl⟩
  obtain ⟨m1, hm1⟩ : ∃ m1, cs.length = m1 := ⟨_, rfl⟩
  rw [hn1] at r1 hl ⊢
  rw [hm1] at s1 hl2 ⊢
  have HN := Lib.hid hn1
  have HM := Lib.hid hm1
  clear hn1 hm1
  have TP := Blk.newAt (w := w1) (n := w1.heap.size) 30 #[.int .i64 (l), .slice A1 n1 c1, .slice D1 m1 d1] (by simp)
  have TQ := Blk.newAt (w := (w1.alloc (.cells #[.int .i64 (l), .slice A1 n1 c1, .slice D1 m1 d1] 30))) (n := w1.heap.size + 1) 45 #[.int .i64 ka, .int .i64 oa, .int .i64 ra, .int .i64 ba] (by simp)
  go_wp2_with fail
  refine (DrawSendOver_any B2 T2 n2 c2 A2 bs2 _ ((hr2.alloc _).alloc _) hb2 hn2 hnc2).mono ?_
  rintro e w12 ⟨l9, A9, c9, D9, d9, xs9, cs9, kb, ob, rb, bb9, rfl, r9, s9, hl9, hl99, hb12⟩
  have z12 := hb12.size
  (try simp at z12)
  replace r1 := r1.via hb12 (by (repeat (first | (with_reducible assumption) | (with_reducible exact Below.refl _ _) | (with_reducible refine Below.setCell ?_ (by first | (simp; done) | (simp; omega) | omega) _) | (with_reducible refine Below.alloc ?_ (by first | (simp; done) | (simp; omega) | omega) _) | (with_reducible refine Below.drew ?_) | (with_reducible refine Below.drewN ?_ _))))
  replace s1 := s1.via hb12 (by (repeat (first | (with_reducible assumption) | (with_reducible exact Below.refl _ _) | (with_reducible refine Below.setCell ?_ (by first | (simp; done) | (simp; omega) | omega) _) | (with_reducible refine Below.alloc ?_ (by first | (simp; done) | (simp; omega) | omega) _) | (with_reducible refine Below.drew ?_) | (with_reducible refine Below.drewN ?_ _))))
  replace TP := TP.via hb12 (by (repeat (first | (with_reducible assumption) | (with_reducible exact Below.refl _ _) | (with_reducible refine Below.setCell ?_ (by first | (simp; done) | (simp; omega) | omega) _) | (with_reducible refine Below.alloc ?_ (by first | (simp; done) | (simp; omega) | omega) _) | (with_reducible refine Below.drew ?_) | (with_reducible refine Below.drewN ?_ _))))
  replace TQ := TQ.via hb12 (by (repeat (first | (with_reducible assumption) | (with_reducible exact Below.refl _ _) | (with_reducible refine Below.setCell ?_ (by first | (simp; done) | (simp; omega) | omega) _) | (with_reducible refine Below.alloc ?_ (by first | (simp; done) | (simp; omega) | omega) _) | (with_reducible refine Below.drew ?_) | (with_reducible refine Below.drewN ?_ _))))
  replace hB := Below.via (by (repeat (first | (with_reducible assumption) | (with_reducible exact Below.refl _ _) | (with_reducible refine Below.setCell ?_ (by first | (simp; done) | (simp; omega) | omega) _) | (with_reducible refine Below.alloc ?_ (by first | (simp; done) | (simp; omega) | omega) _) | (with_reducible refine Below.drew ?_) | (with_reducible refine Below.drewN ?_ _))) : Below w.heap.size w _) hb12
  clear hb12
  have cP_0 := TP.cell 0 rfl
  have cP_1 := TP.cell 1 rfl
  have cP_2 := TP.cell 2 rfl
  have lP := TP.lt
  have cQ_0 := TQ.cell 0 rfl
  have cQ_1 := TQ.cell 1 rfl
  have cQ_2 := TQ.cell 2 rfl
  have cQ_3 := TQ.cell 3 rfl
  have lQ := TQ.lt
  clear r9 s9 hr2
  generalize xs9.length = n9 at hl9 ⊢
  generalize cs9.length = m9 at hl99 ⊢
  have TS := Blk.newAt (w := (w12.alloc (.cells #[.int .i64 (l9), .slice A9 n9 c9, .slice D9 m9 d9] 30))) (n := w12.heap.size + 1) 45 #[.int .i64 kb, .int .i64 ob, .int .i64 rb, .int .i64 bb9] (by simp)
  cases hv : sendOk l xs cs ka oa ra ba
  · skip
    go_wp2_with fail
    refine (iSend_no ((r1.alloc _).alloc _) (by omega) ((s1.alloc _).alloc _) (by omega) hv).mono ?_
    rintro e w13 ⟨A13, c13, D13, d13, M13, rfl, o13, p13, ma13, mb13, hb13⟩
    clear cP_0 cP_1 cP_2 lP cQ_0 cQ_1 cQ_2 cQ_3 lQ
    have z13 := hb13.size
    (try simp at z13)
    replace o13 := o13.mono (B' := w12.heap.size + 1 + 1) (T' := M13) (by simp) (Nat.le_refl _)
    replace r1 := r1.via hb13 (by (repeat (first | (with_reducible assumption) | (with_reducible exact Below.refl _ _) | (with_reducible refine Below.setCell ?_ (by first | (simp; done) | (simp; omega) | omega) _) | (with_reducible refine Below.alloc ?_ (by first | (simp; done) | (simp; omega) | omega) _) | (with_reducible refine Below.drew ?_) | (with_reducible refine Below.drewN ?_ _))))
    replace s1 := s1.via hb13 (by (repeat (first | (with_reducible assumption) | (with_reducible exact Below.refl _ _) | (with_reducible refine Below.setCell ?_ (by first | (simp; done) | (simp; omega) | omega) _) | (with_reducible refine Below.alloc ?_ (by first | (simp; done) | (simp; omega) | omega) _) | (with_reducible refine Below.drew ?_) | (with_reducible refine Below.drewN ?_ _))))
    replace TP := TP.via hb13 (by (repeat (first | (with_reducible assumption) | (with_reducible exact Below.refl _ _) | (with_reducible refine Below.setCell ?_ (by first | (simp; done) | (simp; omega) | omega) _) | (with_reducible refine Below.alloc ?_ (by first | (simp; done) | (simp; omega) | omega) _) | (with_reducible refine Below.drew ?_) | (with_reducible refine Below.drewN ?_ _))))
    replace TQ := TQ.via hb13 (by (repeat (first | (with_reducible assumption) | (with_reducible exact Below.refl _ _) | (with_reducible refine Below.setCell ?_ (by first | (simp; done) | (simp; omega) | omega) _) | (with_reducible refine Below.alloc ?_ (by first | (simp; done) | (simp; omega) | omega) _) | (with_reducible refine Below.drew ?_) | (with_reducible refine Below.drewN ?_ _))))
    replace TS := TS.via hb13 (by (repeat (first | (with_reducible assumption) | (with_reducible exact Below.refl _ _) | (with_reducible refine Below.setCell ?_ (by first | (simp; done) | (simp; omega) | omega) _) | (with_reducible refine Below.alloc ?_ (by first | (simp; done) | (simp; omega) | omega) _) | (with_reducible refine Below.drew ?_) | (with_reducible refine Below.drewN ?_ _))))
    replace hB := Below.via (by (repeat (first | (with_reducible assumption) | (with_reducible exact Below.refl _ _) | (with_reducible refine Below.setCell ?_ (by first | (simp; done) | (simp; omega) | omega) _) | (with_reducible refine Below.alloc ?_ (by first | (simp; done) | (simp; omega) | omega) _) | (with_reducible refine Below.drew ?_) | (with_reducible refine Below.drewN ?_ _))) : Below w.heap.size w _) hb13
    clear hb13
    have cP_0 := TP.cell 0 rfl
    have cP_1 := TP.cell 1 rfl
    have cP_2 := TP.cell 2 rfl
    have lP := TP.lt
    have cQ_0 := TQ.cell 0 rfl
    have cQ_1 := TQ.cell 1 rfl
    have cQ_2 := TQ.cell 2 rfl
    have cQ_3 := TQ.cell 3 rfl
    have lQ := TQ.lt
    have cS_0 := TS.cell 0 rfl
    have cS_1 := TS.cell 1 rfl
    have cS_2 := TS.cell 2 rfl
    have cS_3 := TS.cell 3 rfl
    have lS := TS.lt
    (try simp at ma13)
    have TV := Blk.newAt (w := w13) (n := w13.heap.size) 30 #[.int .i64 (0), .slice A13 0 c13, .slice D13 0 d13] (by simp)
    go_wp2_with fail
    refine (sSend_no (r1.alloc _) (by omega) (s1.alloc _) (by omega) hv).mono ?_
    rintro e w14 ⟨A14, c14, D14, d14, M14, rfl, o14, p14, ma14, mb14, hb14⟩
    clear cP_0 cP_1 cP_2 lP cQ_0 cQ_1 cQ_2 cQ_3 lQ cS_0 cS_1 cS_2 cS_3 lS
    have z14 := hb14.size
    (try simp at z14)
    replace o14 := o14.mono (B' := w13.heap.size + 1) (T' := M14) (by simp) (Nat.le_refl _)
    replace r1 := r1.via hb14 (by (repeat (first | (with_reducible assumption) | (with_reducible exact Below.refl _ _) | (with_reducible refine Below.setCell ?_ (by first | (simp; done) | (simp; omega) | omega) _) | (with_reducible refine Below.alloc ?_ (by first | (simp; done) | (simp; omega) | omega) _) | (with_reducible refine Below.drew ?_) | (with_reducible refine Below.drewN ?_ _))))
    replace s1 := s1.via hb14 (by (repeat (first | (with_reducible assumption) | (with_reducible exact Below.refl _ _) | (with_reducible refine Below.setCell ?_ (by first | (simp; done) | (simp; omega) | omega) _) | (with_reducible refine Below.alloc ?_ (by first | (simp; done) | (simp; omega) | omega) _) | (with_reducible refine Below.drew ?_) | (with_reducible refine Below.drewN ?_ _))))
    replace o13 := o13.via hb14 (by (repeat (first | (with_reducible assumption) | (with_reducible exact Below.refl _ _) | (with_reducible refine Below.setCell ?_ (by first | (simp; done) | (simp; omega) | omega) _) | (with_reducible refine Below.alloc ?_ (by first | (simp; done) | (simp; omega) | omega) _) | (with_reducible refine Below.drew ?_) | (with_reducible refine Below.drewN ?_ _))))
    replace p13 := p13.via hb14 (by (repeat (first | (with_reducible assumption) | (with_reducible exact Below.refl _ _) | (with_reducible refine Below.setCell ?_ (by first | (simp; done) | (simp; omega) | omega) _) | (with_reducible refine Below.alloc ?_ (by first | (simp; done) | (simp; omega) | omega) _) | (with_reducible refine Below.drew ?_) | (with_reducible refine Below.drewN ?_ _))))
    replace TP := TP.via hb14 (by (repeat (first | (with_reducible assumption) | (with_reducible exact Below.refl _ _) | (with_reducible refine Below.setCell ?_ (by first | (simp; done) | (simp; omega) | omega) _) | (with_reducible refine Below.alloc ?_ (by first | (simp; done) | (simp; omega) | omega) _) | (with_reducible refine Below.drew ?_) | (with_reducible refine Below.drewN ?_ _))))
    replace TQ := TQ.via hb14 (by (repeat (first | (with_reducible assumption) | (with_reducible exact Below.refl _ _) | (with_reducible refine Below.setCell ?_ (by first | (simp; done) | (simp; omega) | omega) _) | (with_reducible refine Below.alloc ?_ (by first | (simp; done) | (simp; omega) | omega) _) | (with_reducible refine Below.drew ?_) | (with_reducible refine Below.drewN ?_ _))))
    replace TS := TS.via hb14 (by (repeat (first | (with_reducible assumption) | (with_reducible exact Below.refl _ _) | (with_reducible refine Below.setCell ?_ (by first | (simp; done) | (simp; omega) | omega) _) | (with_reducible refine Below.alloc ?_ (by first | (simp; done) | (simp; omega) | omega) _) | (with_reducible refine Below.drew ?_) | (with_reducible refine Below.drewN ?_ _))))
    replace TV := TV.via hb14 (by (repeat (first | (with_reducible assumption) | (with_reducible exact Below.refl _ _) | (with_reducible refine Below.setCell ?_ (by first | (simp; done) | (simp; omega) | omega) _) | (with_reducible refine Below.alloc ?_ (by first | (simp; done) | (simp; omega) | omega) _) | (with_reducible refine Below.drew ?_) | (with_reducible refine Below.drewN ?_ _))))
    replace hB := Below.via (by (repeat (first | (with_reducible assumption) | (with_reducible exact Below.refl _ _) | (with_reducible refine Below.setCell ?_ (by first | (simp; done) | (simp; omega) | omega) _) | (with_reducible refine Below.alloc ?_ (by first | (simp; done) | (simp; omega) | omega) _) | (with_reducible refine Below.drew ?_) | (with_reducible refine Below.drewN ?_ _))) : Below w.heap.size w _) hb14
    clear hb14
    have cP_0 := TP.cell 0 rfl
    have cP_1 := TP.cell 1 rfl
    have cP_2 := TP.cell 2 rfl
    have lP := TP.lt
    have cQ_0 := TQ.cell 0 rfl
    have cQ_1 := TQ.cell 1 rfl
    have cQ_2 := TQ.cell 2 rfl
    have cQ_3 := TQ.cell 3 rfl
    have lQ := TQ.lt
    have cS_0 := TS.cell 0 rfl
    have cS_1 := TS.cell 1 rfl
    have cS_2 := TS.cell 2 rfl
    have cS_3 := TS.cell 3 rfl
    have lS := TS.lt
    have cV_0 := TV.cell 0 rfl
    have cV_1 := TV.cell 1 rfl
    have cV_2 := TV.cell 2 rfl
    have lV := TV.lt
    (try simp at ma14)
    have TR := Blk.newAt (w := w14) (n := w14.heap.size) 30 #[.int .i64 (0), .slice A14 0 c14, .slice D14 0 d14] (by simp)
    go_wp2_with fail
    refine (sameMessage_same _ _ _ _ _ _ _ _ _ _ _ _ _ _ _ _ _ _ _ [] [] _ (o13.alloc _).rd (by simp) (p13.alloc _).rd (by simp) (o14.alloc _).rd (p14.alloc _).rd).mono ?_
    rintro e w15 ⟨rfl, hb15⟩
    clear cP_0 cP_1 cP_2 lP cQ_0 cQ_1 cQ_2 cQ_3 lQ cS_0 cS_1 cS_2 cS_3 lS cV_0 cV_1 cV_2 lV
    have z15 := hb15.size
    (try simp at z15)
    replace r1 := r1.via hb15 (by (repeat (first | (with_reducible assumption) | (with_reducible exact Below.refl _ _) | (with_reducible refine Below.setCell ?_ (by first | (simp; done) | (simp; omega) | omega) _) | (with_reducible refine Below.alloc ?_ (by first | (simp; done) | (simp; omega) | omega) _) | (with_reducible refine Below.drew ?_) | (with_reducible refine Below.drewN ?_ _))))
    replace s1 := s1.via hb15 (by (repeat (first | (with_reducible assumption) | (with_reducible exact Below.refl _ _) | (with_reducible refine Below.setCell ?_ (by first | (simp; done) | (simp; omega) | omega) _) | (with_reducible refine Below.alloc ?_ (by first | (simp; done) | (simp; omega) | omega) _) | (with_reducible refine Below.drew ?_) | (with_reducible refine Below.drewN ?_ _))))
    replace o13 := o13.via hb15 (by (repeat (first | (with_reducible assumption) | (with_reducible exact Below.refl _ _) | (with_reducible refine Below.setCell ?_ (by first | (simp; done) | (simp; omega) | omega) _) | (with_reducible refine Below.alloc ?_ (by first | (simp; done) | (simp; omega) | omega) _) | (with_reducible refine Below.drew ?_) | (with_reducible refine Below.drewN ?_ _))))
    replace p13 := p13.via hb15 (by (repeat (first | (with_reducible assumption) | (with_reducible exact Below.refl _ _) | (with_reducible refine Below.setCell ?_ (by first | (simp; done) | (simp; omega) | omega) _) | (with_reducible refine Below.alloc ?_ (by first | (simp; done) | (simp; omega) | omega) _) | (with_reducible refine Below.drew ?_) | (with_reducible refine Below.drewN ?_ _))))
    replace o14 := o14.via hb15 (by (repeat (first | (with_reducible assumption) | (with_reducible exact Below.refl _ _) | (with_reducible refine Below.setCell ?_ (by first | (simp; done) | (simp; omega) | omega) _) | (with_reducible refine Below.alloc ?_ (by first | (simp; done) | (simp; omega) | omega) _) | (with_reducible refine Below.drew ?_) | (with_reducible refine Below.drewN ?_ _))))
    replace p14 := p14.via hb15 (by (repeat (first | (with_reducible assumption) | (with_reducible exact Below.refl _ _) | (with_reducible refine Below.setCell ?_ (by first | (simp; done) | (simp; omega) | omega) _) | (with_reducible refine Below.alloc ?_ (by first | (simp; done) | (simp; omega) | omega) _) | (with_reducible refine Below.drew ?_) | (with_reducible refine Below.drewN ?_ _))))
    replace TP := TP.via hb15 (by (repeat (first | (with_reducible assumption) | (with_reducible exact Below.refl _ _) | (with_reducible refine Below.setCell ?_ (by first | (simp; done) | (simp; omega) | omega) _) | (with_reducible refine Below.alloc ?_ (by first | (simp; done) | (simp; omega) | omega) _) | (with_reducible refine Below.drew ?_) | (with_reducible refine Below.drewN ?_ _))))
    replace TQ := TQ.via hb15 (by (repeat (first | (with_reducible assumption) | (with_reducible exact Below.refl _ _) | (with_reducible refine Below.setCell ?_ (by first | (simp; done) | (simp; omega) | omega) _) | (with_reducible refine Below.alloc ?_ (by first | (simp; done) | (simp; omega) | omega) _) | (with_reducible refine Below.drew ?_) | (with_reducible refine Below.drewN ?_ _))))
    replace TS := TS.via hb15 (by (repeat (first | (with_reducible assumption) | (with_reducible exact Below.refl _ _) | (with_reducible refine Below.setCell ?_ (by first | (simp; done) | (simp; omega) | omega) _) | (with_reducible refine Below.alloc ?_ (by first | (simp; done) | (simp; omega) | omega) _) | (with_reducible refine Below.drew ?_) | (with_reducible refine Below.drewN ?_ _))))
    replace TV := TV.via hb15 (by (repeat (first | (with_reducible assumption) | (with_reducible exact Below.refl _ _) | (with_reducible refine Below.setCell ?_ (by first | (simp; done) | (simp; omega) | omega) _) | (with_reducible refine Below.alloc ?_ (by first | (simp; done) | (simp; omega) | omega) _) | (with_reducible refine Below.drew ?_) | (with_reducible refine Below.drewN ?_ _))))
    replace TR := TR.via hb15 (by (repeat (first | (with_reducible assumption) | (with_reducible exact Below.refl _ _) | (with_reducible refine Below.setCell ?_ (by first | (simp; done) | (simp; omega) | omega) _) | (with_reducible refine Below.alloc ?_ (by first | (simp; done) | (simp; omega) | omega) _) | (with_reducible refine Below.drew ?_) | (with_reducible refine Below.drewN ?_ _))))
    replace hB := Below.via (by (repeat (first | (with_reducible assumption) | (with_reducible exact Below.refl _ _) | (with_reducible refine Below.setCell ?_ (by first | (simp; done) | (simp; omega) | omega) _) | (with_reducible refine Below.alloc ?_ (by first | (simp; done) | (simp; omega) | omega) _) | (with_reducible refine Below.drew ?_) | (with_reducible refine Below.drewN ?_ _))) : Below w.heap.size w _) hb15
    clear hb15
    have cP_0 := TP.cell 0 rfl
    have cP_1 := TP.cell 1 rfl
    have cP_2 := TP.cell 2 rfl
    have lP := TP.lt
    have cQ_0 := TQ.cell 0 rfl
    have cQ_1 := TQ.cell 1 rfl
    have cQ_2 := TQ.cell 2 rfl
    have cQ_3 := TQ.cell 3 rfl
    have lQ := TQ.lt
    have cS_0 := TS.cell 0 rfl
    have cS_1 := TS.cell 1 rfl
    have cS_2 := TS.cell 2 rfl
    have cS_3 := TS.cell 3 rfl
    have lS := TS.lt
    have cV_0 := TV.cell 0 rfl
    have cV_1 := TV.cell 1 rfl
    have cV_2 := TV.cell 2 rfl
    have lV := TV.lt
    have cR_0 := TR.cell 0 rfl
    have cR_1 := TR.cell 1 rfl
    have cR_2 := TR.cell 2 rfl
    have lR := TR.lt
    go_wp2_with fail
    refine (iSend_some (xs := []) (cs := []) (o13.rd.here Nat.one_pos) (by simp) (p13.rd.here (by omega)) (by simp)).mono ?_
    rintro e w16 ⟨A7, c7, D7, d7, l7, n7, m7, ok7, rfl, hb16⟩
    clear cP_0 cP_1 cP_2 lP cQ_0 cQ_1 cQ_2 cQ_3 lQ cS_0 cS_1 cS_2 cS_3 lS cV_0 cV_1 cV_2 lV cR_0 cR_1 cR_2 lR
    have z16 := hb16.size
    (try simp at z16)
    replace r1 := r1.via hb16 (by (repeat (first | (with_reducible assumption) | (with_reducible exact Below.refl _ _) | (with_reducible refine Below.setCell ?_ (by first | (simp; done) | (simp; omega) | omega) _) | (with_reducible refine Below.alloc ?_ (by first | (simp; done) | (simp; omega) | omega) _) | (with_reducible refine Below.drew ?_) | (with_reducible refine Below.drewN ?_ _))))
    replace s1 := s1.via hb16 (by (repeat (first | (with_reducible assumption) | (with_reducible exact Below.refl _ _) | (with_reducible refine Below.setCell ?_ (by first | (simp; done) | (simp; omega) | omega) _) | (with_reducible refine Below.alloc ?_ (by first | (simp; done) | (simp; omega) | omega) _) | (with_reducible refine Below.drew ?_) | (with_reducible refine Below.drewN ?_ _))))
    replace o13 := o13.via hb16 (by (repeat (first | (with_reducible assumption) | (with_reducible exact Below.refl _ _) | (with_reducible refine Below.setCell ?_ (by first | (simp; done) | (simp; omega) | omega) _) | (with_reducible refine Below.alloc ?_ (by first | (simp; done) | (simp; omega) | omega) _) | (with_reducible refine Below.drew ?_) | (with_reducible refine Below.drewN ?_ _))))
    replace p13 := p13.via hb16 (by (repeat (first | (with_reducible assumption) | (with_reducible exact Below.refl _ _) | (with_reducible refine Below.setCell ?_ (by first | (simp; done) | (simp; omega) | omega) _) | (with_reducible refine Below.alloc ?_ (by first | (simp; done) | (simp; omega) | omega) _) | (with_reducible refine Below.drew ?_) | (with_reducible refine Below.drewN ?_ _))))
    replace o14 := o14.via hb16 (by (repeat (first | (with_reducible assumption) | (with_reducible exact Below.refl _ _) | (with_reducible refine Below.setCell ?_ (by first | (simp; done) | (simp; omega) | omega) _) | (with_reducible refine Below.alloc ?_ (by first | (simp; done) | (simp; omega) | omega) _) | (with_reducible refine Below.drew ?_) | (with_reducible refine Below.drewN ?_ _))))
    replace p14 := p14.via hb16 (by (repeat (first | (with_reducible assumption) | (with_reducible exact Below.refl _ _) | (with_reducible refine Below.setCell ?_ (by first | (simp; done) | (simp; omega) | omega) _) | (with_reducible refine Below.alloc ?_ (by first | (simp; done) | (simp; omega) | omega) _) | (with_reducible refine Below.drew ?_) | (with_reducible refine Below.drewN ?_ _))))
    replace TP := TP.via hb16 (by (repeat (first | (with_reducible assumption) | (with_reducible exact Below.refl _ _) | (with_reducible refine Below.setCell ?_ (by first | (simp; done) | (simp; omega) | omega) _) | (with_reducible refine Below.alloc ?_ (by first | (simp; done) | (simp; omega) | omega) _) | (with_reducible refine Below.drew ?_) | (with_reducible refine Below.drewN ?_ _))))
    replace TQ := TQ.via hb16 (by (repeat (first | (with_reducible assumption) | (with_reducible exact Below.refl _ _) | (with_reducible refine Below.setCell ?_ (by first | (simp; done) | (simp; omega) | omega) _) | (with_reducible refine Below.alloc ?_ (by first | (simp; done) | (simp; omega) | omega) _) | (with_reducible refine Below.drew ?_) | (with_reducible refine Below.drewN ?_ _))))
    replace TS := TS.via hb16 (by (repeat (first | (with_reducible assumption) | (with_reducible exact Below.refl _ _) | (with_reducible refine Below.setCell ?_ (by first | (simp; done) | (simp; omega) | omega) _) | (with_reducible refine Below.alloc ?_ (by first | (simp; done) | (simp; omega) | omega) _) | (with_reducible refine Below.drew ?_) | (with_reducible refine Below.drewN ?_ _))))
    replace TV := TV.via hb16 (by (repeat (first | (with_reducible assumption) | (with_reducible exact Below.refl _ _) | (with_reducible refine Below.setCell ?_ (by first | (simp; done) | (simp; omega) | omega) _) | (with_reducible refine Below.alloc ?_ (by first | (simp; done) | (simp; omega) | omega) _) | (with_reducible refine Below.drew ?_) | (with_reducible refine Below.drewN ?_ _))))
    replace TR := TR.via hb16 (by (repeat (first | (with_reducible assumption) | (with_reducible exact Below.refl _ _) | (with_reducible refine Below.setCell ?_ (by first | (simp; done) | (simp; omega) | omega) _) | (with_reducible refine Below.alloc ?_ (by first | (simp; done) | (simp; omega) | omega) _) | (with_reducible refine Below.drew ?_) | (with_reducible refine Below.drewN ?_ _))))
    replace hB := Below.via (by (repeat (first | (with_reducible assumption) | (with_reducible exact Below.refl _ _) | (with_reducible refine Below.setCell ?_ (by first | (simp; done) | (simp; omega) | omega) _) | (with_reducible refine Below.alloc ?_ (by first | (simp; done) | (simp; omega) | omega) _) | (with_reducible refine Below.drew ?_) | (with_reducible refine Below.drewN ?_ _))) : Below w.heap.size w _) hb16
    clear hb16
    have cP_0 := TP.cell 0 rfl
    have cP_1 := TP.cell 1 rfl
    have cP_2 := TP.cell 2 rfl
    have lP := TP.lt
    have cQ_0 := TQ.cell 0 rfl
    have cQ_1 := TQ.cell 1 rfl
    have cQ_2 := TQ.cell 2 rfl
    have cQ_3 := TQ.cell 3 rfl
    have lQ := TQ.lt
    have cS_0 := TS.cell 0 rfl
    have cS_1 := TS.cell 1 rfl
    have cS_2 := TS.cell 2 rfl
    have cS_3 := TS.cell 3 rfl
    have lS := TS.lt
    have cV_0 := TV.cell 0 rfl
    have cV_1 := TV.cell 1 rfl
    have cV_2 := TV.cell 2 rfl
    have lV := TV.lt
    have cR_0 := TR.cell 0 rfl
    have cR_1 := TR.cell 1 rfl
    have cR_2 := TR.cell 2 rfl
    have lR := TR.lt
    go_wp2_with fail
    refine (alive_any _).mono ?_
    rintro e w17 ⟨rfl, hb17⟩
    clear cP_0 cP_1 cP_2 lP cQ_0 cQ_1 cQ_2 cQ_3 lQ cS_0 cS_1 cS_2 cS_3 lS cV_0 cV_1 cV_2 lV cR_0 cR_1 cR_2 lR
    have z17 := hb17.size
    (try simp at z17)
    replace r1 := r1.via hb17 (by (repeat (first | (with_reducible assumption) | (with_reducible exact Below.refl _ _) | (with_reducible refine Below.setCell ?_ (by first | (simp; done) | (simp; omega) | omega) _) | (with_reducible refine Below.alloc ?_ (by first | (simp; done) | (simp; omega) | omega) _) | (with_reducible refine Below.drew ?_) | (with_reducible refine Below.drewN ?_ _))))
    replace s1 := s1.via hb17 (by (repeat (first | (with_reducible assumption) | (with_reducible exact Below.refl _ _) | (with_reducible refine Below.setCell ?_ (by first | (simp; done) | (simp; omega) | omega) _) | (with_reducible refine Below.alloc ?_ (by first | (simp; done) | (simp; omega) | omega) _) | (with_reducible refine Below.drew ?_) | (with_reducible refine Below.drewN ?_ _))))
    replace o13 := o13.via hb17 (by (repeat (first | (with_reducible assumption) | (with_reducible exact Below.refl _ _) | (with_reducible refine Below.setCell ?_ (by first | (simp; done) | (simp; omega) | omega) _) | (with_reducible refine Below.alloc ?_ (by first | (simp; done) | (simp; omega) | omega) _) | (with_reducible refine Below.drew ?_) | (with_reducible refine Below.drewN ?_ _))))
    replace p13 := p13.via hb17 (by (repeat (first | (with_reducible assumption) | (with_reducible exact Below.refl _ _) | (with_reducible refine Below.setCell ?_ (by first | (simp; done) | (simp; omega) | omega) _) | (with_reducible refine Below.alloc ?_ (by first | (simp; done) | (simp; omega) | omega) _) | (with_reducible refine Below.drew ?_) | (with_reducible refine Below.drewN ?_ _))))
    replace o14 := o14.via hb17 (by (repeat (first | (with_reducible assumption) | (with_reducible exact Below.refl _ _) | (with_reducible refine Below.setCell ?_ (by first | (simp; done) | (simp; omega) | omega) _) | (with_reducible refine Below.alloc ?_ (by first | (simp; done) | (simp; omega) | omega) _) | (with_reducible refine Below.drew ?_) | (with_reducible refine Below.drewN ?_ _))))
    replace p14 := p14.via hb17 (by (repeat (first | (with_reducible assumption) | (with_reducible exact Below.refl _ _) | (with_reducible refine Below.setCell ?_ (by first | (simp; done) | (simp; omega) | omega) _) | (with_reducible refine Below.alloc ?_ (by first | (simp; done) | (simp; omega) | omega) _) | (with_reducible refine Below.drew ?_) | (with_reducible refine Below.drewN ?_ _))))
    replace TP := TP.via hb17 (by (repeat (first | (with_reducible assumption) | (with_reducible exact Below.refl _ _) | (with_reducible refine Below.setCell ?_ (by first | (simp; done) | (simp; omega) | omega) _) | (with_reducible refine Below.alloc ?_ (by first | (simp; done) | (simp; omega) | omega) _) | (with_reducible refine Below.drew ?_) | (with_reducible refine Below.drewN ?_ _))))
    replace TQ := TQ.via hb17 (by (repeat (first | (with_reducible assumption) | (with_reducible exact Below.refl _ _) | (with_reducible refine Below.setCell ?_ (by first | (simp; done) | (simp; omega) | omega) _) | (with_reducible refine Below.alloc ?_ (by first | (simp; done) | (simp; omega) | omega) _) | (with_reducible refine Below.drew ?_) | (with_reducible refine Below.drewN ?_ _))))
    replace TS := TS.via hb17 (by (repeat (first | (with_reducible assumption) | (with_reducible exact Below.refl _ _) | (with_reducible refine Below.setCell ?_ (by first | (simp; done) | (simp; omega) | omega) _) | (with_reducible refine Below.alloc ?_ (by first | (simp; done) | (simp; omega) | omega) _) | (with_reducible refine Below.drew ?_) | (with_reducible refine Below.drewN ?_ _))))
    replace TV := TV.via hb17 (by (repeat (first | (with_reducible assumption) | (with_reducible exact Below.refl _ _) | (with_reducible refine Below.setCell ?_ (by first | (simp; done) | (simp; omega) | omega) _) | (with_reducible refine Below.alloc ?_ (by first | (simp; done) | (simp; omega) | omega) _) | (with_reducible refine Below.drew ?_) | (with_reducible refine Below.drewN ?_ _))))
    replace TR := TR.via hb17 (by (repeat (first | (with_reducible assumption) | (with_reducible exact Below.refl _ _) | (with_reducible refine Below.setCell ?_ (by first | (simp; done) | (simp; omega) | omega) _) | (with_reducible refine Below.alloc ?_ (by first | (simp; done) | (simp; omega) | omega) _) | (with_reducible refine Below.drew ?_) | (with_reducible refine Below.drewN ?_ _))))
    replace hB := Below.via (by (repeat (first | (with_reducible assumption) | (with_reducible exact Below.refl _ _) | (with_reducible refine Below.setCell ?_ (by first | (simp; done) | (simp; omega) | omega) _) | (with_reducible refine Below.alloc ?_ (by first | (simp; done) | (simp; omega) | omega) _) | (with_reducible refine Below.drew ?_) | (with_reducible refine Below.drewN ?_ _))) : Below w.heap.size w _) hb17
    clear hb17
    have cP_0 := TP.cell 0 rfl
    have cP_1 := TP.cell 1 rfl
    have cP_2 := TP.cell 2 rfl
    have lP := TP.lt
    have cQ_0 := TQ.cell 0 rfl
    have cQ_1 := TQ.cell 1 rfl
    have cQ_2 := TQ.cell 2 rfl
    have cQ_3 := TQ.cell 3 rfl
    have lQ := TQ.lt
    have cS_0 := TS.cell 0 rfl
    have cS_1 := TS.cell 1 rfl
    have cS_2 := TS.cell 2 rfl
    have cS_3 := TS.cell 3 rfl
    have lS := TS.lt
    have cV_0 := TV.cell 0 rfl
    have cV_1 := TV.cell 1 rfl
    have cV_2 := TV.cell 2 rfl
    have lV := TV.lt
    have cR_0 := TR.cell 0 rfl
    have cR_1 := TR.cell 1 rfl
    have cR_2 := TR.cell 2 rfl
    have lR := TR.lt
    go_wp2
    go_ret
    exact ⟨rfl, by (repeat (first | (with_reducible assumption) | (with_reducible exact Below.refl _ _) | (with_reducible refine Below.setCell ?_ (by first | (simp; done) | (simp; omega) | omega) _) | (with_reducible refine Below.alloc ?_ (by first | (simp; done) | (simp; omega) | omega) _) | (with_reducible refine Below.drew ?_) | (with_reducible refine Below.drewN ?_ _)))⟩
  · skip
    obtain ⟨ds, hds⟩ : ∃ ds, sendC l xs cs ka oa ra ba = ds := ⟨_, rfl⟩
    obtain ⟨hok, hra0, hra15, -⟩ := send_parts hv
    have hsub : Sub ra cs ds := hds ▸ sub_send
    have hle := sendC_le (l := l) (xs := xs) (cs := cs) (k := ka) (o := oa) (r := ra) (b := ba)
    rw [hds] at hle
    obtain ⟨q1, hq1⟩ : ∃ q1, ds.length = q1 := ⟨_, rfl⟩
    rw [hq1] at hle
    rw [HM.out] at hle
    have HU := Lib.hid (And.intro hok hsub)
    have HD := Lib.hid hds
    have HQ := Lib.hid hq1
    clear hds hok hsub hq1
    go_wp2_with fail
    refine (iSend_yes ((r1.alloc _).alloc _) (by omega) ((s1.alloc _).alloc _) (by omega) hv HD.out).mono ?_
    rintro e w13 ⟨A13, c13, D13, d13, M13, rfl, o13, p13, ma13, mb13, hb13⟩
    clear cP_0 cP_1 cP_2 lP cQ_0 cQ_1 cQ_2 cQ_3 lQ
    have z13 := hb13.size
    (try simp at z13)
    replace o13 := o13.mono (B' := w12.heap.size + 1 + 1) (T' := M13) (by simp) (Nat.le_refl _)
    replace r1 := r1.via hb13 (by (repeat (first | (with_reducible assumption) | (with_reducible exact Below.refl _ _) | (with_reducible refine Below.setCell ?_ (by first | (simp; done) | (simp; omega) | omega) _) | (with_reducible refine Below.alloc ?_ (by first | (simp; done) | (simp; omega) | omega) _) | (with_reducible refine Below.drew ?_) | (with_reducible refine Below.drewN ?_ _))))
    replace s1 := s1.via hb13 (by (repeat (first | (with_reducible assumption) | (with_reducible exact Below.refl _ _) | (with_reducible refine Below.setCell ?_ (by first | (simp; done) | (simp; omega) | omega) _) | (with_reducible refine Below.alloc ?_ (by first | (simp; done) | (simp; omega) | omega) _) | (with_reducible refine Below.drew ?_) | (with_reducible refine Below.drewN ?_ _))))
    replace TP := TP.via hb13 (by (repeat (first | (with_reducible assumption) | (with_reducible exact Below.refl _ _) | (with_reducible refine Below.setCell ?_ (by first | (simp; done) | (simp; omega) | omega) _) | (with_reducible refine Below.alloc ?_ (by first | (simp; done) | (simp; omega) | omega) _) | (with_reducible refine Below.drew ?_) | (with_reducible refine Below.drewN ?_ _))))
    replace TQ := TQ.via hb13 (by (repeat (first | (with_reducible assumption) | (with_reducible exact Below.refl _ _) | (with_reducible refine Below.setCell ?_ (by first | (simp; done) | (simp; omega) | omega) _) | (with_reducible refine Below.alloc ?_ (by first | (simp; done) | (simp; omega) | omega) _) | (with_reducible refine Below.drew ?_) | (with_reducible refine Below.drewN ?_ _))))
    replace TS := TS.via hb13 (by (repeat (first | (with_reducible assumption) | (with_reducible exact Below.refl _ _) | (with_reducible refine Below.setCell ?_ (by first | (simp; done) | (simp; omega) | omega) _) | (with_reducible refine Below.alloc ?_ (by first | (simp; done) | (simp; omega) | omega) _) | (with_reducible refine Below.drew ?_) | (with_reducible refine Below.drewN ?_ _))))
    replace hB := Below.via (by (repeat (first | (with_reducible assumption) | (with_reducible exact Below.refl _ _) | (with_reducible refine Below.setCell ?_ (by first | (simp; done) | (simp; omega) | omega) _) | (with_reducible refine Below.alloc ?_ (by first | (simp; done) | (simp; omega) | omega) _) | (with_reducible refine Below.drew ?_) | (with_reducible refine Below.drewN ?_ _))) : Below w.heap.size w _) hb13
    clear hb13
    have cP_0 := TP.cell 0 rfl
    have cP_1 := TP.cell 1 rfl
    have cP_2 := TP.cell 2 rfl
    have lP := TP.lt
    have cQ_0 := TQ.cell 0 rfl
    have cQ_1 := TQ.cell 1 rfl
    have cQ_2 := TQ.cell 2 rfl
    have cQ_3 := TQ.cell 3 rfl
    have lQ := TQ.lt
    have cS_0 := TS.cell 0 rfl
    have cS_1 := TS.cell 1 rfl
    have cS_2 := TS.cell 2 rfl
    have cS_3 := TS.cell 3 rfl
    have lS := TS.lt
    rw [HN.out] at o13 ⊢
    rw [HQ.out] at p13 ⊢
    (try simp at ma13)
    have TV := Blk.newAt (w := w13) (n := w13.heap.size) 30 #[.int .i64 (l), .slice A13 n1 c13, .slice D13 q1 d13] (by simp)
    go_wp2_with fail
    refine (sSend_yes (r1.alloc _) (by omega) (s1.alloc _) (by omega) hv HD.out).mono ?_
    rintro e w14 ⟨A14, c14, D14, d14, M14, rfl, o14, p14, ma14, mb14, hb14⟩
    clear cP_0 cP_1 cP_2 lP cQ_0 cQ_1 cQ_2 cQ_3 lQ cS_0 cS_1 cS_2 cS_3 lS
    have z14 := hb14.size
    (try simp at z14)
    replace o14 := o14.mono (B' := w13.heap.size + 1) (T' := M14) (by simp) (Nat.le_refl _)
    replace r1 := r1.via hb14 (by (repeat (first | (with_reducible assumption) | (with_reducible exact Below.refl _ _) | (with_reducible refine Below.setCell ?_ (by first | (simp; done) | (simp; omega) | omega) _) | (with_reducible refine Below.alloc ?_ (by first | (simp; done) | (simp; omega) | omega) _) | (with_reducible refine Below.drew ?_) | (with_reducible refine Below.drewN ?_ _))))
    replace s1 := s1.via hb14 (by (repeat (first | (with_reducible assumption) | (with_reducible exact Below.refl _ _) | (with_reducible refine Below.setCell ?_ (by first | (simp; done) | (simp; omega) | omega) _) | (with_reducible refine Below.alloc ?_ (by first | (simp; done) | (simp; omega) | omega) _) | (with_reducible refine Below.drew ?_) | (with_reducible refine Below.drewN ?_ _))))
    replace o13 := o13.via hb14 (by (repeat (first | (with_reducible assumption) | (with_reducible exact Below.refl _ _) | (with_reducible refine Below.setCell ?_ (by first | (simp; done) | (simp; omega) | omega) _) | (with_reducible refine Below.alloc ?_ (by first | (simp; done) | (simp; omega) | omega) _) | (with_reducible refine Below.drew ?_) | (with_reducible refine Below.drewN ?_ _))))
    replace p13 := p13.via hb14 (by (repeat (first | (with_reducible assumption) | (with_reducible exact Below.refl _ _) | (with_reducible refine Below.setCell ?_ (by first | (simp; done) | (simp; omega) | omega) _) | (with_reducible refine Below.alloc ?_ (by first | (simp; done) | (simp; omega) | omega) _) | (with_reducible refine Below.drew ?_) | (with_reducible refine Below.drewN ?_ _))))
    replace TP := TP.via hb14 (by (repeat (first | (with_reducible assumption) | (with_reducible exact Below.refl _ _) | (with_reducible refine Below.setCell ?_ (by first | (simp; done) | (simp; omega) | omega) _) | (with_reducible refine Below.alloc ?_ (by first | (simp; done) | (simp; omega) | omega) _) | (with_reducible refine Below.drew ?_) | (with_reducible refine Below.drewN ?_ _))))
    replace TQ := TQ.via hb14 (by (repeat (first | (with_reducible assumption) | (with_reducible exact Below.refl _ _) | (with_reducible refine Below.setCell ?_ (by first | (simp; done) | (simp; omega) | omega) _) | (with_reducible refine Below.alloc ?_ (by first | (simp; done) | (simp; omega) | omega) _) | (with_reducible refine Below.drew ?_) | (with_reducible refine Below.drewN ?_ _))))
    replace TS := TS.via hb14 (by (repeat (first | (with_reducible assumption) | (with_reducible exact Below.refl _ _) | (with_reducible refine Below.setCell ?_ (by first | (simp; done) | (simp; omega) | omega) _) | (with_reducible refine Below.alloc ?_ (by first | (simp; done) | (simp; omega) | omega) _) | (with_reducible refine Below.drew ?_) | (with_reducible refine Below.drewN ?_ _))))
    replace TV := TV.via hb14 (by (repeat (first | (with_reducible assumption) | (with_reducible exact Below.refl _ _) | (with_reducible refine Below.setCell ?_ (by first | (simp; done) | (simp; omega) | omega) _) | (with_reducible refine Below.alloc ?_ (by first | (simp; done) | (simp; omega) | omega) _) | (with_reducible refine Below.drew ?_) | (with_reducible refine Below.drewN ?_ _))))
    replace hB := Below.via (by (repeat (first | (with_reducible assumption) | (with_reducible exact Below.refl _ _) | (with_reducible refine Below.setCell ?_ (by first | (simp; done) | (simp; omega) | omega) _) | (with_reducible refine Below.alloc ?_ (by first | (simp; done) | (simp; omega) | omega) _) | (with_reducible refine Below.drew ?_) | (with_reducible refine Below.drewN ?_ _))) : Below w.heap.size w _) hb14
    clear hb14
    have cP_0 := TP.cell 0 rfl
    have cP_1 := TP.cell 1 rfl
    have cP_2 := TP.cell 2 rfl
    have lP := TP.lt
    have cQ_0 := TQ.cell 0 rfl
    have cQ_1 := TQ.cell 1 rfl
    have cQ_2 := TQ.cell 2 rfl
    have cQ_3 := TQ.cell 3 rfl
    have lQ := TQ.lt
    have cS_0 := TS.cell 0 rfl
    have cS_1 := TS.cell 1 rfl
    have cS_2 := TS.cell 2 rfl
    have cS_3 := TS.cell 3 rfl
    have lS := TS.lt
    have cV_0 := TV.cell 0 rfl
    have cV_1 := TV.cell 1 rfl
    have cV_2 := TV.cell 2 rfl
    have lV := TV.lt
    rw [HN.out] at o14 ⊢
    rw [HQ.out] at p14 ⊢
    (try simp at ma14)
    have TR := Blk.newAt (w := w14) (n := w14.heap.size) 30 #[.int .i64 (l), .slice A14 n1 c14, .slice D14 q1 d14] (by simp)
    go_wp2_with fail
    refine (sameMessage_same _ _ _ _ _ _ _ _ _ _ _ _ _ _ _ _ _ _ _ xs ds _ (o13.alloc _).rd (by omega) (p13.alloc _).rd (by omega) (o14.alloc _).rd (p14.alloc _).rd).mono ?_
    rintro e w15 ⟨rfl, hb15⟩
    clear cP_0 cP_1 cP_2 lP cQ_0 cQ_1 cQ_2 cQ_3 lQ cS_0 cS_1 cS_2 cS_3 lS cV_0 cV_1 cV_2 lV
    have z15 := hb15.size
    (try simp at z15)
    replace r1 := r1.via hb15 (by (repeat (first | (with_reducible assumption) | (with_reducible exact Below.refl _ _) | (with_reducible refine Below.setCell ?_ (by first | (simp; done) | (simp; omega) | omega) _) | (with_reducible refine Below.alloc ?_ (by first | (simp; done) | (simp; omega) | omega) _) | (with_reducible refine Below.drew ?_) | (with_reducible refine Below.drewN ?_ _))))
    replace s1 := s1.via hb15 (by (repeat (first | (with_reducible assumption) | (with_reducible exact Below.refl _ _) | (with_reducible refine Below.setCell ?_ (by first | (simp; done) | (simp; omega) | omega) _) | (with_reducible refine Below.alloc ?_ (by first | (simp; done) | (simp; omega) | omega) _) | (with_reducible refine Below.drew ?_) | (with_reducible refine Below.drewN ?_ _))))
    replace o13 := o13.via hb15 (by (repeat (first | (with_reducible assumption) | (with_reducible exact Below.refl _ _) | (with_reducible refine Below.setCell ?_ (by first | (simp; done) | (simp; omega) | omega) _) | (with_reducible refine Below.alloc ?_ (by first | (simp; done) | (simp; omega) | omega) _) | (with_reducible refine Below.drew ?_) | (with_reducible refine Below.drewN ?_ _))))
    replace p13 := p13.via hb15 (by (repeat (first | (with_reducible assumption) | (with_reducible exact Below.refl _ _) | (with_reducible refine Below.setCell ?_ (by first | (simp; done) | (simp; omega) | omega) _) | (with_reducible refine Below.alloc ?_ (by first | (simp; done) | (simp; omega) | omega) _) | (with_reducible refine Below.drew ?_) | (with_reducible refine Below.drewN ?_ _))))
    replace o14 := o14.via hb15 (by (repeat (first | (with_reducible assumption) | (with_reducible exact Below.refl _ _) | (with_reducible refine Below.setCell ?_ (by first | (simp; done) | (simp; omega) | omega) _) | (with_reducible refine Below.alloc ?_ (by first | (simp; done) | (simp; omega) | omega) _) | (with_reducible refine Below.drew ?_) | (with_reducible refine Below.drewN ?_ _))))
    replace p14 := p14.via hb15 (by (repeat (first | (with_reducible assumption) | (with_reducible exact Below.refl _ _) | (with_reducible refine Below.setCell ?_ (by first | (simp; done) | (simp; omega) | omega) _) | (with_reducible refine Below.alloc ?_ (by first | (simp; done) | (simp; omega) | omega) _) | (with_reducible refine Below.drew ?_) | (with_reducible refine Below.drewN ?_ _))))
    replace TP := TP.via hb15 (by (repeat (first | (with_reducible assumption) | (with_reducible exact Below.refl _ _) | (with_reducible refine Below.setCell ?_ (by first | (simp; done) | (simp; omega) | omega) _) | (with_reducible refine Below.alloc ?_ (by first | (simp; done) | (simp; omega) | omega) _) | (with_reducible refine Below.drew ?_) | (with_reducible refine Below.drewN ?_ _))))
    replace TQ := TQ.via hb15 (by (repeat (first | (with_reducible assumption) | (with_reducible exact Below.refl _ _) | (with_reducible refine Below.setCell ?_ (by first | (simp; done) | (simp; omega) | omega) _) | (with_reducible refine Below.alloc ?_ (by first | (simp; done) | (simp; omega) | omega) _) | (with_reducible refine Below.drew ?_) | (with_reducible refine Below.drewN ?_ _))))
    replace TS := TS.via hb15 (by (repeat (first | (with_reducible assumption) | (with_reducible exact Below.refl _ _) | (with_reducible refine Below.setCell ?_ (by first | (simp; done) | (simp; omega) | omega) _) | (with_reducible refine Below.alloc ?_ (by first | (simp; done) | (simp; omega) | omega) _) | (with_reducible refine Below.drew ?_) | (with_reducible refine Below.drewN ?_ _))))
    replace TV := TV.via hb15 (by (repeat (first | (with_reducible assumption) | (with_reducible exact Below.refl _ _) | (with_reducible refine Below.setCell ?_ (by first | (simp; done) | (simp; omega) | omega) _) | (with_reducible refine Below.alloc ?_ (by first | (simp; done) | (simp; omega) | omega) _) | (with_reducible refine Below.drew ?_) | (with_reducible refine Below.drewN ?_ _))))
    replace TR := TR.via hb15 (by (repeat (first | (with_reducible assumption) | (with_reducible exact Below.refl _ _) | (with_reducible refine Below.setCell ?_ (by first | (simp; done) | (simp; omega) | omega) _) | (with_reducible refine Below.alloc ?_ (by first | (simp; done) | (simp; omega) | omega) _) | (with_reducible refine Below.drew ?_) | (with_reducible refine Below.drewN ?_ _))))
    replace hB := Below.via (by (repeat (first | (with_reducible assumption) | (with_reducible exact Below.refl _ _) | (with_reducible refine Below.setCell ?_ (by first | (simp; done) | (simp; omega) | omega) _) | (with_reducible refine Below.alloc ?_ (by first | (simp; done) | (simp; omega) | omega) _) | (with_reducible refine Below.drew ?_) | (with_reducible refine Below.drewN ?_ _))) : Below w.heap.size w _) hb15
    clear hb15
    have cP_0 := TP.cell 0 rfl
    have cP_1 := TP.cell 1 rfl
    have cP_2 := TP.cell 2 rfl
    have lP := TP.lt
    have cQ_0 := TQ.cell 0 rfl
    have cQ_1 := TQ.cell 1 rfl
    have cQ_2 := TQ.cell 2 rfl
    have cQ_3 := TQ.cell 3 rfl
    have lQ := TQ.lt
    have cS_0 := TS.cell 0 rfl
    have cS_1 := TS.cell 1 rfl
    have cS_2 := TS.cell 2 rfl
    have cS_3 := TS.cell 3 rfl
    have lS := TS.lt
    have cV_0 := TV.cell 0 rfl
    have cV_1 := TV.cell 1 rfl
    have cV_2 := TV.cell 2 rfl
    have lV := TV.lt
    have cR_0 := TR.cell 0 rfl
    have cR_1 := TR.cell 1 rfl
    have cR_2 := TR.cell 2 rfl
    have lR := TR.lt
    cases hv2 : sendOk l xs ds kb ob rb bb9
    · skip
      go_wp2_with fail
      refine (iSend_no (o13.rd.here Nat.one_pos) (by omega) (p13.rd.here (by omega)) (by omega) hv2).mono ?_
      rintro e w16 ⟨A7, c7, D7, d7, M7, rfl, o7, p7, ma7, mb7, hb16⟩
      clear cP_0 cP_1 cP_2 lP cQ_0 cQ_1 cQ_2 cQ_3 lQ cS_0 cS_1 cS_2 cS_3 lS cV_0 cV_1 cV_2 lV cR_0 cR_1 cR_2 lR
      have z16 := hb16.size
      (try simp at z16)
      replace r1 := r1.via hb16 (by (repeat (first | (with_reducible assumption) | (with_reducible exact Below.refl _ _) | (with_reducible refine Below.setCell ?_ (by first | (simp; done) | (simp; omega) | omega) _) | (with_reducible refine Below.alloc ?_ (by first | (simp; done) | (simp; omega) | omega) _) | (with_reducible refine Below.drew ?_) | (with_reducible refine Below.drewN ?_ _))))
      replace s1 := s1.via hb16 (by (repeat (first | (with_reducible assumption) | (with_reducible exact Below.refl _ _) | (with_reducible refine Below.setCell ?_ (by first | (simp; done) | (simp; omega) | omega) _) | (with_reducible refine Below.alloc ?_ (by first | (simp; done) | (simp; omega) | omega) _) | (with_reducible refine Below.drew ?_) | (with_reducible refine Below.drewN ?_ _))))
      replace o13 := o13.via hb16 (by (repeat (first | (with_reducible assumption) | (with_reducible exact Below.refl _ _) | (with_reducible refine Below.setCell ?_ (by first | (simp; done) | (simp; omega) | omega) _) | (with_reducible refine Below.alloc ?_ (by first | (simp; done) | (simp; omega) | omega) _) | (with_reducible refine Below.drew ?_) | (with_reducible refine Below.drewN ?_ _))))
      replace p13 := p13.via hb16 (by (repeat (first | (with_reducible assumption) | (with_reducible exact Below.refl _ _) | (with_reducible refine Below.setCell ?_ (by first | (simp; done) | (simp; omega) | omega) _) | (with_reducible refine Below.alloc ?_ (by first | (simp; done) | (simp; omega) | omega) _) | (with_reducible refine Below.drew ?_) | (with_reducible refine Below.drewN ?_ _))))
      replace o14 := o14.via hb16 (by (repeat (first | (with_reducible assumption) | (with_reducible exact Below.refl _ _) | (with_reducible refine Below.setCell ?_ (by first | (simp; done) | (simp; omega) | omega) _) | (with_reducible refine Below.alloc ?_ (by first | (simp; done) | (simp; omega) | omega) _) | (with_reducible refine Below.drew ?_) | (with_reducible refine Below.drewN ?_ _))))
      replace p14 := p14.via hb16 (by (repeat (first | (with_reducible assumption) | (with_reducible exact Below.refl _ _) | (with_reducible refine Below.setCell ?_ (by first | (simp; done) | (simp; omega) | omega) _) | (with_reducible refine Below.alloc ?_ (by first | (simp; done) | (simp; omega) | omega) _) | (with_reducible refine Below.drew ?_) | (with_reducible refine Below.drewN ?_ _))))
      replace TP := TP.via hb16 (by (repeat (first | (with_reducible assumption) | (with_reducible exact Below.refl _ _) | (with_reducible refine Below.setCell ?_ (by first | (simp; done) | (simp; omega) | omega) _) | (with_reducible refine Below.alloc ?_ (by first | (simp; done) | (simp; omega) | omega) _) | (with_reducible refine Below.drew ?_) | (with_reducible refine Below.drewN ?_ _))))
      replace TQ := TQ.via hb16 (by (repeat (first | (with_reducible assumption) | (with_reducible exact Below.refl _ _) | (with_reducible refine Below.setCell ?_ (by first | (simp; done) | (simp; omega) | omega) _) | (with_reducible refine Below.alloc ?_ (by first | (simp; done) | (simp; omega) | omega) _) | (with_reducible refine Below.drew ?_) | (with_reducible refine Below.drewN ?_ _))))
      replace TS := TS.via hb16 (by (repeat (first | (with_reducible assumption) | (with_reducible exact Below.refl _ _) | (with_reducible refine Below.setCell ?_ (by first | (simp; done) | (simp; omega) | omega) _) | (with_reducible refine Below.alloc ?_ (by first | (simp; done) | (simp; omega) | omega) _) | (with_reducible refine Below.drew ?_) | (with_reducible refine Below.drewN ?_ _))))
      replace TV := TV.via hb16 (by (repeat (first | (with_reducible assumption) | (with_reducible exact Below.refl _ _) | (with_reducible refine Below.setCell ?_ (by first | (simp; done) | (simp; omega) | omega) _) | (with_reducible refine Below.alloc ?_ (by first | (simp; done) | (simp; omega) | omega) _) | (with_reducible refine Below.drew ?_) | (with_reducible refine Below.drewN ?_ _))))
      replace TR := TR.via hb16 (by (repeat (first | (with_reducible assumption) | (with_reducible exact Below.refl _ _) | (with_reducible refine Below.setCell ?_ (by first | (simp; done) | (simp; omega) | omega) _) | (with_reducible refine Below.alloc ?_ (by first | (simp; done) | (simp; omega) | omega) _) | (with_reducible refine Below.drew ?_) | (with_reducible refine Below.drewN ?_ _))))
      replace hB := Below.via (by (repeat (first | (with_reducible assumption) | (with_reducible exact Below.refl _ _) | (with_reducible refine Below.setCell ?_ (by first | (simp; done) | (simp; omega) | omega) _) | (with_reducible refine Below.alloc ?_ (by first | (simp; done) | (simp; omega) | omega) _) | (with_reducible refine Below.drew ?_) | (with_reducible refine Below.drewN ?_ _))) : Below w.heap.size w _) hb16
      clear hb16
      have cP_0 := TP.cell 0 rfl
      have cP_1 := TP.cell 1 rfl
      have cP_2 := TP.cell 2 rfl
      have lP := TP.lt
      have cQ_0 := TQ.cell 0 rfl
      have cQ_1 := TQ.cell 1 rfl
      have cQ_2 := TQ.cell 2 rfl
      have cQ_3 := TQ.cell 3 rfl
      have lQ := TQ.lt
      have cS_0 := TS.cell 0 rfl
      have cS_1 := TS.cell 1 rfl
      have cS_2 := TS.cell 2 rfl
      have cS_3 := TS.cell 3 rfl
      have lS := TS.lt
      have cV_0 := TV.cell 0 rfl
      have cV_1 := TV.cell 1 rfl
      have cV_2 := TV.cell 2 rfl
      have lV := TV.lt
      have cR_0 := TR.cell 0 rfl
      have cR_1 := TR.cell 1 rfl
      have cR_2 := TR.cell 2 rfl
      have lR := TR.lt
      clear o7 p7
      go_wp2_with fail
      refine (alive_any _).mono ?_
      rintro e w17 ⟨rfl, hb17⟩
      clear cP_0 cP_1 cP_2 lP cQ_0 cQ_1 cQ_2 cQ_3 lQ cS_0 cS_1 cS_2 cS_3 lS cV_0 cV_1 cV_2 lV cR_0 cR_1 cR_2 lR
      have z17 := hb17.size
      (try simp at z17)
      replace r1 := r1.via hb17 (by (repeat (first | (with_reducible assumption) | (with_reducible exact Below.refl _ _) | (with_reducible refine Below.setCell ?_ (by first | (simp; done) | (simp; omega) | omega) _) | (with_reducible refine Below.alloc ?_ (by first | (simp; done) | (simp; omega) | omega) _) | (with_reducible refine Below.drew ?_) | (with_reducible refine Below.drewN ?_ _))))
      replace s1 := s1.via hb17 (by (repeat (first | (with_reducible assumption) | (with_reducible exact Below.refl _ _) | (with_reducible refine Below.setCell ?_ (by first | (simp; done) | (simp; omega) | omega) _) | (with_reducible refine Below.alloc ?_ (by first | (simp; done) | (simp; omega) | omega) _) | (with_reducible refine Below.drew ?_) | (with_reducible refine Below.drewN ?_ _))))
      replace o13 := o13.via hb17 (by (repeat (first | (with_reducible assumption) | (with_reducible exact Below.refl _ _) | (with_reducible refine Below.setCell ?_ (by first | (simp; done) | (simp; omega) | omega) _) | (with_reducible refine Below.alloc ?_ (by first | (simp; done) | (simp; omega) | omega) _) | (with_reducible refine Below.drew ?_) | (with_reducible refine Below.drewN ?_ _))))
      replace p13 := p13.via hb17 (by (repeat (first | (with_reducible assumption) | (with_reducible exact Below.refl _ _) | (with_reducible refine Below.setCell ?_ (by first | (simp; done) | (simp; omega) | omega) _) | (with_reducible refine Below.alloc ?_ (by first | (simp; done) | (simp; omega) | omega) _) | (with_reducible refine Below.drew ?_) | (with_reducible refine Below.drewN ?_ _))))
      replace o14 := o14.via hb17 (by (repeat (first | (with_reducible assumption) | (with_reducible exact Below.refl _ _) | (with_reducible refine Below.setCell ?_ (by first | (simp; done) | (simp; omega) | omega) _) | (with_reducible refine Below.alloc ?_ (by first | (simp; done) | (simp; omega) | omega) _) | (with_reducible refine Below.drew ?_) | (with_reducible refine Below.drewN ?_ _))))
      replace p14 := p14.via hb17 (by (repeat (first | (with_reducible assumption) | (with_reducible exact Below.refl _ _) | (with_reducible refine Below.setCell ?_ (by first | (simp; done) | (simp; omega) | omega) _) | (with_reducible refine Below.alloc ?_ (by first | (simp; done) | (simp; omega) | omega) _) | (with_reducible refine Below.drew ?_) | (with_reducible refine Below.drewN ?_ _))))
      replace TP := TP.via hb17 (by (repeat (first | (with_reducible assumption) | (with_reducible exact Below.refl _ _) | (with_reducible refine Below.setCell ?_ (by first | (simp; done) | (simp; omega) | omega) _) | (with_reducible refine Below.alloc ?_ (by first | (simp; done) | (simp; omega) | omega) _) | (with_reducible refine Below.drew ?_) | (with_reducible refine Below.drewN ?_ _))))
      replace TQ := TQ.via hb17 (by (repeat (first | (with_reducible assumption) | (with_reducible exact Below.refl _ _) | (with_reducible refine Below.setCell ?_ (by first | (simp; done) | (simp; omega) | omega) _) | (with_reducible refine Below.alloc ?_ (by first | (simp; done) | (simp; omega) | omega) _) | (with_reducible refine Below.drew ?_) | (with_reducible refine Below.drewN ?_ _))))
      replace TS := TS.via hb17 (by (repeat (first | (with_reducible assumption) | (with_reducible exact Below.refl _ _) | (with_reducible refine Below.setCell ?_ (by first | (simp; done) | (simp; omega) | omega) _) | (with_reducible refine Below.alloc ?_ (by first | (simp; done) | (simp; omega) | omega) _) | (with_reducible refine Below.drew ?_) | (with_reducible refine Below.drewN ?_ _))))
      replace TV := TV.via hb17 (by (repeat (first | (with_reducible assumption) | (with_reducible exact Below.refl _ _) | (with_reducible refine Below.setCell ?_ (by first | (simp; done) | (simp; omega) | omega) _) | (with_reducible refine Below.alloc ?_ (by first | (simp; done) | (simp; omega) | omega) _) | (with_reducible refine Below.drew ?_) | (with_reducible refine Below.drewN ?_ _))))
      replace TR := TR.via hb17 (by (repeat (first | (with_reducible assumption) | (with_reducible exact Below.refl _ _) | (with_reducible refine Below.setCell ?_ (by first | (simp; done) | (simp; omega) | omega) _) | (with_reducible refine Below.alloc ?_ (by first | (simp; done) | (simp; omega) | omega) _) | (with_reducible refine Below.drew ?_) | (with_reducible refine Below.drewN ?_ _))))
      replace hB := Below.via (by (repeat (first | (with_reducible assumption) | (with_reducible exact Below.refl _ _) | (with_reducible refine Below.setCell ?_ (by first | (simp; done) | (simp; omega) | omega) _) | (with_reducible refine Below.alloc ?_ (by first | (simp; done) | (simp; omega) | omega) _) | (with_reducible refine Below.drew ?_) | (with_reducible refine Below.drewN ?_ _))) : Below w.heap.size w _) hb17
      clear hb17
      have cP_0 := TP.cell 0 rfl
      have cP_1 := TP.cell 1 rfl
      have cP_2 := TP.cell 2 rfl
      have lP := TP.lt
      have cQ_0 := TQ.cell 0 rfl
      have cQ_1 := TQ.cell 1 rfl
      have cQ_2 := TQ.cell 2 rfl
      have cQ_3 := TQ.cell 3 rfl
      have lQ := TQ.lt
      have cS_0 := TS.cell 0 rfl
      have cS_1 := TS.cell 1 rfl
      have cS_2 := TS.cell 2 rfl
      have cS_3 := TS.cell 3 rfl
      have lS := TS.lt
      have cV_0 := TV.cell 0 rfl
      have cV_1 := TV.cell 1 rfl
      have cV_2 := TV.cell 2 rfl
      have lV := TV.lt
      have cR_0 := TR.cell 0 rfl
      have cR_1 := TR.cell 1 rfl
      have cR_2 := TR.cell 2 rfl
      have lR := TR.lt
      go_wp2
      go_ret
      exact ⟨rfl, by (repeat (first | (with_reducible assumption) | (with_reducible exact Below.refl _ _) | (with_reducible refine Below.setCell ?_ (by first | (simp; done) | (simp; omega) | omega) _) | (with_reducible refine Below.alloc ?_ (by first | (simp; done) | (simp; omega) | omega) _) | (with_reducible refine Below.drew ?_) | (with_reducible refine Below.drewN ?_ _)))⟩
    · skip
      obtain ⟨es, hes⟩ : ∃ es, sendC l xs ds kb ob rb bb9 = es := ⟨_, rfl⟩
      obtain ⟨-, hrb0, hrb15, hmk⟩ := send_parts hv2
      have hsub2 : Sub rb ds es := hes ▸ sub_send
      have hle2 := sendC_le (l := l) (xs := xs) (cs := ds) (k := kb) (o := ob) (r := rb) (b := bb9)
      rw [hes] at hle2 hmk
      obtain ⟨e1, he1⟩ : ∃ e1, es.length = e1 := ⟨_, rfl⟩
      rw [he1, HQ.out] at hle2
      have HV := Lib.hid (And.intro hmk hsub2)
      have HE := Lib.hid hes
      have HF := Lib.hid he1
      clear hes hmk hsub2 he1
      go_wp2_with fail
      refine (iSend_yes (o13.rd.here Nat.one_pos) (by omega) (p13.rd.here (by omega)) (by omega) hv2 HE.out).mono ?_
      rintro e w16 ⟨A16, c16, D16, d16, M16, rfl, o16, p16, ma16, mb16, hb16⟩
      clear cP_0 cP_1 cP_2 lP cQ_0 cQ_1 cQ_2 cQ_3 lQ cS_0 cS_1 cS_2 cS_3 lS cV_0 cV_1 cV_2 lV cR_0 cR_1 cR_2 lR
      have z16 := hb16.size
      (try simp at z16)
      replace r1 := r1.via hb16 (by (repeat (first | (with_reducible assumption) | (with_reducible exact Below.refl _ _) | (with_reducible refine Below.setCell ?_ (by first | (simp; done) | (simp; omega) | omega) _) | (with_reducible refine Below.alloc ?_ (by first | (simp; done) | (simp; omega) | omega) _) | (with_reducible refine Below.drew ?_) | (with_reducible refine Below.drewN ?_ _))))
      replace s1 := s1.via hb16 (by (repeat (first | (with_reducible assumption) | (with_reducible exact Below.refl _ _) | (with_reducible refine Below.setCell ?_ (by first | (simp; done) | (simp; omega) | omega) _) | (with_reducible refine Below.alloc ?_ (by first | (simp; done) | (simp; omega) | omega) _) | (with_reducible refine Below.drew ?_) | (with_reducible refine Below.drewN ?_ _))))
      replace o13 := o13.via hb16 (by (repeat (first | (with_reducible assumption) | (with_reducible exact Below.refl _ _) | (with_reducible refine Below.setCell ?_ (by first | (simp; done) | (simp; omega) | omega) _) | (with_reducible refine Below.alloc ?_ (by first | (simp; done) | (simp; omega) | omega) _) | (with_reducible refine Below.drew ?_) | (with_reducible refine Below.drewN ?_ _))))
      replace p13 := p13.via hb16 (by (repeat (first | (with_reducible assumption) | (with_reducible exact Below.refl _ _) | (with_reducible refine Below.setCell ?_ (by first | (simp; done) | (simp; omega) | omega) _) | (with_reducible refine Below.alloc ?_ (by first | (simp; done) | (simp; omega) | omega) _) | (with_reducible refine Below.drew ?_) | (with_reducible refine Below.drewN ?_ _))))
      replace o14 := o14.via hb16 (by (repeat (first | (with_reducible assumption) | (with_reducible exact Below.refl _ _) | (with_reducible refine Below.setCell ?_ (by first | (simp; done) | (simp; omega) | omega) _) | (with_reducible refine Below.alloc ?_ (by first | (simp; done) | (simp; omega) | omega) _) | (with_reducible refine Below.drew ?_) | (with_reducible refine Below.drewN ?_ _))))
      replace p14 := p14.via hb16 (by (repeat (first | (with_reducible assumption) | (with_reducible exact Below.refl _ _) | (with_reducible refine Below.setCell ?_ (by first | (simp; done) | (simp; omega) | omega) _) | (with_reducible refine Below.alloc ?_ (by first | (simp; done) | (simp; omega) | omega) _) | (with_reducible refine Below.drew ?_) | (with_reducible refine Below.drewN ?_ _))))
      replace TP := TP.via hb16 (by (repeat (first | (with_reducible assumption) | (with_reducible exact Below.refl _ _) | (with_reducible refine Below.setCell ?_ (by first | (simp; done) | (simp; omega) | omega) _) | (with_reducible refine Below.alloc ?_ (by first | (simp; done) | (simp; omega) | omega) _) | (with_reducible refine Below.drew ?_) | (with_reducible refine Below.drewN ?_ _))))
      replace TQ := TQ.via hb16 (by (repeat (first | (with_reducible assumption) | (with_reducible exact Below.refl _ _) | (with_reducible refine Below.setCell ?_ (by first | (simp; done) | (simp; omega) | omega) _) | (with_reducible refine Below.alloc ?_ (by first | (simp; done) | (simp; omega) | omega) _) | (with_reducible refine Below.drew ?_) | (with_reducible refine Below.drewN ?_ _))))
      replace TS := TS.via hb16 (by (repeat (first | (with_reducible assumption) | (with_reducible exact Below.refl _ _) | (with_reducible refine Below.setCell ?_ (by first | (simp; done) | (simp; omega) | omega) _) | (with_reducible refine Below.alloc ?_ (by first | (simp; done) | (simp; omega) | omega) _) | (with_reducible refine Below.drew ?_) | (with_reducible refine Below.drewN ?_ _))))
      replace TV := TV.via hb16 (by (repeat (first | (with_reducible assumption) | (with_reducible exact Below.refl _ _) | (with_reducible refine Below.setCell ?_ (by first | (simp; done) | (simp; omega) | omega) _) | (with_reducible refine Below.alloc ?_ (by first | (simp; done) | (simp; omega) | omega) _) | (with_reducible refine Below.drew ?_) | (with_reducible refine Below.drewN ?_ _))))
      replace TR := TR.via hb16 (by (repeat (first | (with_reducible assumption) | (with_reducible exact Below.refl _ _) | (with_reducible refine Below.setCell ?_ (by first | (simp; done) | (simp; omega) | omega) _) | (with_reducible refine Below.alloc ?_ (by first | (simp; done) | (simp; omega) | omega) _) | (with_reducible refine Below.drew ?_) | (with_reducible refine Below.drewN ?_ _))))
      replace hB := Below.via (by (repeat (first | (with_reducible assumption) | (with_reducible exact Below.refl _ _) | (with_reducible refine Below.setCell ?_ (by first | (simp; done) | (simp; omega) | omega) _) | (with_reducible refine Below.alloc ?_ (by first | (simp; done) | (simp; omega) | omega) _) | (with_reducible refine Below.drew ?_) | (with_reducible refine Below.drewN ?_ _))) : Below w.heap.size w _) hb16
      clear hb16
      have cP_0 := TP.cell 0 rfl
      have cP_1 := TP.cell 1 rfl
      have cP_2 := TP.cell 2 rfl
      have lP := TP.lt
      have cQ_0 := TQ.cell 0 rfl
      have cQ_1 := TQ.cell 1 rfl
      have cQ_2 := TQ.cell 2 rfl
      have cQ_3 := TQ.cell 3 rfl
      have lQ := TQ.lt
      have cS_0 := TS.cell 0 rfl
      have cS_1 := TS.cell 1 rfl
      have cS_2 := TS.cell 2 rfl
      have cS_3 := TS.cell 3 rfl
      have lS := TS.lt
      have cV_0 := TV.cell 0 rfl
      have cV_1 := TV.cell 1 rfl
      have cV_2 := TV.cell 2 rfl
      have lV := TV.lt
      have cR_0 := TR.cell 0 rfl
      have cR_1 := TR.cell 1 rfl
      have cR_2 := TR.cell 2 rfl
      have lR := TR.lt
      rw [HN.out] at o16 ⊢
      rw [HF.out] at p16 ⊢
      (try simp at ma16)
      have TY := Blk.newAt (w := w16) (n := w16.heap.size) 30 #[.int .i64 (l), .slice A16 n1 c16, .slice D16 e1 d16] (by simp)
      go_wp2
      go_loopw [15] (fun i wr => ∃ j : Nat, j ≤ e1 ∧ i = .int .i64 j ∧ Blk wr w16.heap.size 30 #[.int .i64 (l), .slice A16 n1 c16, .slice D16 e1 d16] ∧ Below w16.heap.size w16 wr) (fun i _ => e1 - (intOf i).toNat)
      case atStart => exact ⟨0, by omega, rfl, TY, by (repeat (first | (with_reducible assumption) | (with_reducible exact Below.refl _ _) | (with_reducible refine Below.setCell ?_ (by first | (simp; done) | (simp; omega) | omega) _) | (with_reducible refine Below.alloc ?_ (by first | (simp; done) | (simp; omega) | omega) _) | (with_reducible refine Below.drew ?_) | (with_reducible refine Below.drewN ?_ _)))⟩
      case round =>
        clear TY cP_0 cP_1 cP_2 lP cQ_0 cQ_1 cQ_2 cQ_3 lQ cS_0 cS_1 cS_2 cS_3 lS cV_0 cV_1 cV_2 lV cR_0 cR_1 cR_2 lR
        obtain ⟨j, hj, rfl, TY, hbj⟩ := hrel
        have hBr := Below.via hB hbj
        replace TP := TP.below hbj
        replace TQ := TQ.below hbj
        replace TS := TS.below hbj
        replace o16 := o16.below hbj
        replace p16 := p16.below hbj
        replace r1 := r1.below hbj
        replace s1 := s1.below hbj
        clear o13 p13 o14 p14 TV TR hB
        by_cases hlt : j < e1
        · skip
          obtain ⟨hok, hsub⟩ := HU.out
          obtain ⟨hmk, hsub2⟩ := HV.out
          obtain ⟨b, o, kk, oo, rx, bb, rfl, hbl, hx, e0, e5, e2, e3⟩ := cap_at p16.rd hlt
          obtain ⟨⟨k7, o7, rx7, b7⟩, hd1, hd2⟩ := hsub2 j _ hx
          obtain ⟨⟨k8, o8, rr, b8⟩, hd3, hd4⟩ := hsub j _ hd1
          simp only [mask, Prod.mk.injEq] at hd2 hd4
          obtain ⟨rfl, rfl, rfl, rfl⟩ := hd4
          obtain ⟨rfl, rfl, rfl, rfl⟩ := hd2
          have hjm : j < m1 := by rw [← HM.out]; exact (List.getElem?_eq_some_iff.1 hd3).1
          obtain ⟨b2, p, k9, o9, rr9, b9, rfl, hbl2, hx2, f0, f1, f2, f3⟩ := cap_at s1 hjm
          rw [hd3] at hx2
          simp only [Option.some.injEq, Prod.mk.injEq] at hx2
          obtain ⟨rfl, rfl, rfl, rfl⟩ := hx2
          have hk1 := (msgOk_caps hmk hx).1
          have hk2 := (msgOk_caps hok hd3).1
          have hrr := capOk_rights hk2
          have hrx := capOk_rights hk1
          have hN := and_in3 hrr ⟨hra0, hra15⟩ ⟨hrb0, hrb15⟩
          have hNM := and_in (a := ra) (b := rb) ⟨hra0, hra15⟩ ⟨hrb0, hrb15⟩
          have hjq : (j : Int) < (e1 : Int) := by omega
          have hj0 : (0 : Int) ≤ (j : Int) := by omega
          have hjm2 : decide ((m1 : Int) ≤ (j : Int)) = false := decide_eq_false (by omega)
          have hjm3 : (j : Int) < (m1 : Int) := by omega
          have hjm4 : decide (m1 ≤ j) = false := decide_eq_false (by omega)
          have lP := TP.lt
          have lQ := TQ.lt
          have lS := TS.lt
          have lY := TY.lt
          have g0 := TP.cell 2 rfl
          have g1 := TQ.cell 2 rfl
          have g2 := TY.cell 2 rfl
          have g3 := TS.cell 2 rfl
          clear r1 s1 o16 p16 TP TQ TS hd1 hd3 hx hsub hsub2 hok hmk
          go_wp2_with fail
          refine wp_region_noPanic ?_
          refine wp_region_held_drew (S := (fun W => W.cell? ⟨w1.heap.size, 2, none⟩ = some (.slice (some ⟨b2, p, none⟩) m1 d1) ∧ W.cell? ⟨w1.heap.size + 1, 2, none⟩ = some (.int .i64 ra) ∧ W.cell? ⟨w12.heap.size + 1, 2, none⟩ = some (.int .i64 rb) ∧ W.cell? ⟨w16.heap.size, 2, none⟩ = some (.slice (some ⟨b, o, none⟩) e1 d16) ∧ W.cell? ⟨b, o + j * 4, none⟩ = some (.int .i64 kk) ∧ W.cell? ⟨b, o + j * 4 + 1, none⟩ = some (.int .i64 oo) ∧ W.cell? ⟨b, o + j * 4 + 2, none⟩ = some (.int .i64 (andI (andI rr ra) rb)) ∧ W.cell? ⟨b, o + j * 4 + 3, none⟩ = some (.int .i64 bb) ∧ W.cell? ⟨b2, p + j * 4, none⟩ = some (.int .i64 kk) ∧ W.cell? ⟨b2, p + j * 4 + 1, none⟩ = some (.int .i64 oo) ∧ W.cell? ⟨b2, p + j * 4 + 2, none⟩ = some (.int .i64 rr) ∧ W.cell? ⟨b2, p + j * 4 + 3, none⟩ = some (.int .i64 bb))) (by kernel_rfl) ?_ (fun hHeld => ?_)
          focus (first | exact trivial | ((try dsimp only); ((repeat' (first | assumption | with_reducible refine And.intro ?_ ?_)) <;> go_keep))); done
          refine wpAnyH_take (i := 0) (v := ?_) (by rw [List.getElem?_toArray]; rfl) (by kernel_rfl) (by kernel_rfl) (by kernel_rfl) (fun _ _ _ h => h) (Or.inl ⟨by rfl, ?_⟩) (by assumption) ?_
          rotate_left
          focus (intro wS hSw; (try dsimp only at hSw); go_simp; (try with_reducible rfl)); done
          (try simp only [Act.put, List.setIfInBounds_toArray, List.set_cons_zero, List.set_cons_succ])
          refine wpAnyH_take (i := 1) (v := ?_) (by rw [List.getElem?_toArray]; rfl) (by kernel_rfl) (by kernel_rfl) (by kernel_rfl) (fun _ _ _ h => h) (Or.inl ⟨by rfl, ?_⟩) (by assumption) ?_
          rotate_left
          focus (intro wS hSw; (try dsimp only at hSw); go_simp; (try with_reducible rfl)); done
          (try simp only [Act.put, List.setIfInBounds_toArray, List.set_cons_zero, List.set_cons_succ])
          refine wpAnyH_take (i := 2) (v := ?_) (by rw [List.getElem?_toArray]; rfl) (by kernel_rfl) (by kernel_rfl) (by kernel_rfl) (fun _ _ _ h => h) (Or.inl ⟨by rfl, ?_⟩) (by assumption) ?_
          rotate_left
          focus (intro wS hSw; (try dsimp only at hSw); go_simp; (try with_reducible rfl)); done
          (try simp only [Act.put, List.setIfInBounds_toArray, List.set_cons_zero, List.set_cons_succ])
          refine wpAnyH_take (i := 3) (v := ?_) (by rw [List.getElem?_toArray]; rfl) (by kernel_rfl) (by kernel_rfl) (by kernel_rfl) (fun _ _ _ h => h) (Or.inl ⟨by rfl, ?_⟩) (by assumption) ?_
          rotate_left
          focus (intro wS hSw; (try dsimp only at hSw); go_simp; (try with_reducible rfl)); done
          (try simp only [Act.put, List.setIfInBounds_toArray, List.set_cons_zero, List.set_cons_succ])
          refine wpAnyH_take (i := 4) (v := ?_) (by rw [List.getElem?_toArray]; rfl) (by kernel_rfl) (by kernel_rfl) (by kernel_rfl) (fun _ _ _ h => h) (Or.inl ⟨by rfl, ?_⟩) (by assumption) ?_
          rotate_left
          focus (intro wS hSw; (try dsimp only at hSw); go_simp; (try with_reducible rfl)); done
          (try simp only [Act.put, List.setIfInBounds_toArray, List.set_cons_zero, List.set_cons_succ])
          refine wpAnyH_take (i := 5) (v := ?_) (by rw [List.getElem?_toArray]; rfl) (by kernel_rfl) (by kernel_rfl) (by kernel_rfl) (fun _ _ _ h => h) (Or.inl ⟨by rfl, ?_⟩) (by assumption) ?_
          rotate_left
          focus (intro wS hSw; (try dsimp only at hSw); go_simp; (try with_reducible rfl)); done
          (try simp only [Act.put, List.setIfInBounds_toArray, List.set_cons_zero, List.set_cons_succ])
          refine wpAnyH_take (i := 6) (v := ?_) (by rw [List.getElem?_toArray]; rfl) (by kernel_rfl) (by kernel_rfl) (by kernel_rfl) (fun _ _ _ h => h) (Or.inl ⟨by rfl, ?_⟩) (by assumption) ?_
          rotate_left
          focus (intro wS hSw; (try dsimp only at hSw); go_simp; (try with_reducible rfl)); done
          (try simp only [Act.put, List.setIfInBounds_toArray, List.set_cons_zero, List.set_cons_succ])
          refine wpAnyH_take (i := 7) (v := ?_) (by rw [List.getElem?_toArray]; rfl) (by kernel_rfl) (by kernel_rfl) (by kernel_rfl) (fun _ _ _ h => h) (Or.inl ⟨by rfl, ?_⟩) (by assumption) ?_
          rotate_left
          focus (intro wS hSw; (try dsimp only at hSw); go_simp; (try with_reducible rfl)); done
          (try simp only [Act.put, List.setIfInBounds_toArray, List.set_cons_zero, List.set_cons_succ])
          refine wpAnyH_take (i := 8) (v := ?_) (by rw [List.getElem?_toArray]; rfl) (by kernel_rfl) (by kernel_rfl) (by kernel_rfl) (fun _ _ _ h => h) (Or.inl ⟨by rfl, ?_⟩) (by assumption) ?_
          rotate_left
          focus (intro wS hSw; (try dsimp only at hSw); go_simp; (try with_reducible rfl)); done
          (try simp only [Act.put, List.setIfInBounds_toArray, List.set_cons_zero, List.set_cons_succ])
          refine wpAnyH_take (i := 9) (v := ?_) (by rw [List.getElem?_toArray]; rfl) (by kernel_rfl) (by kernel_rfl) (by kernel_rfl) (fun _ _ _ h => h) (Or.inl ⟨by rfl, ?_⟩) (by assumption) ?_
          rotate_left
          focus (intro wS hSw; (try dsimp only at hSw); go_simp; (try with_reducible rfl)); done
          (try simp only [Act.put, List.setIfInBounds_toArray, List.set_cons_zero, List.set_cons_succ])
          refine wpAnyH_take (i := 10) (v := ?_) (by rw [List.getElem?_toArray]; rfl) (by kernel_rfl) (by kernel_rfl) (by kernel_rfl) (fun _ _ _ h => h) (Or.inl ⟨by rfl, ?_⟩) (by assumption) ?_
          rotate_left
          focus (intro wS hSw; (try dsimp only at hSw); go_simp; (try with_reducible rfl)); done
          (try simp only [Act.put, List.setIfInBounds_toArray, List.set_cons_zero, List.set_cons_succ])
          refine wpAnyH_take (i := 11) (v := ?_) (by rw [List.getElem?_toArray]; rfl) (by kernel_rfl) (by kernel_rfl) (by kernel_rfl) (fun _ _ _ h => h) (Or.inl ⟨by rfl, ?_⟩) (by assumption) ?_
          rotate_left
          focus (intro wS hSw; (try dsimp only at hSw); go_simp; (try with_reducible rfl)); done
          (try simp only [Act.put, List.setIfInBounds_toArray, List.set_cons_zero, List.set_cons_succ])
          refine wpAnyH_take (i := 12) (v := ?_) (by rw [List.getElem?_toArray]; rfl) (by kernel_rfl) (by kernel_rfl) (by kernel_rfl) (fun _ _ _ h => h) (Or.inl ⟨by rfl, ?_⟩) (by assumption) ?_
          rotate_left
          focus (intro wS hSw; (try dsimp only at hSw); go_simp; (try with_reducible rfl)); done
          (try simp only [Act.put, List.setIfInBounds_toArray, List.set_cons_zero, List.set_cons_succ])
          refine wpAnyH_take (i := 13) (v := ?_) (by rw [List.getElem?_toArray]; rfl) (by kernel_rfl) (by kernel_rfl) (by kernel_rfl) (fun _ _ _ h => h) (Or.inl ⟨by rfl, ?_⟩) (by assumption) ?_
          rotate_left
          focus (intro wS hSw; (try dsimp only at hSw); go_simp; (try with_reducible rfl)); done
          (try simp only [Act.put, List.setIfInBounds_toArray, List.set_cons_zero, List.set_cons_succ])
          refine wpAnyH_take (i := 14) (v := ?_) (by rw [List.getElem?_toArray]; rfl) (by kernel_rfl) (by kernel_rfl) (by kernel_rfl) (fun _ _ _ h => h) (Or.inl ⟨by rfl, ?_⟩) (by assumption) ?_
          rotate_left
          focus (intro wS hSw; (try dsimp only at hSw); go_simp; (try with_reducible rfl)); done
          (try simp only [Act.put, List.setIfInBounds_toArray, List.set_cons_zero, List.set_cons_succ])
          refine wpAnyH_take (i := 15) (v := ?_) (by rw [List.getElem?_toArray]; rfl) (by kernel_rfl) (by kernel_rfl) (by kernel_rfl) (fun _ _ _ h => h) (Or.inl ⟨by rfl, ?_⟩) (by assumption) ?_
          rotate_left
          focus (intro wS hSw; (try dsimp only at hSw); go_simp; (try with_reducible rfl)); done
          (try simp only [Act.put, List.setIfInBounds_toArray, List.set_cons_zero, List.set_cons_succ])
          refine wpAnyH_ready (rs := [16]) (by kernel_rfl) (by simp) ?_
          refine AllReadyH.cons (by rw [List.getElem?_toArray]; rfl) (fun K hK => ?_) AllReadyH.nil
          go_simp
          refine (CapWithin_yes _ _ _ _ _ _ hk1 hk2 hN.1).mono ?_; rintro e w6 ⟨rfl, hb6⟩; have hB6 := Below.via (Below.drew hBr) hb6; have hB7 := Below.via (Below.drew hbj) hb6; have TY6 := TY.drew.below hb6; clear hBr TY hbj
          refine hK.out _ _ ?_ (fun hHeld => ?_)
          focus (first | exact trivial | ((try dsimp only); (exact ⟨(hb6.cell (p := ⟨w1.heap.size, 2, none⟩) lP).trans g0, (hb6.cell (p := ⟨w1.heap.size + 1, 2, none⟩) lQ).trans g1, (hb6.cell (p := ⟨w12.heap.size + 1, 2, none⟩) lS).trans g3, (hb6.cell (p := ⟨w16.heap.size, 2, none⟩) lY).trans g2, (hb6.cell (p := ⟨b, o + j * 4, none⟩) hbl).trans e0, (hb6.cell (p := ⟨b, o + j * 4 + 1, none⟩) hbl).trans e5, (hb6.cell (p := ⟨b, o + j * 4 + 2, none⟩) hbl).trans e2, (hb6.cell (p := ⟨b, o + j * 4 + 3, none⟩) hbl).trans e3, (hb6.cell (p := ⟨b2, p + j * 4, none⟩) hbl2).trans f0, (hb6.cell (p := ⟨b2, p + j * 4 + 1, none⟩) hbl2).trans f1, (hb6.cell (p := ⟨b2, p + j * 4 + 2, none⟩) hbl2).trans f2, (hb6.cell (p := ⟨b2, p + j * 4 + 3, none⟩) hbl2).trans f3⟩))); done
          clear hK K
          (try simp only [Act.put, List.setIfInBounds_toArray, List.set_cons_zero, List.set_cons_succ])
          refine wpAnyH_take (i := 17) (v := ?_) (by rw [List.getElem?_toArray]; rfl) (by kernel_rfl) (by kernel_rfl) (by kernel_rfl) (fun _ _ _ h => h) (Or.inl ⟨by rfl, ?_⟩) (by assumption) ?_
          rotate_left
          focus (intro wS hSw; (try dsimp only at hSw); go_simp; (try with_reducible rfl)); done
          (try simp only [Act.put, List.setIfInBounds_toArray, List.set_cons_zero, List.set_cons_succ])
          refine wpAnyH_take (i := 18) (v := ?_) (by rw [List.getElem?_toArray]; rfl) (by kernel_rfl) (by kernel_rfl) (by kernel_rfl) (fun _ _ _ h => h) (Or.inl ⟨by rfl, ?_⟩) (by assumption) ?_
          rotate_left
          focus (intro wS hSw; (try dsimp only at hSw); go_simp; (try with_reducible rfl)); done
          (try simp only [Act.put, List.setIfInBounds_toArray, List.set_cons_zero, List.set_cons_succ])
          refine wpAnyH_take (i := 19) (v := ?_) (by rw [List.getElem?_toArray]; rfl) (by kernel_rfl) (by kernel_rfl) (by kernel_rfl) (fun _ _ _ h => h) (Or.inl ⟨by rfl, ?_⟩) (by assumption) ?_
          rotate_left
          focus (intro wS hSw; (try dsimp only at hSw); go_simp; (try with_reducible rfl)); done
          (try simp only [Act.put, List.setIfInBounds_toArray, List.set_cons_zero, List.set_cons_succ])
          refine wpAnyH_take (i := 20) (v := ?_) (by rw [List.getElem?_toArray]; rfl) (by kernel_rfl) (by kernel_rfl) (by kernel_rfl) (fun _ _ _ h => h) (Or.inl ⟨by rfl, ?_⟩) (by assumption) ?_
          rotate_left
          focus (intro wS hSw; (try dsimp only at hSw); go_simp; (try with_reducible rfl)); done
          (try simp only [Act.put, List.setIfInBounds_toArray, List.set_cons_zero, List.set_cons_succ])
          refine wpAnyH_take (i := 21) (v := ?_) (by rw [List.getElem?_toArray]; rfl) (by kernel_rfl) (by kernel_rfl) (by kernel_rfl) (fun _ _ _ h => h) (Or.inl ⟨by rfl, ?_⟩) (by assumption) ?_
          rotate_left
          focus (intro wS hSw; (try dsimp only at hSw); go_simp; (try with_reducible rfl)); done
          (try simp only [Act.put, List.setIfInBounds_toArray, List.set_cons_zero, List.set_cons_succ])
          refine wpAnyH_take (i := 22) (v := ?_) (by rw [List.getElem?_toArray]; rfl) (by kernel_rfl) (by kernel_rfl) (by kernel_rfl) (fun _ _ _ h => h) (Or.inl ⟨by rfl, ?_⟩) (by assumption) ?_
          rotate_left
          focus (intro wS hSw; (try dsimp only at hSw); go_simp; (try with_reducible rfl)); done
          (try simp only [Act.put, List.setIfInBounds_toArray, List.set_cons_zero, List.set_cons_succ])
          refine wpAnyH_take (i := 23) (v := ?_) (by rw [List.getElem?_toArray]; rfl) (by kernel_rfl) (by kernel_rfl) (by kernel_rfl) (fun _ _ _ h => h) (Or.inl ⟨by rfl, ?_⟩) (by assumption) ?_
          rotate_left
          focus (intro wS hSw; (try dsimp only at hSw); go_simp; (try with_reducible rfl)); done
          (try simp only [Act.put, List.setIfInBounds_toArray, List.set_cons_zero, List.set_cons_succ])
          refine wpAnyH_take (i := 24) (v := ?_) (by rw [List.getElem?_toArray]; rfl) (by kernel_rfl) (by kernel_rfl) (by kernel_rfl) (fun _ _ _ h => h) (Or.inl ⟨by rfl, ?_⟩) (by assumption) ?_
          rotate_left
          focus (intro wS hSw; (try dsimp only at hSw); go_simp; (try with_reducible rfl)); done
          (try simp only [Act.put, List.setIfInBounds_toArray, List.set_cons_zero, List.set_cons_succ])
          refine wpAnyH_take (i := 25) (v := ?_) (by rw [List.getElem?_toArray]; rfl) (by kernel_rfl) (by kernel_rfl) (by kernel_rfl) (fun _ _ _ h => h) (Or.inl ⟨by rfl, ?_⟩) (by assumption) ?_
          rotate_left
          focus (intro wS hSw; (try dsimp only at hSw); go_simp; (try with_reducible rfl)); done
          (try simp only [Act.put, List.setIfInBounds_toArray, List.set_cons_zero, List.set_cons_succ])
          refine wpAnyH_take (i := 26) (v := ?_) (by rw [List.getElem?_toArray]; rfl) (by kernel_rfl) (by kernel_rfl) (by kernel_rfl) (fun _ _ _ h => h) (Or.inl ⟨by rfl, ?_⟩) (by assumption) ?_
          rotate_left
          focus (intro wS hSw; (try dsimp only at hSw); go_simp; (try with_reducible rfl)); done
          (try simp only [Act.put, List.setIfInBounds_toArray, List.set_cons_zero, List.set_cons_succ])
          refine wpAnyH_take (i := 27) (v := ?_) (by rw [List.getElem?_toArray]; rfl) (by kernel_rfl) (by kernel_rfl) (by kernel_rfl) (fun _ _ _ h => h) (Or.inl ⟨by rfl, ?_⟩) (by assumption) ?_
          rotate_left
          focus (intro wS hSw; (try dsimp only at hSw); go_simp; (try with_reducible rfl)); done
          (try simp only [Act.put, List.setIfInBounds_toArray, List.set_cons_zero, List.set_cons_succ])
          refine wpAnyH_take (i := 28) (v := ?_) (by rw [List.getElem?_toArray]; rfl) (by kernel_rfl) (by kernel_rfl) (by kernel_rfl) (fun _ _ _ h => h) (Or.inl ⟨by rfl, ?_⟩) (by assumption) ?_
          rotate_left
          focus (intro wS hSw; (try dsimp only at hSw); go_simp; (try with_reducible rfl)); done
          (try simp only [Act.put, List.setIfInBounds_toArray, List.set_cons_zero, List.set_cons_succ])
          refine wpAnyH_take (i := 29) (v := ?_) (by rw [List.getElem?_toArray]; rfl) (by kernel_rfl) (by kernel_rfl) (by kernel_rfl) (fun _ _ _ h => h) (Or.inl ⟨by rfl, ?_⟩) (by assumption) ?_
          rotate_left
          focus (intro wS hSw; (try dsimp only at hSw); go_simp; (try with_reducible rfl)); done
          (try simp only [Act.put, List.setIfInBounds_toArray, List.set_cons_zero, List.set_cons_succ])
          refine wpAnyH_ready (rs := [30]) (by kernel_rfl) (by simp) ?_
          refine AllReadyH.cons (by rw [List.getElem?_toArray]; rfl) (fun K hK => ?_) AllReadyH.nil
          go_simp
          refine (RightsMeet_yes _ _ _ ⟨hra0, hra15⟩ ⟨hrb0, hrb15⟩).mono ?_; rintro e w7 ⟨rfl, rfl⟩
          refine hK.out _ _ ?_ (fun hHeld => ?_)
          focus (first | exact trivial | ((try dsimp only); (exact hHeld))); done
          clear hK K
          (try simp only [Act.put, List.setIfInBounds_toArray, List.set_cons_zero, List.set_cons_succ])
          refine wpAnyH_ready (rs := [31]) (by kernel_rfl) (by simp) ?_
          refine AllReadyH.cons (by rw [List.getElem?_toArray]; rfl) (fun K hK => ?_) AllReadyH.nil
          go_simp
          refine (RightsWithin_yes _ _ _ hrx ⟨hNM.1, hNM.2.1⟩ hN.2).mono ?_; rintro e w7 ⟨rfl, rfl⟩
          refine hK.out _ _ ?_ (fun hHeld => ?_)
          focus (first | exact trivial | ((try dsimp only); (exact hHeld))); done
          clear hK K
          (try simp only [Act.put, List.setIfInBounds_toArray, List.set_cons_zero, List.set_cons_succ])
          refine wpAnyH_take (i := 32) (v := ?_) (by rw [List.getElem?_toArray]; rfl) (by kernel_rfl) (by kernel_rfl) (by kernel_rfl) (fun _ _ _ h => h) (Or.inl ⟨by rfl, ?_⟩) (by assumption) ?_
          rotate_left
          focus (intro wS hSw; (try dsimp only at hSw); go_simp; (try with_reducible rfl)); done
          (try simp only [Act.put, List.setIfInBounds_toArray, List.set_cons_zero, List.set_cons_succ])
          refine wpAnyH_take (i := 33) (v := ?_) (by rw [List.getElem?_toArray]; rfl) (by kernel_rfl) (by kernel_rfl) (by kernel_rfl) (fun _ _ _ h => h) (Or.inl ⟨by rfl, ?_⟩) (by assumption) ?_
          rotate_left
          focus (intro wS hSw; (try dsimp only at hSw); go_simp; (try with_reducible rfl)); done
          (try simp only [Act.put, List.setIfInBounds_toArray, List.set_cons_zero, List.set_cons_succ])
          refine wpAnyH_done (by kernel_rfl) ?_ _
          refine NoPanic.normal ?_
          go_wp2
          go_roundw
          case rel => exact ⟨j + 1, by omega, by go_num, TY6, by (repeat (first | (with_reducible assumption) | (with_reducible exact Below.refl _ _) | (with_reducible refine Below.setCell ?_ (by first | (simp; done) | (simp; omega) | omega) _) | (with_reducible refine Below.alloc ?_ (by first | (simp; done) | (simp; omega) | omega) _) | (with_reducible refine Below.drew ?_) | (with_reducible refine Below.drewN ?_ _)))⟩
          case measure => simp [intOf]; omega
        · skip
          have hjq : j = e1 := by omega
          subst hjq
          have p1 := TP.cell 1 rfl
          have y1 := TY.cell 1 rfl
          have y2 := TY.cell 2 rfl
          have o16r := o16.rd.here Nat.one_pos
          clear p16 o16 s1 TQ TS
          go_wp2_with fail
          refine (sameInts_same o16r r1 (by omega)).mono ?_
          rintro e w8 ⟨rfl, hb8⟩
          have hB8 := Below.via hBr hb8
          go_wp2
          go_ret
          exact ⟨rfl, by (repeat (first | (with_reducible assumption) | (with_reducible exact Below.refl _ _) | (with_reducible refine Below.setCell ?_ (by first | (simp; done) | (simp; omega) | omega) _) | (with_reducible refine Below.alloc ?_ (by first | (simp; done) | (simp; omega) | omega) _) | (with_reducible refine Below.drew ?_) | (with_reducible refine Below.drewN ?_ _)))⟩
end Go.Proofs.Ythbfpgdfigilaaa
