/- The walk of the law FnReadyNext: it returns true and leaves all that was in memory as it was, for every code. -/
import Derived.Test.YtccepnhnmpmkdaaLwQueuesHead
namespace Go.Proofs.Ytccepnhnmpmkdaa
set_option linter.unusedVariables false
open Go.RowKit
set_option maxHeartbeats 4000000 in
theorem law_ReadyNext (B T n c : Nat) (A : Option Addr) (bs : List Value) (w : World) (hr : Rd w B T 1 A n bs) (hb : Bytes bs) (hnc : n ≤ c) :
    Calls Try.prog 10 #[.slice A n c] w fun e w' => e = .returned (.bool true) ∧ Below w.heap.size w w' := by
  by_cases hbig : 1048576 < n
  · have hd : (1048576 : Int) < (n : Int) := by omega
    go_enter Try.func10, Try.ntmps10
    go_wp2_with fail
    go_ret
    exact ⟨rfl, Below.refl _ _⟩
  have hn : n ≤ 1048576 := by omega
  have hd : ¬ (1048576 : Int) < (n : Int) := by omega
  have hB := Below.refl w.heap.size w
  go_enter Try.func10, Try.ntmps10
  go_wp2_with fail
  refine (DrawReadyNext_any B T n c A bs _ hr hb hn hnc).mono ?_
  rintro e w1 ⟨A1, n1, c1, yss, rfl, r1, hle, hs, hb1⟩
  have z1 := hb1.size
  replace hB := Below.via hB hb1
  clear hb1
  have hl := r1.len
  have TQ := Blk.new w1 24 #[.slice A1 n1 c1]
  have hB1 := Below.refl w1.heap.size w1
  have hT1 : w1.heap.size ≤ w1.heap.size := Nat.le_refl _
  rcases next_cases yss with h1 | ⟨hv, k, x, l, h1, hx0, hk, hy, hp, hrest⟩
  · skip
    go_wp2_with fail
    refine (iReadyNext_any _ _ _ _ _ yss _ (r1.alloc _) (by omega)).mono ?_
    rintro e w2 ⟨rfl, hb2⟩
    rw [h1]
    have z2 := hb2.size
    (try simp at z2)
    replace TQ := TQ.below hb2
    replace r1 := Rows.below (by (repeat (first | (with_reducible assumption) | (with_reducible refine Rows.drew ?_) | (with_reducible refine Rows.alloc ?_ _))) : Rows _ w.heap.size w1.heap.size A1 n1 yss) hb2
    replace hB := Below.via (by (repeat (first | (with_reducible assumption) | (with_reducible exact Below.refl _ _) | (with_reducible refine Below.setCell ?_ (by first | (simp; done) | (simp; omega) | omega) _) | (with_reducible refine Below.alloc ?_ (by first | (simp; done) | (simp; omega) | omega) _) | (with_reducible refine Below.drew ?_) | (with_reducible refine Below.drewN ?_ _))) : Below w.heap.size w _) hb2
    replace hB1 := Below.via (by (repeat (first | (with_reducible assumption) | (with_reducible exact Below.refl _ _) | (with_reducible refine Below.setCell ?_ (by first | (simp; done) | (simp; omega) | omega) _) | (with_reducible refine Below.alloc ?_ (by first | (simp; done) | (simp; omega) | omega) _) | (with_reducible refine Below.drew ?_) | (with_reducible refine Below.drewN ?_ _))) : Below w1.heap.size w1 _) hb2
    clear hb2
    have q0 := TQ.cell 0 rfl
    have lQ := TQ.lt
    go_wp2_with fail
    refine (sReadyNext_any _ _ _ _ _ yss _ r1 (by omega)).mono ?_
    rintro e w3 ⟨rfl, hb3⟩
    rw [h1]
    clear q0
    have z3 := hb3.size
    (try simp at z3)
    replace TQ := TQ.below hb3
    replace r1 := Rows.below (by (repeat (first | (with_reducible assumption) | (with_reducible refine Rows.drew ?_) | (with_reducible refine Rows.alloc ?_ _))) : Rows _ w.heap.size w1.heap.size A1 n1 yss) hb3
    replace hB := Below.via (by (repeat (first | (with_reducible assumption) | (with_reducible exact Below.refl _ _) | (with_reducible refine Below.setCell ?_ (by first | (simp; done) | (simp; omega) | omega) _) | (with_reducible refine Below.alloc ?_ (by first | (simp; done) | (simp; omega) | omega) _) | (with_reducible refine Below.drew ?_) | (with_reducible refine Below.drewN ?_ _))) : Below w.heap.size w _) hb3
    replace hB1 := Below.via (by (repeat (first | (with_reducible assumption) | (with_reducible exact Below.refl _ _) | (with_reducible refine Below.setCell ?_ (by first | (simp; done) | (simp; omega) | omega) _) | (with_reducible refine Below.alloc ?_ (by first | (simp; done) | (simp; omega) | omega) _) | (with_reducible refine Below.drew ?_) | (with_reducible refine Below.drewN ?_ _))) : Below w1.heap.size w1 _) hb3
    clear hb3
    have q0 := TQ.cell 0 rfl
    have lQ := TQ.lt
    clear q0 lQ
    go_wp2_with fail
    refine (alive_any _).mono ?_
    rintro e w4 ⟨rfl, hb4⟩
    replace hB := Below.via (by (repeat (first | (with_reducible assumption) | (with_reducible exact Below.refl _ _) | (with_reducible refine Below.setCell ?_ (by first | (simp; done) | (simp; omega) | omega) _) | (with_reducible refine Below.alloc ?_ (by first | (simp; done) | (simp; omega) | omega) _) | (with_reducible refine Below.drew ?_) | (with_reducible refine Below.drewN ?_ _))) : Below w.heap.size w _) hb4
    go_wp2
    go_ret
    exact ⟨rfl, by (repeat (first | (with_reducible assumption) | (with_reducible exact Below.refl _ _) | (with_reducible refine Below.setCell ?_ (by first | (simp; done) | (simp; omega) | omega) _) | (with_reducible refine Below.alloc ?_ (by first | (simp; done) | (simp; omega) | omega) _) | (with_reducible refine Below.drew ?_) | (with_reducible refine Below.drewN ?_ _)))⟩
  · skip
    have HE := Lib.hid (And.intro h1 (And.intro hp (And.intro hrest hv)))
    have HY := Lib.hid hy
    have hx0n : ¬ x < 0 := by omega
    clear h1 hp hrest hv hy
    go_wp2_with fail
    refine (iReadyNext_any _ _ _ _ _ yss _ (r1.alloc _) (by omega)).mono ?_
    rintro e w2 ⟨rfl, hb2⟩
    rw [HE.out.1]
    have z2 := hb2.size
    (try simp at z2)
    replace TQ := TQ.below hb2
    replace r1 := Rows.below (by (repeat (first | (with_reducible assumption) | (with_reducible refine Rows.drew ?_) | (with_reducible refine Rows.alloc ?_ _))) : Rows _ w.heap.size w1.heap.size A1 n1 yss) hb2
    replace hB := Below.via (by (repeat (first | (with_reducible assumption) | (with_reducible exact Below.refl _ _) | (with_reducible refine Below.setCell ?_ (by first | (simp; done) | (simp; omega) | omega) _) | (with_reducible refine Below.alloc ?_ (by first | (simp; done) | (simp; omega) | omega) _) | (with_reducible refine Below.drew ?_) | (with_reducible refine Below.drewN ?_ _))) : Below w.heap.size w _) hb2
    replace hB1 := Below.via (by (repeat (first | (with_reducible assumption) | (with_reducible exact Below.refl _ _) | (with_reducible refine Below.setCell ?_ (by first | (simp; done) | (simp; omega) | omega) _) | (with_reducible refine Below.alloc ?_ (by first | (simp; done) | (simp; omega) | omega) _) | (with_reducible refine Below.drew ?_) | (with_reducible refine Below.drewN ?_ _))) : Below w1.heap.size w1 _) hb2
    clear hb2
    have q0 := TQ.cell 0 rfl
    have lQ := TQ.lt
    go_wp2_with fail
    refine (sReadyNext_any _ _ _ _ _ yss _ r1 (by omega)).mono ?_
    rintro e w3 ⟨rfl, hb3⟩
    rw [HE.out.1]
    clear q0
    have z3 := hb3.size
    (try simp at z3)
    replace TQ := TQ.below hb3
    replace r1 := Rows.below (by (repeat (first | (with_reducible assumption) | (with_reducible refine Rows.drew ?_) | (with_reducible refine Rows.alloc ?_ _))) : Rows _ w.heap.size w1.heap.size A1 n1 yss) hb3
    replace hB := Below.via (by (repeat (first | (with_reducible assumption) | (with_reducible exact Below.refl _ _) | (with_reducible refine Below.setCell ?_ (by first | (simp; done) | (simp; omega) | omega) _) | (with_reducible refine Below.alloc ?_ (by first | (simp; done) | (simp; omega) | omega) _) | (with_reducible refine Below.drew ?_) | (with_reducible refine Below.drewN ?_ _))) : Below w.heap.size w _) hb3
    replace hB1 := Below.via (by (repeat (first | (with_reducible assumption) | (with_reducible exact Below.refl _ _) | (with_reducible refine Below.setCell ?_ (by first | (simp; done) | (simp; omega) | omega) _) | (with_reducible refine Below.alloc ?_ (by first | (simp; done) | (simp; omega) | omega) _) | (with_reducible refine Below.drew ?_) | (with_reducible refine Below.drewN ?_ _))) : Below w1.heap.size w1 _) hb3
    clear hb3
    have q0 := TQ.cell 0 rfl
    have lQ := TQ.lt
    go_wp2_with fail
    refine (iReadyPrio_any _ _ _ _ _ yss x _ r1 (by omega)).mono ?_
    rintro e w4 ⟨rfl, hb4⟩
    rw [HE.out.2.1]
    clear q0
    have z4 := hb4.size
    (try simp at z4)
    replace TQ := TQ.below hb4
    replace r1 := Rows.below (by (repeat (first | (with_reducible assumption) | (with_reducible refine Rows.drew ?_) | (with_reducible refine Rows.alloc ?_ _))) : Rows _ w.heap.size w1.heap.size A1 n1 yss) hb4
    replace hB := Below.via (by (repeat (first | (with_reducible assumption) | (with_reducible exact Below.refl _ _) | (with_reducible refine Below.setCell ?_ (by first | (simp; done) | (simp; omega) | omega) _) | (with_reducible refine Below.alloc ?_ (by first | (simp; done) | (simp; omega) | omega) _) | (with_reducible refine Below.drew ?_) | (with_reducible refine Below.drewN ?_ _))) : Below w.heap.size w _) hb4
    replace hB1 := Below.via (by (repeat (first | (with_reducible assumption) | (with_reducible exact Below.refl _ _) | (with_reducible refine Below.setCell ?_ (by first | (simp; done) | (simp; omega) | omega) _) | (with_reducible refine Below.alloc ?_ (by first | (simp; done) | (simp; omega) | omega) _) | (with_reducible refine Below.drew ?_) | (with_reducible refine Below.drewN ?_ _))) : Below w1.heap.size w1 _) hb4
    clear hb4
    have q0 := TQ.cell 0 rfl
    have lQ := TQ.lt
    have hkn : k < n1 := by omega
    have hn9 : n1 ≤ 100 := by unfold sizeOfRows at hs; omega
    have e1 : IntKind.i64.wrap ((k : Int) + 1) = (k : Int) + 1 := wr64 (by omega) (by omega)
    go_wp2
    go_loopw [6] (fun i wr => ∃ j : Nat, k + 1 ≤ j ∧ j ≤ n1 ∧ i = .int .i64 j ∧ w4 = wr) (fun i _ => n1 - (intOf i).toNat)
    case atStart => exact ⟨k + 1, by omega, by omega, by go_num, rfl⟩
    case round =>
      obtain ⟨j, hkj, hj, rfl, rfl⟩ := hrel
      by_cases hlt : j < n1
      · obtain ⟨b, o, zs, A', c', rfl, hbl, hz, hc, hle2, hrow⟩ := r1.at_ hlt
        have hz0 := HE.out.2.2.1 j zs (by omega) hz
        subst hz0
        have h00 : ([] : List Int).length = 0 := rfl
        rw [h00] at hc
        have hjj : (j : Int) < (n1 : Int) := by omega
        have hj0 : (0 : Int) ≤ (j : Int) := by omega
        clear hz hrow h00 hle2 r1
        go_wp2
        go_roundw
        case rel => exact ⟨j + 1, by omega, by omega, by go_num, by trivial⟩
        case measure => simp [intOf]; omega
      · have hjn : ¬ (j : Int) < (n1 : Int) := by omega
        obtain ⟨b, o, zs, A', c', rfl, hbl, hz, hc, hle2, hrow⟩ := r1.at_ hkn
        rw [HY.out] at hz
        injection hz with hz
        subst hz
        obtain ⟨b2, o2, y, rfl, hbl2, hx, hcx⟩ := ints_at hrow (show 0 < (x :: l).length by simp)
        obtain rfl : x = y := by simpa using hx
        (try simp only [Nat.add_zero] at hcx)
        obtain ⟨m, hm⟩ : ∃ m, (x :: l).length = m := ⟨_, rfl⟩
        have hm0 : (0 : Int) < (m : Int) := by rw [← hm]; simp
        rw [hm] at hc
        have hkk : (k : Int) < (n1 : Int) := by omega
        have hk0 : (0 : Int) ≤ (k : Int) := by omega
        clear hrow hx hm r1
        go_wp2
        go_ret
        exact ⟨rfl, hB⟩
end Go.Proofs.Ytccepnhnmpmkdaa
