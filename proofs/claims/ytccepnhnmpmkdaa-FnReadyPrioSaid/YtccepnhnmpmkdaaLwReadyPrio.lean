/- The walk of the law FnReadyPrio: it returns true and leaves all that was in memory as it was, for every code. -/
import Derived.Test.YtccepnhnmpmkdaaLwQueuesHead
namespace Go.Proofs.Ytccepnhnmpmkdaa
set_option linter.unusedVariables false
open Go.RowKit
set_option maxHeartbeats 4000000 in
theorem law_ReadyPrio (B T n c : Nat) (A : Option Addr) (bs : List Value) (w : World) (hr : Rd w B T 1 A n bs) (hb : Bytes bs) (hnc : n ≤ c) :
    Calls Try.prog 9 #[.slice A n c] w fun e w' => e = .returned (.bool true) ∧ Below w.heap.size w w' := by
  by_cases hbig : 1048576 < n
  · have hd : (1048576 : Int) < (n : Int) := by omega
    go_enter Try.func9, Try.ntmps9
    go_wp2_with fail
    go_ret
    exact ⟨rfl, Below.refl _ _⟩
  have hn : n ≤ 1048576 := by omega
  have hd : ¬ (1048576 : Int) < (n : Int) := by omega
  have hB := Below.refl w.heap.size w
  go_enter Try.func9, Try.ntmps9
  go_wp2_with fail
  refine (DrawReadyPrio_any B T n c A bs _ hr hb hn hnc).mono ?_
  rintro e w1 ⟨A1, n1, c1, yss, v, rfl, r1, hle, hs, hb1⟩
  have z1 := hb1.size
  replace hB := Below.via hB hb1
  clear hb1
  have hl := r1.len
  have TQ := Blk.new w1 24 #[.slice A1 n1 c1]
  have hB1 := Below.refl w1.heap.size w1
  have hT1 : w1.heap.size ≤ w1.heap.size := Nat.le_refl _
  cases hv : queuesV yss
  · skip
    have hp := rprio_bad (v := v) hv
    go_wp2_with fail
    refine (iReadyPrio_any _ _ _ _ _ yss v _ (r1.alloc _) (by omega)).mono ?_
    rintro e w2 ⟨rfl, hb2⟩
    rw [hp]
    have z2 := hb2.size
    (try simp at z2)
    replace TQ := TQ.below hb2
    replace r1 := Rows.below (by (repeat (first | (with_reducible assumption) | (with_reducible refine Rows.drew ?_) | (with_reducible refine Rows.alloc ?_ _))) : Rows _ w.heap.size w1.heap.size A1 n1 yss) hb2
    replace hB := Below.via (by (repeat (first | (with_reducible assumption) | (with_reducible exact Below.refl _ _) | (with_reducible refine Below.setCell ?_ (by first | (simp; done) | (simp; omega) | omega) _) | (with_reducible refine Below.alloc ?_ (by first | (simp; done) | (simp; omega) | omega) _) | (with_reducible refine Below.drew ?_) | (with_reducible refine Below.drewN ?_ _))) : Below w.heap.size w _) hb2
    replace hB1 := Below.via (by (repeat (first | (with_reducible assumption) | (with_reducible exact Below.refl _ _) | (with_reducible refine Below.setCell ?_ (by first | (simp; done) | (simp; omega) | omega) _) | (with_reducible refine Below.alloc ?_ (by first | (simp; done) | (simp; omega) | omega) _) | (with_reducible refine Below.drew ?_) | (with_reducible refine Below.drewN ?_ _))) : Below w1.heap.size w1 _) hb2
    clear hb2
    have q0 := TQ.cell 0 rfl
    have lQ := TQ.lt
    go_wp2_with fail
    refine (sReadyPrio_any _ _ _ _ _ yss v _ r1 (by omega)).mono ?_
    rintro e w3 ⟨rfl, hb3⟩
    rw [hp]
    clear q0
    have z3 := hb3.size
    (try simp at z3)
    replace TQ := TQ.below hb3
    replace r1 := Rows.below (by (repeat (first | (with_reducible assumption) | (with_reducible refine Rows.drew ?_) | (with_reducible refine Rows.alloc ?_ _))) : Rows _ w.heap.size w1.heap.size A1 n1 yss) hb3
    replace hB := Below.via (by (repeat (first | (with_reducible assumption) | (with_reducible exact Below.refl _ _) | (with_reducible refine Below.setCell ?_ (by first | (simp; done) | (simp; omega) | omega) _) | (with_reducible refine Below.alloc ?_ (by first | (simp; done) | (simp; omega) | omega) _) | (with_reducible refine Below.drew ?_) | (with_reducible refine Below.drewN ?_ _))) : Below w.heap.size w _) hb3
    replace hB1 := Below.via (by (repeat (first | (with_reducible assumption) | (with_reducible exact Below.refl _ _) | (with_reducible refine Below.setCell ?_ (by first | (simp; done) | (simp; omega) | omega) _) | (with_reducible refine Below.alloc ?_ (by first | (simp; done) | (simp; omega) | omega) _) | (with_reducible refine Below.drew ?_) | (with_reducible refine Below.drewN ?_ _))) : Below w1.heap.size w1 _) hb3
    clear hb3
    have q0 := TQ.cell 0 rfl
    have lQ := TQ.lt
    go_wp2_with fail
    refine (sQueuesValid_any _ _ _ _ _ yss _ r1 (by omega)).mono ?_
    rintro e w4 ⟨rfl, hb4⟩
    rw [hv]
    clear q0
    have z4 := hb4.size
    (try simp at z4)
    replace TQ := TQ.below hb4
    replace r1 := Rows.below (by (repeat (first | (with_reducible assumption) | (with_reducible refine Rows.drew ?_) | (with_reducible refine Rows.alloc ?_ _))) : Rows _ w.heap.size w1.heap.size A1 n1 yss) hb4
    replace hB := Below.via (by (repeat (first | (with_reducible assumption) | (with_reducible exact Below.refl _ _) | (with_reducible refine Below.setCell ?_ (by first | (simp; done) | (simp; omega) | omega) _) | (with_reducible refine Below.alloc ?_ (by first | (simp; done) | (simp; omega) | omega) _) | (with_reducible refine Below.drew ?_) | (with_reducible refine Below.drewN ?_ _))) : Below w.heap.size w _) hb4
    replace hB1 := Below.via (by (repeat (first | (with_reducible assumption) | (with_reducible exact Below.refl _ _) | (with_reducible refine Below.setCell ?_ (by first | (simp; done) | (simp; omega) | omega) _) | (with_reducible refine Below.alloc ?_ (by first | (simp; done) | (simp; omega) | omega) _) | (with_reducible refine Below.drew ?_) | (with_reducible refine Below.drewN ?_ _))) : Below w1.heap.size w1 _) hb4
    clear hb4
    have q0 := TQ.cell 0 rfl
    have lQ := TQ.lt
    clear q0 lQ
    go_wp2_with fail
    refine (alive_any _).mono ?_
    rintro e w5 ⟨rfl, hb5⟩
    replace hB := Below.via (by (repeat (first | (with_reducible assumption) | (with_reducible exact Below.refl _ _) | (with_reducible refine Below.setCell ?_ (by first | (simp; done) | (simp; omega) | omega) _) | (with_reducible refine Below.alloc ?_ (by first | (simp; done) | (simp; omega) | omega) _) | (with_reducible refine Below.drew ?_) | (with_reducible refine Below.drewN ?_ _))) : Below w.heap.size w _) hb5
    go_wp2
    go_ret
    exact ⟨rfl, by (repeat (first | (with_reducible assumption) | (with_reducible exact Below.refl _ _) | (with_reducible refine Below.setCell ?_ (by first | (simp; done) | (simp; omega) | omega) _) | (with_reducible refine Below.alloc ?_ (by first | (simp; done) | (simp; omega) | omega) _) | (with_reducible refine Below.drew ?_) | (with_reducible refine Below.drewN ?_ _)))⟩
  · skip
    have hp := rprio_ok (v := v) hv
    have hrg := prio_range (v := v) hv
    have his := fun (k : Nat) (ys : List Int) (hy : yss[k]? = some ys) => prio_is (v := v) hv hy
    rw [← hp] at hrg his
    have hl8 := (queuesV_len hv).1
    have hn8 : n1 = 8 := by omega
    clear hp
    generalize hpp : rprio yss v = p at hrg his
    have HP := Lib.hid hpp
    have HI := Lib.hid his
    have HN8 := Lib.hid hn8
    clear his hpp hn8 hl8 hl
    go_wp2_with fail
    refine (iReadyPrio_any _ _ _ _ _ yss v _ (r1.alloc _) (by omega)).mono ?_
    rintro e w2 ⟨rfl, hb2⟩
    rw [HP.out]
    have z2 := hb2.size
    (try simp at z2)
    replace TQ := TQ.below hb2
    replace r1 := Rows.below (by (repeat (first | (with_reducible assumption) | (with_reducible refine Rows.drew ?_) | (with_reducible refine Rows.alloc ?_ _))) : Rows _ w.heap.size w1.heap.size A1 n1 yss) hb2
    replace hB := Below.via (by (repeat (first | (with_reducible assumption) | (with_reducible exact Below.refl _ _) | (with_reducible refine Below.setCell ?_ (by first | (simp; done) | (simp; omega) | omega) _) | (with_reducible refine Below.alloc ?_ (by first | (simp; done) | (simp; omega) | omega) _) | (with_reducible refine Below.drew ?_) | (with_reducible refine Below.drewN ?_ _))) : Below w.heap.size w _) hb2
    replace hB1 := Below.via (by (repeat (first | (with_reducible assumption) | (with_reducible exact Below.refl _ _) | (with_reducible refine Below.setCell ?_ (by first | (simp; done) | (simp; omega) | omega) _) | (with_reducible refine Below.alloc ?_ (by first | (simp; done) | (simp; omega) | omega) _) | (with_reducible refine Below.drew ?_) | (with_reducible refine Below.drewN ?_ _))) : Below w1.heap.size w1 _) hb2
    clear hb2
    have q0 := TQ.cell 0 rfl
    have lQ := TQ.lt
    go_wp2_with fail
    refine (sReadyPrio_any _ _ _ _ _ yss v _ r1 (by omega)).mono ?_
    rintro e w3 ⟨rfl, hb3⟩
    rw [HP.out]
    clear q0
    have z3 := hb3.size
    (try simp at z3)
    replace TQ := TQ.below hb3
    replace r1 := Rows.below (by (repeat (first | (with_reducible assumption) | (with_reducible refine Rows.drew ?_) | (with_reducible refine Rows.alloc ?_ _))) : Rows _ w.heap.size w1.heap.size A1 n1 yss) hb3
    replace hB := Below.via (by (repeat (first | (with_reducible assumption) | (with_reducible exact Below.refl _ _) | (with_reducible refine Below.setCell ?_ (by first | (simp; done) | (simp; omega) | omega) _) | (with_reducible refine Below.alloc ?_ (by first | (simp; done) | (simp; omega) | omega) _) | (with_reducible refine Below.drew ?_) | (with_reducible refine Below.drewN ?_ _))) : Below w.heap.size w _) hb3
    replace hB1 := Below.via (by (repeat (first | (with_reducible assumption) | (with_reducible exact Below.refl _ _) | (with_reducible refine Below.setCell ?_ (by first | (simp; done) | (simp; omega) | omega) _) | (with_reducible refine Below.alloc ?_ (by first | (simp; done) | (simp; omega) | omega) _) | (with_reducible refine Below.drew ?_) | (with_reducible refine Below.drewN ?_ _))) : Below w1.heap.size w1 _) hb3
    clear hb3
    have q0 := TQ.cell 0 rfl
    have lQ := TQ.lt
    go_wp2_with fail
    refine (sQueuesValid_any _ _ _ _ _ yss _ r1 (by omega)).mono ?_
    rintro e w4 ⟨rfl, hb4⟩
    rw [hv]
    clear q0
    have z4 := hb4.size
    (try simp at z4)
    replace TQ := TQ.below hb4
    replace r1 := Rows.below (by (repeat (first | (with_reducible assumption) | (with_reducible refine Rows.drew ?_) | (with_reducible refine Rows.alloc ?_ _))) : Rows _ w.heap.size w1.heap.size A1 n1 yss) hb4
    replace hB := Below.via (by (repeat (first | (with_reducible assumption) | (with_reducible exact Below.refl _ _) | (with_reducible refine Below.setCell ?_ (by first | (simp; done) | (simp; omega) | omega) _) | (with_reducible refine Below.alloc ?_ (by first | (simp; done) | (simp; omega) | omega) _) | (with_reducible refine Below.drew ?_) | (with_reducible refine Below.drewN ?_ _))) : Below w.heap.size w _) hb4
    replace hB1 := Below.via (by (repeat (first | (with_reducible assumption) | (with_reducible exact Below.refl _ _) | (with_reducible refine Below.setCell ?_ (by first | (simp; done) | (simp; omega) | omega) _) | (with_reducible refine Below.alloc ?_ (by first | (simp; done) | (simp; omega) | omega) _) | (with_reducible refine Below.drew ?_) | (with_reducible refine Below.drewN ?_ _))) : Below w1.heap.size w1 _) hb4
    clear hb4
    have q0 := TQ.cell 0 rfl
    have lQ := TQ.lt
    have hp1 : -1 ≤ p := hrg.1
    have hp7 : p ≤ 7 := hrg.2
    clear hrg hv
    have hn8 := HN8.out
    subst hn8
    go_wp2
    go_loopw [6] (fun i wr => ∃ k : Nat, k ≤ 8 ∧ i = .int .i64 k ∧ w4 = wr) (fun i _ => 8 - (intOf i).toNat)
    case atStart => exact ⟨0, by omega, rfl, rfl⟩
    case round =>
      obtain ⟨k, hk, rfl, rfl⟩ := hrel
      by_cases hlt : k < 8
      · obtain ⟨b, o, ys, A', c', rfl, hbl, hy, hc, hle2, hrow⟩ := r1.at_ hlt
        have hsm := row_small hs hy
        have hkk : (k : Int) < 8 := by omega
        have hk0 : (0 : Int) ≤ (k : Int) := by omega
        have HY := Lib.hid (HI.out k ys hy)
        clear hy r1
        go_wp2
        go_loopw [7, 8] (fun a i wr => ∃ (j : Nat) (t : Bool), j ≤ ys.length ∧ i = .int .i64 j ∧ a = .bool t ∧ Hid (t = decide (v ∈ ys.take j)) ∧ w4 = wr) (fun _ i _ => ys.length - (intOf i).toNat)
        case atStart => exact ⟨0, false, by omega, rfl, rfl, Lib.hid (by simp), by trivial⟩
        case round =>
          obtain ⟨j, t, hj, rfl, rfl, ht, rfl⟩ := hrel
          by_cases hlj : j < ys.length
          · obtain ⟨b2, o2, x, rfl, hbl2, hx, hcx⟩ := ints_at hrow hlj
            have hjj : (j : Int) < (ys.length : Int) := by omega
            have hj0 : (0 : Int) ≤ (j : Int) := by omega
            have HN := Lib.hid (show decide (v ∈ ys.take (j + 1)) = (t || (x == v)) by
              rw [ht.out, List.take_add_one, hx, Bool.eq_iff_iff]
              simp only [Option.toList_some, List.mem_append, List.mem_singleton, decide_eq_true_eq, Bool.or_eq_true, beq_iff_eq]
              exact ⟨fun h => h.imp id Eq.symm, fun h => h.imp id Eq.symm⟩)
            clear hx hrow ht
            cases t
            · by_cases hxv : x = v
              · subst hxv
                go_wp2
                go_roundw
                case rel => exact ⟨j + 1, true, by omega, by go_num, rfl, Lib.hid (by rw [HN.out]; simp), by trivial⟩
                case measure => simp [intOf]; omega
              · have hxn : (x == v) = false := beq_eq_false_iff_ne.2 hxv
                clear hxv
                go_wp2
                go_roundw
                case rel => exact ⟨j + 1, false, by omega, by go_num, rfl, Lib.hid (by rw [HN.out, hxn]; rfl), by trivial⟩
                case measure => simp [intOf]; omega
            · skip
              go_wp2
              go_roundw
              case rel => exact ⟨j + 1, true, by omega, by go_num, rfl, Lib.hid (by rw [HN.out]; rfl), by trivial⟩
              case measure => simp [intOf]; omega
          · have hte : t = decide (v ∈ ys) := by have h := ht.out; rwa [List.take_of_length_le (by omega)] at h
            have hjl : ¬ (j : Int) < (ys.length : Int) := by omega
            clear hrow ht
            by_cases hm : v ∈ ys
            · have hpk : p = (k : Int) := HY.out.1 hm
              obtain rfl : t = true := by rw [hte]; exact decide_eq_true hm
              subst hpk
              clear hm hte
              go_wp2
              go_roundw
              case rel => exact ⟨k + 1, by omega, by go_num, by trivial⟩
              case measure => simp [intOf]; omega
            · have hpk : ((k : Int) == p) = false := beq_eq_false_iff_ne.2 (fun e => hm (HY.out.2 e.symm))
              obtain rfl : t = false := by rw [hte]; exact decide_eq_false hm
              clear hm hte
              go_wp2
              go_roundw
              case rel => exact ⟨k + 1, by omega, by go_num, by trivial⟩
              case measure => simp [intOf]; omega
      · have hk8 : ¬ (k : Int) < 8 := by omega
        clear r1
        go_wp2
        go_ret
        exact ⟨rfl, hB⟩
end Go.Proofs.Ytccepnhnmpmkdaa
