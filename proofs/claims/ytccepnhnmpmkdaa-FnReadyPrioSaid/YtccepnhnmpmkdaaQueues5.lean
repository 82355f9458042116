/- Contracts of next, ReadyNext, LongestWait (impl and spec) and of ReadyPrio (spec). -/
import Derived.Test.YtccepnhnmpmkdaaQueues4
namespace Go.Proofs.Ytccepnhnmpmkdaa
set_option linter.unusedVariables false
open Go.RowKit
theorem rprio_bad {yss : List (List Int)} {v : Int} (h : queuesV yss = false) : rprio yss v = -1 := by unfold rprio; rw [h]; rfl
theorem rprio_ok {yss : List (List Int)} {v : Int} (h : queuesV yss = true) : rprio yss v = prioF yss v := by unfold rprio; rw [h]; rfl
theorem rnext_bad {yss : List (List Int)} (h : queuesV yss = false) : rnext yss = -1 := by unfold rnext; rw [h]; rfl
theorem rnext_ok {yss : List (List Int)} (h : queuesV yss = true) : rnext yss = nextF yss := by unfold rnext; rw [h]; rfl
theorem longF_bad {yss : List (List Int)} (h : queuesV yss = false) : longF yss = -1 := by unfold longF; rw [h]; rfl
theorem longF_none {yss : List (List Int)} (h : queuesV yss = true) (ht : topF yss = -1) : longF yss = 0 := by unfold longF; rw [h, ht]; rfl
theorem longF_some {yss : List (List Int)} {k : Nat} (h : queuesV yss = true) (ht : topF yss = (k : Int)) : longF yss = ((yss.getD (topF yss).toNat []).length : Int) := by
  unfold longF; rw [h, if_pos rfl, if_neg (by rw [ht]; omega)]
set_option maxHeartbeats 1000000 in
theorem next_any (B T c : Nat) (A : Option Addr) (yss : List (List Int)) (w : World) (hr : Rows w B T A 8 yss) (hs : sizeOfRows yss ≤ 1048576) :
    Calls Try.prog 39 #[queues A 8 c] w fun e w' => e = .returned (.int .i64 (nextF yss)) ∧ Below w.heap.size w w' := by
  have hl := hr.len
  have TP := Blk.new w 24 #[.slice A 8 c]
  rcases top_cases yss with ⟨h1, h2, h3⟩ | ⟨k, x, l, h1, h2, h3, h4, h5, h6⟩
  · have H1 := Lib.hid h1
    have H2 := Lib.hid h2
    clear h1 h2 h3 hl
    go_enter Try.func39, Try.ntmps39
    go_wp2_with fail
    refine (top_any _ _ _ _ yss _ (hr.alloc _) hs).mono ?_
    rintro e w1 ⟨rfl, hb1⟩
    rw [H1.out]
    go_wp2
    go_ret
    exact ⟨by rw [H2.out]; rfl, Below.via (by (repeat (first | (with_reducible assumption) | (with_reducible exact Below.refl _ _) | (with_reducible refine Below.setCell ?_ (by first | (simp; done) | (simp; omega) | omega) _) | (with_reducible refine Below.alloc ?_ (by first | (simp; done) | (simp; omega) | omega) _) | (with_reducible refine Below.drew ?_) | (with_reducible refine Below.drewN ?_ _))) : Below w.heap.size w _) hb1⟩
  · have H1 := Lib.hid h1
    have H2 := Lib.hid h2
    have hk8 : k < 8 := by omega
    obtain ⟨b, o, ys, A', c', rfl, hbl, hy, hc, hle, hrow⟩ := hr.at_ hk8
    obtain rfl : x :: l = ys := by rw [h4] at hy; injection hy
    obtain ⟨b2, o2, y, rfl, hbl2, hx, hc2⟩ := ints_at hrow (show 0 < (x :: l).length by simp)
    obtain rfl : x = y := by simpa using hx
    have hc20 : w.cell? ⟨b2, o2, none⟩ = some (.int .i64 x) := hc2
    have hkk : (k : Int) < 8 := by omega
    have hk0 : (0 : Int) ≤ (k : Int) := by omega
    have hl0 : (0 : Int) < ((x :: l).length : Int) := by simp
    obtain ⟨m, hm⟩ : ∃ m, (x :: l).length = m := ⟨_, rfl⟩
    rw [hm] at hc hl0
    clear h1 h2 h3 h4 h5 h6 hl hy hx hrow hle hm hc2
    go_enter Try.func39, Try.ntmps39
    go_wp2_with fail
    refine (top_any _ _ _ _ yss _ (hr.alloc _) hs).mono ?_
    rintro e w1 ⟨rfl, hb1⟩
    rw [H1.out]
    replace TP := TP.below hb1
    have q0 := TP.cell 0 rfl
    have lP := TP.lt
    have hB := Below.via (by (repeat (first | (with_reducible assumption) | (with_reducible exact Below.refl _ _) | (with_reducible refine Below.setCell ?_ (by first | (simp; done) | (simp; omega) | omega) _) | (with_reducible refine Below.alloc ?_ (by first | (simp; done) | (simp; omega) | omega) _) | (with_reducible refine Below.drew ?_) | (with_reducible refine Below.drewN ?_ _))) : Below w.heap.size w _) hb1
    have hcw := (hB.cell (p := ⟨b, o + k, none⟩) hbl).trans hc
    have hcx := (hB.cell (p := ⟨b2, o2, none⟩) hbl2).trans hc20
    clear hc hc20 hr hb1
    go_wp2
    go_ret
    exact ⟨by rw [H2.out]; rfl, hB⟩
set_option maxHeartbeats 400000 in
theorem iReadyNext_any (B T n c : Nat) (A : Option Addr) (yss : List (List Int)) (w : World) (hr : Rows w B T A n yss) (hs : sizeOfRows yss ≤ 1048576) :
    Calls Try.prog 23 #[queues A n c] w fun e w' => e = .returned (.int .i64 (rnext yss)) ∧ Below w.heap.size w w' := by
  cases hv : queuesV yss
  · have HV := Lib.hid (rnext_bad hv)
    go_enter Try.func23, Try.ntmps23
    go_wp2_with fail
    refine (iQueuesValid_any _ _ _ _ _ yss _ (hr.alloc _) hs).mono ?_
    rintro e w1 ⟨rfl, hb1⟩
    rw [hv]
    go_wp2
    go_ret
    exact ⟨by rw [HV.out]; rfl, Below.via (by (repeat (first | (with_reducible assumption) | (with_reducible exact Below.refl _ _) | (with_reducible refine Below.setCell ?_ (by first | (simp; done) | (simp; omega) | omega) _) | (with_reducible refine Below.alloc ?_ (by first | (simp; done) | (simp; omega) | omega) _) | (with_reducible refine Below.drew ?_) | (with_reducible refine Below.drewN ?_ _))) : Below w.heap.size w _) hb1⟩
  · have HV := Lib.hid (rnext_ok hv)
    obtain rfl : n = 8 := by rw [← hr.len]; exact (queuesV_len hv).1
    have TP := Blk.new w 24 #[.slice A 8 c]
    go_enter Try.func23, Try.ntmps23
    go_wp2_with fail
    refine (iQueuesValid_any _ _ _ _ _ yss _ (hr.alloc _) hs).mono ?_
    rintro e w1 ⟨rfl, hb1⟩
    rw [hv]
    replace TP := TP.below hb1
    have q0 := TP.cell 0 rfl
    have hr1 := (hr.alloc (.cells #[.slice A 8 c] 24)).below hb1
    have hB := Below.via (by (repeat (first | (with_reducible assumption) | (with_reducible exact Below.refl _ _) | (with_reducible refine Below.setCell ?_ (by first | (simp; done) | (simp; omega) | omega) _) | (with_reducible refine Below.alloc ?_ (by first | (simp; done) | (simp; omega) | omega) _) | (with_reducible refine Below.drew ?_) | (with_reducible refine Below.drewN ?_ _))) : Below w.heap.size w _) hb1
    clear hr hb1
    go_wp2_with fail
    refine (next_any _ _ _ _ yss _ hr1 hs).mono ?_
    rintro e w2 ⟨rfl, hb2⟩
    go_wp2
    go_ret
    exact ⟨by rw [HV.out]; rfl, Below.via hB hb2⟩
set_option maxHeartbeats 1000000 in
theorem iLongestWait_any (B T n c : Nat) (A : Option Addr) (yss : List (List Int)) (w : World) (hr : Rows w B T A n yss) (hs : sizeOfRows yss ≤ 1048576) :
    Calls Try.prog 25 #[queues A n c] w fun e w' => e = .returned (.int .i64 (longF yss)) ∧ Below w.heap.size w w' := by
  cases hv : queuesV yss
  · have HV := Lib.hid (longF_bad hv)
    go_enter Try.func25, Try.ntmps25
    go_wp2_with fail
    refine (iQueuesValid_any _ _ _ _ _ yss _ (hr.alloc _) hs).mono ?_
    rintro e w1 ⟨rfl, hb1⟩
    rw [hv]
    go_wp2
    go_ret
    exact ⟨by rw [HV.out]; rfl, Below.via (by (repeat (first | (with_reducible assumption) | (with_reducible exact Below.refl _ _) | (with_reducible refine Below.setCell ?_ (by first | (simp; done) | (simp; omega) | omega) _) | (with_reducible refine Below.alloc ?_ (by first | (simp; done) | (simp; omega) | omega) _) | (with_reducible refine Below.drew ?_) | (with_reducible refine Below.drewN ?_ _))) : Below w.heap.size w _) hb1⟩
  · obtain rfl : n = 8 := by rw [← hr.len]; exact (queuesV_len hv).1
    have hl := hr.len
    have TP := Blk.new w 24 #[.slice A 8 c]
    rcases top_cases yss with ⟨h1, h2, h3⟩ | ⟨k, x, l, h1, h2, h3, h4, h5, h6⟩
    · have H1 := Lib.hid h1
      have HV := Lib.hid (longF_none hv h1)
      clear h1 h2 h3 hl
      go_enter Try.func25, Try.ntmps25
      go_wp2_with fail
      refine (iQueuesValid_any _ _ _ _ _ yss _ (hr.alloc _) hs).mono ?_
      rintro e w1 ⟨rfl, hb1⟩
      rw [hv]
      replace TP := TP.below hb1
      have q0 := TP.cell 0 rfl
      have hr1 := (hr.alloc (.cells #[.slice A 8 c] 24)).below hb1
      have hB := Below.via (by (repeat (first | (with_reducible assumption) | (with_reducible exact Below.refl _ _) | (with_reducible refine Below.setCell ?_ (by first | (simp; done) | (simp; omega) | omega) _) | (with_reducible refine Below.alloc ?_ (by first | (simp; done) | (simp; omega) | omega) _) | (with_reducible refine Below.drew ?_) | (with_reducible refine Below.drewN ?_ _))) : Below w.heap.size w _) hb1
      clear hr hb1
      go_wp2_with fail
      refine (top_any _ _ _ _ yss _ hr1 hs).mono ?_
      rintro e w2 ⟨rfl, hb2⟩
      rw [H1.out]
      go_wp2
      go_ret
      exact ⟨by rw [HV.out]; rfl, Below.via hB hb2⟩
    · have HV := Lib.hid ((longF_some hv h1).trans (by rw [h5]))
      have H1 := Lib.hid h1
      have hk8 : k < 8 := by omega
      obtain ⟨b, o, ys, A', c', rfl, hbl, hy, hc, hle, hrow⟩ := hr.at_ hk8
      obtain rfl : x :: l = ys := by rw [h4] at hy; injection hy
      have hkk : (k : Int) < 8 := by omega
      have hk0 : (0 : Int) ≤ (k : Int) := by omega
      obtain ⟨m, hm⟩ : ∃ m, (x :: l).length = m := ⟨_, rfl⟩
      have hml : m = l.length + 1 := hm.symm
      rw [hm] at hc
      rw [← hml] at HV
      clear h1 h2 h3 h4 h5 h6 hl hy hrow hle hm hml
      go_enter Try.func25, Try.ntmps25
      go_wp2_with fail
      refine (iQueuesValid_any _ _ _ _ _ yss _ (hr.alloc _) hs).mono ?_
      rintro e w1 ⟨rfl, hb1⟩
      rw [hv]
      replace TP := TP.below hb1
      have q0 := TP.cell 0 rfl
      have hr1 := (hr.alloc (.cells #[.slice (some ⟨b, o, none⟩) 8 c] 24)).below hb1
      have hB := Below.via (by (repeat (first | (with_reducible assumption) | (with_reducible exact Below.refl _ _) | (with_reducible refine Below.setCell ?_ (by first | (simp; done) | (simp; omega) | omega) _) | (with_reducible refine Below.alloc ?_ (by first | (simp; done) | (simp; omega) | omega) _) | (with_reducible refine Below.drew ?_) | (with_reducible refine Below.drewN ?_ _))) : Below w.heap.size w _) hb1
      clear hr hb1
      go_wp2_with fail
      refine (top_any _ _ _ _ yss _ hr1 hs).mono ?_
      rintro e w2 ⟨rfl, hb2⟩
      rw [H1.out]
      replace TP := TP.below hb2
      have q1 := TP.cell 0 rfl
      have hB2 := Below.via hB hb2
      have hcw := (hB2.cell (p := ⟨b, o + k, none⟩) hbl).trans hc
      clear hc hr1 hb2 q0
      go_wp2
      go_ret
      exact ⟨by rw [HV.out]; rfl, hB2⟩
set_option maxHeartbeats 2000000 in
theorem sReadyPrio_any (B T n c : Nat) (A : Option Addr) (yss : List (List Int)) (v : Int) (w : World) (hr : Rows w B T A n yss) (hs : sizeOfRows yss ≤ 1048576) :
    Calls Try.prog 20 #[queues A n c, .int .i64 v] w fun e w' => e = .returned (.int .i64 (rprio yss v)) ∧ Below w.heap.size w w' := by
  have hl := hr.len
  have HL := Lib.hid hl
  have hn : n ≤ 1048576 := by unfold sizeOfRows at hs; omega
  clear hl
  have TP := Blk.new w 24 #[.slice A n c]
  have hB : Below w.heap.size w (w.alloc (.cells #[.slice A n c] 24)) := by (repeat (first | (with_reducible assumption) | (with_reducible exact Below.refl _ _) | (with_reducible refine Below.setCell ?_ (by first | (simp; done) | (simp; omega) | omega) _) | (with_reducible refine Below.alloc ?_ (by first | (simp; done) | (simp; omega) | omega) _) | (with_reducible refine Below.drew ?_) | (with_reducible refine Below.drewN ?_ _)))
  go_enter Try.func20, Try.ntmps20
  go_wp2
  go_loopw [5] (fun i wr => ∃ p : Nat, p ≤ n ∧ i = .int .i64 p ∧ Hid (∀ j zs, j < p → yss[j]? = some zs → v ∉ zs) ∧ Blk wr w.heap.size 24 #[.slice A n c] ∧ Below w.heap.size w wr) (fun i _ => n - (intOf i).toNat)
  case atStart => exact ⟨0, by omega, rfl, Lib.hid (fun j zs hj => absurd hj (by omega)), TP, hB⟩
  case round =>
    clear TP hB
    obtain ⟨p, hp, rfl, ht, TP, hb⟩ := hrel
    have q0 := TP.cell 0 rfl
    by_cases hlt : p < n
    · have hpp : (p : Int) < (n : Int) := by omega
      have hp0 : (0 : Int) ≤ (p : Int) := by omega
      cases hv : queuesV yss
      · have HV := Lib.hid (rprio_bad (v := v) hv)
        go_wp2_with fail
        refine (sQueuesValid_any _ _ _ _ _ yss _ (hr.below hb) hs).mono ?_
        rintro e w1 ⟨rfl, hb1⟩
        rw [hv]
        go_wp2
        go_ret
        exact ⟨by rw [HV.out]; rfl, Below.via hb hb1⟩
      · have HV := Lib.hid (rprio_ok (v := v) hv)
        go_wp2_with fail
        refine (sQueuesValid_any _ _ _ _ _ yss _ (hr.below hb) hs).mono ?_
        rintro e w1 ⟨rfl, hb1⟩
        rw [hv]
        replace TP := TP.below hb1
        replace hb := Below.via hb hb1
        clear q0 hb1
        have q0 := TP.cell 0 rfl
        obtain ⟨b, o, ys, A', c', rfl, hbl, hy, hc0, hle, hrow⟩ := hr.at_ hlt
        have hsm := row_small hs hy
        have HY := Lib.hid hy
        clear hr hy
        go_wp2
        clear q0
        go_loopw [6] (fun i wr => ∃ k : Nat, k ≤ ys.length ∧ i = .int .i64 k ∧ Hid (v ∉ ys.take k) ∧ Blk wr w.heap.size 24 #[.slice (some ⟨b, o, none⟩) n c] ∧ Below w.heap.size w wr) (fun i _ => ys.length - (intOf i).toNat)
        case atStart => exact ⟨0, by omega, rfl, Lib.hid (by simp), TP, hb⟩
        case round =>
          clear TP hb
          obtain ⟨k, hk, rfl, hx0, TP, hb⟩ := hrel
          have hc := (hb.cell (p := ⟨b, o + p, none⟩) hbl).trans hc0
          have q0 := TP.cell 0 rfl
          have lP := TP.lt
          by_cases hlk : k < ys.length
          · obtain ⟨b2, o2, x, rfl, hbl2, hx, hcx0⟩ := ints_at hrow hlk
            have hcx := (hb.cell (p := ⟨b2, o2 + k, none⟩) hbl2).trans hcx0
            have hkk : (k : Int) < (ys.length : Int) := by omega
            have hk0 : (0 : Int) ≤ (k : Int) := by omega
            have HX := Lib.hid hx
            clear hx hc0 hcx0 hrow
            by_cases hxv : x = v
            · subst hxv
              have HP := Lib.hid (prioF_at ht.out HY.out (List.mem_of_getElem? HX.out))
              go_wp2
              go_ret
              exact ⟨by rw [HV.out, HP.out]; rfl, hb⟩
            · have hxn : (x == v) = false := by simp [hxv]
              have HN := Lib.hid (notMem_succ hx0.out HX.out (fun e => hxv e.symm))
              clear hxv
              go_wp2
              go_roundw
              case rel => exact ⟨k + 1, by omega, by go_num, HN, TP, hb⟩
              case measure => simp [intOf]; omega
          · have hkn : k = ys.length := by omega
            subst hkn
            have HN := Lib.hid (show v ∉ ys by have := hx0.out; rwa [List.take_of_length_le (Nat.le_refl _)] at this)
            clear hx0 hrow hc0
            go_wp2
            go_roundw
            case rel =>
              refine ⟨p + 1, by omega, by go_num, Lib.hid (fun j zs hj hz => ?_), TP, hb⟩
              by_cases hjk : j = p
              · subst hjk
                have := HY.out
                rw [hz] at this
                injection this with this
                rw [this]
                exact HN.out
              · exact ht.out j zs (by omega) hz
            case measure => simp [intOf]; omega
    · have hkn : p = n := by omega
      subst hkn
      have HV := Lib.hid (show rprio yss v = -1 by
        cases hv : queuesV yss
        · exact rprio_bad hv
        · rw [rprio_ok hv]
          exact prioF_none fun j zs hz => ht.out j zs (by have := (List.getElem?_eq_some_iff.1 hz).1; have := HL.out; omega) hz)
      clear hr
      go_wp2
      go_ret
      exact ⟨by rw [HV.out]; rfl, hb⟩
set_option maxHeartbeats 2000000 in
theorem sReadyNext_any (B T n c : Nat) (A : Option Addr) (yss : List (List Int)) (w : World) (hr : Rows w B T A n yss) (hs : sizeOfRows yss ≤ 1048576) :
    Calls Try.prog 22 #[queues A n c] w fun e w' => e = .returned (.int .i64 (rnext yss)) ∧ Below w.heap.size w w' := by
  have hl := hr.len
  have HL := Lib.hid hl
  have hn : n ≤ 1048576 := by unfold sizeOfRows at hs; omega
  clear hl
  have TP := Blk.new w 24 #[.slice A n c]
  have q0 := TP.cell 0 rfl
  have hB : Below w.heap.size w (w.alloc (.cells #[.slice A n c] 24)) := by (repeat (first | (with_reducible assumption) | (with_reducible exact Below.refl _ _) | (with_reducible refine Below.setCell ?_ (by first | (simp; done) | (simp; omega) | omega) _) | (with_reducible refine Below.alloc ?_ (by first | (simp; done) | (simp; omega) | omega) _) | (with_reducible refine Below.drew ?_) | (with_reducible refine Below.drewN ?_ _)))
  go_enter Try.func22, Try.ntmps22
  go_wp2
  go_loopw [3] (fun i wr => ∃ k : Nat, k ≤ n ∧ i = .int .i64 ((k : Int) - 1) ∧ Hid (topN yss n = topN yss k) ∧ Blk wr w.heap.size 24 #[.slice A n c] ∧ Below w.heap.size w wr) (fun i _ => (intOf i + 1).toNat)
  case atStart => exact ⟨n, by omega, rfl, Lib.hid rfl, TP, hB⟩
  case round =>
    clear TP hB q0
    obtain ⟨k, hk, rfl, ht, TP, hb⟩ := hrel
    have q0 := TP.cell 0 rfl
    cases k with
    | zero =>
      have HV := Lib.hid (show rnext yss = -1 by
        cases hv : queuesV yss
        · exact rnext_bad hv
        · rw [rnext_ok hv]
          have h1 : topF yss = -1 := by unfold topF; rw [HL.out, ht.out]; rfl
          unfold nextF
          rw [h1]; rfl)
      have hz : ((0 : Nat) : Int) - 1 = -1 := rfl
      rw [hz]
      clear hr
      go_wp2
      go_ret
      exact ⟨by rw [HV.out]; rfl, hb⟩
    | succ k =>
      have hks : ((k + 1 : Nat) : Int) - 1 = (k : Int) := by omega
      rw [hks]
      have hk8 : (k : Int) < (n : Int) := by omega
      have hk0 : (0 : Int) ≤ (k : Int) := by omega
      clear hks
      cases hv : queuesV yss
      · have HV := Lib.hid (rnext_bad hv)
        go_wp2_with fail
        refine (sQueuesValid_any _ _ _ _ _ yss _ (hr.below hb) hs).mono ?_
        rintro e w1 ⟨rfl, hb1⟩
        rw [hv]
        go_wp2
        go_ret
        exact ⟨by rw [HV.out]; rfl, Below.via hb hb1⟩
      · have HR := Lib.hid (rnext_ok hv)
        obtain ⟨b, o, ys, A', c', rfl, hbl, hy, hc0, hle, hrow⟩ := hr.at_ (show k < n by omega)
        have hsm := row_small hs hy
        have HY := Lib.hid hy
        go_wp2_with fail
        refine (sQueuesValid_any _ _ _ _ _ yss _ (hr.below hb) hs).mono ?_
        rintro e w1 ⟨rfl, hb1⟩
        rw [hv]
        replace TP := TP.below hb1
        replace hb := Below.via hb hb1
        clear q0 hb1 hr hy
        have q0 := TP.cell 0 rfl
        have hc := (hb.cell (p := ⟨b, o + k, none⟩) hbl).trans hc0
        cases ys with
        | nil =>
          have h00 : ([] : List Int).length = 0 := rfl
          rw [h00] at hc
          clear hrow hc0 h00 hsm hle
          go_wp2
          go_roundw
          case rel => exact ⟨k, by omega, by go_num, Lib.hid (by rw [ht.out, topN_skip HY.out rfl]), TP, hb⟩
          case measure => simp [intOf]
        | cons x l =>
          have htop : topF yss = (k : Int) := by unfold topF; rw [HL.out, ht.out, topN_stop HY.out (by simp)]
          have HV := Lib.hid (show rnext yss = x by
            rw [HR.out]
            unfold nextF
            rw [htop, if_neg (by omega), Int.toNat_natCast, List.getD_eq_getElem?_getD, HY.out]; rfl)
          obtain ⟨b2, o2, y, rfl, hbl2, hx, hc2⟩ := ints_at hrow (show 0 < (x :: l).length by simp)
          obtain rfl : x = y := by simpa using hx
          have hcx := (hb.cell (p := ⟨b2, o2, none⟩) hbl2).trans hc2
          obtain ⟨m, hm⟩ : ∃ m, (x :: l).length = m := ⟨_, rfl⟩
          have hm0 : (0 : Int) < (m : Int) := by rw [← hm]; simp
          rw [hm] at hc
          clear hrow hc0 hc2 hx hm hsm hle htop
          go_wp2
          go_ret
          exact ⟨by rw [HV.out]; rfl, hb⟩
set_option maxHeartbeats 2000000 in
theorem sLongestWait_any (B T n c : Nat) (A : Option Addr) (yss : List (List Int)) (w : World) (hr : Rows w B T A n yss) (hs : sizeOfRows yss ≤ 1048576) :
    Calls Try.prog 24 #[queues A n c] w fun e w' => e = .returned (.int .i64 (longF yss)) ∧ Below w.heap.size w w' := by
  cases hv : queuesV yss
  · have HV := Lib.hid (longF_bad hv)
    go_enter Try.func24, Try.ntmps24
    go_wp2_with fail
    refine (sQueuesValid_any _ _ _ _ _ yss _ (hr.alloc _) hs).mono ?_
    rintro e w1 ⟨rfl, hb1⟩
    rw [hv]
    go_wp2
    go_ret
    exact ⟨by rw [HV.out]; rfl, Below.via (by (repeat (first | (with_reducible assumption) | (with_reducible exact Below.refl _ _) | (with_reducible refine Below.setCell ?_ (by first | (simp; done) | (simp; omega) | omega) _) | (with_reducible refine Below.alloc ?_ (by first | (simp; done) | (simp; omega) | omega) _) | (with_reducible refine Below.drew ?_) | (with_reducible refine Below.drewN ?_ _))) : Below w.heap.size w _) hb1⟩
  · obtain rfl : n = 8 := by rw [← hr.len]; exact (queuesV_len hv).1
    have hl := hr.len
    have TP := Blk.new w 24 #[.slice A 8 c]
    rcases top_cases yss with ⟨h1, h2, h3⟩ | ⟨k, x, l, h1, h2, h3, h4, h5, h6⟩
    · have H2 := Lib.hid ((rnext_ok hv).trans h2)
      have HV := Lib.hid (longF_none hv h1)
      clear h1 h2 h3 hl
      go_enter Try.func24, Try.ntmps24
      go_wp2_with fail
      refine (sQueuesValid_any _ _ _ _ _ yss _ (hr.alloc _) hs).mono ?_
      rintro e w1 ⟨rfl, hb1⟩
      rw [hv]
      replace TP := TP.below hb1
      have q0 := TP.cell 0 rfl
      have hr1 := (hr.alloc (.cells #[.slice A 8 c] 24)).below hb1
      have hB := Below.via (by (repeat (first | (with_reducible assumption) | (with_reducible exact Below.refl _ _) | (with_reducible refine Below.setCell ?_ (by first | (simp; done) | (simp; omega) | omega) _) | (with_reducible refine Below.alloc ?_ (by first | (simp; done) | (simp; omega) | omega) _) | (with_reducible refine Below.drew ?_) | (with_reducible refine Below.drewN ?_ _))) : Below w.heap.size w _) hb1
      clear hr hb1
      go_wp2_with fail
      refine (sReadyNext_any _ _ _ _ _ yss _ hr1 hs).mono ?_
      rintro e w2 ⟨rfl, hb2⟩
      rw [H2.out]
      go_wp2
      go_ret
      exact ⟨by rw [HV.out]; rfl, Below.via hB hb2⟩
    · have HV := Lib.hid ((longF_some hv h1).trans (by rw [h5]))
      obtain ⟨hx0, hx1, hpr⟩ := valid_head hv h4
      have H2 := Lib.hid ((rnext_ok hv).trans h2)
      have HP := Lib.hid ((rprio_ok hv).trans hpr)
      have hk8 : k < 8 := by omega
      obtain ⟨b, o, ys, A', c', rfl, hbl, hy, hc, hle, hrow⟩ := hr.at_ hk8
      obtain rfl : x :: l = ys := by rw [h4] at hy; injection hy
      have hkk : (k : Int) < 8 := by omega
      have hk0 : (0 : Int) ≤ (k : Int) := by omega
      have hxn : ¬ x < 0 := by omega
      obtain ⟨m, hm⟩ : ∃ m, (x :: l).length = m := ⟨_, rfl⟩
      have hml : m = l.length + 1 := hm.symm
      rw [hm] at hc
      rw [← hml] at HV
      clear h1 h2 h3 h4 h5 h6 hl hy hrow hle hm hml hpr
      go_enter Try.func24, Try.ntmps24
      go_wp2_with fail
      refine (sQueuesValid_any _ _ _ _ _ yss _ (hr.alloc _) hs).mono ?_
      rintro e w1 ⟨rfl, hb1⟩
      rw [hv]
      replace TP := TP.below hb1
      have q0 := TP.cell 0 rfl
      have hr1 := (hr.alloc (.cells #[.slice (some ⟨b, o, none⟩) 8 c] 24)).below hb1
      have hB := Below.via (by (repeat (first | (with_reducible assumption) | (with_reducible exact Below.refl _ _) | (with_reducible refine Below.setCell ?_ (by first | (simp; done) | (simp; omega) | omega) _) | (with_reducible refine Below.alloc ?_ (by first | (simp; done) | (simp; omega) | omega) _) | (with_reducible refine Below.drew ?_) | (with_reducible refine Below.drewN ?_ _))) : Below w.heap.size w _) hb1
      clear hr hb1
      go_wp2_with fail
      refine (sReadyNext_any _ _ _ _ _ yss _ hr1 hs).mono ?_
      rintro e w2 ⟨rfl, hb2⟩
      rw [H2.out]
      replace TP := TP.below hb2
      have q1 := TP.cell 0 rfl
      have hr2 := hr1.below hb2
      have hB2 := Below.via hB hb2
      have lP := TP.lt
      have z2 := hB2.size
      have hcw := (hB2.cell (p := ⟨b, o + k, none⟩) hbl).trans hc
      clear hc hr1 hb2 q0 hB
      go_wp2_with fail
      refine wp_region_noPanic ?_
      refine wp_region_held_drew (S := (fun W => W.cell? ⟨w.heap.size, 0, none⟩ = some (.slice (some ⟨b, o, none⟩) 8 c) ∧ W.cell? ⟨b, o + k, none⟩ = some (.slice A' m c'))) (by kernel_rfl) ?_ (fun hHeld => ?_)
      focus (first | exact trivial | ((try dsimp only); ((repeat' (first | assumption | with_reducible refine And.intro ?_ ?_)) <;> go_keep))); done
      refine wpAnyH_take (i := 0) (v := ?_) (by rw [List.getElem?_toArray]; rfl) (by kernel_rfl) (by kernel_rfl) (by kernel_rfl) (fun _ _ _ h => h) (Or.inl ⟨by rfl, ?_⟩) (by assumption) ?_
      rotate_left
      focus (intro wS hSw; (try dsimp only at hSw); go_simp; (try with_reducible rfl)); done
      (try simp only [Act.put, List.setIfInBounds_toArray, List.set_cons_zero, List.set_cons_succ])
      refine wpAnyH_take (i := 1) (v := ?_) (by rw [List.getElem?_toArray]; rfl) (by kernel_rfl) (by kernel_rfl) (by kernel_rfl) (fun _ _ _ h => h) (Or.inl ⟨by rfl, ?_⟩) (by assumption) ?_
      rotate_left
      focus (intro wS hSw; (try dsimp only at hSw); go_simp; (try with_reducible rfl)); done
      (try simp only [Act.put, List.setIfInBounds_toArray, List.set_cons_zero, List.set_cons_succ])
      refine wpAnyH_take (i := 2) (v := ?_) (by rw [List.getElem?_toArray]; rfl) (by kernel_rfl) (by kernel_rfl) (by kernel_rfl) (fun _ _ _ h => h) (Or.inl ⟨by rfl, ?_⟩) (by assumption) ?_
      rotate_left
      focus (intro wS hSw; (try dsimp only at hSw); go_simp; (try with_reducible rfl)); done
      (try simp only [Act.put, List.setIfInBounds_toArray, List.set_cons_zero, List.set_cons_succ])
      refine wpAnyH_take (i := 3) (v := ?_) (by rw [List.getElem?_toArray]; rfl) (by kernel_rfl) (by kernel_rfl) (by kernel_rfl) (fun _ _ _ h => h) (Or.inl ⟨by rfl, ?_⟩) (by assumption) ?_
      rotate_left
      focus (intro wS hSw; (try dsimp only at hSw); go_simp; (try with_reducible rfl)); done
      (try simp only [Act.put, List.setIfInBounds_toArray, List.set_cons_zero, List.set_cons_succ])
      refine wpAnyH_ready (rs := [4]) (by kernel_rfl) (by simp) ?_
      refine AllReadyH.cons (by rw [List.getElem?_toArray]; rfl) (fun K hK => ?_) AllReadyH.nil
      go_simp
      refine (sReadyPrio_any _ _ _ _ _ yss x _ hr2.drew hs).mono ?_; rintro e w3 ⟨rfl, hb3⟩; rw [HP.out]; have hB3 := Below.via (Below.drew hB2) hb3
      refine hK.out _ _ ?_ (fun hHeld => ?_)
      focus (first | exact trivial | ((try dsimp only); (exact ⟨(hb3.cell (p := ⟨w.heap.size, 0, none⟩) lP).trans q1, (hB3.cell (p := ⟨b, o + k, none⟩) hbl).trans (((hB2.cell (p := ⟨b, o + k, none⟩) hbl).symm.trans hcw))⟩))); done
      clear hK K
      (try simp only [Act.put, List.setIfInBounds_toArray, List.set_cons_zero, List.set_cons_succ])
      refine wpAnyH_take (i := 5) (v := ?_) (by rw [List.getElem?_toArray]; rfl) (by kernel_rfl) (by kernel_rfl) (by kernel_rfl) (fun _ _ _ h => h) (Or.inl ⟨by rfl, ?_⟩) (by assumption) ?_
      rotate_left
      focus (intro wS hSw; (try dsimp only at hSw); go_simp; (try with_reducible rfl)); done
      (try simp only [Act.put, List.setIfInBounds_toArray, List.set_cons_zero, List.set_cons_succ])
      refine wpAnyH_take (i := 6) (v := ?_) (by rw [List.getElem?_toArray]; rfl) (by kernel_rfl) (by kernel_rfl) (by kernel_rfl) (fun _ _ _ h => h) (Or.inl ⟨by rfl, ?_⟩) (by assumption) ?_
      rotate_left
      focus (intro wS hSw; (try dsimp only at hSw); go_simp; (try with_reducible rfl)); done
      (try simp only [Act.put, List.setIfInBounds_toArray, List.set_cons_zero, List.set_cons_succ])
      refine wpAnyH_take (i := 7) (v := ?_) (by rw [List.getElem?_toArray]; rfl) (by kernel_rfl) (by kernel_rfl) (by kernel_rfl) (fun _ _ _ h => h) (Or.inl ⟨by rfl, ?_⟩) (by assumption) ?_
      rotate_left
      focus (intro wS hSw; (try dsimp only at hSw); go_simp; (try with_reducible rfl)); done
      (try simp only [Act.put, List.setIfInBounds_toArray, List.set_cons_zero, List.set_cons_succ])
      refine wpAnyH_take (i := 8) (v := ?_) (by rw [List.getElem?_toArray]; rfl) (by kernel_rfl) (by kernel_rfl) (by kernel_rfl) (fun _ _ _ h => h) (Or.inl ⟨by rfl, ?_⟩) (by assumption) ?_
      rotate_left
      focus (intro wS hSw; (try dsimp only at hSw); go_simp; (try with_reducible rfl)); done
      (try simp only [Act.put, List.setIfInBounds_toArray, List.set_cons_zero, List.set_cons_succ])
      refine wpAnyH_done (by kernel_rfl) ?_ _
      refine NoPanic.normal ?_
      go_wp2
      go_ret
      exact ⟨by rw [HV.out]; rfl, hB3⟩
end Go.Proofs.Ytccepnhnmpmkdaa
