/- Contracts of QueuesValid (impl and spec). -/
import Derived.Test.YtccepnhnmpmkdaaQueues2
namespace Go.Proofs.Ytccepnhnmpmkdaa
set_option linter.unusedVariables false
open Go.RowKit
theorem queuesV_no {yss : List (List Int)} (h : diff yss.flatten = false) : queuesV yss = false := by unfold queuesV; rw [h, Bool.and_false]
theorem queuesV_yes {yss : List (List Int)} (h : diff yss.flatten = true) : queuesV yss = decide ((yss.length : Int) = 8) := by
  unfold queuesV
  rw [h, Bool.and_true]
  by_cases hl : yss.length = 8
  · rw [decide_eq_true hl, decide_eq_true (by omega)]
  · rw [decide_eq_false hl, decide_eq_false (by omega)]
theorem Try.infoBool : (Try.prog.info? 4).map (fun i => (i.zero, i.size, i.bytes)) = some (some (.bool false), 1, 1) := by kernel_rfl
set_option maxHeartbeats 1000000 in
theorem iQueuesValid_any (B T n c : Nat) (A : Option Addr) (yss : List (List Int)) (w : World) (hr : Rows w B T A n yss) (hs : sizeOfRows yss ≤ 1048576) :
    Calls Try.prog 19 #[queues A n c] w fun e w' => e = .returned (.bool (queuesV yss)) ∧ Below w.heap.size w w' := by
  have hl := hr.len
  by_cases h8 : n = 8
  · have hv : queuesV yss = diff yss.flatten := by unfold queuesV; rw [hl]; simp [h8]
    have HV := Lib.hid hv
    clear hv hl
    subst h8
    have hsf : yss.flatten.length ≤ 1048576 := by
      rw [List.length_flatten]; unfold sizeOfRows at hs; omega
    obtain ⟨m, hm⟩ : ∃ m, yss.flatten.length = m := ⟨_, rfl⟩
    rw [hm] at hsf
    have HM := Lib.hid hm
    clear hm
    go_enter Try.func19, Try.ntmps19
    go_wp2_with fail
    refine (Concat_any _ _ _ _ _ yss _ (hr.alloc _) hs).mono ?_
    rintro e w1 ⟨A1, c1, rfl, o1, hb1⟩
    rw [HM.out] at o1 ⊢
    have hle := o1.le
    go_wp2_with fail
    refine (different_any _ _ _ _ _ yss.flatten _ o1.rd hsf hle).mono ?_
    rintro e w2 ⟨rfl, hb2⟩
    go_wp2
    go_ret
    exact ⟨by rw [HV.out]; rfl, Below.via (Below.via (by (repeat (first | (with_reducible assumption) | (with_reducible exact Below.refl _ _) | (with_reducible refine Below.setCell ?_ (by first | (simp; done) | (simp; omega) | omega) _) | (with_reducible refine Below.alloc ?_ (by first | (simp; done) | (simp; omega) | omega) _) | (with_reducible refine Below.drew ?_) | (with_reducible refine Below.drewN ?_ _))) : Below w.heap.size w _) hb1) hb2⟩
  · have hv : queuesV yss = false := by unfold queuesV; rw [hl]; simp [h8]
    have HV := Lib.hid hv
    have hd : ((n : Int) == 8) = false := by rw [beq_eq_false_iff_ne]; omega
    clear hv hl
    go_enter Try.func19, Try.ntmps19
    go_wp2_with fail
    go_ret
    exact ⟨by rw [HV.out]; rfl, by (repeat (first | (with_reducible assumption) | (with_reducible exact Below.refl _ _) | (with_reducible refine Below.setCell ?_ (by first | (simp; done) | (simp; omega) | omega) _) | (with_reducible refine Below.alloc ?_ (by first | (simp; done) | (simp; omega) | omega) _) | (with_reducible refine Below.drew ?_) | (with_reducible refine Below.drewN ?_ _)))⟩
def SeenTo (cs : List Value) (acc : List Int) : Prop := cs.length = 16 ∧ ∀ j : Nat, j < 16 → cs[j]? = some (.bool (decide ((j : Int) ∈ acc)))
theorem SeenTo.next {cs : List Value} {acc : List Int} (h : SeenTo cs acc) {j : Nat} (hj : j < 16) : SeenTo (cs.set j (.bool true)) (acc ++ [(j : Int)]) := by
  refine ⟨by rw [List.length_set]; exact h.1, fun i hi => ?_⟩
  by_cases hij : j = i
  · subst hij
    rw [List.getElem?_set_self (by rw [h.1]; omega)]
    simp
  · rw [List.getElem?_set_ne hij, h.2 i hi]
    have : ¬ (i : Int) = (j : Int) := by omega
    simp [this]
theorem SeenTo.start : SeenTo (madeCells (Value.bool false).cells (16 * 1)).toList [] := by
  refine ⟨by simp [size_madeCells], fun j hj => ?_⟩
  rw [Nat.mul_one, show (Value.bool false).cells = #[.bool false] from rfl, toList_madeCells_one, List.getElem?_replicate, if_pos hj]
  simp
set_option maxHeartbeats 2000000 in
theorem sQueuesValid_any (B T n c : Nat) (A : Option Addr) (yss : List (List Int)) (w : World) (hr : Rows w B T A n yss) (hs : sizeOfRows yss ≤ 1048576) :
    Calls Try.prog 17 #[queues A n c] w fun e w' => e = .returned (.bool (queuesV yss)) ∧ Below w.heap.size w w' := by
  obtain ⟨i0, hi0, hz0, hz1, hz2⟩ := info_parts Try.infoBool
  have hl := hr.len
  have HL := Lib.hid hl
  have hn : n ≤ 1048576 := by unfold sizeOfRows at hs; omega
  clear hl
  go_enter Try.func17, Try.ntmps17
  go_wp2_with (at_make; refine wpList_mk _ rfl _ _ 44 rfl 4 i0 (.bool false) 1 Try.underlying44 hi0 hz0 hz1 _ _ _ _ 16 rfl rfl rfl rfl (by rw [hz2]; omega) (by unfold maxLen; omega) ?_; intro w1 hown hb1 hs1)
  have TP := (Blk.new w 24 #[.slice A n c]).below hb1
  have hB1 := Below.via (by (repeat (first | (with_reducible assumption) | (with_reducible exact Below.refl _ _) | (with_reducible refine Below.setCell ?_ (by first | (simp; done) | (simp; omega) | omega) _) | (with_reducible refine Below.alloc ?_ (by first | (simp; done) | (simp; omega) | omega) _) | (with_reducible refine Below.drew ?_) | (with_reducible refine Below.drewN ?_ _))) : Below w.heap.size w _) hb1
  have z1 := hb1.size
  simp at z1 hown
  have HS := Lib.hid hs1
  clear hs1 hb1
  go_loopw [4] (fun i wr => ∃ p : Nat, p ≤ n ∧ i = .int .i64 p ∧ ∃ cs : List Value, Own wr (w.heap.size + 1) (w.heap.size + 1 + 1) 4 1 (some ⟨w.heap.size + 1, 0, none⟩) 16 16 cs ∧ SeenTo cs (yss.take p).flatten ∧ Hid (diff (yss.take p).flatten = true) ∧ Blk wr w.heap.size 24 #[.slice A n c] ∧ Below w.heap.size w wr) (fun i _ => n - (intOf i).toNat)
  case atStart => exact ⟨0, by omega, rfl, _, hown, SeenTo.start, Lib.hid (by simp [diff]), TP, hB1⟩
  case round =>
    clear hown TP hB1
    obtain ⟨p, hp, rfl, cs, ho, hseen, ht, TP, hb⟩ := hrel
    by_cases hlt : p < n
    · obtain ⟨b, o, ys, A', c', rfl, hbl, hy, hc0, hle, hrow⟩ := hr.at_ hlt
      have hpp : (p : Int) < (n : Int) := by omega
      have hp0 : (0 : Int) ≤ (p : Int) := by omega
      have hsm := row_small hs hy
      have HY := Lib.hid hy
      have q0 := TP.cell 0 rfl
      clear hr hy
      go_wp2
      clear q0
      go_loopw [5] (fun i wr => ∃ k : Nat, k ≤ ys.length ∧ i = .int .i64 k ∧ ∃ cs : List Value, Own wr (w.heap.size + 1) (w.heap.size + 1 + 1) 4 1 (some ⟨w.heap.size + 1, 0, none⟩) 16 16 cs ∧ SeenTo cs ((yss.take p).flatten ++ ys.take k) ∧ Hid (diff ((yss.take p).flatten ++ ys.take k) = true) ∧ Blk wr w.heap.size 24 #[.slice (some ⟨b, o, none⟩) n c] ∧ Below w.heap.size w wr) (fun i _ => ys.length - (intOf i).toNat)
      case atStart => exact ⟨0, by omega, rfl, cs, ho, by simpa using hseen, Lib.hid (by simpa using ht.out), TP, hb⟩
      case round =>
        clear cs ho hseen ht TP hb
        obtain ⟨k, hk, rfl, cs, ho, hseen, ht, TP, hb⟩ := hrel
        have hc := (hb.cell (p := ⟨b, o + p, none⟩) hbl).trans hc0
        have q0 := TP.cell 0 rfl
        have lP := TP.lt
        by_cases hlk : k < ys.length
        · obtain ⟨b2, o2, x, rfl, hbl2, hx, hcx0⟩ := ints_at hrow hlk
          have hcx := (hb.cell (p := ⟨b2, o2 + k, none⟩) hbl2).trans hcx0
          have hkk : (k : Int) < (ys.length : Int) := by omega
          have hk0 : (0 : Int) ≤ (k : Int) := by omega
          have HX := Lib.hid hx
          clear hx hc0 hcx0 hrow
          cases hin : inB x 0 15
          · have HV := Lib.hid (queuesV_no (flat_no1 HY.out HX.out hin))
            go_wp2_with fail
            refine (l1In_any _ _ _ _).mono ?_
            rintro e w' ⟨rfl, rfl⟩
            rw [hin]
            go_wp2
            go_ret
            exact ⟨by rw [HV.out]; rfl, hb⟩
          · have hb01 := inB_true.1 hin
            obtain ⟨j, rfl⟩ := Int.eq_ofNat_of_zero_le hb01.1
            have hj : j < 16 := by omega
            have hj0 : (0 : Int) ≤ (j : Int) := by omega
            have hj1 : (j : Int) < 16 := by omega
            obtain ⟨g, o', h1, h2, h3, h4, h5, h6, h7⟩ := ho.at_ (by omega)
            injection h1 with h1
            injection h1 with hg ho'
            subst hg
            subst ho'
            have hcj := h5 j _ (hseen.2 j hj)
            have hfj := h6 j
            have hset := h7 j (.bool true) (by rw [hseen.1]; exact hj)
            rw [Nat.zero_add] at hcj hset
            have hnext := hseen.next hj
            clear h5 h6 h7 ho hb01
            by_cases hm : (j : Int) ∈ (yss.take p).flatten ++ ys.take k
            · rw [decide_eq_true hm] at hcj
              have HV := Lib.hid (queuesV_no (flat_no2 HY.out HX.out hm))
              clear hm
              go_wp2_with fail
              refine (l1In_any _ _ _ _).mono ?_
              rintro e w' ⟨rfl, rfl⟩
              rw [hin]
              go_wp2
              go_ret
              exact ⟨by rw [HV.out]; rfl, hb⟩
            · rw [decide_eq_false hm] at hcj
              have HD := Lib.hid (show diff ((yss.take p).flatten ++ ys.take (k + 1)) = true by
                rw [take_snoc' HX.out, ← List.append_assoc, diff_snoc, ht.out, hin, decide_eq_true hm]; rfl)
              have HN := Lib.hid (show SeenTo (cs.set j (.bool true)) ((yss.take p).flatten ++ ys.take (k + 1)) by
                rw [take_snoc' HX.out, ← List.append_assoc]; exact hnext)
              clear hm hnext hseen ht
              go_wp2_with fail
              refine (l1In_any _ _ _ _).mono ?_
              rintro e w' ⟨rfl, rfl⟩
              rw [hin]
              go_wp2
              go_roundw
              case rel => exact ⟨k + 1, by omega, by go_num, _, hset, HN.out, HD, by (repeat (first | (with_reducible assumption) | (with_reducible refine Blk.drew ?_) | (with_reducible refine Blk.other ?_ (by first | (simp; done) | (simp; omega) | omega) _) | (with_reducible refine Blk.alloc ?_ _))), by (repeat (first | (with_reducible assumption) | (with_reducible exact Below.refl _ _) | (with_reducible refine Below.setCell ?_ (by first | (simp; done) | (simp; omega) | omega) _) | (with_reducible refine Below.alloc ?_ (by first | (simp; done) | (simp; omega) | omega) _) | (with_reducible refine Below.drew ?_) | (with_reducible refine Below.drewN ?_ _)))⟩
              case measure => simp [intOf]; omega
        · have hkn : k = ys.length := by omega
          subst hkn
          rw [List.take_of_length_le (Nat.le_refl _), ← flat_step HY.out] at hseen
          have ht2 : diff (yss.take (p + 1)).flatten = true := by
            have := ht.out
            rwa [List.take_of_length_le (Nat.le_refl _), ← flat_step HY.out] at this
          have HT2 := Lib.hid ht2
          clear ht ht2 hrow hc0
          go_wp2
          go_roundw
          case rel => exact ⟨p + 1, by omega, by go_num, cs, ho, hseen, HT2, TP, hb⟩
          case measure => simp [intOf]; omega
    · have hkn : p = n := by omega
      subst hkn
      have h1 := ht.out
      rw [List.take_of_length_le (by rw [HL.out]; exact Nat.le_refl _)] at h1
      have h2 := queuesV_yes h1
      rw [HL.out] at h2
      have HV := Lib.hid h2
      have q0 := TP.cell 0 rfl
      clear hr h1 h2
      go_wp2
      go_ret
      exact ⟨by rw [HV.out]; rfl, hb⟩
end Go.Proofs.Ytccepnhnmpmkdaa
