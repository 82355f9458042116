/- Contracts of PushCall and PopReply (impl and spec). -/
import Derived.Test.YtcdbamaifdabnaaInts3
import Derived.Deep.RegionHeld3
namespace Go.Proofs.Ytcdbamaifdabnaa
set_option linter.unusedVariables false
open Go.RowKit

/-- A slice of integers in new memory, and a bool. -/
def NewIntsB (w : World) (xs : List Int) (b : Bool) (e : Ending) (w' : World) : Prop :=
  ∃ A c, e = .returned (.tuple #[.slice A xs.length c, .bool b]) ∧ Own w' w.heap.size w'.heap.size 3 1 A xs.length c (ints xs) ∧ Below w.heap.size w w'
/-- A slice of integers in new memory, and a number. -/
def NewIntsN (w : World) (xs : List Int) (m : Int) (e : Ending) (w' : World) : Prop :=
  ∃ A c, e = .returned (.tuple #[.slice A xs.length c, .int .i64 m]) ∧ Own w' w.heap.size w'.heap.size 3 1 A xs.length c (ints xs) ∧ Below w.heap.size w w'

def pushL (xs : List Int) (v : Int) : List Int := if callsV xs = true ∧ inB v 0 15 = true then (if v ∈ xs then xs else xs ++ [v]) else []
def pushO (xs : List Int) (v : Int) : Bool := callsV xs && (inB v 0 15 && decide (v ∉ xs))
theorem push_len (xs : List Int) (v : Int) : (pushL xs v).length ≤ 1048576 := by
  unfold pushL
  split
  · rename_i h
    have h16 := h.1
    unfold callsV at h16
    simp only [Bool.and_eq_true, decide_eq_true_eq] at h16
    split <;> simp <;> omega
  · simp
theorem push_no1 {xs : List Int} {v : Int} (h : callsV xs = false) : pushL xs v = [] ∧ pushO xs v = false := by unfold pushL pushO; simp [h]
theorem push_no2 {xs : List Int} {v : Int} (h : inB v 0 15 = false) : pushL xs v = [] ∧ pushO xs v = false := by unfold pushL pushO; simp [h]
theorem push_no3 {xs : List Int} {v : Int} (h1 : callsV xs = true) (h2 : inB v 0 15 = true) (h : v ∈ xs) : pushL xs v = xs ∧ pushO xs v = false := by unfold pushL pushO; simp [h1, h2, h]
theorem push_yes {xs : List Int} {v : Int} (h1 : callsV xs = true) (h2 : inB v 0 15 = true) (h : v ∉ xs) : pushL xs v = xs ++ [v] ∧ pushO xs v = true := by unfold pushL pushO; simp [h1, h2, h]

set_option maxHeartbeats 1000000 in
theorem sPushCall_any (B T n c : Nat) (A : Option Addr) (xs : List Int) (v : Int) (w : World) (hr : Rd w B T 1 A n (ints xs)) (hn : n ≤ 1048576) :
    Calls Try.prog 41 #[.slice A n c, .int .i64 v] w (NewIntsB w (pushL xs v) (pushO xs v)) := by
  obtain ⟨i0, hi0, hz0, hz1, hz2⟩ := info_parts Try.infoInt
  have hl := ints_len hr
  subst hl
  cases hv : callsV xs
  · have HP := Lib.hid (push_no1 (v := v) hv)
    go_enter Try.func41, Try.ntmps41
    go_wp2_with fail
    refine (sCallsValid_any _ _ _ _ _ xs _ hr hn).mono ?_
    rintro e w1 ⟨rfl, hb1⟩
    go_wp2
    go_ret2
    rw [HP.out.1, HP.out.2]
    exact ⟨_, 0, rfl, Own.nil _ _ _ _ _ _, by (repeat (first | exact Below.refl _ _ | assumption | refine Below.setCell ?_ (by first | (simp; done) | (simp; omega) | omega) _ | refine Below.alloc1 ?_ _ | refine Below.alloc ?_ (by first | (simp; done) | (simp; omega) | omega) _ | refine Below.drew ?_ | refine Below.drewN ?_ _ | refine Below.via ?_ (by assumption)))⟩
  · cases hi : inB v 0 15
    · have HP := Lib.hid (push_no2 (xs := xs) hi)
      go_enter Try.func41, Try.ntmps41
      go_wp2_with fail
      refine (sCallsValid_any _ _ _ _ _ xs _ hr hn).mono ?_
      rintro e w1 ⟨rfl, hb1⟩
      go_wp2_with fail
      refine (l1In_any _ _ _ _).mono ?_
      rintro e w2 ⟨rfl, rfl⟩
      go_wp2
      go_ret2
      rw [HP.out.1, HP.out.2]
      exact ⟨_, 0, rfl, Own.nil _ _ _ _ _ _, by (repeat (first | exact Below.refl _ _ | assumption | refine Below.setCell ?_ (by first | (simp; done) | (simp; omega) | omega) _ | refine Below.alloc1 ?_ _ | refine Below.alloc ?_ (by first | (simp; done) | (simp; omega) | omega) _ | refine Below.drew ?_ | refine Below.drewN ?_ _ | refine Below.via ?_ (by assumption)))⟩
    · have h16 : xs.length ≤ 16 := by
        unfold callsV at hv
        simp only [Bool.and_eq_true, decide_eq_true_eq] at hv
        exact hv.1
      have HV := Lib.hid hv
      have HI := Lib.hid hi
      go_enter Try.func41, Try.ntmps41
      go_wp2_with fail
      refine (sCallsValid_any _ _ _ _ _ xs _ hr hn).mono ?_
      rintro e w1 ⟨rfl, hb1⟩
      go_wp2_with fail
      refine (l1In_any _ _ _ _).mono ?_
      rintro e w2 ⟨rfl, rfl⟩
      go_wp2_with (at_builtin; refine wpList_app _ rfl (.tmp 17) (.tmp 18) 22 rfl 3 i0 (.int .i64 0) 1 8 Try.underlying22 hi0 hz0 hz1 hz2 rfl (by omega) w1.heap.size 0 B T (some ⟨w1.heap.size, 0, none⟩) A 0 0 xs.length c [] (ints xs) rfl rfl (Own.nil _ _ _ _ _ _) ((hr.below hb1).alloc _) (ints_one xs) (by unfold maxLen; omega) (by omega) (by simp) ?_; intro A3 c3 w3 o3 f3)
      rw [List.nil_append, Nat.zero_add] at o3
      have hs13 : w1.heap.size ≤ w3.heap.size := by have := f3.size; simp at this; omega
      have hb3 : Below w.heap.size w w3 := Below.via (hb1.alloc hb1.size _) f3.below0
      have hr3 : Rd w3 B T 1 A xs.length (ints xs) := hr.below hb3
      go_wp2
      go_loopw [7] (fun i wr => ∃ k : Nat, k ≤ xs.length ∧ i = .int .i64 k ∧ Hid (v ∉ xs.take k) ∧ Below w3.heap.size w3 wr) (fun i _ => xs.length - (intOf i).toNat)
      case atStart => exact ⟨0, by omega, rfl, Lib.hid (by simp), Below.refl _ _⟩
      case round =>
        obtain ⟨k, hk, rfl, ht, hb⟩ := hrel
        by_cases hlt : k < xs.length
        · obtain ⟨b, o, x, rfl, hbl, hx, hc⟩ := ints_at (hr3.below hb) hlt
          have hkk : (k : Int) < (xs.length : Int) := by omega
          have hk0 : (0 : Int) ≤ (k : Int) := by omega
          have HX := Lib.hid hx
          clear hr hr3 hx
          by_cases hxy : x = v
          · subst hxy
            have HP := push_no3 HV.out HI.out (List.mem_of_getElem? HX.out)
            go_wp2
            go_ret2
            rw [HP.1, HP.2]
            exact ⟨A3, c3, by simp, by simpa using (o3.below hb).mono (by have := hb1.size; omega) hb.size, by (repeat (first | exact Below.refl _ _ | assumption | refine Below.setCell ?_ (by first | (simp; done) | (simp; omega) | omega) _ | refine Below.alloc1 ?_ _ | refine Below.alloc ?_ (by first | (simp; done) | (simp; omega) | omega) _ | refine Below.drew ?_ | refine Below.drewN ?_ _ | refine Below.via ?_ (by assumption)))⟩
          · have hd : (x == v) = false := by simp [hxy]
            go_wp2
            go_roundw
            case rel => exact ⟨k + 1, by omega, by go_num, Lib.hid (notMem_succ ht.out HX.out (fun e => hxy e.symm)), by (repeat (first | exact Below.refl _ _ | assumption | refine Below.setCell ?_ (by first | (simp; done) | (simp; omega) | omega) _ | refine Below.alloc1 ?_ _ | refine Below.alloc ?_ (by first | (simp; done) | (simp; omega) | omega) _ | refine Below.drew ?_ | refine Below.drewN ?_ _ | refine Below.via ?_ (by assumption)))⟩
            case measure => simp [intOf]; omega
        · have hkn : k = xs.length := by omega
          subst hkn
          have h1 := ht.out
          rw [List.take_length] at h1
          have HP := Lib.hid (push_yes HV.out HI.out h1)
          clear hr hr3
          go_wp2_with (at_builtin; refine wpList_app _ rfl (.tmp 33) (.tmp 35) 22 rfl 3 i0 (.int .i64 0) 1 8 Try.underlying22 hi0 hz0 hz1 hz2 rfl (by omega) w1.heap.size w3.heap.size wr.heap.size (wr.heap.size + 1) A3 (some ⟨wr.heap.size, 0, none⟩) xs.length c3 1 1 (ints xs) (ints [v]) rfl rfl ((o3.below hb).alloc _) (one_rd _ _ _) (ints_one _) (by unfold maxLen; omega) (by omega) (by have := hb.size; simp; omega) ?_; intro A5 c5 w5 o5 f5)
          go_wp2
          go_ret2
          rw [HP.out.1, HP.out.2]
          exact ⟨A5, c5, by simp, by simpa [ints_append] using o5.mono (by have := hb1.size; omega) (Nat.le_refl _), (hb3.trans ((hb.mono hb3.size).alloc (Nat.le_trans hb3.size hb.size) _)).trans (f5.below (by have := hb1.size; omega) (by have := hb.size; have := hb3.size; simp; omega))⟩
end Go.Proofs.Ytcdbamaifdabnaa
