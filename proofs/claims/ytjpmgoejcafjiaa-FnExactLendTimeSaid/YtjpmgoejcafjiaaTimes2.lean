/- Contracts of UseTime and LendTime (impl and spec). -/
import Derived.Test.YtjpmgoejcafjiaaTimes1
import Derived.Test.YtjpmgoejcafjiaaCalls1
namespace Go.Proofs.Ytjpmgoejcafjiaa
set_option linter.unusedVariables false
open Go.RowKit

def useOk (xs : List Int) (t a : Int) : Bool := (timesV xs && inB t 0 (xs.length - 1)) && decide (0 ≤ a)
def useL (xs : List Int) (t a : Int) : List Int := if useOk xs t a = true then xs.set t.toNat (xs.getD t.toNat 0 - min a (xs.getD t.toNat 0)) else []
def useN (xs : List Int) (t a : Int) : Int := if useOk xs t a = true then min a (xs.getD t.toNat 0) else 0
theorem times_len {xs : List Int} (h : timesV xs = true) : xs.length ≤ 16 := by
  unfold timesV at h
  simp only [Bool.and_eq_true, decide_eq_true_eq] at h
  exact h.1
theorem times_at {xs : List Int} {k : Nat} {x : Int} (h : timesV xs = true) (hx : xs[k]? = some x) : 0 ≤ x ∧ x ≤ 10000 := by
  unfold timesV at h
  simp only [Bool.and_eq_true, decide_eq_true_eq, List.all_eq_true] at h
  exact inB_true.1 (h.2 x (List.mem_of_getElem? hx))
theorem use_len (xs : List Int) (t a : Int) : (useL xs t a).length ≤ 1048576 := by
  unfold useL
  split
  · rename_i h
    unfold useOk at h
    simp only [Bool.and_eq_true] at h
    have := times_len h.1.1
    simp
    omega
  · simp
theorem use_no {xs : List Int} {t a : Int} (h : useOk xs t a = false) : useL xs t a = [] ∧ useN xs t a = 0 := by unfold useL useN; simp [h]
theorem use_yes {xs : List Int} {k : Nat} {a x : Int} (h : timesV xs = true) (h2 : inB k 0 (xs.length - 1) = true) (h3 : 0 ≤ a) (hx : xs[k]? = some x) : useL xs k a = xs.set k (x - min a x) ∧ useN xs k a = min a x := by
  have ho : useOk xs k a = true := by unfold useOk; rw [h, h2]; simp [h3]
  unfold useL useN
  rw [if_pos ho, if_pos ho, Int.toNat_natCast, List.getD_eq_getElem?_getD, hx]
  exact ⟨rfl, rfl⟩

set_option maxHeartbeats 1000000 in
theorem iUseTime_any (B T n c : Nat) (A : Option Addr) (xs : List Int) (t a : Int) (w : World) (hr : Rd w B T 1 A n (ints xs)) (hn : n ≤ 1048576) (hnc : n ≤ c) :
    Calls Try.prog 22 #[.slice A n c, .int .i64 t, .int .i64 a] w (NewIntsN w (useL xs t a) (useN xs t a)) := by
  have hl := ints_len hr
  cases hv : timesV xs
  · have HP := Lib.hid (use_no (xs := xs) (t := t) (a := a) (by unfold useOk; rw [hv]; rfl))
    go_enter Try.func22, Try.ntmps22
    go_wp2_with fail
    refine (iTimesValid_any _ _ _ _ _ xs _ hr hn).mono ?_
    rintro e w1 ⟨rfl, hb1⟩
    go_wp2
    go_ret2
    rw [HP.out.1, HP.out.2]
    exact ⟨none, 0, rfl, Own.nil _ _ _ _ _ _, hb1⟩
  · have hb63 : ((n : Int) - 1) ≤ 9223372036854775807 := by omega
    cases hi : inB t 0 ((n : Int) - 1)
    · have HP := Lib.hid (use_no (xs := xs) (t := t) (a := a) (by unfold useOk; rw [hl, hi]; simp))
      go_enter Try.func22, Try.ntmps22
      go_wp2_with fail
      refine (iTimesValid_any _ _ _ _ _ xs _ hr hn).mono ?_
      rintro e w1 ⟨rfl, hb1⟩
      go_wp2_with fail
      refine (in_any _ _ _ _).mono ?_
      rintro e w2 ⟨rfl, rfl⟩
      go_wp2
      go_ret2
      rw [HP.out.1, HP.out.2]
      exact ⟨none, 0, rfl, Own.nil _ _ _ _ _ _, hb1⟩
    · have h16 := times_len hv
      by_cases ha : a < 0
      · have HP := Lib.hid (use_no (xs := xs) (t := t) (a := a) (by unfold useOk; simp; omega))
        go_enter Try.func22, Try.ntmps22
        go_wp2_with fail
        refine (iTimesValid_any _ _ _ _ _ xs _ hr hn).mono ?_
        rintro e w1 ⟨rfl, hb1⟩
        go_wp2_with fail
        refine (in_any _ _ _ _).mono ?_
        rintro e w2 ⟨rfl, rfl⟩
        go_wp2
        go_ret2
        rw [HP.out.1, HP.out.2]
        exact ⟨none, 0, rfl, Own.nil _ _ _ _ _ _, hb1⟩
      · have hir := inB_true.1 hi
        obtain ⟨k, rfl⟩ : ∃ k : Nat, t = (k : Int) := ⟨t.toNat, by omega⟩
        have hkl : k < n := by omega
        obtain ⟨x, hx⟩ : ∃ x, xs[k]? = some x := ⟨_, List.getElem?_eq_getElem (by omega)⟩
        have hxr := times_at hv hx
        have HP := Lib.hid (use_yes (a := a) hv (by rw [hl]; exact hi) (by omega) hx)
        have HX := Lib.hid hx
        have HR := Lib.hid hxr
        have HL := Lib.hid hl
        have hk0 : (0 : Int) ≤ (k : Int) := by omega
        have hk1 : (k : Int) < (n : Int) := by omega
        clear hx hxr hir hl
        go_enter Try.func22, Try.ntmps22
        go_wp2_with fail
        refine (iTimesValid_any _ _ _ _ _ xs _ hr hn).mono ?_
        rintro e w1 ⟨rfl, hb1⟩
        go_wp2_with fail
        refine (in_any _ _ _ _).mono ?_
        rintro e w2 ⟨rfl, rfl⟩
        go_wp2_with fail
        refine (clone_any B T n c A xs _ (hr.below hb1) hn).mono ?_
        rintro e w3 ⟨A3, c3, rfl, o3, hb3⟩
        rw [HL.out] at o3 ⊢
        obtain ⟨g, o, rfl, h2, h3, h4, h5, h6, h7⟩ := o3.at_ (by omega)
        have hcx := h5 k _ (ints_get HX.out)
        have hfx := h6 (o + k)
        have hset := h7 k (.int .i64 (x - min a x)) (by rw [ints_length, HL.out]; exact hkl)
        rw [← ints_set] at hset
        clear h5 h6 h7
        have hx0 := HR.out.1
        have hx1 := HR.out.2
        have z1 := hb1.size
        have z3 := hb3.size
        go_wp2
        all_goals go_ret2
        all_goals rw [HP.out.1, HP.out.2]
        all_goals
          refine ⟨some ⟨g, o, none⟩, c3, ?_, ?_, (Below.via hb1 hb3).setCell (by show w.heap.size ≤ g; omega) _⟩
          · simp [HL.out]
            omega
          · rw [List.length_set, HL.out]
            first
              | (have e : min a x = x := by omega
                 rw [e, Int.sub_self] at hset ⊢
                 exact hset.mono (by omega) (by simp))
              | (have e : min a x = a := by omega
                 rw [e] at hset ⊢
                 exact hset.mono (by omega) (by simp))
set_option maxHeartbeats 1000000 in
theorem l15Ok_any (B T n c : Nat) (A : Option Addr) (xs : List Int) (t u : Int) (w : World) (hr : Rd w B T 1 A n (ints xs)) (hn : n ≤ 1048576) :
    Calls Try.prog 44 #[.slice A n c, .int .i64 t, .int .i64 u] w fun e w' => e = .returned (.bool ((timesV xs && inB t 0 ((n : Int) - 1)) && inB u 0 ((n : Int) - 1))) ∧ Below w.heap.size w w' := by
  cases hv : timesV xs
  · go_enter Try.func44, Try.ntmps44
    go_wp2_with fail
    refine (sTimesValid_any _ _ _ _ _ xs _ hr hn).mono ?_
    rintro e w1 ⟨rfl, hb1⟩
    go_wp2
    go_ret
    exact ⟨by simp, hb1⟩
  · cases hi : inB t 0 ((n : Int) - 1)
    · go_enter Try.func44, Try.ntmps44
      go_wp2_with fail
      refine (sTimesValid_any _ _ _ _ _ xs _ hr hn).mono ?_
      rintro e w1 ⟨rfl, hb1⟩
      go_wp2_with fail
      refine (l1In_any _ _ _ _).mono ?_
      rintro e w2 ⟨rfl, rfl⟩
      go_wp2
      go_ret
      exact ⟨by simp, hb1⟩
    · go_enter Try.func44, Try.ntmps44
      go_wp2_with fail
      refine (sTimesValid_any _ _ _ _ _ xs _ hr hn).mono ?_
      rintro e w1 ⟨rfl, hb1⟩
      go_wp2_with fail
      refine (l1In_any _ _ _ _).mono ?_
      rintro e w2 ⟨rfl, rfl⟩
      go_wp2_with fail
      refine (l1In_any _ _ _ _).mono ?_
      rintro e w3 ⟨rfl, rfl⟩
      go_wp2
      go_ret
      exact ⟨by simp, hb1⟩
set_option maxHeartbeats 1000000 in
theorem sUseTime_any (B T n c : Nat) (A : Option Addr) (xs : List Int) (t a : Int) (w : World) (hr : Rd w B T 1 A n (ints xs)) (hn : n ≤ 1048576) :
    Calls Try.prog 21 #[.slice A n c, .int .i64 t, .int .i64 a] w (NewIntsN w (useL xs t a) (useN xs t a)) := by
  obtain ⟨i0, hi0, hz0, hz1, hz2⟩ := info_parts Try.infoInt
  have hl := ints_len hr
  cases hv : (timesV xs && inB t 0 ((n : Int) - 1))
  · have HP := Lib.hid (use_no (xs := xs) (t := t) (a := a) (by unfold useOk; rw [hl, hv]; rfl))
    go_enter Try.func21, Try.ntmps21
    go_wp2_with fail
    refine (l15Ok_any _ _ _ _ _ xs _ _ _ hr hn).mono ?_
    rintro e w1 ⟨rfl, hb1⟩
    rw [hv, Bool.false_and]
    go_wp2
    go_ret2
    rw [HP.out.1, HP.out.2]
    exact ⟨_, 0, rfl, Own.nil _ _ _ _ _ _, by (repeat (first | exact Below.refl _ _ | assumption | refine Below.setCell ?_ (by first | (simp; done) | (simp; omega) | omega) _ | refine Below.alloc1 ?_ _ | refine Below.alloc ?_ (by first | (simp; done) | (simp; omega) | omega) _ | refine Below.drew ?_ | refine Below.drewN ?_ _ | refine Below.via ?_ (by assumption)))⟩
  · have hvi := Bool.and_eq_true_iff.1 hv
    by_cases ha : a < 0
    · have HP := Lib.hid (use_no (xs := xs) (t := t) (a := a) (by unfold useOk; simp; omega))
      go_enter Try.func21, Try.ntmps21
      go_wp2_with fail
      refine (l15Ok_any _ _ _ _ _ xs _ _ _ hr hn).mono ?_
      rintro e w1 ⟨rfl, hb1⟩
      rw [hvi.1, hvi.2]
      go_wp2
      go_ret2
      rw [HP.out.1, HP.out.2]
      exact ⟨_, 0, rfl, Own.nil _ _ _ _ _ _, by (repeat (first | exact Below.refl _ _ | assumption | refine Below.setCell ?_ (by first | (simp; done) | (simp; omega) | omega) _ | refine Below.alloc1 ?_ _ | refine Below.alloc ?_ (by first | (simp; done) | (simp; omega) | omega) _ | refine Below.drew ?_ | refine Below.drewN ?_ _ | refine Below.via ?_ (by assumption)))⟩
    · have h16 := times_len hvi.1
      have hir := inB_true.1 hvi.2
      obtain ⟨k, rfl⟩ : ∃ k : Nat, t = (k : Int) := ⟨t.toNat, by omega⟩
      have hkl : k < n := by omega
      obtain ⟨x, hx⟩ : ∃ x, xs[k]? = some x := ⟨_, List.getElem?_eq_getElem (by omega)⟩
      have hxr := times_at hvi.1 hx
      have HP := Lib.hid (use_yes (a := a) hvi.1 (by rw [hl]; exact hvi.2) (by omega) hx)
      have HX := Lib.hid hx
      have HL := Lib.hid hl
      have HV := Lib.hid hvi
      have hx0 := hxr.1
      have hx1 := hxr.2
      have hk0 : (0 : Int) ≤ (k : Int) := by omega
      have hk1 : (k : Int) < (n : Int) := by omega
      clear hx hxr hir hl hv hvi
      go_enter Try.func21, Try.ntmps21
      go_wp2_with fail
      refine (l15Ok_any _ _ _ _ _ xs _ _ _ hr hn).mono ?_
      rintro e w1 ⟨rfl, hb1⟩
      rw [HV.out.1, HV.out.2]
      go_wp2_with (
        at_builtin
        refine wpList_app _ rfl (.tmp 20) (.tmp 21) 22 rfl 3 i0 (.int .i64 0) 1 8 Try.underlying22 hi0 hz0 hz1 hz2 rfl (by omega) w1.heap.size 0 B T (some ⟨w1.heap.size, 0, none⟩) A 0 0 n c [] (ints xs) rfl rfl (Own.nil _ _ _ _ _ _) ((hr.below hb1).alloc _) (ints_one _) (by unfold maxLen; omega) (by omega) (by simp) ?_
        intro A3 c3 w3 o3 f3
        rw [Nat.zero_add, List.nil_append] at o3
        have hr3 : Rd w3 B T 1 A n (ints xs) := ((hr.below hb1).alloc _).below f3.below0
        have hs13 : w1.heap.size ≤ w3.heap.size := by have := f3.size; simp at this; omega
        have hb3 : Below w.heap.size w w3 := Below.via (Below.alloc1 hb1 _) f3.below0
        obtain ⟨b, o', x', rfl, hbl, hx', hc'⟩ := ints_at hr3 hkl
        have hxx : x' = x := by
          have := HX.out
          rw [hx'] at this
          injection this
        subst hxx
        obtain ⟨g, o, rfl, h2, h3, h4, h5, h6, h7⟩ := o3.at_ (by omega)
        have hcx := h5 k _ (ints_get HX.out)
        have hfx := h6 (o + k)
        have hset := h7 k (.int .i64 (x' - min a x')) (by rw [ints_length, HL.out]; exact hkl)
        rw [← ints_set] at hset
        have z1 := hb1.size
        clear h5 h6 h7 hr hr3 hx')
      all_goals go_ret2
      all_goals rw [HP.out.1, HP.out.2]
      all_goals
        refine ⟨some ⟨g, o, none⟩, c3, ?_, ?_, hb3.setCell (by show w.heap.size ≤ g; omega) _⟩
        · simp [HL.out]
          omega
        · rw [List.length_set, HL.out]
          first
            | (have e : min a x' = x' := by omega
               rw [e, Int.sub_self] at hset ⊢
               exact hset.mono (by omega) (by simp))
            | (have e : min a x' = a := by omega
               rw [e] at hset ⊢
               exact hset.mono (by omega) (by simp))
end Go.Proofs.Ytjpmgoejcafjiaa
