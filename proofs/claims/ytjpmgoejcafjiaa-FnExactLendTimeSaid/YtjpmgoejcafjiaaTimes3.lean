/- Contracts of LendTime (impl and spec). -/
import Derived.Test.YtjpmgoejcafjiaaTimes2
namespace Go.Proofs.Ytjpmgoejcafjiaa
set_option linter.unusedVariables false
open Go.RowKit

def lendOk (xs : List Int) (f t a : Int) : Bool := ((timesV xs && inB f 0 (xs.length - 1)) && inB t 0 (xs.length - 1)) && decide (0 ≤ a)
def lendGo (xs : List Int) (f t a : Int) : Bool := decide (f ≠ t) && (decide (a ≤ xs.getD f.toNat 0) && decide (xs.getD t.toNat 0 + a ≤ 10000))
def lendL (xs : List Int) (f t a : Int) : List Int :=
  if lendOk xs f t a = true then (if lendGo xs f t a = true then (xs.set f.toNat (xs.getD f.toNat 0 - a)).set t.toNat (xs.getD t.toNat 0 + a) else xs) else []
def lendB (xs : List Int) (f t a : Int) : Bool := lendOk xs f t a && lendGo xs f t a
theorem lend_len (xs : List Int) (f t a : Int) : (lendL xs f t a).length ≤ 1048576 := by
  unfold lendL
  split
  · rename_i h
    unfold lendOk at h
    simp only [Bool.and_eq_true] at h
    have := times_len h.1.1.1
    split <;> simp <;> omega
  · simp
theorem lend_no {xs : List Int} {f t a : Int} (h : lendOk xs f t a = false) : lendL xs f t a = [] ∧ lendB xs f t a = false := by unfold lendL lendB; simp [h]
theorem lend_stay {xs : List Int} {f t a : Int} (h : lendOk xs f t a = true) (h2 : lendGo xs f t a = false) : lendL xs f t a = xs ∧ lendB xs f t a = false := by unfold lendL lendB; simp [h, h2]
theorem lend_go {xs : List Int} {k m : Nat} {a x y : Int} (h : lendOk xs k m a = true) (hx : xs[k]? = some x) (hy : xs[m]? = some y) (h1 : ¬ k = m) (h2 : ¬ x < a) (h3 : ¬ 10000 < y + a) :
    lendL xs k m a = (xs.set k (x - a)).set m (y + a) ∧ lendB xs k m a = true := by
  have hg : lendGo xs k m a = true := by
    unfold lendGo
    simp [List.getD_eq_getElem?_getD, hx, hy]
    omega
  unfold lendL lendB
  rw [if_pos h, if_pos hg, h, hg]
  simp [List.getD_eq_getElem?_getD, hx, hy]
theorem lendGo_no {xs : List Int} {k m : Nat} {a x y : Int} (hx : xs[k]? = some x) (hy : xs[m]? = some y) (h : k = m ∨ x < a ∨ 10000 < y + a) : lendGo xs k m a = false := by
  unfold lendGo
  simp [List.getD_eq_getElem?_getD, hx, hy]
  omega

set_option maxHeartbeats 2000000 in
theorem iLendTime_any (B T n c : Nat) (A : Option Addr) (xs : List Int) (f t a : Int) (w : World) (hr : Rd w B T 1 A n (ints xs)) (hn : n ≤ 1048576) (hnc : n ≤ c) :
    Calls Try.prog 26 #[.slice A n c, .int .i64 f, .int .i64 t, .int .i64 a] w (NewIntsB w (lendL xs f t a) (lendB xs f t a)) := by
  have hl := ints_len hr
  cases hv : timesV xs
  · have HP := Lib.hid (lend_no (xs := xs) (f := f) (t := t) (a := a) (by unfold lendOk; rw [hv]; rfl))
    go_enter Try.func26, Try.ntmps26
    go_wp2_with fail
    refine (iTimesValid_any _ _ _ _ _ xs _ hr hn).mono ?_
    rintro e w1 ⟨rfl, hb1⟩
    go_wp2
    go_ret2
    rw [HP.out.1, HP.out.2]
    exact ⟨none, 0, rfl, Own.nil _ _ _ _ _ _, hb1⟩
  · have h16 := times_len hv
    cases hi : inB f 0 ((n : Int) - 1)
    · have HP := Lib.hid (lend_no (xs := xs) (f := f) (t := t) (a := a) (by unfold lendOk; rw [hl, hi]; simp))
      go_enter Try.func26, Try.ntmps26
      go_wp2_with fail
      refine (iTimesValid_any _ _ _ _ _ xs _ hr hn).mono ?_
      rintro e w1 ⟨rfl, hb1⟩
      go_wp2_with fail
      refine (in_any _ _ _ _).mono ?_
      rintro e w2 ⟨rfl, rfl⟩
      go_wp2
      go_ret2
      rw [HP.out.1, HP.out.2]
      exact ⟨none, 0, rfl, Own.nil _ _ _ _ _ _, hb1⟩
    · cases hj : inB t 0 ((n : Int) - 1)
      · have HP := Lib.hid (lend_no (xs := xs) (f := f) (t := t) (a := a) (by unfold lendOk; rw [hl, hj]; simp))
        go_enter Try.func26, Try.ntmps26
        go_wp2_with fail
        refine (iTimesValid_any _ _ _ _ _ xs _ hr hn).mono ?_
        rintro e w1 ⟨rfl, hb1⟩
        go_wp2_with fail
        refine (in_any _ _ _ _).mono ?_
        rintro e w2 ⟨rfl, rfl⟩
        go_wp2_with fail
        refine (in_any _ _ _ _).mono ?_
        rintro e w3 ⟨rfl, rfl⟩
        go_wp2
        go_ret2
        rw [HP.out.1, HP.out.2]
        exact ⟨none, 0, rfl, Own.nil _ _ _ _ _ _, hb1⟩
      · by_cases ha : a < 0
        · have HP := Lib.hid (lend_no (xs := xs) (f := f) (t := t) (a := a) (by unfold lendOk; simp; omega))
          go_enter Try.func26, Try.ntmps26
          go_wp2_with fail
          refine (iTimesValid_any _ _ _ _ _ xs _ hr hn).mono ?_
          rintro e w1 ⟨rfl, hb1⟩
          go_wp2_with fail
          refine (in_any _ _ _ _).mono ?_
          rintro e w2 ⟨rfl, rfl⟩
          go_wp2_with fail
          refine (in_any _ _ _ _).mono ?_
          rintro e w3 ⟨rfl, rfl⟩
          go_wp2
          go_ret2
          rw [HP.out.1, HP.out.2]
          exact ⟨none, 0, rfl, Own.nil _ _ _ _ _ _, hb1⟩
        · have hok : lendOk xs f t a = true := by unfold lendOk; rw [hv, hl, hi, hj]; simp; omega
          have hir := inB_true.1 hi
          have hjr := inB_true.1 hj
          obtain ⟨k, rfl⟩ : ∃ k : Nat, f = (k : Int) := ⟨f.toNat, by omega⟩
          obtain ⟨m, rfl⟩ : ∃ m : Nat, t = (m : Int) := ⟨t.toNat, by omega⟩
          have hkl : k < n := by omega
          have hml : m < n := by omega
          obtain ⟨x, hx⟩ : ∃ x, xs[k]? = some x := ⟨_, List.getElem?_eq_getElem (by omega)⟩
          obtain ⟨y, hy⟩ : ∃ y, xs[m]? = some y := ⟨_, List.getElem?_eq_getElem (by omega)⟩
          have hxr := times_at hv hx
          have hyr := times_at hv hy
          have hk0 : (0 : Int) ≤ (k : Int) := by omega
          have hk1 : (k : Int) < (n : Int) := by omega
          have hm0 : (0 : Int) ≤ (m : Int) := by omega
          have hm1 : (m : Int) < (n : Int) := by omega
          have hx0 := hxr.1
          have hx1 := hxr.2
          have hy0 := hyr.1
          have hy1 := hyr.2
          by_cases hst : k = m ∨ x < a ∨ 10000 < y + a
          · have HP := Lib.hid (lend_stay hok (lendGo_no hx hy hst))
            have HX := Lib.hid hx
            have HY := Lib.hid hy
            have HL := Lib.hid hl
            have HS := Lib.hid hst
            clear hx hy hxr hyr hir hjr hl hst
            cases hq : ((k : Int) == (m : Int))
            all_goals
              have HQ := Lib.hid hq
              go_enter Try.func26, Try.ntmps26
              go_wp2_with fail
              refine (iTimesValid_any _ _ _ _ _ xs _ hr hn).mono ?_
              rintro e w1 ⟨rfl, hb1⟩
              go_wp2_with fail
              refine (in_any _ _ _ _).mono ?_
              rintro e w2 ⟨rfl, rfl⟩
              go_wp2_with fail
              refine (in_any _ _ _ _).mono ?_
              rintro e w3 ⟨rfl, rfl⟩
              go_wp2_with fail
              refine (clone_any B T n c A xs _ (hr.below hb1) hn).mono ?_
              rintro e w4 ⟨A3, c3, rfl, o3, hb3⟩
              rw [HL.out] at o3 ⊢
              have hr3 := (hr.below hb1).below hb3
              obtain ⟨b, o, x', rfl, hbl, hx', hc'⟩ := ints_at hr3 hkl
              rw [HX.out] at hx'
              injection hx' with hx'
              subst hx'
              obtain ⟨b', o', y', he, hbl', hy', hd'⟩ := ints_at hr3 hml
              injection he with he
              injection he with he1 he2
              subst he1
              subst he2
              rw [HY.out] at hy'
              injection hy' with hy'
              subst hy'
              clear hr hr3
              go_wp2
              all_goals first
                | (exfalso; have h1 := HS.out; have h2 := HQ.out; simp at h2; omega)
                | (go_ret2
                   rw [HP.out.1, HP.out.2]
                   exact ⟨A3, c3, by rw [HL.out]; rfl, by rw [HL.out]; exact o3.mono hb1.size (Nat.le_refl _), by (repeat (first | exact Below.refl _ _ | assumption | refine Below.setCell ?_ (by first | (simp; done) | (simp; omega) | omega) _ | refine Below.alloc1 ?_ _ | refine Below.alloc ?_ (by first | (simp; done) | (simp; omega) | omega) _ | refine Below.drew ?_ | refine Below.drewN ?_ _ | refine Below.via ?_ (by assumption)))⟩)
          · have HX := Lib.hid hx
            have HY := Lib.hid hy
            have HL := Lib.hid hl
            have hne : ¬ k = m := fun h => hst (.inl h)
            have hn2 : ¬ x < a := fun h => hst (.inr (.inl h))
            have hn3 : ¬ 10000 < y + a := fun h => hst (.inr (.inr h))
            have hne' : ((k : Int) == (m : Int)) = false := by simp; omega
            have HP := Lib.hid (lend_go hok hx hy hne hn2 hn3)
            clear hx hy hxr hyr hir hjr hl hst
            go_enter Try.func26, Try.ntmps26
            go_wp2_with fail
            refine (iTimesValid_any _ _ _ _ _ xs _ hr hn).mono ?_
            rintro e w1 ⟨rfl, hb1⟩
            go_wp2_with fail
            refine (in_any _ _ _ _).mono ?_
            rintro e w2 ⟨rfl, rfl⟩
            go_wp2_with fail
            refine (in_any _ _ _ _).mono ?_
            rintro e w3 ⟨rfl, rfl⟩
            go_wp2_with fail
            refine (clone_any B T n c A xs _ (hr.below hb1) hn).mono ?_
            rintro e w4 ⟨A3, c3, rfl, o3, hb3⟩
            rw [HL.out] at o3 ⊢
            have hr3 := (hr.below hb1).below hb3
            obtain ⟨b, o, x', rfl, hbl, hx', hc'⟩ := ints_at hr3 hkl
            rw [HX.out] at hx'
            injection hx' with hx'
            subst hx'
            obtain ⟨b', o', y', he, hbl', hy', hd'⟩ := ints_at hr3 hml
            injection he with he
            injection he with he1 he2
            subst he1
            subst he2
            rw [HY.out] at hy'
            injection hy' with hy'
            subst hy'
            obtain ⟨g, p, rfl, h2, h3, h4, h5, h6, h7⟩ := o3.at_ (by omega)
            have hcx := h5 k _ (ints_get HX.out)
            have hfx := h6 (p + k)
            have hcy := h5 m _ (ints_get HY.out)
            have hfy := h6 (p + m)
            have hset1 := h7 k (.int .i64 (x - a)) (by rw [ints_length, HL.out]; exact hkl)
            rw [← ints_set] at hset1
            obtain ⟨g', p', hA, -, -, -, -, -, k7⟩ := hset1.at_ (by omega)
            injection hA with hA
            injection hA with hg ho'
            subst hg
            subst ho'
            have hset2 := k7 m (.int .i64 (y + a)) (by rw [ints_length, List.length_set, HL.out]; exact hml)
            rw [← ints_set] at hset2
            have z1 := hb1.size
            have z3 := hb3.size
            have hw1 : wrap64 (x - a) = x - a := by unfold wrap64; omega
            have hw2 : wrap64 (y + a) = y + a := by unfold wrap64; omega
            clear hr hr3 h5 h6 h7 k7 hset1
            go_wp2
            go_ret2
            rw [HP.out.1, HP.out.2]
            refine ⟨some ⟨g, p, none⟩, c3, ?_, ?_, ((Below.via hb1 hb3).setCell (by show w.heap.size ≤ g; omega) _).setCell (by show w.heap.size ≤ g; omega) _⟩
            · simp [HL.out]
            · rw [List.length_set, List.length_set, HL.out]
              exact hset2.mono (by omega) (by simp)
set_option maxHeartbeats 2000000 in
theorem sLendTime_any (B T n c : Nat) (A : Option Addr) (xs : List Int) (f t a : Int) (w : World) (hr : Rd w B T 1 A n (ints xs)) (hn : n ≤ 1048576) :
    Calls Try.prog 25 #[.slice A n c, .int .i64 f, .int .i64 t, .int .i64 a] w (NewIntsB w (lendL xs f t a) (lendB xs f t a)) := by
  obtain ⟨i0, hi0, hz0, hz1, hz2⟩ := info_parts Try.infoInt
  have hl := ints_len hr
  cases hv : ((timesV xs && inB f 0 ((n : Int) - 1)) && inB t 0 ((n : Int) - 1))
  · have HP := Lib.hid (lend_no (xs := xs) (f := f) (t := t) (a := a) (by unfold lendOk; rw [hl, hv]; rfl))
    go_enter Try.func25, Try.ntmps25
    go_wp2_with fail
    refine (l15Ok_any _ _ _ _ _ xs _ _ _ hr hn).mono ?_
    rintro e w1 ⟨rfl, hb1⟩
    rw [hv]
    go_wp2
    go_ret2
    rw [HP.out.1, HP.out.2]
    exact ⟨_, 0, rfl, Own.nil _ _ _ _ _ _, by (repeat (first | exact Below.refl _ _ | assumption | refine Below.setCell ?_ (by first | (simp; done) | (simp; omega) | omega) _ | refine Below.alloc1 ?_ _ | refine Below.alloc ?_ (by first | (simp; done) | (simp; omega) | omega) _ | refine Below.drew ?_ | refine Below.drewN ?_ _ | refine Below.via ?_ (by assumption)))⟩
  · have hvi := Bool.and_eq_true_iff.1 hv
    have hvj := Bool.and_eq_true_iff.1 hvi.1
    have HV := Lib.hid hv
    have h16 := times_len hvj.1
    by_cases ha : a < 0
    · have HP := Lib.hid (lend_no (xs := xs) (f := f) (t := t) (a := a) (by unfold lendOk; simp; omega))
      clear hvi hvj hv
      go_enter Try.func25, Try.ntmps25
      go_wp2_with fail
      refine (l15Ok_any _ _ _ _ _ xs _ _ _ hr hn).mono ?_
      rintro e w1 ⟨rfl, hb1⟩
      rw [HV.out]
      go_wp2
      go_ret2
      rw [HP.out.1, HP.out.2]
      exact ⟨_, 0, rfl, Own.nil _ _ _ _ _ _, by (repeat (first | exact Below.refl _ _ | assumption | refine Below.setCell ?_ (by first | (simp; done) | (simp; omega) | omega) _ | refine Below.alloc1 ?_ _ | refine Below.alloc ?_ (by first | (simp; done) | (simp; omega) | omega) _ | refine Below.drew ?_ | refine Below.drewN ?_ _ | refine Below.via ?_ (by assumption)))⟩
    · have hok : lendOk xs f t a = true := by unfold lendOk; rw [hl, hv]; simp; omega
      have hir := inB_true.1 hvj.2
      have hjr := inB_true.1 hvi.2
      obtain ⟨k, rfl⟩ : ∃ k : Nat, f = (k : Int) := ⟨f.toNat, by omega⟩
      obtain ⟨m, rfl⟩ : ∃ m : Nat, t = (m : Int) := ⟨t.toNat, by omega⟩
      have hkl : k < n := by omega
      have hml : m < n := by omega
      obtain ⟨x, hx⟩ : ∃ x, xs[k]? = some x := ⟨_, List.getElem?_eq_getElem (by omega)⟩
      obtain ⟨y, hy⟩ : ∃ y, xs[m]? = some y := ⟨_, List.getElem?_eq_getElem (by omega)⟩
      have hxr := times_at hvj.1 hx
      have hyr := times_at hvj.1 hy
      have hk0 : (0 : Int) ≤ (k : Int) := by omega
      have hk1 : (k : Int) < (n : Int) := by omega
      have hm0 : (0 : Int) ≤ (m : Int) := by omega
      have hm1 : (m : Int) < (n : Int) := by omega
      have hx0 := hxr.1
      have hx1 := hxr.2
      have hy0 := hyr.1
      have hy1 := hyr.2
      have hw3 : wrap64 (10000 - y) = 10000 - y := by unfold wrap64; omega
      by_cases hst : k = m ∨ x < a ∨ 10000 < y + a
      · have HP := Lib.hid (lend_stay hok (lendGo_no hx hy hst))
        have HX := Lib.hid hx
        have HY := Lib.hid hy
        have HL := Lib.hid hl
        have HS := Lib.hid hst
        clear hx hy hxr hyr hir hjr hl hst hvi hvj hv
        cases hq : ((k : Int) == (m : Int))
        all_goals
          have HQ := Lib.hid hq
          go_enter Try.func25, Try.ntmps25
          go_wp2_with fail
          refine (l15Ok_any _ _ _ _ _ xs _ _ _ hr hn).mono ?_
          rintro e w1 ⟨rfl, hb1⟩
          rw [HV.out]
          go_wp2_with (
            at_builtin
            refine wpList_app _ rfl (.tmp 21) (.tmp 22) 22 rfl 3 i0 (.int .i64 0) 1 8 Try.underlying22 hi0 hz0 hz1 hz2 rfl (by omega) w1.heap.size 0 B T (some ⟨w1.heap.size, 0, none⟩) A 0 0 n c [] (ints xs) rfl rfl (Own.nil _ _ _ _ _ _) ((hr.below hb1).alloc _) (ints_one _) (by unfold maxLen; omega) (by omega) (by simp) ?_
            intro A3 c3 w3 o3 f3
            rw [Nat.zero_add, List.nil_append] at o3
            have hr3 : Rd w3 B T 1 A n (ints xs) := ((hr.below hb1).alloc _).below f3.below0
            have hs13 : w1.heap.size ≤ w3.heap.size := by have := f3.size; simp at this; omega
            have hb3 : Below w.heap.size w w3 := Below.via (Below.alloc1 hb1 _) f3.below0
            obtain ⟨b, o, x', rfl, hbl, hx', hc'⟩ := ints_at hr3 hkl
            rw [HX.out] at hx'
            injection hx' with hx'
            subst hx'
            obtain ⟨b', o', y', he, hbl', hy', hd'⟩ := ints_at hr3 hml
            injection he with he
            injection he with he1 he2
            subst he1
            subst he2
            rw [HY.out] at hy'
            injection hy' with hy'
            subst hy'
            have z1 := hb1.size
            clear hr hr3)
          all_goals first
            | (exfalso; have h1 := HS.out; have h2 := HQ.out; simp at h2; omega)
            | (go_ret2
               rw [HP.out.1, HP.out.2]
               exact ⟨A3, c3, by rw [HL.out]; rfl, by rw [HL.out]; exact o3.mono hb1.size (Nat.le_refl _), by (repeat (first | exact Below.refl _ _ | assumption | refine Below.setCell ?_ (by first | (simp; done) | (simp; omega) | omega) _ | refine Below.alloc1 ?_ _ | refine Below.alloc ?_ (by first | (simp; done) | (simp; omega) | omega) _ | refine Below.drew ?_ | refine Below.drewN ?_ _ | refine Below.via ?_ (by assumption)))⟩)
      · have HX := Lib.hid hx
        have HY := Lib.hid hy
        have HL := Lib.hid hl
        have hne : ¬ k = m := fun h => hst (.inl h)
        have hn2 : ¬ x < a := fun h => hst (.inr (.inl h))
        have hn3 : ¬ 10000 < y + a := fun h => hst (.inr (.inr h))
        have hn4 : ¬ 10000 - y < a := by omega
        have hne' : ((k : Int) == (m : Int)) = false := by simp; omega
        have HP := Lib.hid (lend_go hok hx hy hne hn2 hn3)
        have hw1 : wrap64 (x - a) = x - a := by unfold wrap64; omega
        have hw2 : wrap64 (y + a) = y + a := by unfold wrap64; omega
        clear hx hy hxr hyr hir hjr hl hst hvi hvj hv
        go_enter Try.func25, Try.ntmps25
        go_wp2_with fail
        refine (l15Ok_any _ _ _ _ _ xs _ _ _ hr hn).mono ?_
        rintro e w1 ⟨rfl, hb1⟩
        rw [HV.out]
        go_wp2_with (
          at_builtin
          refine wpList_app _ rfl (.tmp 21) (.tmp 22) 22 rfl 3 i0 (.int .i64 0) 1 8 Try.underlying22 hi0 hz0 hz1 hz2 rfl (by omega) w1.heap.size 0 B T (some ⟨w1.heap.size, 0, none⟩) A 0 0 n c [] (ints xs) rfl rfl (Own.nil _ _ _ _ _ _) ((hr.below hb1).alloc _) (ints_one _) (by unfold maxLen; omega) (by omega) (by simp) ?_
          intro A3 c3 w3 o3 f3
          rw [Nat.zero_add, List.nil_append] at o3
          have hr3 : Rd w3 B T 1 A n (ints xs) := ((hr.below hb1).alloc _).below f3.below0
          have hs13 : w1.heap.size ≤ w3.heap.size := by have := f3.size; simp at this; omega
          have hb3 : Below w.heap.size w w3 := Below.via (Below.alloc1 hb1 _) f3.below0
          obtain ⟨b, o, x', rfl, hbl, hx', hc'⟩ := ints_at hr3 hkl
          rw [HX.out] at hx'
          injection hx' with hx'
          subst hx'
          obtain ⟨b', o', y', he, hbl', hy', hd'⟩ := ints_at hr3 hml
          injection he with he
          injection he with he1 he2
          subst he1
          subst he2
          rw [HY.out] at hy'
          injection hy' with hy'
          subst hy'
          have z1 := hb1.size
          obtain ⟨g, p, rfl, h2, h3, h4, h5, h6, h7⟩ := o3.at_ (by omega)
          have hcx := h5 k _ (ints_get HX.out)
          have hfx := h6 (p + k)
          have hcy := h5 m _ (ints_get HY.out)
          have hfy := h6 (p + m)
          have hset1 := h7 k (.int .i64 (x - a)) (by rw [ints_length, HL.out]; exact hkl)
          rw [← ints_set] at hset1
          obtain ⟨g', p', hA, -, -, -, -, -, k7⟩ := hset1.at_ (by omega)
          injection hA with hA
          injection hA with hg ho'
          subst hg
          subst ho'
          have hset2 := k7 m (.int .i64 (y + a)) (by rw [ints_length, List.length_set, HL.out]; exact hml)
          rw [← ints_set] at hset2
          clear hr hr3 h5 h6 h7 k7 hset1)
        go_ret2
        rw [HP.out.1, HP.out.2]
        refine ⟨some ⟨g, p, none⟩, c3, ?_, ?_, (hb3.setCell (p := ⟨g, p + k, none⟩) (by show w.heap.size ≤ g; omega) _).setCell (p := ⟨g, p + m, none⟩) (by show w.heap.size ≤ g; omega) _⟩
        · simp [HL.out]
        · rw [List.length_set, List.length_set, HL.out]
          exact hset2.mono (by omega) (by simp)
end Go.Proofs.Ytjpmgoejcafjiaa
