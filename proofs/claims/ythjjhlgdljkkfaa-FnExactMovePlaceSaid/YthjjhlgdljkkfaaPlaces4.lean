/- The contract of MovePlace (spec). -/
import Derived.Test.YthjjhlgdljkkfaaPlaces3
namespace Go.Proofs.Ythjjhlgdljkkfaa
set_option linter.unusedVariables false
open Go.RowKit
theorem spots_in {xs : List Int} {j : Nat} {y : Int} (h : placesV xs = true) (hy : xs[j]? = some y) : inB y (-1) 29 = true := by
  unfold placesV spots at h
  simp only [Bool.and_eq_true, decide_eq_true_eq, List.all_eq_true] at h
  exact h.2.1 _ (List.mem_of_getElem? hy)
set_option maxHeartbeats 1000000 in
theorem sMovePlace_any (B T n c : Nat) (A : Option Addr) (xs : List Int) (a b : Int) (w : World) (hr : Rd w B T 1 A n (ints xs)) (hn : n ≤ 1048576) :
    Calls Try.prog 18 #[.slice A n c, .int .i64 a, .int .i64 b] w (NewIntsB w (exL (mayM xs a b) xs a b) (exO (mayM xs a b) xs a b)) := by
  obtain ⟨i0, hi0, hz0, hz1, hz2⟩ := info_parts Try.infoInt
  have hl := ints_len hr
  subst hl
  cases hv : placesV xs
  · have HP := Lib.hid (ex_no1 (may := mayM xs a b) (a := a) (b := b) hv)
    go_enter Try.func18, Try.ntmps18
    go_wp2_with fail
    refine (sPlacesValid_any _ _ _ _ _ xs _ hr hn).mono ?_
    rintro e w1 ⟨rfl, hb1⟩
    go_wp2
    go_ret2
    rw [HP.out.1, HP.out.2]
    exact ⟨_, 0, rfl, Own.nil _ _ _ _ _ _, by (repeat (first | exact Below.refl _ _ | assumption | refine Below.setCell ?_ (by first | (simp; done) | (simp; omega) | omega) _ | refine Below.alloc1 ?_ _ | refine Below.alloc ?_ (by first | (simp; done) | (simp; omega) | omega) _ | refine Below.drew ?_ | refine Below.drewN ?_ _ | refine Below.via ?_ (by assumption)))⟩
  · have hlen : (0 : Int) ≤ (xs.length : Int) := by omega
    cases ha : inR xs a
    · have HP := Lib.hid (ex_no2 (may := mayM xs a b) (a := a) (b := b) hv (by rw [ha]; rfl))
      have ha' : inB a 0 ((xs.length : Int) - 1) = false := ha
      go_enter Try.func18, Try.ntmps18
      go_wp2_with fail
      refine (sPlacesValid_any _ _ _ _ _ xs _ hr hn).mono ?_
      rintro e w1 ⟨rfl, hb1⟩
      go_wp2_with (at_builtin; refine wpList_appg _ (by rfl) (.tmp 13) (.tmp 14) 22 rfl 3 i0 (.int .i64 0) 1 8 Try.underlying22 hi0 hz0 hz1 hz2 rfl (by omega) w1.heap.size 0 _ _ (some ⟨w1.heap.size, 0, none⟩) A 0 0 xs.length c [] (ints xs) rfl rfl (Own.nil _ _ _ _ _ _) ((hr.below hb1).alloc _) (ints_one _) (by unfold maxLen; omega) (by omega) (by simp) ?_; intro A2 c2 w2 o2 f2; rw [Nat.zero_add, List.nil_append] at o2; have z2 := f2.size; (try simp at z2))
      refine (l1In_any _ _ _ _).mono ?_
      rintro e w3 ⟨rfl, rfl⟩
      go_wp2
      go_ret2
      rw [HP.out.1, HP.out.2]
      exact ⟨A2, c2, rfl, o2.mono hb1.size (Nat.le_refl _), (Below.via (Below.alloc1 hb1 _) f2.below0)⟩
    · cases hb : inR xs b
      · have HP := Lib.hid (ex_no2 (may := mayM xs a b) (a := a) (b := b) hv (by rw [ha, hb]; rfl))
        have ha' : inB a 0 ((xs.length : Int) - 1) = true := ha
        have hb' : inB b 0 ((xs.length : Int) - 1) = false := hb
        go_enter Try.func18, Try.ntmps18
        go_wp2_with fail
        refine (sPlacesValid_any _ _ _ _ _ xs _ hr hn).mono ?_
        rintro e w1 ⟨rfl, hb1⟩
        go_wp2_with (at_builtin; refine wpList_appg _ (by rfl) (.tmp 13) (.tmp 14) 22 rfl 3 i0 (.int .i64 0) 1 8 Try.underlying22 hi0 hz0 hz1 hz2 rfl (by omega) w1.heap.size 0 _ _ (some ⟨w1.heap.size, 0, none⟩) A 0 0 xs.length c [] (ints xs) rfl rfl (Own.nil _ _ _ _ _ _) ((hr.below hb1).alloc _) (ints_one _) (by unfold maxLen; omega) (by omega) (by simp) ?_; intro A2 c2 w2 o2 f2; rw [Nat.zero_add, List.nil_append] at o2; have z2 := f2.size; (try simp at z2))
        refine (l1In_any _ _ _ _).mono ?_
        rintro e w3 ⟨rfl, rfl⟩
        go_wp2_with fail
        refine (l1In_any _ _ _ _).mono ?_
        rintro e w4 ⟨rfl, rfl⟩
        go_wp2
        go_ret2
        rw [HP.out.1, HP.out.2]
        exact ⟨A2, c2, rfl, o2.mono hb1.size (Nat.le_refl _), (Below.via (Below.alloc1 hb1 _) f2.below0)⟩
      · obtain ⟨i, x, rfl, hi, hx⟩ := inR_at ha
        obtain ⟨j, y, rfl, hj, hy⟩ := inR_at hb
        have hmv := mayM_at hx hy
        have ha' : inB (i : Int) 0 ((xs.length : Int) - 1) = true := ha
        have hb' : inB (j : Int) 0 ((xs.length : Int) - 1) = true := hb
        have hii0 : (0 : Int) ≤ (i : Int) := by omega
        have hi1 : (i : Int) < (xs.length : Int) := by omega
        have hj0 : (0 : Int) ≤ (j : Int) := by omega
        have hj1 : (j : Int) < (xs.length : Int) := by omega
        have HX := Lib.hid hx
        have HY := Lib.hid hy
        have hcase : (mayM xs (i : Int) (j : Int) = false ∧ (x < 0 ∨ (¬ x < 0 ∧ ¬ y < 0))) ∨ (mayM xs (i : Int) (j : Int) = true ∧ ¬ x < 0 ∧ y = -1 ∧ i ≠ j) := by
          by_cases h0 : x < 0
          · exact .inl ⟨by rw [← hmv]; simp; omega, .inl h0⟩
          · by_cases h1 : y < 0
            · refine .inr ⟨by rw [← hmv]; simp; omega, h0, ?_, ?_⟩
              · have := spots_in hv hy
                rw [inB_true] at this
                omega
              · intro e
                subst e
                rw [hx] at hy
                injection hy with hy
                omega
            · exact .inl ⟨by rw [← hmv]; simp; omega, .inr ⟨h0, h1⟩⟩
        rcases hcase with ⟨hm, hcs⟩ | ⟨hm, h0, rfl, hij⟩
        · have HP := Lib.hid (ex_no2 (may := false) hv (by rw [ha, hb]; rfl : (inR xs (i : Int) && (inR xs (j : Int) && false)) = false))
          rw [hm]
          clear ha hb hx hy hmv hm
          go_enter Try.func18, Try.ntmps18
          go_wp2_with fail
          refine (sPlacesValid_any _ _ _ _ _ xs _ hr hn).mono ?_
          rintro e w1 ⟨rfl, hb1⟩
          go_wp2_with (at_builtin; refine wpList_appg _ (by rfl) (.tmp 13) (.tmp 14) 22 rfl 3 i0 (.int .i64 0) 1 8 Try.underlying22 hi0 hz0 hz1 hz2 rfl (by omega) w1.heap.size 0 _ _ (some ⟨w1.heap.size, 0, none⟩) A 0 0 xs.length c [] (ints xs) rfl rfl (Own.nil _ _ _ _ _ _) ((hr.below hb1).alloc _) (ints_one _) (by unfold maxLen; omega) (by omega) (by simp) ?_; intro A2 c2 w2 o2 f2; rw [Nat.zero_add, List.nil_append] at o2; have z2 := f2.size; (try simp at z2))
          refine (l1In_any _ _ _ _).mono ?_
          rintro e w3 ⟨rfl, rfl⟩
          go_wp2_with fail
          refine (l1In_any _ _ _ _).mono ?_
          rintro e w4 ⟨rfl, rfl⟩
          have hB2 := Below.via (Below.alloc1 hb1 (.cells #[] 3)) f2.below0
          have hr2 := (hr.here Nat.one_pos).below hB2
          have z1 := hb1.size
          obtain ⟨gr, or, rfl, hra, hrb, hrc⟩ := hr2.2 (by omega)
          have hcx := hrc i _ (ints_get HX.out)
          have hcy := hrc j _ (ints_get HY.out)
          clear hrc hr2 hr
          rcases hcs with h0 | ⟨h0, h1⟩
          all_goals
            go_wp2
            go_ret2
            rw [HP.out.1, HP.out.2]
            exact ⟨A2, c2, rfl, o2.mono (by omega) (Nat.le_refl _), hB2⟩
        · have HP := Lib.hid (ex_yes hv (by rw [ha, hb]; rfl) hx hy)
          rw [hm]
          have hji : ¬ j = i := fun e => hij e.symm
          have h00 : decide (x < 0) = false := by simp; omega
          clear ha hb hx hy hmv hm
          go_enter Try.func18, Try.ntmps18
          go_wp2_with fail
          refine (sPlacesValid_any _ _ _ _ _ xs _ hr hn).mono ?_
          rintro e w1 ⟨rfl, hb1⟩
          go_wp2_with (at_builtin; refine wpList_appg _ (by rfl) (.tmp 13) (.tmp 14) 22 rfl 3 i0 (.int .i64 0) 1 8 Try.underlying22 hi0 hz0 hz1 hz2 rfl (by omega) w1.heap.size 0 _ _ (some ⟨w1.heap.size, 0, none⟩) A 0 0 xs.length c [] (ints xs) rfl rfl (Own.nil _ _ _ _ _ _) ((hr.below hb1).alloc _) (ints_one _) (by unfold maxLen; omega) (by omega) (by simp) ?_; intro A2 c2 w2 o2 f2; rw [Nat.zero_add, List.nil_append] at o2; have z2 := f2.size; (try simp at z2))
          refine (l1In_any _ _ _ _).mono ?_
          rintro e w3 ⟨rfl, rfl⟩
          go_wp2_with fail
          refine (l1In_any _ _ _ _).mono ?_
          rintro e w4 ⟨rfl, rfl⟩
          have hB2 := Below.via (Below.alloc1 hb1 (.cells #[] 3)) f2.below0
          have hr2 := (hr.here Nat.one_pos).below hB2
          have z1 := hb1.size
          obtain ⟨gr, or, rfl, hra, hrb, hrc⟩ := hr2.2 (by omega)
          have hcx := hrc i _ (ints_get HX.out)
          have hcy := hrc j _ (ints_get HY.out)
          obtain ⟨g, o, rfl, h2, h3, h4, h5, h6, h7⟩ := o2.at_ (by omega)
          have hci := h5 i _ (ints_get HX.out)
          have hcj := h5 j _ (ints_get HY.out)
          have hset1 := h7 j (.int .i64 x) (by rw [ints_length]; omega)
          rw [← ints_set] at hset1
          obtain ⟨g', o', hA, -, -, -, k5, -, k7⟩ := hset1.at_ (by omega)
          injection hA with hA
          injection hA with hg ho
          subst hg
          subst ho
          have hset2 := k7 i (.int .i64 (-1)) (by rw [ints_length]; simp; omega)
          rw [← ints_set, List.set_comm _ _ hji] at hset2
          have hgr : ¬ gr = g := by omega
          have hgr' : ¬ g = gr := by omega
          clear h5 h7 hset1 k7 k5 hr2 hrc hr
          go_wp2
          go_ret2
          rw [HP.out.1, HP.out.2]
          exact ⟨some ⟨g, o, none⟩, c2, by simp, by simpa using hset2.mono (B' := w.heap.size) (T' := w2.heap.size) (by omega) (Nat.le_refl _), (hB2.setCell (p := ⟨g, o + j, none⟩) (by show w.heap.size ≤ g; omega) _).setCell (p := ⟨g, o + i, none⟩) (by show w.heap.size ≤ g; omega) _⟩
end Go.Proofs.Ythjjhlgdljkkfaa
