/- The walk of the law FnPlacesValid: it returns true and leaves all that was in memory as it was, for every code. -/
import Derived.Test.YthjjhlgdljkkfaaLwPlacesHead
namespace Go.Proofs.Ythjjhlgdljkkfaa
set_option linter.unusedVariables false
open Go.RowKit
set_option maxHeartbeats 4000000 in
theorem law_PlacesValid (B T n c : Nat) (A : Option Addr) (bs : List Value) (w : World) (hr : Rd w B T 1 A n bs) (hb : Bytes bs) (hnc : n ≤ c) :
    Calls Try.prog 7 #[.slice A n c] w fun e w' => e = .returned (.bool true) ∧ Below w.heap.size w w' := by
  obtain ⟨i0, hi0, hz0, hz1, hz2⟩ := info_parts Try.infoInt
  by_cases hbig : 1048576 < n
  · have hd : (1048576 : Int) < (n : Int) := by omega
    go_enter Try.func7, Try.ntmps7
    go_wp2_with fail
    go_ret
    exact ⟨rfl, Below.refl _ _⟩
  · have hn : n ≤ 1048576 := by omega
    have hd : ¬ (1048576 : Int) < (n : Int) := by omega
    have hB := Below.refl w.heap.size w
    go_enter Try.func7, Try.ntmps7
    go_wp2_with fail
    refine (DrawPlacesValid_any B T n c A bs _ hr hb hn hnc).mono ?_
    rintro e w1 ⟨A1, c1, xs, rfl, o1, hl, hb1⟩
    have z1 := hb1.size
    replace hB := Below.via hB hb1
    go_wp2_with fail
    refine (iPlacesValid_any _ _ _ _ _ xs _ o1.rd (by omega) o1.le).mono ?_
    rintro e w2 ⟨rfl, hb2⟩
    have z2 := hb2.size
    replace hB := Below.via hB hb2
    replace o1 := o1.below hb2
    go_wp2_with fail
    refine (sPlacesValid_any _ _ _ _ _ xs _ o1.rd (by omega)).mono ?_
    rintro e w3 ⟨rfl, hb3⟩
    have z3 := hb3.size
    replace hB := Below.via hB hb3
    replace o1 := o1.below hb3
    have H2 := Lib.hid (spots_twice xs 4 (by omega))
    have hle := o1.le
    cases hv : placesV xs
    · go_wp2_with (first | (at_builtin; refine wpList_appg _ (by rfl) (.tmp 27) (.tmp 28) 22 rfl 3 i0 (.int .i64 0) 1 8 Try.underlying22 hi0 hz0 hz1 hz2 rfl (by omega) w3.heap.size 0 _ _ (some ⟨w3.heap.size, 0, none⟩) A1 0 0 xs.length c1 [] (ints xs) rfl rfl (Own.nil _ _ _ _ _ _) (o1.rd.alloc _) (ints_one _) (by unfold maxLen; omega) (by omega) (by simp) ?_; intro A4 c4 w4 o4 f4; rw [Nat.zero_add, List.nil_append] at o4; have z4 := f4.size; (try simp at z4)) | ((at_builtin; refine wpList_appg _ (by rfl) (.tmp 29) (.tmp 30) 22 rfl 3 i0 (.int .i64 0) 1 8 Try.underlying22 hi0 hz0 hz1 hz2 rfl (by omega) (w3.heap.size) _ w4.heap.size (w4.heap.size + 1) A4 (some ⟨w4.heap.size, 0, none⟩) xs.length c4 2 2 (ints xs) (ints [4, 4]) rfl rfl (o4.alloc _) (Own.new (e := 3) (size := 1) w4 #[.int .i64 (4), .int .i64 (4)] 2 (by unfold maxLen; omega) rfl).rd (ints_one _) (by unfold maxLen; omega) (by omega) (by simp; omega) ?_; intro A5 c5 w5 o5 f5; have z5 := f5.size; (try simp at z5))))
      have z3 := hB.size
      replace hB := (hB.alloc hB.size _).trans (f4.below (W := w.heap.size) (by omega) (by simp; omega))
      replace hB := (hB.alloc hB.size _).trans (f5.below (W := w.heap.size) (by omega) (by simp; omega))
      rw [← ints_append] at o5
      go_wp2_with fail
      refine (iPlacesValid_any _ _ _ _ _ (xs ++ [4, 4]) _ o5.rd (by omega) o5.le).mono ?_
      rintro e w6 ⟨rfl, hb6⟩
      have z6 := hb6.size
      replace hB := Below.via hB hb6
      rw [H2.out]
      go_wp2_with fail
      refine (alive_any _).mono ?_
      rintro e w7 ⟨rfl, hb7⟩
      have z7 := hb7.size
      replace hB := Below.via hB hb7
      go_wp2
      go_ret
      exact ⟨rfl, hB⟩
    · have H1 := Lib.hid (spots_half (xs.length / 2) hv)
      have hq : (xs.length : Int) / 2 = ((xs.length / 2 : Nat) : Int) := by omega
      have hq1 : xs.length / 2 ≤ xs.length := by omega
      have ht := o1.rd.take hq1
      rw [Nat.mul_one, ← ints_take] at ht
      have hm1 : (xs.length : Int) / 2 ≤ (c1 : Int) := by omega
      have hm0 : (0 : Int) ≤ (xs.length : Int) / 2 := by omega
      have hm2 : ((xs.length : Int) / 2).toNat = xs.length / 2 := by omega
      have HT := Lib.hid ht
      clear ht hq
      cases A1
      all_goals
        go_wp2_with fail
        refine (iPlacesValid_any _ _ _ _ _ (xs.take (xs.length / 2)) _ HT.out (by omega) (by omega)).mono ?_
        rintro e w4 ⟨rfl, hb4⟩
        have z4 := hb4.size
        replace hB := Below.via hB hb4
        replace o1 := o1.below hb4
        rw [H1.out]
        go_wp2_with (first | (at_builtin; refine wpList_appg _ (by rfl) (.tmp 27) (.tmp 28) 22 rfl 3 i0 (.int .i64 0) 1 8 Try.underlying22 hi0 hz0 hz1 hz2 rfl (by omega) w4.heap.size 0 _ _ (some ⟨w4.heap.size, 0, none⟩) _ 0 0 xs.length c1 [] (ints xs) rfl rfl (Own.nil _ _ _ _ _ _) (o1.rd.alloc _) (ints_one _) (by unfold maxLen; omega) (by omega) (by simp) ?_; intro A5 c5 w5 o5 f5; rw [Nat.zero_add, List.nil_append] at o5; have z5 := f5.size; (try simp at z5)) | (at_builtin; refine wpList_appg _ (by rfl) (.tmp 29) (.tmp 30) 22 rfl 3 i0 (.int .i64 0) 1 8 Try.underlying22 hi0 hz0 hz1 hz2 rfl (by omega) (w4.heap.size) _ w5.heap.size (w5.heap.size + 1) A5 (some ⟨w5.heap.size, 0, none⟩) xs.length c5 2 2 (ints xs) (ints [4, 4]) rfl rfl (o5.alloc _) (Own.new (e := 3) (size := 1) w5 #[.int .i64 (4), .int .i64 (4)] 2 (by unfold maxLen; omega) rfl).rd (ints_one _) (by unfold maxLen; omega) (by omega) (by simp; omega) ?_; intro A6 c6 w6 o6 f6; have z6 := f6.size; (try simp at z6)))
        have z0 := hB.size
        replace hB := (hB.alloc hB.size _).trans (f5.below (W := w.heap.size) (by omega) (by simp; omega))
        replace hB := (hB.alloc hB.size _).trans (f6.below (W := w.heap.size) (by omega) (by simp; omega))
        rw [← ints_append] at o6
        go_wp2_with fail
        refine (iPlacesValid_any _ _ _ _ _ (xs ++ [4, 4]) _ o6.rd (by omega) o6.le).mono ?_
        rintro e w7 ⟨rfl, hb7⟩
        have z7 := hb7.size
        replace hB := Below.via hB hb7
        rw [H2.out]
        go_wp2_with fail
        refine (alive_any _).mono ?_
        rintro e w8 ⟨rfl, hb8⟩
        have z8 := hb8.size
        replace hB := Below.via hB hb8
        go_wp2
        go_ret
        exact ⟨rfl, hB⟩
end Go.Proofs.Ythjjhlgdljkkfaa
