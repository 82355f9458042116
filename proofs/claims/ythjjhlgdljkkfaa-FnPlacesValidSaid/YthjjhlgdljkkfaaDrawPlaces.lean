/- The contract of the draw of places. -/
import Derived.Test.YthjjhlgdljkkfaaDrawn
import Derived.Test.YthjjhlgdljkkfaaBlk
namespace Go.Proofs.Ythjjhlgdljkkfaa
set_option linter.unusedVariables false
open Go.RowKit
set_option maxHeartbeats 2000000 in
theorem l20Places_any (g N : Nat) (n : Int) (w : World) (hr : Rdr w g N) (hN : N ≤ 1000000) (hn : n ≤ 4611686018427387904) :
    Calls Try.prog 37 #[.pointer (some ⟨g, 0, none⟩), .int .i64 n] w (DrawnInts w g (N + 25) 41) := by
  obtain ⟨i0, hi0, hz0, hz1, hz2⟩ := info_parts Try.infoInt
  have hgl := hr.lt
  go_enter Try.func37, Try.ntmps37
  go_wp2_with fail
  refine (pick_any _ _ (10) _ (hr.alloc _) (by omega) (by omega)).mono ?_
  rintro e w1 ⟨v1, rfl, hv1, ul1, -, hr1, f1⟩
  replace ul1 := ul1 (by omega)
  have z1 := f1.size
  have lt1 := hr1.lt
  obtain ⟨k0, rfl⟩ := Int.eq_ofNat_of_zero_le hv1
  have hk0 : k0 ≤ 9 := by omega
  have f1' : Fr g (g + 1) w w1 := ((Fr.refl g (g + 1) w).alloc _).trans f1
  have zz1 := f1'.size
  clear hv1 ul1 f1
  go_wp2
  go_loopw [5, 6, 7] (fun l nx i wr => ∃ (k : Nat) (x : Int) (A : Option Addr) (c : Nat) (xs : List Int), k ≤ 9 ∧ i = .int .i64 k ∧ nx = .int .i64 x ∧ 0 ≤ x ∧ x + 2 * k ≤ 18 ∧ l = .slice A xs.length c ∧ Own wr w.heap.size wr.heap.size 3 1 A xs.length c (ints xs) ∧ xs.length + k ≤ 9 ∧ Rdr wr g (N + 19 - 2 * k) ∧ Fr g (g + 1) w wr) (fun _ _ i _ => (intOf i).toNat)
  case atStart => exact ⟨k0, 0, _, 0, [], hk0, rfl, rfl, by omega, by omega, rfl, Own.nil _ _ _ _ _ _, by simpa using hk0, hr1.mono (by omega), f1'⟩
  case round =>
    clear hr1 f1' zz1 z1 lt1 hk0
    obtain ⟨k, x, A, c, xs, hk, rfl, rfl, hx0, hx1, rfl, ho, hl, hrd, hf⟩ := hrel
    have hz := hf.size
    cases k with
    | zero =>
      by_cases h0 : xs.length = 0
      · have h00 : ¬ (0 : Int) < (xs.length : Int) := by omega
        clear h0
        go_wp2
        go_ret
        exact ⟨A, c, xs, rfl, ho, by omega, hrd.mono (by omega), hf⟩
      · have h00 : (0 : Int) < (xs.length : Int) := by omega
        go_wp2_with fail
        refine (odd_any _ _ (n) _ hrd (by omega) (by omega)).mono ?_
        rintro e w2 ⟨b2, rfl, hr2, f2⟩
        have z2 := f2.size
        have lt2 := hr2.lt
        have ho2 := ho.fr f2 (.inr (by omega))
        have hf2 := hf.trans f2
        cases b2
        · go_wp2
          go_ret
          exact ⟨A, c, xs, rfl, ho2.mono (Nat.le_refl _) z2, by omega, hr2.mono (by omega), hf2⟩
        · skip
          go_wp2_with fail
          refine (pick_any _ _ (3) _ hr2 (by omega) (by omega)).mono ?_
          rintro e w3 ⟨v3, rfl, hv3, ul3, -, hr3, f3⟩
          replace ul3 := ul3 (by omega)
          have z3 := f3.size
          have lt3 := hr3.lt
          have ho3 := ho2.fr f3 (.inr (by omega))
          have hf3 := hf2.trans f3
          clear ho ho2 hf hf2 f2 f3 hrd hr2
          have hvv : v3 = 0 ∨ v3 = 1 ∨ v3 = 2 := by omega
          clear hv3 ul3
          rcases hvv with rfl | rfl | rfl
          · skip
            go_wp2_with fail
            refine (pick_any _ _ (2) _ (hr3.alloc _) (by omega) (by omega)).mono ?_
            rintro e w4 ⟨v4, rfl, hv4, ul4, -, hr4, f4⟩
            replace ul4 := ul4 (by omega)
            have z4 := f4.size
            have lt4 := hr4.lt
            simp at z4
            have hA := (Blk.new w3 3 #[.int .i64 (-2), .int .i64 30]).fr f4 (.inr (by omega))
            have ho4 := (ho3.alloc (.cells #[.int .i64 (-2), .int .i64 30] 3)).fr f4 (.inr (by omega))
            have hf4 := (hf3.alloc (.cells #[.int .i64 (-2), .int .i64 30] 3)).trans f4
            have a0 := hA.cell 0 rfl
            have a1 := hA.cell 1 rfl
            obtain ⟨gg, o, rfl, h2, h3, h4, h5, h6, h7⟩ := ho4.at_ (by omega)
            have hl0 : 0 < (ints xs).length := by rw [ints_length]; omega
            have hc0 := h5 0 _ (List.getElem?_eq_getElem hl0)
            have hset := fun u => h7 0 u hl0
            rw [Nat.add_zero] at hc0
            have hfz := h6 o
            have HS := Lib.hid hset
            have hvv : v4 = 0 ∨ v4 = 1 := by omega
            clear hv4 ul4 f4 hA h5 h6 h7 hset ho3 ho4 hr3 hf3
            rcases hvv with rfl | rfl
            · go_wp2
              go_ret
              have hs := HS.out (.int .i64 (-2))
              rw [← ints_set] at hs
              exact ⟨some ⟨gg, o, none⟩, c, xs.set 0 (-2), by simp, by simpa using hs.mono (T' := w4.heap.size) (Nat.le_refl _) (by omega), by simp; omega, by have := (hr4.set (p := ⟨gg, o, none⟩) (by show g < gg; omega) (.int .i64 (-2))).mono (show _ ≤ N + 25 by omega); simpa using this, hf4.setOut (p := ⟨gg, o, none⟩) (by show w.heap.size ≤ gg; omega) _⟩
            · go_wp2
              go_ret
              have hs := HS.out (.int .i64 30)
              rw [← ints_set] at hs
              exact ⟨some ⟨gg, o, none⟩, c, xs.set 0 30, by simp, by simpa using hs.mono (T' := w4.heap.size) (Nat.le_refl _) (by omega), by simp; omega, by have := (hr4.set (p := ⟨gg, o, none⟩) (by show g < gg; omega) (.int .i64 30)).mono (show _ ≤ N + 25 by omega); simpa using this, hf4.setOut (p := ⟨gg, o, none⟩) (by show w.heap.size ≤ gg; omega) _⟩
          · go_wp2_with (at_builtin; refine wpList_appg _ (by rfl) (.tmp 57) (.tmp 58) 22 rfl 3 i0 (.int .i64 0) 1 8 Try.underlying22 hi0 hz0 hz1 hz2 rfl (by omega) (w.heap.size) _ w3.heap.size (w3.heap.size + 1) A (some ⟨w3.heap.size, 0, none⟩) xs.length c 2 2 (ints xs) (ints [3, 3]) rfl rfl ((ho3.mono (Nat.le_refl _) (Nat.le_refl _)).alloc _) (Own.new (e := 3) (size := 1) w3 #[.int .i64 (3), .int .i64 (3)] 2 (by unfold maxLen; omega) rfl).rd (ints_one _) (by unfold maxLen; omega) (by omega) (by simp; omega) ?_; intro A5 c5 w5 o5 f5; have z5 := f5.size; (try simp at z5))
            go_ret
            exact ⟨A5, c5, xs ++ [3, 3], by simp, by simpa [ints_append] using o5, by simp; omega, ((hr3.alloc _).fr f5 (.inl hgl) (Nat.le_of_lt hgl)).mono (by omega), (hf3.alloc _).own f5⟩
          · go_wp2
            go_loopw [5] (fun l wr => ∃ (A : Option Addr) (c : Nat) (xs : List Int), l = .slice A xs.length c ∧ Own wr w.heap.size wr.heap.size 3 1 A xs.length c (ints xs) ∧ xs.length ≤ 41 ∧ Rdr wr g (N + 25) ∧ Fr g (g + 1) w wr) (fun l _ => match l with | .slice _ m _ => 41 - m | _ => 0)
            case atStart => exact ⟨A, c, xs, rfl, ho3.mono (Nat.le_refl _) (by omega), by omega, hr3.mono (by omega), hf3⟩
            case round =>
              clear ho3 hr3 hf3 hl h0 h00
              obtain ⟨A, c, xs, rfl, ho, hl, hrd, hf⟩ := hrel
              have hz := hf.size
              by_cases h40 : (xs.length : Int) ≤ 40
              · go_wp2_with (at_builtin; refine wpList_appg _ (by rfl) (.tmp 43) (.tmp 44) 22 rfl 3 i0 (.int .i64 0) 1 8 Try.underlying22 hi0 hz0 hz1 hz2 rfl (by omega) (w.heap.size) _ wr.heap.size (wr.heap.size + 1) A (some ⟨wr.heap.size, 0, none⟩) xs.length c 1 1 (ints xs) (ints [-1]) rfl rfl (ho.alloc _) (Own.new (e := 3) (size := 1) wr #[.int .i64 (-1)] 1 (by unfold maxLen; omega) rfl).rd (ints_one _) (by unfold maxLen; omega) (by omega) (by simp; omega) ?_; intro A5 c5 w5 o5 f5; have z5 := f5.size; (try simp at z5))
                go_roundw
                case rel => exact ⟨A5, c5, xs ++ [-1], by simp, by simpa [ints_append] using o5, by simp; omega, ((hrd.alloc _).fr f5 (.inl hgl) (Nat.le_of_lt hgl)), (hf.alloc _).own f5⟩
                case measure => simp; omega
              · go_wp2
                go_ret
                exact ⟨A, c, xs, rfl, ho, hl, hrd, hf⟩
    | succ q =>
      have hq : (0 : Int) < ((q + 1 : Nat) : Int) := by omega
      go_wp2_with fail
      refine (pick_any _ _ (2) _ hrd (by omega) (by omega)).mono ?_
      rintro e w2 ⟨v2, rfl, hv2, ul2, -, hr2, f2⟩
      replace ul2 := ul2 (by omega)
      have z2 := f2.size
      have lt2 := hr2.lt
      have ho2 := ho.fr f2 (.inr (by omega))
      have hf2 := hf.trans f2
      have hvv : v2 = 0 ∨ v2 = 1 := by omega
      clear hv2 ul2 ho hf f2 hrd
      rcases hvv with rfl | rfl
      · go_wp2_with (at_builtin; refine wpList_appg _ (by rfl) (.tmp 18) (.tmp 19) 22 rfl 3 i0 (.int .i64 0) 1 8 Try.underlying22 hi0 hz0 hz1 hz2 rfl (by omega) (w.heap.size) _ w2.heap.size (w2.heap.size + 1) A (some ⟨w2.heap.size, 0, none⟩) xs.length c 1 1 (ints xs) (ints [-1]) rfl rfl (ho2.alloc _) (Own.new (e := 3) (size := 1) w2 #[.int .i64 (-1)] 1 (by unfold maxLen; omega) rfl).rd (ints_one _) (by unfold maxLen; omega) (by omega) (by simp; omega) ?_; intro A5 c5 w5 o5 f5; have z5 := f5.size; (try simp at z5))
        go_roundw
        case rel => exact ⟨q, x, A5, c5, xs ++ [-1], by omega, by go_num, rfl, hx0, by omega, by simp, by simpa [ints_append] using o5, by simp; omega, ((hr2.alloc _).fr f5 (.inl hgl) (Nat.le_of_lt hgl)).mono (by omega), (hf2.alloc _).own f5⟩
        case measure => simp [intOf]
      · go_wp2_with (at_builtin; refine wpList_appg _ (by rfl) (.tmp 21) (.tmp 23) 22 rfl 3 i0 (.int .i64 0) 1 8 Try.underlying22 hi0 hz0 hz1 hz2 rfl (by omega) (w.heap.size) _ w2.heap.size (w2.heap.size + 1) A (some ⟨w2.heap.size, 0, none⟩) xs.length c 1 1 (ints xs) (ints [x]) rfl rfl (ho2.alloc _) (Own.new (e := 3) (size := 1) w2 #[.int .i64 (x)] 1 (by unfold maxLen; omega) rfl).rd (ints_one _) (by unfold maxLen; omega) (by omega) (by simp; omega) ?_; intro A5 c5 w5 o5 f5; have z5 := f5.size; (try simp at z5))
        have hr5 := (hr2.alloc (.cells #[.int .i64 x] 3)).fr f5 (.inl hgl) (Nat.le_of_lt hgl)
        refine (pick_any _ _ 2 _ hr5 (by omega) (by omega)).mono ?_
        rintro e w6 ⟨v6, rfl, hv6, ul6, -, hr6, f6⟩
        replace ul6 := ul6 (by omega)
        have z6 := f6.size
        have o6 := o5.fr f6 (.inr (by omega))
        go_wp2
        go_roundw
        case rel => exact ⟨q, x + 1 + v6, A5, c5, xs ++ [x], by omega, by go_num, rfl, by omega, by omega, by simp, by simpa [ints_append] using o6.mono (T' := w6.heap.size) (Nat.le_refl _) (by omega), by simp; omega, hr6.mono (by omega), ((hf2.alloc _).own f5).trans f6⟩
        case measure => simp [intOf]
set_option maxHeartbeats 1000000 in
theorem DrawPlacesValid_any (B T n c : Nat) (A : Option Addr) (bs : List Value) (w : World) (hr : Rd w B T 1 A n bs) (hb : Bytes bs) (hn : n ≤ 1048576) (hnc : n ≤ c) :
    Calls Try.prog 24 #[.slice A n c] w (Drawn w 41) := by
  go_enter Try.func24, Try.ntmps24
  go_wp2_with fail
  refine (l20Open_any B T n c A bs _ hr hb hn hnc).mono ?_
  rintro e w1 ⟨rfl, hr1, hb1⟩
  go_wp2_with fail
  refine (l20Places_any _ 0 2 _ hr1 (by omega) (by omega)).mono ?_
  rintro e w2 ⟨A2, c2, xs, rfl, o2, hl, hr2, f2⟩
  have hg1 := hr1.lt
  go_wp2
  go_ret
  exact ⟨A2, c2, xs, rfl, o2.mono (by omega) (Nat.le_refl _), hl, hb1.trans (f2.below (Nat.le_refl _) (by omega))⟩
set_option maxHeartbeats 1000000 in
theorem DrawFindPlace_any (B T n c : Nat) (A : Option Addr) (bs : List Value) (w : World) (hr : Rd w B T 1 A n bs) (hb : Bytes bs) (hn : n ≤ 1048576) (hnc : n ≤ c) :
    Calls Try.prog 26 #[.slice A n c] w (DrawnN w 41) := by
  go_enter Try.func26, Try.ntmps26
  go_wp2_with fail
  refine (l20Open_any B T n c A bs _ hr hb hn hnc).mono ?_
  rintro e w1 ⟨rfl, hr1, hb1⟩
  go_wp2_with fail
  refine (l20Places_any _ 0 12 _ hr1 (by omega) (by omega)).mono ?_
  rintro e w2 ⟨A2, c2, xs, rfl, o2, hl, hr2, f2⟩
  have hg1 := hr1.lt
  have z1 := hb1.size
  have z2 := f2.size
  go_wp2_with fail
  refine (pick_any _ _ (12) _ hr2 (by omega) (by omega)).mono ?_
  rintro e w3 ⟨v3, rfl, hv3, ul3, -, hr3, f3⟩
  replace ul3 := ul3 (by omega)
  have z3 := f3.size
  have lt3 := hr3.lt
  have o3 := o2.fr f3 (.inr (by omega))
  go_wp2
  go_ret2
  exact ⟨A2, c2, xs, _, rfl, o3.mono (by omega) (by omega), hl, (hb1.trans (f2.below (Nat.le_refl _) (by omega))).trans (f3.below (Nat.le_refl _) (by omega))⟩
set_option maxHeartbeats 1000000 in
theorem DrawMovePlace_any (B T n c : Nat) (A : Option Addr) (bs : List Value) (w : World) (hr : Rd w B T 1 A n bs) (hb : Bytes bs) (hn : n ≤ 1048576) (hnc : n ≤ c) :
    Calls Try.prog 27 #[.slice A n c] w (DrawnNN w 41) := by
  go_enter Try.func27, Try.ntmps27
  go_wp2_with fail
  refine (l20Open_any B T n c A bs _ hr hb hn hnc).mono ?_
  rintro e w1 ⟨rfl, hr1, hb1⟩
  go_wp2_with fail
  refine (l20Places_any _ 0 14 _ hr1 (by omega) (by omega)).mono ?_
  rintro e w2 ⟨A2, c2, xs, rfl, o2, hl, hr2, f2⟩
  have hg1 := hr1.lt
  have z1 := hb1.size
  have z2 := f2.size
  have hlen : (xs.length : Int) ≤ 41 := by omega
  have hlen0 : (0 : Int) ≤ (xs.length : Int) := by omega
  go_wp2_with fail
  refine (pick_any _ _ ((xs.length : Int) + 1) _ hr2 (by omega) (by omega)).mono ?_
  rintro e w3 ⟨v3, rfl, hv3, ul3, -, hr3, f3⟩
  replace ul3 := ul3 (by omega)
  have z3 := f3.size
  have lt3 := hr3.lt
  go_wp2_with fail
  refine (pick_any _ _ (14) _ hr3 (by omega) (by omega)).mono ?_
  rintro e w4 ⟨v4, rfl, hv4, ul4, -, hr4, f4⟩
  replace ul4 := ul4 (by omega)
  have z4 := f4.size
  have lt4 := hr4.lt
  go_wp2_with fail
  refine (pick_any _ _ ((xs.length : Int) + 1) _ hr4 (by omega) (by omega)).mono ?_
  rintro e w5 ⟨v5, rfl, hv5, ul5, -, hr5, f5⟩
  replace ul5 := ul5 (by omega)
  have z5 := f5.size
  have lt5 := hr5.lt
  go_wp2_with fail
  refine (pick_any _ _ (14) _ hr5 (by omega) (by omega)).mono ?_
  rintro e w6 ⟨v6, rfl, hv6, ul6, -, hr6, f6⟩
  replace ul6 := ul6 (by omega)
  have z6 := f6.size
  have lt6 := hr6.lt
  have o6 := (((o2.fr f3 (.inr (by omega))).fr f4 (.inr (by omega))).fr f5 (.inr (by omega))).fr f6 (.inr (by omega))
  have b6 := ((((hb1.trans (f2.below (Nat.le_refl _) (by omega))).trans (f3.below (Nat.le_refl _) (by omega))).trans (f4.below (Nat.le_refl _) (by omega))).trans (f5.below (Nat.le_refl _) (by omega))).trans (f6.below (Nat.le_refl _) (by omega))
  go_wp2
  go_ret3
  exact ⟨A2, c2, xs, _, _, rfl, o6.mono (by omega) (by omega), hl, b6⟩
set_option maxHeartbeats 1000000 in
theorem DrawSwapPlaces_any (B T n c : Nat) (A : Option Addr) (bs : List Value) (w : World) (hr : Rd w B T 1 A n bs) (hb : Bytes bs) (hn : n ≤ 1048576) (hnc : n ≤ c) :
    Calls Try.prog 29 #[.slice A n c] w (DrawnNN w 41) := by
  go_enter Try.func29, Try.ntmps29
  go_wp2_with fail
  refine (DrawMovePlace_any B T n c A bs _ hr hb hn hnc).mono ?_
  rintro e w1 ⟨A2, c2, xs, u, v, rfl, o2, hl, b2⟩
  go_wp2
  go_ret3
  exact ⟨A2, c2, xs, u, v, rfl, o2, hl, b2⟩
end Go.Proofs.Ythjjhlgdljkkfaa
