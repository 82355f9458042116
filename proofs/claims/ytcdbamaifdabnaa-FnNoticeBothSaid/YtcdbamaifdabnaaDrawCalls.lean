/- Contracts of the draws of calls. -/
import Derived.Test.YtcdbamaifdabnaaAlive
import Derived.Test.YtcdbamaifdabnaaCalls3
namespace Go.Proofs.Ytcdbamaifdabnaa
set_option linter.unusedVariables false
open Go.RowKit

/-- A drawn list: some integers, in new memory; the reader in block g has gone on. -/
def DrawnInts (w : World) (g N L : Nat) (e : Ending) (w' : World) : Prop :=
  ∃ A c xs, e = .returned (.slice A xs.length c) ∧ Own w' w.heap.size w'.heap.size 3 1 A xs.length c (ints xs) ∧ xs.length ≤ L ∧ Rdr w' g N ∧ Fr g (g + 1) w w'
theorem push_len1 (xs : List Int) (v : Int) : (pushL xs v).length ≤ xs.length + 1 := by
  unfold pushL
  split
  · split <;> simp
  · simp

set_option maxHeartbeats 2000000 in
theorem l20Calls_any (g N : Nat) (n : Int) (w : World) (hr : Rdr w g N) (hN : N ≤ 1000000) (hn : n ≤ 4611686018427387904) :
    Calls Try.prog 53 #[.pointer (some ⟨g, 0, none⟩), .int .i64 n] w (DrawnInts w g (N + 8) 8) := by
  obtain ⟨i0, hi0, hz0, hz1, hz2⟩ := info_parts Try.infoInt
  have hgl := hr.lt
  go_enter Try.func53, Try.ntmps53
  go_wp2_with fail
  refine (pick_any g N 6 _ (hr.below ((Below.refl _ _).alloc (Nat.le_refl _) _)) (by omega) (by omega)).mono ?_
  rintro e w1 ⟨v, rfl, hv0, hv1, hv2, hr1, f1⟩
  obtain ⟨k0, rfl⟩ := Int.eq_ofNat_of_zero_le hv0
  have hk0 : k0 ≤ 5 := by have := hv1 (by omega); omega
  have f1' : Fr g (g + 1) w w1 := ((Fr.refl g (g + 1) w).alloc _).trans f1
  have z1 := f1'.size
  clear hv0 hv1 hv2
  go_wp2
  go_loopw [5, 6] (fun l i wr => ∃ (k : Nat) (A : Option Addr) (c : Nat) (xs : List Int), k ≤ 5 ∧ i = .int .i64 k ∧ l = .slice A xs.length c ∧ Own wr w.heap.size wr.heap.size 3 1 A xs.length c (ints xs) ∧ xs.length + k ≤ 5 ∧ Rdr wr g (N + 6 - k) ∧ Fr g (g + 1) w wr) (fun _ i _ => (intOf i).toNat)
  case atStart => exact ⟨k0, _, 0, [], hk0, rfl, rfl, Own.nil _ _ _ _ _ _, by simpa using hk0, hr1.mono (by omega), f1'⟩
  case round =>
    obtain ⟨k, A, c, xs, hk, rfl, rfl, ho, hl, hrd, hf⟩ := hrel
    have hz := hf.size
    cases k with
    | zero =>
      go_wp2_with fail
      refine (odd_any g _ n _ hrd (by omega) hn).mono ?_
      rintro e w1 ⟨b, rfl, hr2, f2⟩
      have ho2 := ho.fr f2 (.inr (by omega))
      have z2 := f2.size
      cases b
      · go_wp2
        go_ret
        exact ⟨A, c, xs, rfl, ho2.mono (Nat.le_refl _) z2, by omega, hr2.mono (by omega), hf.trans f2⟩
      · go_wp2_with fail
        refine (pick_any g _ 3 _ (hr2.below ((Below.refl _ _).alloc (Nat.le_refl _) _)) (by omega) (by omega)).mono ?_
        rintro e w3 ⟨v, rfl, hv0, hv1, hv2, hr3, f3⟩
        have hg1 := hr2.lt
        have z3 := f3.size
        simp at z3
        have kc : ∀ (j : Nat) (u : Value), (#[Value.int .i64 (-1), Value.int .i64 16, Value.int .i64 4] : Array Value)[j]? = some u → w3.cell? ⟨w1.heap.size, j, none⟩ = some u := fun j u hu => by
          rw [f3.cell (p := ⟨w1.heap.size, j, none⟩) (by simp) (.inr (by show g + 1 ≤ w1.heap.size; omega))]
          exact (cell_of_row _ _ j _ _ (0, 0) (heap_alloc_new w1 _)).trans hu
        have ho3 := (ho2.alloc (.cells #[Value.int .i64 (-1), Value.int .i64 16, Value.int .i64 4] 3)).fr f3 (.inr (by omega))
        have c0 := kc 0 _ rfl
        have c1 := kc 1 _ rfl
        have c2 := kc 2 _ rfl
        have hv3 := hv1 (by omega)
        have hvv : v = 0 ∨ v = 1 ∨ v = 2 := by omega
        clear kc hv0 hv1 hv2 hv3
        have key : ∀ t : Int, Own w3 w.heap.size w3.heap.size 3 1 A xs.length c (ints xs) := fun _ => ho3.mono (Nat.le_refl _) (by omega)
        rcases hvv with rfl | rfl | rfl
        · go_wp2_with (at_builtin; refine wpList_app _ rfl (.tmp 24) (.tmp 30) 22 rfl 3 i0 (.int .i64 0) 1 8 Try.underlying22 hi0 hz0 hz1 hz2 rfl (by omega) w.heap.size w3.heap.size w3.heap.size (w3.heap.size + 1) A (some ⟨w3.heap.size, 0, none⟩) xs.length c 2 2 (ints xs) (ints [-1, 4]) rfl rfl ((key 0).alloc _) (Own.new (e := 3) (size := 1) w3 #[.int .i64 (-1), .int .i64 4] 2 (by unfold maxLen; omega) rfl).rd (ints_one _) (by unfold maxLen; omega) (by omega) (by simp; omega) ?_; intro A5 c5 w5 o5 f5)
          go_ret
          refine ⟨A5, c5, xs ++ [-1, 4], by simp, by simpa [ints_append] using o5, by simp; omega, ?_, ?_⟩
          · exact ((hr3.below ((Below.refl _ _).alloc (Nat.le_refl _) _)).fr f5 (.inl hgl) (Nat.le_of_lt hgl)).mono (by omega)
          · exact ((((hf.trans f2).alloc _).trans f3).alloc _).own f5
        · go_wp2_with (at_builtin; refine wpList_app _ rfl (.tmp 24) (.tmp 30) 22 rfl 3 i0 (.int .i64 0) 1 8 Try.underlying22 hi0 hz0 hz1 hz2 rfl (by omega) w.heap.size w3.heap.size w3.heap.size (w3.heap.size + 1) A (some ⟨w3.heap.size, 0, none⟩) xs.length c 2 2 (ints xs) (ints [16, 4]) rfl rfl ((key 0).alloc _) (Own.new (e := 3) (size := 1) w3 #[.int .i64 (16), .int .i64 4] 2 (by unfold maxLen; omega) rfl).rd (ints_one _) (by unfold maxLen; omega) (by omega) (by simp; omega) ?_; intro A5 c5 w5 o5 f5)
          go_ret
          refine ⟨A5, c5, xs ++ [16, 4], by simp, by simpa [ints_append] using o5, by simp; omega, ?_, ?_⟩
          · exact ((hr3.below ((Below.refl _ _).alloc (Nat.le_refl _) _)).fr f5 (.inl hgl) (Nat.le_of_lt hgl)).mono (by omega)
          · exact ((((hf.trans f2).alloc _).trans f3).alloc _).own f5
        · go_wp2_with (at_builtin; refine wpList_app _ rfl (.tmp 24) (.tmp 30) 22 rfl 3 i0 (.int .i64 0) 1 8 Try.underlying22 hi0 hz0 hz1 hz2 rfl (by omega) w.heap.size w3.heap.size w3.heap.size (w3.heap.size + 1) A (some ⟨w3.heap.size, 0, none⟩) xs.length c 2 2 (ints xs) (ints [4, 4]) rfl rfl ((key 0).alloc _) (Own.new (e := 3) (size := 1) w3 #[.int .i64 (4), .int .i64 4] 2 (by unfold maxLen; omega) rfl).rd (ints_one _) (by unfold maxLen; omega) (by omega) (by simp; omega) ?_; intro A5 c5 w5 o5 f5)
          go_ret
          refine ⟨A5, c5, xs ++ [4, 4], by simp, by simpa [ints_append] using o5, by simp; omega, ?_, ?_⟩
          · exact ((hr3.below ((Below.refl _ _).alloc (Nat.le_refl _) _)).fr f5 (.inl hgl) (Nat.le_of_lt hgl)).mono (by omega)
          · exact ((((hf.trans f2).alloc _).trans f3).alloc _).own f5
    | succ q =>
      have hq : (0 : Int) < ((q + 1 : Nat) : Int) := by omega
      go_wp2_with fail
      refine (pick_any g _ 16 _ hrd (by omega) (by omega)).mono ?_
      rintro e w1 ⟨v, rfl, hv0, hv1, hv2, hr2, f2⟩
      have ho2 := ho.fr f2 (.inr (by omega))
      go_wp2_with fail
      refine (sPushCall_any _ _ _ _ _ xs v _ ho2.rd (by omega)).mono ?_
      rintro e w2 ⟨A3, c3, rfl, o3, hb3⟩
      have z2 := f2.size
      have z3 := hb3.size
      go_wp2
      go_roundw
      case rel => exact ⟨q, A3, c3, pushL xs v, by omega, by go_num, rfl, o3.mono (by omega) (Nat.le_refl _), by have := push_len1 xs v; omega, (hr2.below hb3).mono (by omega), (hf.trans f2).trans (Fr.of_below hb3 _ _)⟩
      case measure => simp [intOf]
/-- A drawn list, in new memory. -/
def Drawn (w : World) (L : Nat) (e : Ending) (w' : World) : Prop :=
  ∃ A c xs, e = .returned (.slice A xs.length c) ∧ Own w' w.heap.size w'.heap.size 3 1 A xs.length c (ints xs) ∧ xs.length ≤ L ∧ Below w.heap.size w w'
/-- .. and a drawn number. -/
def DrawnN (w : World) (L : Nat) (e : Ending) (w' : World) : Prop :=
  ∃ A c xs v, e = .returned (.tuple #[.slice A xs.length c, .int .i64 v]) ∧ Own w' w.heap.size w'.heap.size 3 1 A xs.length c (ints xs) ∧ xs.length ≤ L ∧ Below w.heap.size w w'
end Go.Proofs.Ytcdbamaifdabnaa
