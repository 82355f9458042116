/- Contracts of slices.Grow and slices.Concat and of QueuesValid (impl and spec). -/
import Derived.Test.YtccepnhnmpmkdaaQueues1
import Derived.Test.YtccepnhnmpmkdaaInts3
import Derived.Lib.AppendZeros
namespace Go.Proofs.Ytccepnhnmpmkdaa
set_option linter.unusedVariables false
open Go.RowKit
def queuesV (yss : List (List Int)) : Bool := decide (yss.length = 8) && diff yss.flatten
theorem flat_pre {yss : List (List Int)} {p k : Nat} {ys : List Int} {x : Int} (hy : yss[p]? = some ys) (hx : ys[k]? = some x) : ∃ r, yss.flatten = (yss.take p).flatten ++ ys.take k ++ (x :: r) := by
  have h1 : yss = yss.take p ++ ys :: yss.drop (p + 1) := by
    obtain ⟨hl, rfl⟩ := List.getElem?_eq_some_iff.1 hy
    rw [List.getElem_cons_drop, List.take_append_drop]
  have h2 : ys = ys.take k ++ x :: ys.drop (k + 1) := by
    obtain ⟨hl, rfl⟩ := List.getElem?_eq_some_iff.1 hx
    rw [List.getElem_cons_drop, List.take_append_drop]
  refine ⟨ys.drop (k + 1) ++ (yss.drop (p + 1)).flatten, ?_⟩
  conv => lhs; rw [h1, List.flatten_append, List.flatten_cons, h2]
  simp
theorem diff_left {l m : List Int} (h : diff (l ++ m) = true) : diff l = true := by
  have := diff_take l.length h
  rwa [List.take_left'] at this
  rfl
theorem flat_no1 {yss : List (List Int)} {p k : Nat} {ys : List Int} {x : Int} (hy : yss[p]? = some ys) (hx : ys[k]? = some x) (h : inB x 0 15 = false) : diff yss.flatten = false := by
  obtain ⟨r, hr⟩ := flat_pre hy hx
  cases hd : diff yss.flatten
  · rfl
  · rw [hr, show (yss.take p).flatten ++ ys.take k ++ (x :: r) = ((yss.take p).flatten ++ ys.take k ++ [x]) ++ r by simp] at hd
    have := diff_left hd
    rw [diff_snoc, h] at this
    simp at this
theorem flat_no2 {yss : List (List Int)} {p k : Nat} {ys : List Int} {x : Int} (hy : yss[p]? = some ys) (hx : ys[k]? = some x) (h : x ∈ (yss.take p).flatten ++ ys.take k) : diff yss.flatten = false := by
  obtain ⟨r, hr⟩ := flat_pre hy hx
  cases hd : diff yss.flatten
  · rfl
  · rw [hr, show (yss.take p).flatten ++ ys.take k ++ (x :: r) = ((yss.take p).flatten ++ ys.take k ++ [x]) ++ r by simp] at hd
    have := diff_left hd
    rw [diff_snoc, decide_eq_false (not_not_intro h)] at this
    simp at this
theorem flat_step {yss : List (List Int)} {p : Nat} {ys : List Int} (hy : yss[p]? = some ys) : (yss.take (p + 1)).flatten = (yss.take p).flatten ++ ys := by
  rw [List.take_add_one, hy]; simp
set_option maxHeartbeats 1000000 in
theorem Grow_any (n : Nat) (w : World) (hn : n ≤ 1048576) :
    Calls Try.prog 52 #[.slice none 0 0, .int .i64 n] w (fun e w' => ∃ A c, e = .returned (.slice A 0 c) ∧ Own w' w.heap.size w'.heap.size 3 1 A 0 c (ints []) ∧ Below w.heap.size w w') := by
  obtain ⟨i0, hi0, hz0, hz1, hz2⟩ := info_parts Try.infoInt
  rcases Nat.eq_zero_or_pos n with rfl | hp
  · go_enter Try.func52, Try.ntmps52
    go_wp2
    go_ret
    exact ⟨none, 0, rfl, Own.nil _ _ _ _ _ _, Below.refl _ _⟩
  · have happ := fun ty : TypeId => Lib.run_append_nil_zeros (P := Try.prog) w 38 3 ty 3 i0 (.int .i64 0) .i64 .i64 Try.underlying38 Try.underlying3 hi0 hz0 n hp (by rw [hz1]; omega) (by omega) (by rw [hz2]; omega)
    obtain ⟨G, hG⟩ : ∃ G, G = grownCap w n 0 3 := ⟨_, rfl⟩
    have hGn : n ≤ G := by rw [hG]; exact grownCap_ge w _ _ _
    have hGm : G ≤ maxLen := by rw [hG]; exact grownCap_le_maxLen w _ 0 _ (by unfold maxLen; omega)
    rw [← hG] at happ
    obtain ⟨Z, hZ⟩ : ∃ Z, Z = Builtin.zeroCells (Value.int .i64 0).cells n ++ Builtin.zeroCells (Value.int .i64 0).cells (G - n) := ⟨_, rfl⟩
    have hZs : Z.size = G := by rw [hZ]; simp [size_zeroCells, Value.cells]; omega
    rw [← hZ] at happ
    clear hZ hG
    have h1 : ¬ (n : Int) < 0 := by omega
    have h2 : (0 : Int) < (n : Int) := by omega
    have hG0 : (0 : Int) ≤ (G : Int) := by omega
    go_enter Try.func52, Try.ntmps52
    go_wp2_with (at_builtin; refine Lib.wpList_append_run _ rfl _ _ _ _ rfl _ _ rfl rfl _ _ (happ _) ?_)
    go_ret
    exact ⟨some ⟨w.heap.size, 0, none⟩, G, rfl, ⟨by simp [ints], .inr ⟨w.heap.size, 0, Z, rfl, Nat.le_refl _, by simp, heap_alloc_new _ _, Nat.zero_le _, hGm, by omega, fun j u hu => by simp [ints] at hu⟩⟩, ⟨rfl, rfl, rfl, by simp, fun k hk => Below.heap_alloc w _ k hk⟩⟩
set_option maxHeartbeats 2000000 in
theorem Concat_any (B T n c : Nat) (A : Option Addr) (yss : List (List Int)) (w : World) (hr : Rows w B T A n yss) (hs : sizeOfRows yss ≤ 1048576) :
    Calls Try.prog 37 #[.slice A n c] w (NewInts w yss.flatten) := by
  obtain ⟨i0, hi0, hz0, hz1, hz2⟩ := info_parts Try.infoInt
  have hl := hr.len
  have HL := Lib.hid hl
  have hn : n ≤ 1048576 := by unfold sizeOfRows at hs; omega
  clear hl
  go_enter Try.func37, Try.ntmps37
  go_wp2
  go_loopw [3, 11] (fun l i wr => ∃ k : Nat, k ≤ n ∧ i = .int .i64 k ∧ w = wr ∧ ∃ s : Int, l = .int .i64 s ∧ 0 ≤ s ∧ s ≤ 1048576 ∧ Hid (s = (((yss.map List.length).take k).sum : Nat))) (fun _ i _ => n - (intOf i).toNat)
  case atStart => exact ⟨0, by omega, rfl, rfl, _, rfl, by omega, by omega, Lib.hid (by simp)⟩
  case round =>
    obtain ⟨k, hk, rfl, rfl, s, rfl, hs0, hs1, hsum⟩ := hrel
    by_cases hlt : k < n
    · obtain ⟨b, o, ys, A', c', rfl, hbl, hy, hc, hle, hrow⟩ := hr.at_ hlt
      have hkk : (k : Int) < (n : Int) := by omega
      have hk0 : (0 : Int) ≤ (k : Int) := by omega
      have h1 := sum_take_succ (show (yss.map List.length)[k]? = some ys.length by rw [List.getElem?_map, hy]; rfl)
      have h2 := sum_take_le (yss.map List.length) (k + 1)
      have h3 := hsum.out
      have h4 : s + (ys.length : Int) = ((((yss.map List.length).take (k + 1)).sum : Nat) : Int) := by omega
      have h5 : s + (ys.length : Int) ≤ 1048576 := by unfold sizeOfRows at hs; omega
      have h6 : ¬ (s + (ys.length : Int)) < 0 := by omega
      have H4 := Lib.hid h4
      clear hr hy hrow h1 h2 h3 h4 hsum
      go_wp2
      go_roundw
      case rel => exact ⟨k + 1, by omega, by go_num, by first | trivial | rfl, _, rfl, by omega, h5, H4⟩
      case measure => simp [intOf]; omega
    · have hkn : k = n := by omega
      subst hkn
      obtain ⟨N, rfl⟩ := Int.eq_ofNat_of_zero_le hs0
      have HS := Lib.hid hs
      clear hs
      go_wp2_with fail
      refine (Grow_any N _ (by omega)).mono ?_
      rintro e w1 ⟨A1, c1, rfl, o1, hb1⟩
      have z1 := hb1.size
      go_wp2
      go_loopw [6, 27] (fun l i wr => ∃ q : Nat, q ≤ k ∧ i = .int .i64 q ∧ ∃ (A2 : Option Addr) (m c2 : Nat) (acc : List Int), l = .slice A2 m c2 ∧ Own wr w.heap.size wr.heap.size 3 1 A2 m c2 (ints acc) ∧ Hid (acc = (yss.take q).flatten ∧ m = ((yss.map List.length).take q).sum) ∧ Below w.heap.size w wr ∧ w.heap.size ≤ wr.heap.size) (fun _ i _ => k - (intOf i).toNat)
      case atStart => exact ⟨0, by omega, rfl, A1, 0, c1, [], rfl, o1, Lib.hid ⟨by simp, by simp⟩, hb1, z1⟩
      case round =>
        clear o1 hb1
        obtain ⟨q, hq, rfl, A2, m, c2, acc, rfl, ho, hacc, hb, hz⟩ := hrel
        by_cases hlt2 : q < k
        · obtain ⟨b, o, ys, A', c', rfl, hbl, hy, hc, hle, hrow⟩ := (hr.below hb).at_ hlt2
          have hkk : (q : Int) < (k : Int) := by omega
          have hk0 : (0 : Int) ≤ (q : Int) := by omega
          have h1 := sum_take_succ (show (yss.map List.length)[q]? = some ys.length by rw [List.getElem?_map, hy]; rfl)
          have h2 := sum_take_le (yss.map List.length) (q + 1)
          have h3 := hacc.out
          have h5 : m + ys.length ≤ 1048576 := by have := HS.out; unfold sizeOfRows at this; omega
          have H3 := Lib.hid (show acc ++ ys = (yss.take (q + 1)).flatten ∧ m + ys.length = ((yss.map List.length).take (q + 1)).sum from ⟨by rw [flat_step hy, h3.1], by omega⟩)
          clear hr hy h1 h2 h3 hacc
          go_wp2_with (at_builtin; refine wpList_app _ rfl (.tmp 31) (.tmp 32) 38 rfl 3 i0 (.int .i64 0) 1 8 Try.underlying38 hi0 hz0 hz1 hz2 rfl (by omega) w.heap.size _ _ _ A2 A' m c2 ys.length c' (ints acc) (ints ys) rfl rfl ho hrow (ints_one _) (by unfold maxLen; omega) (by omega) hz ?_; intro A5 c5 w5 o5 f5; have z5 := f5.size; rw [← ints_append] at o5; have hb5 := hb.trans (f5.below (W := w.heap.size) (Nat.le_refl _) (by omega)))
          go_roundw
          case rel => exact ⟨q + 1, by omega, by go_num, A5, m + ys.length, c5, acc ++ ys, by first | rfl | (simp; done), o5, H3, hb5, by omega⟩
          case measure => simp [intOf]; omega
        · have hqk : q = k := by omega
          subst hqk
          clear hr
          go_wp2
          go_ret
          have h3 := hacc.out
          rw [List.take_of_length_le (by rw [HL.out]; exact Nat.le_refl _)] at h3
          have h4 := ho.1
          rw [ints_length, Nat.mul_one] at h4
          refine ⟨A2, c2, ?_, ?_, hb⟩
          · rw [← h3.1, h4]; rfl
          · rw [← h3.1, h4]; exact ho
end Go.Proofs.Ytccepnhnmpmkdaa
