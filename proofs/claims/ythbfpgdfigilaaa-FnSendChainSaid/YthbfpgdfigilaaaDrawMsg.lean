/- The contract of the draw of a message. -/
import Derived.Test.YthbfpgdfigilaaaDrawCap
namespace Go.Proofs.Ythbfpgdfigilaaa
set_option linter.unusedVariables false
open Go.RowKit
/-- A drawn message: short lists, in new memory; a valid one, if n is 0; the reader in block g has gone on. -/
def DrawnMsgR (w : World) (g N : Nat) (n : Int) (e : Ending) (w' : World) : Prop :=
  ∃ (l : Int) (A : Option Addr) (c : Nat) (D : Option Addr) (d : Nat) (xs : List Int) (cs : List Cp), e = .returned (msg l A xs.length c D cs.length d) ∧ Rd w' w.heap.size w'.heap.size 1 A xs.length (ints xs) ∧ Rd w' w.heap.size w'.heap.size 4 D cs.length (caps cs) ∧
    xs.length ≤ 9 ∧ cs.length ≤ 4 ∧ (n ≤ 0 → msgOk l xs cs = true) ∧ Rdr w' g N ∧ Fr g (g + 1) w w'
def CutG (w : World) (g N p : Nat) (n : Int) (wx : World) : Prop :=
  ∃ (l : Int) (A : Option Addr) (m c : Nat) (D : Option Addr) (m2 d : Nat) (xs : List Int) (cs : List Cp), Blk wx p 30 #[.int .i64 l, .slice A m c, .slice D m2 d] ∧ Blk wx w.heap.size 30 #[.int .i64 0, .slice none 0 0, .slice none 0 0] ∧
    Own wx (w.heap.size + 1) wx.heap.size 3 1 A m c (ints xs) ∧ Own wx (w.heap.size + 1) wx.heap.size 45 4 D m2 d (caps cs) ∧ Hid (xs.length = m) ∧ Hid (cs.length = m2) ∧ m ≤ 9 ∧ m2 ≤ 4 ∧ Hid (n ≤ 0 → msgOk l xs cs = true) ∧ Rdr wx g N ∧ Fr g (g + 1) w wx
theorem wOk_add {xs : List Int} {x : Int} (h : wOk xs = true) (h0 : 0 ≤ x) (h1 : x ≤ 9999) : wOk (xs ++ [x]) = true := by
  unfold wOk inB at *
  rw [List.all_append, h]
  simp [h0, h1]
theorem ckOk_add {cs : List Cp} {k o r b : Int} (h : ckOk cs = true) (h1 : capOk k o r b = true) (h2 : ¬ k = 0) : ckOk (cs ++ [(k, o, r, b)]) = true := by
  unfold ckOk cOk kOk at *
  rw [Bool.and_eq_true] at h
  rw [List.all_append, List.all_append, h.1, h.2]
  have h3 : okC (k, o, r, b) = true := h1
  simp [h3, h2]
theorem msg_drawn {l : Int} {xs : List Int} {cs : List Cp} (h0 : 0 ≤ l) (h1 : l ≤ 9999) (hx : wOk xs = true) (hc : ckOk cs = true) (h2 : xs.length ≤ 8) (h3 : cs.length ≤ 3) : msgOk l xs cs = true := by
  rw [msgOk_rest hx hc]
  unfold inB
  rw [decide_eq_true h0, decide_eq_true h1, decide_eq_true (by omega), decide_eq_true (by omega)]
  rfl
set_option maxRecDepth 100000 in
set_option maxHeartbeats 20000000 in
theorem l20Message_any (g N : Nat) (n : Int) (w : World) (hr : Rdr w g N) (hN : N ≤ 10000) (hn : n ≤ 4611686018427387904) :
    Calls Try.prog 62 #[.pointer (some ⟨g, 0, none⟩), .int .i64 n] w (DrawnMsgR w g (N + 46) n) := by
  obtain ⟨i0, hi0, hz0, hz1, hz2⟩ := info_parts Try.infoInt
  obtain ⟨j0, hj0, hy0, hy1, hy2⟩ := info_parts Try.infoCap
  have hgl := hr.lt
  go_enter Try.func62, Try.ntmps62
  go_wp2_with fail
  refine (pick_any _ _ (256) _ (hr.alloc _) (by omega) (by omega)).mono ?_
  rintro e w1 ⟨v1, rfl, hv1, ul1, -, hr1, f1⟩
  replace ul1 := ul1 (by omega)
  have z1 := f1.size
  have lt1 := hr1.lt
  simp at z1
  have TR := (Blk.new w 30 #[.int .i64 0, .slice none 0 0, .slice none 0 0]).fr f1 (.inr (by omega))
  have F1 := Fr.trans (by (repeat (first | (with_reducible assumption) | (with_reducible refine Fr.drew ?_) | (with_reducible exact Fr.refl _ _ _) | (with_reducible refine Fr.setOut ?_ (by first | (simp; done) | (simp; omega) | omega) _) | (with_reducible refine Fr.alloc ?_ _))) : Fr g (g + 1) w (w.alloc (.cells #[.int .i64 0, .slice none 0 0, .slice none 0 0] 30))) f1
  go_wp2_with fail
  refine (pick_any _ _ (5) _ (hr1.alloc _) (by omega) (by omega)).mono ?_
  rintro e w2 ⟨v2, rfl, hv2, ul2, -, hr2, f2⟩
  replace ul2 := ul2 (by omega)
  have z2 := f2.size
  have lt2 := hr2.lt
  simp at z2
  have TX := (Blk.new w1 30 #[.int .i64 v1, .slice none 0 0, .slice none 0 0]).fr f2 (.inr (by omega))
  replace TR := (TR.alloc (.cells #[.int .i64 v1, .slice none 0 0, .slice none 0 0] 30)).fr f2 (.inr (by omega))
  have F2 := Fr.trans (by (repeat (first | (with_reducible assumption) | (with_reducible refine Fr.drew ?_) | (with_reducible exact Fr.refl _ _ _) | (with_reducible refine Fr.setOut ?_ (by first | (simp; done) | (simp; omega) | omega) _) | (with_reducible refine Fr.alloc ?_ _))) : Fr g (g + 1) w (w1.alloc (.cells #[.int .i64 v1, .slice none 0 0, .slice none 0 0] 30))) f2
  obtain ⟨k0, rfl⟩ := Int.eq_ofNat_of_zero_le hv2
  have hk0 : k0 ≤ 4 := by omega
  clear hr hr1 f1 f2 F1 hv2 ul2
  go_wp2
  go_loopw [6] (fun i wr => ∃ (k m c : Nat) (A : Option Addr) (xs : List Int), k ≤ 4 ∧ i = .int .i64 k ∧ Blk wr w1.heap.size 30 #[.int .i64 v1, .slice A m c, .slice none 0 0] ∧ Blk wr w.heap.size 30 #[.int .i64 0, .slice none 0 0, .slice none 0 0] ∧ Own wr w2.heap.size wr.heap.size 3 1 A m c (ints xs) ∧ Hid (xs.length = m) ∧ m + k ≤ 4 ∧ Hid (wOk xs = true) ∧ Rdr wr g (N + 6 - k) ∧ Fr g (g + 1) w wr ∧ w2.heap.size ≤ wr.heap.size) (fun i _ => (intOf i).toNat)
  case atStart => exact ⟨k0, 0, 0, none, [], hk0, rfl, TX, TR, Own.nil _ _ _ _ _ _, Lib.hid rfl, by omega, Lib.hid rfl, hr2.mono (by omega), F2, Nat.le_refl _⟩
  case round =>
    clear TX TR F2 hr2 hk0
    obtain ⟨k, m, c, A, xs, hk, rfl, TX, TR, ox, hl, hmk, hw, hrd, hf, zr⟩ := hrel
    have lX := TX.lt
    have lR := TR.lt
    have lg := hrd.lt
    cases k with
    | succ q =>
      have hq : (0 : Int) < ((q + 1 : Nat) : Int) := by omega
      have x1 := TX.cell 1 rfl
      have xf := TX.free
      go_wp2_with fail
      refine wp_region_noPanic ?_
      refine wp_region_held_drew (S := (fun _ => True)) (by kernel_rfl) ?_ (fun hHeld => ?_)
      focus (first | exact trivial | ((try dsimp only); ((repeat' (first | assumption | with_reducible refine And.intro ?_ ?_)) <;> go_keep))); done
      refine wpAnyH_take (i := 0) (v := ?_) (by rw [List.getElem?_toArray]; rfl) (by kernel_rfl) (by kernel_rfl) (by kernel_rfl) (fun _ _ _ h => h) (Or.inl ⟨by rfl, ?_⟩) (by assumption) ?_
      rotate_left
      focus (intro wS hSw; (try dsimp only at hSw); go_simp; (try with_reducible rfl)); done
      (try simp only [Act.put, List.setIfInBounds_toArray, List.set_cons_zero, List.set_cons_succ])
      refine wpAnyH_take (i := 2) (v := ?_) (by rw [List.getElem?_toArray]; rfl) (by kernel_rfl) (by kernel_rfl) (by kernel_rfl) (fun _ _ _ h => h) (Or.inl ⟨by rfl, ?_⟩) (by assumption) ?_
      rotate_left
      focus (intro wS hSw; (try dsimp only at hSw); go_simp; (try with_reducible rfl)); done
      (try simp only [Act.put, List.setIfInBounds_toArray, List.set_cons_zero, List.set_cons_succ])
      refine wpAnyH_ready (rs := [1, 3]) (by kernel_rfl) (by simp) ?_
      refine AllReadyH.cons (by rw [List.getElem?_toArray]; rfl) (fun K hK => ?_) (AllReadyH.cons (by rw [List.getElem?_toArray]; rfl) (fun K hK => ?_) AllReadyH.nil)
      · go_simp
        skip
        refine hK.out _ _ ?_ (fun hHeld => ?_)
        focus (first | exact trivial | ((try dsimp only); (exact trivial))); done
        clear hK K
        (try simp only [Act.put, List.setIfInBounds_toArray, List.set_cons_zero, List.set_cons_succ])
        refine wpAnyH_ready (rs := [3]) (by kernel_rfl) (by simp) ?_
        refine AllReadyH.cons (by rw [List.getElem?_toArray]; rfl) (fun K hK => ?_) AllReadyH.nil
        go_simp
        refine (pick_any g (N + 6 - (q + 1)) 256 _ (by (repeat (first | (with_reducible assumption) | (with_reducible refine Rdr.drew ?_) | (with_reducible refine Rdr.set ?_ (by first | (simp; done) | (simp; omega) | omega) _) | (with_reducible refine Rdr.alloc ?_ _)))) (by omega) (by omega)).mono ?_; rintro e w3 ⟨v3, rfl, hv3, ul3, -, hr3, f3⟩; replace ul3 := ul3 (by omega); have z3 := f3.size; (try simp at z3); have lt3 := hr3.lt; replace TX := Blk.fr (by (repeat (first | (with_reducible assumption) | (with_reducible refine Blk.drew ?_) | (with_reducible refine Blk.other ?_ (by first | (simp; done) | (simp; omega) | omega) _) | (with_reducible refine Blk.alloc ?_ _))) : Blk _ w1.heap.size 30 #[.int .i64 v1, .slice A m c, .slice none 0 0]) f3 (.inr (by omega)); replace TR := Blk.fr (by (repeat (first | (with_reducible assumption) | (with_reducible refine Blk.drew ?_) | (with_reducible refine Blk.other ?_ (by first | (simp; done) | (simp; omega) | omega) _) | (with_reducible refine Blk.alloc ?_ _))) : Blk _ w.heap.size 30 #[.int .i64 0, .slice none 0 0, .slice none 0 0]) f3 (.inr (by omega)); replace ox := (Own.fr (by (repeat (first | (with_reducible assumption) | (with_reducible refine Own.alloc ?_ _) | (with_reducible refine Own.drew ?_) | (with_reducible refine Own.set ?_ (by first | (simp; done) | (simp; omega) | omega) _))) : Own _ w2.heap.size wr.heap.size 3 1 A m c (ints xs)) f3 (.inr (by omega))).mono (B' := w2.heap.size) (T' := w3.heap.size) (Nat.le_refl _) (by omega); replace hf := Fr.trans (by (repeat (first | (with_reducible assumption) | (with_reducible refine Fr.drew ?_) | (with_reducible exact Fr.refl _ _ _) | (with_reducible refine Fr.setOut ?_ (by first | (simp; done) | (simp; omega) | omega) _) | (with_reducible refine Fr.alloc ?_ _))) : Fr g (g + 1) w _) f3; clear f3 x1 xf hrd lX lR; have x1 := TX.cell 1 rfl; have xf := TX.free; have lX := TX.lt; have lR := TR.lt
        refine hK.out _ _ ?_ (fun hHeld => ?_)
        focus (first | exact trivial | ((try dsimp only); (exact trivial))); done
        clear hK K
        (try simp only [Act.put, List.setIfInBounds_toArray, List.set_cons_zero, List.set_cons_succ])
        refine wpAnyH_ready (rs := [4]) (by kernel_rfl) (by simp) ?_
        refine AllReadyH.cons (by rw [List.getElem?_toArray]; rfl) (fun K hK => ?_) AllReadyH.nil
        go_simp
        skip
        refine hK.out _ _ ?_ (fun hHeld => ?_)
        focus (first | exact trivial | ((try dsimp only); (exact trivial))); done
        clear hK K
        (try simp only [Act.put, List.setIfInBounds_toArray, List.set_cons_zero, List.set_cons_succ])
        refine wpAnyH_ready (rs := [5]) (by kernel_rfl) (by simp) ?_
        refine AllReadyH.cons (by rw [List.getElem?_toArray]; rfl) (fun K hK => ?_) AllReadyH.nil
        refine step_app _ rfl (.tmp 18) (.tmp 21) 22 rfl 3 i0 (.int .i64 0) 1 8 Try.underlying22 hi0 hz0 hz1 hz2 rfl (by omega) w2.heap.size w3.heap.size w3.heap.size (w3.heap.size + 1) A (some ⟨w3.heap.size, 0, none⟩) m c 1 1 (ints xs) (ints [v3]) rfl rfl (by (repeat (first | (with_reducible assumption) | (with_reducible refine Own.alloc ?_ _) | (with_reducible refine Own.drew ?_) | (with_reducible refine Own.set ?_ (by first | (simp; done) | (simp; omega) | omega) _)))) (Own.new (e := 3) (size := 1) (w3) #[.int .i64 v3] 1 (by unfold maxLen; omega) rfl).rd (ints_one _) (by unfold maxLen; omega) (by omega) (by (try simp) <;> omega) ?_; intro A7 c7 w7 o7 f7; have z7 := f7.size; (try simp at z7); replace TX := Blk.fr (by (repeat (first | (with_reducible assumption) | (with_reducible refine Blk.drew ?_) | (with_reducible refine Blk.other ?_ (by first | (simp; done) | (simp; omega) | omega) _) | (with_reducible refine Blk.alloc ?_ _))) : Blk _ w1.heap.size 30 #[.int .i64 v1, .slice A m c, .slice none 0 0]) f7 (.inl (by omega)); replace TR := Blk.fr (by (repeat (first | (with_reducible assumption) | (with_reducible refine Blk.drew ?_) | (with_reducible refine Blk.other ?_ (by first | (simp; done) | (simp; omega) | omega) _) | (with_reducible refine Blk.alloc ?_ _))) : Blk _ w.heap.size 30 #[.int .i64 0, .slice none 0 0, .slice none 0 0]) f7 (.inl (by omega)); have hr7 := Rdr.fr (g := g) (N := N + 6 - (q + 1) + 1) (by (repeat (first | (with_reducible assumption) | (with_reducible refine Rdr.drew ?_) | (with_reducible refine Rdr.set ?_ (by first | (simp; done) | (simp; omega) | omega) _) | (with_reducible refine Rdr.alloc ?_ _)))) f7 (.inl (by omega)) (by omega); replace hf := Fr.own (by (repeat (first | (with_reducible assumption) | (with_reducible refine Fr.drew ?_) | (with_reducible exact Fr.refl _ _ _) | (with_reducible refine Fr.setOut ?_ (by first | (simp; done) | (simp; omega) | omega) _) | (with_reducible refine Fr.alloc ?_ _))) : Fr g (g + 1) w _) (f7.wide (B' := w.heap.size) (by omega) (Nat.le_refl _)); clear x1 xf f7 lX lR hr3; have x1 := TX.cell 1 rfl; have xf := TX.free; have lX := TX.lt; have lR := TR.lt
        refine hK.out _ _ ?_ (fun hHeld => ?_)
        focus (first | exact trivial | ((try dsimp only); (exact trivial))); done
        clear hK K
        (try simp only [Act.put, List.setIfInBounds_toArray, List.set_cons_zero, List.set_cons_succ])
        refine wpAnyH_take (i := 6) (v := ?_) (by rw [List.getElem?_toArray]; rfl) (by kernel_rfl) (by kernel_rfl) (by kernel_rfl) (fun _ _ _ h => h) (Or.inl ⟨by rfl, ?_⟩) (by assumption) ?_
        rotate_left
        focus (intro wS hSw; (try dsimp only at hSw); go_simp; (try with_reducible rfl)); done
        (try simp only [Act.put, List.setIfInBounds_toArray, List.set_cons_zero, List.set_cons_succ])
        refine wpAnyH_ready (rs := [7]) (by kernel_rfl) (by simp) ?_
        refine AllReadyH.cons (by rw [List.getElem?_toArray]; rfl) (fun K hK => ?_) AllReadyH.nil
        go_simp
        skip
        refine hK.out _ _ ?_ (fun hHeld => ?_)
        focus (first | exact trivial | ((try dsimp only); (exact trivial))); done
        clear hK K
        (try simp only [Act.put, List.setIfInBounds_toArray, List.set_cons_zero, List.set_cons_succ])
        refine wpAnyH_done (by kernel_rfl) ?_ _
        refine NoPanic.normal ?_
        go_wp2
        go_roundw
        case rel => exact ⟨q, m + 1, c7, A7, xs ++ [v3], by omega, by go_num, TX.set 1 _, by (repeat (first | (with_reducible assumption) | (with_reducible refine Blk.drew ?_) | (with_reducible refine Blk.other ?_ (by first | (simp; done) | (simp; omega) | omega) _) | (with_reducible refine Blk.alloc ?_ _))), by rw [ints_append]; exact (o7.set (p := ⟨w1.heap.size, 1, none⟩) (.inl (by show w1.heap.size < w2.heap.size; omega)) _).mono (Nat.le_refl _) (by simp), Lib.hid (by rw [List.length_append, hl.out]; rfl), by omega, Lib.hid (wOk_add hw.out (by omega) (by omega)), (by (repeat (first | (with_reducible assumption) | (with_reducible refine Rdr.drew ?_) | (with_reducible refine Rdr.set ?_ (by first | (simp; done) | (simp; omega) | omega) _) | (with_reducible refine Rdr.alloc ?_ _))) : Rdr _ g (N + 6 - (q + 1) + 1)).mono (by omega), by (repeat (first | (with_reducible assumption) | (with_reducible refine Fr.drew ?_) | (with_reducible exact Fr.refl _ _ _) | (with_reducible refine Fr.setOut ?_ (by first | (simp; done) | (simp; omega) | omega) _) | (with_reducible refine Fr.alloc ?_ _))), by simp; omega⟩
        case measure => simp [intOf]
      · go_simp
        refine (pick_any g (N + 6 - (q + 1)) 256 _ (by (repeat (first | (with_reducible assumption) | (with_reducible refine Rdr.drew ?_) | (with_reducible refine Rdr.set ?_ (by first | (simp; done) | (simp; omega) | omega) _) | (with_reducible refine Rdr.alloc ?_ _)))) (by omega) (by omega)).mono ?_; rintro e w3 ⟨v3, rfl, hv3, ul3, -, hr3, f3⟩; replace ul3 := ul3 (by omega); have z3 := f3.size; (try simp at z3); have lt3 := hr3.lt; replace TX := Blk.fr (by (repeat (first | (with_reducible assumption) | (with_reducible refine Blk.drew ?_) | (with_reducible refine Blk.other ?_ (by first | (simp; done) | (simp; omega) | omega) _) | (with_reducible refine Blk.alloc ?_ _))) : Blk _ w1.heap.size 30 #[.int .i64 v1, .slice A m c, .slice none 0 0]) f3 (.inr (by omega)); replace TR := Blk.fr (by (repeat (first | (with_reducible assumption) | (with_reducible refine Blk.drew ?_) | (with_reducible refine Blk.other ?_ (by first | (simp; done) | (simp; omega) | omega) _) | (with_reducible refine Blk.alloc ?_ _))) : Blk _ w.heap.size 30 #[.int .i64 0, .slice none 0 0, .slice none 0 0]) f3 (.inr (by omega)); replace ox := (Own.fr (by (repeat (first | (with_reducible assumption) | (with_reducible refine Own.alloc ?_ _) | (with_reducible refine Own.drew ?_) | (with_reducible refine Own.set ?_ (by first | (simp; done) | (simp; omega) | omega) _))) : Own _ w2.heap.size wr.heap.size 3 1 A m c (ints xs)) f3 (.inr (by omega))).mono (B' := w2.heap.size) (T' := w3.heap.size) (Nat.le_refl _) (by omega); replace hf := Fr.trans (by (repeat (first | (with_reducible assumption) | (with_reducible refine Fr.drew ?_) | (with_reducible exact Fr.refl _ _ _) | (with_reducible refine Fr.setOut ?_ (by first | (simp; done) | (simp; omega) | omega) _) | (with_reducible refine Fr.alloc ?_ _))) : Fr g (g + 1) w _) f3; clear f3 x1 xf hrd lX lR; have x1 := TX.cell 1 rfl; have xf := TX.free; have lX := TX.lt; have lR := TR.lt
        refine hK.out _ _ ?_ (fun hHeld => ?_)
        focus (first | exact trivial | ((try dsimp only); (exact trivial))); done
        clear hK K
        (try simp only [Act.put, List.setIfInBounds_toArray, List.set_cons_zero, List.set_cons_succ])
        refine wpAnyH_ready (rs := [1, 4]) (by kernel_rfl) (by simp) ?_
        refine AllReadyH.cons (by rw [List.getElem?_toArray]; rfl) (fun K hK => ?_) (AllReadyH.cons (by rw [List.getElem?_toArray]; rfl) (fun K hK => ?_) AllReadyH.nil)
        · go_simp
          skip
          refine hK.out _ _ ?_ (fun hHeld => ?_)
          focus (first | exact trivial | ((try dsimp only); (exact trivial))); done
          clear hK K
          (try simp only [Act.put, List.setIfInBounds_toArray, List.set_cons_zero, List.set_cons_succ])
          refine wpAnyH_ready (rs := [4]) (by kernel_rfl) (by simp) ?_
          refine AllReadyH.cons (by rw [List.getElem?_toArray]; rfl) (fun K hK => ?_) AllReadyH.nil
          go_simp
          skip
          refine hK.out _ _ ?_ (fun hHeld => ?_)
          focus (first | exact trivial | ((try dsimp only); (exact trivial))); done
          clear hK K
          (try simp only [Act.put, List.setIfInBounds_toArray, List.set_cons_zero, List.set_cons_succ])
          refine wpAnyH_ready (rs := [5]) (by kernel_rfl) (by simp) ?_
          refine AllReadyH.cons (by rw [List.getElem?_toArray]; rfl) (fun K hK => ?_) AllReadyH.nil
          refine step_app _ rfl (.tmp 18) (.tmp 21) 22 rfl 3 i0 (.int .i64 0) 1 8 Try.underlying22 hi0 hz0 hz1 hz2 rfl (by omega) w2.heap.size w3.heap.size w3.heap.size (w3.heap.size + 1) A (some ⟨w3.heap.size, 0, none⟩) m c 1 1 (ints xs) (ints [v3]) rfl rfl (by (repeat (first | (with_reducible assumption) | (with_reducible refine Own.alloc ?_ _) | (with_reducible refine Own.drew ?_) | (with_reducible refine Own.set ?_ (by first | (simp; done) | (simp; omega) | omega) _)))) (Own.new (e := 3) (size := 1) (w3.drew) #[.int .i64 v3] 1 (by unfold maxLen; omega) rfl).rd (ints_one _) (by unfold maxLen; omega) (by omega) (by (try simp) <;> omega) ?_; intro A7 c7 w7 o7 f7; have z7 := f7.size; (try simp at z7); replace TX := Blk.fr (by (repeat (first | (with_reducible assumption) | (with_reducible refine Blk.drew ?_) | (with_reducible refine Blk.other ?_ (by first | (simp; done) | (simp; omega) | omega) _) | (with_reducible refine Blk.alloc ?_ _))) : Blk _ w1.heap.size 30 #[.int .i64 v1, .slice A m c, .slice none 0 0]) f7 (.inl (by omega)); replace TR := Blk.fr (by (repeat (first | (with_reducible assumption) | (with_reducible refine Blk.drew ?_) | (with_reducible refine Blk.other ?_ (by first | (simp; done) | (simp; omega) | omega) _) | (with_reducible refine Blk.alloc ?_ _))) : Blk _ w.heap.size 30 #[.int .i64 0, .slice none 0 0, .slice none 0 0]) f7 (.inl (by omega)); have hr7 := Rdr.fr (g := g) (N := N + 6 - (q + 1) + 1) (by (repeat (first | (with_reducible assumption) | (with_reducible refine Rdr.drew ?_) | (with_reducible refine Rdr.set ?_ (by first | (simp; done) | (simp; omega) | omega) _) | (with_reducible refine Rdr.alloc ?_ _)))) f7 (.inl (by omega)) (by omega); replace hf := Fr.own (by (repeat (first | (with_reducible assumption) | (with_reducible refine Fr.drew ?_) | (with_reducible exact Fr.refl _ _ _) | (with_reducible refine Fr.setOut ?_ (by first | (simp; done) | (simp; omega) | omega) _) | (with_reducible refine Fr.alloc ?_ _))) : Fr g (g + 1) w _) (f7.wide (B' := w.heap.size) (by omega) (Nat.le_refl _)); clear x1 xf f7 lX lR hr3; have x1 := TX.cell 1 rfl; have xf := TX.free; have lX := TX.lt; have lR := TR.lt
          refine hK.out _ _ ?_ (fun hHeld => ?_)
          focus (first | exact trivial | ((try dsimp only); (exact trivial))); done
          clear hK K
          (try simp only [Act.put, List.setIfInBounds_toArray, List.set_cons_zero, List.set_cons_succ])
          refine wpAnyH_take (i := 6) (v := ?_) (by rw [List.getElem?_toArray]; rfl) (by kernel_rfl) (by kernel_rfl) (by kernel_rfl) (fun _ _ _ h => h) (Or.inl ⟨by rfl, ?_⟩) (by assumption) ?_
          rotate_left
          focus (intro wS hSw; (try dsimp only at hSw); go_simp; (try with_reducible rfl)); done
          (try simp only [Act.put, List.setIfInBounds_toArray, List.set_cons_zero, List.set_cons_succ])
          refine wpAnyH_ready (rs := [7]) (by kernel_rfl) (by simp) ?_
          refine AllReadyH.cons (by rw [List.getElem?_toArray]; rfl) (fun K hK => ?_) AllReadyH.nil
          go_simp
          skip
          refine hK.out _ _ ?_ (fun hHeld => ?_)
          focus (first | exact trivial | ((try dsimp only); (exact trivial))); done
          clear hK K
          (try simp only [Act.put, List.setIfInBounds_toArray, List.set_cons_zero, List.set_cons_succ])
          refine wpAnyH_done (by kernel_rfl) ?_ _
          refine NoPanic.normal ?_
          go_wp2
          go_roundw
          case rel => exact ⟨q, m + 1, c7, A7, xs ++ [v3], by omega, by go_num, TX.set 1 _, by (repeat (first | (with_reducible assumption) | (with_reducible refine Blk.drew ?_) | (with_reducible refine Blk.other ?_ (by first | (simp; done) | (simp; omega) | omega) _) | (with_reducible refine Blk.alloc ?_ _))), by rw [ints_append]; exact (o7.set (p := ⟨w1.heap.size, 1, none⟩) (.inl (by show w1.heap.size < w2.heap.size; omega)) _).mono (Nat.le_refl _) (by simp), Lib.hid (by rw [List.length_append, hl.out]; rfl), by omega, Lib.hid (wOk_add hw.out (by omega) (by omega)), (by (repeat (first | (with_reducible assumption) | (with_reducible refine Rdr.drew ?_) | (with_reducible refine Rdr.set ?_ (by first | (simp; done) | (simp; omega) | omega) _) | (with_reducible refine Rdr.alloc ?_ _))) : Rdr _ g (N + 6 - (q + 1) + 1)).mono (by omega), by (repeat (first | (with_reducible assumption) | (with_reducible refine Fr.drew ?_) | (with_reducible exact Fr.refl _ _ _) | (with_reducible refine Fr.setOut ?_ (by first | (simp; done) | (simp; omega) | omega) _) | (with_reducible refine Fr.alloc ?_ _))), by simp; omega⟩
          case measure => simp [intOf]
        · go_simp
          skip
          refine hK.out _ _ ?_ (fun hHeld => ?_)
          focus (first | exact trivial | ((try dsimp only); (exact trivial))); done
          clear hK K
          (try simp only [Act.put, List.setIfInBounds_toArray, List.set_cons_zero, List.set_cons_succ])
          refine wpAnyH_ready (rs := [1]) (by kernel_rfl) (by simp) ?_
          refine AllReadyH.cons (by rw [List.getElem?_toArray]; rfl) (fun K hK => ?_) AllReadyH.nil
          go_simp
          skip
          refine hK.out _ _ ?_ (fun hHeld => ?_)
          focus (first | exact trivial | ((try dsimp only); (exact trivial))); done
          clear hK K
          (try simp only [Act.put, List.setIfInBounds_toArray, List.set_cons_zero, List.set_cons_succ])
          refine wpAnyH_ready (rs := [5]) (by kernel_rfl) (by simp) ?_
          refine AllReadyH.cons (by rw [List.getElem?_toArray]; rfl) (fun K hK => ?_) AllReadyH.nil
          refine step_app _ rfl (.tmp 18) (.tmp 21) 22 rfl 3 i0 (.int .i64 0) 1 8 Try.underlying22 hi0 hz0 hz1 hz2 rfl (by omega) w2.heap.size w3.heap.size w3.heap.size (w3.heap.size + 1) A (some ⟨w3.heap.size, 0, none⟩) m c 1 1 (ints xs) (ints [v3]) rfl rfl (by (repeat (first | (with_reducible assumption) | (with_reducible refine Own.alloc ?_ _) | (with_reducible refine Own.drew ?_) | (with_reducible refine Own.set ?_ (by first | (simp; done) | (simp; omega) | omega) _)))) (Own.new (e := 3) (size := 1) (w3.drew) #[.int .i64 v3] 1 (by unfold maxLen; omega) rfl).rd (ints_one _) (by unfold maxLen; omega) (by omega) (by (try simp) <;> omega) ?_; intro A7 c7 w7 o7 f7; have z7 := f7.size; (try simp at z7); replace TX := Blk.fr (by (repeat (first | (with_reducible assumption) | (with_reducible refine Blk.drew ?_) | (with_reducible refine Blk.other ?_ (by first | (simp; done) | (simp; omega) | omega) _) | (with_reducible refine Blk.alloc ?_ _))) : Blk _ w1.heap.size 30 #[.int .i64 v1, .slice A m c, .slice none 0 0]) f7 (.inl (by omega)); replace TR := Blk.fr (by (repeat (first | (with_reducible assumption) | (with_reducible refine Blk.drew ?_) | (with_reducible refine Blk.other ?_ (by first | (simp; done) | (simp; omega) | omega) _) | (with_reducible refine Blk.alloc ?_ _))) : Blk _ w.heap.size 30 #[.int .i64 0, .slice none 0 0, .slice none 0 0]) f7 (.inl (by omega)); have hr7 := Rdr.fr (g := g) (N := N + 6 - (q + 1) + 1) (by (repeat (first | (with_reducible assumption) | (with_reducible refine Rdr.drew ?_) | (with_reducible refine Rdr.set ?_ (by first | (simp; done) | (simp; omega) | omega) _) | (with_reducible refine Rdr.alloc ?_ _)))) f7 (.inl (by omega)) (by omega); replace hf := Fr.own (by (repeat (first | (with_reducible assumption) | (with_reducible refine Fr.drew ?_) | (with_reducible exact Fr.refl _ _ _) | (with_reducible refine Fr.setOut ?_ (by first | (simp; done) | (simp; omega) | omega) _) | (with_reducible refine Fr.alloc ?_ _))) : Fr g (g + 1) w _) (f7.wide (B' := w.heap.size) (by omega) (Nat.le_refl _)); clear x1 xf f7 lX lR hr3; have x1 := TX.cell 1 rfl; have xf := TX.free; have lX := TX.lt; have lR := TR.lt
          refine hK.out _ _ ?_ (fun hHeld => ?_)
          focus (first | exact trivial | ((try dsimp only); (exact trivial))); done
          clear hK K
          (try simp only [Act.put, List.setIfInBounds_toArray, List.set_cons_zero, List.set_cons_succ])
          refine wpAnyH_take (i := 6) (v := ?_) (by rw [List.getElem?_toArray]; rfl) (by kernel_rfl) (by kernel_rfl) (by kernel_rfl) (fun _ _ _ h => h) (Or.inl ⟨by rfl, ?_⟩) (by assumption) ?_
          rotate_left
          focus (intro wS hSw; (try dsimp only at hSw); go_simp; (try with_reducible rfl)); done
          (try simp only [Act.put, List.setIfInBounds_toArray, List.set_cons_zero, List.set_cons_succ])
          refine wpAnyH_ready (rs := [7]) (by kernel_rfl) (by simp) ?_
          refine AllReadyH.cons (by rw [List.getElem?_toArray]; rfl) (fun K hK => ?_) AllReadyH.nil
          go_simp
          skip
          refine hK.out _ _ ?_ (fun hHeld => ?_)
          focus (first | exact trivial | ((try dsimp only); (exact trivial))); done
          clear hK K
          (try simp only [Act.put, List.setIfInBounds_toArray, List.set_cons_zero, List.set_cons_succ])
          refine wpAnyH_done (by kernel_rfl) ?_ _
          refine NoPanic.normal ?_
          go_wp2
          go_roundw
          case rel => exact ⟨q, m + 1, c7, A7, xs ++ [v3], by omega, by go_num, TX.set 1 _, by (repeat (first | (with_reducible assumption) | (with_reducible refine Blk.drew ?_) | (with_reducible refine Blk.other ?_ (by first | (simp; done) | (simp; omega) | omega) _) | (with_reducible refine Blk.alloc ?_ _))), by rw [ints_append]; exact (o7.set (p := ⟨w1.heap.size, 1, none⟩) (.inl (by show w1.heap.size < w2.heap.size; omega)) _).mono (Nat.le_refl _) (by simp), Lib.hid (by rw [List.length_append, hl.out]; rfl), by omega, Lib.hid (wOk_add hw.out (by omega) (by omega)), (by (repeat (first | (with_reducible assumption) | (with_reducible refine Rdr.drew ?_) | (with_reducible refine Rdr.set ?_ (by first | (simp; done) | (simp; omega) | omega) _) | (with_reducible refine Rdr.alloc ?_ _))) : Rdr _ g (N + 6 - (q + 1) + 1)).mono (by omega), by (repeat (first | (with_reducible assumption) | (with_reducible refine Fr.drew ?_) | (with_reducible exact Fr.refl _ _ _) | (with_reducible refine Fr.setOut ?_ (by first | (simp; done) | (simp; omega) | omega) _) | (with_reducible refine Fr.alloc ?_ _))), by simp; omega⟩
          case measure => simp [intOf]
    | zero =>
      go_wp2_with fail
      refine (pick_any _ _ (4) _ hrd (by omega) (by omega)).mono ?_
      rintro e w3 ⟨v3, rfl, hv3, ul3, -, hr3, f3⟩
      replace ul3 := ul3 (by omega)
      have z3 := f3.size
      have lt3 := hr3.lt
      replace TX := TX.fr f3 (.inr (by omega))
      replace TR := TR.fr f3 (.inr (by omega))
      replace ox := ox.fr f3 (.inr (by omega))
      have F3 := hf.trans f3
      obtain ⟨k0, rfl⟩ := Int.eq_ofNat_of_zero_le hv3
      have hk0 : k0 ≤ 3 := by omega
      have hm4 : m ≤ 4 := by omega
      have hr3' := hr3.mono (show _ ≤ N + 7 by omega)
      clear hf f3 hrd lX lR hv3 ul3 hmk hk hr3
      go_wp2
      go_loopw [7] (fun i wq => ∃ (k m2 d : Nat) (D : Option Addr) (cs : List Cp), k ≤ 3 ∧ i = .int .i64 k ∧ Blk wq w1.heap.size 30 #[.int .i64 v1, .slice A m c, .slice D m2 d] ∧ Blk wq w.heap.size 30 #[.int .i64 0, .slice none 0 0, .slice none 0 0] ∧ Own wq w2.heap.size w3.heap.size 3 1 A m c (ints xs) ∧ Own wq w3.heap.size wq.heap.size 45 4 D m2 d (caps cs) ∧ Hid (cs.length = m2) ∧ m2 + k ≤ 3 ∧ Hid (ckOk cs = true) ∧ Rdr wq g (N + 43 - 12 * k) ∧ Fr g (g + 1) w wq ∧ w3.heap.size ≤ wq.heap.size) (fun i _ => (intOf i).toNat)
      case atStart => exact ⟨k0, 0, 0, none, [], hk0, rfl, TX, TR, ox.mono (Nat.le_refl _) (by omega), Own.nil _ _ _ _ _ _, Lib.hid rfl, by omega, Lib.hid rfl, hr3'.mono (by omega), F3, Nat.le_refl _⟩
      case round =>
        clear TX TR F3 hr3' hk0 ox
        obtain ⟨k, m2, d, D, cs, hk, rfl, TX, TR, ox, oc, hl2, hmk, hck, hrd, hf, zq⟩ := hrel
        have lX := TX.lt
        have lR := TR.lt
        have lg := hrd.lt
        cases k with
        | succ q =>
          have hq : (0 : Int) < ((q + 1 : Nat) : Int) := by omega
          have x2 := TX.cell 2 rfl
          have xf := TX.free
          go_wp2_with fail
          refine wp_region_noPanic ?_
          refine wp_region_held_drew (S := (fun _ => True)) (by kernel_rfl) ?_ (fun hHeld => ?_)
          focus (first | exact trivial | ((try dsimp only); ((repeat' (first | assumption | with_reducible refine And.intro ?_ ?_)) <;> go_keep))); done
          refine wpAnyH_take (i := 0) (v := ?_) (by rw [List.getElem?_toArray]; rfl) (by kernel_rfl) (by kernel_rfl) (by kernel_rfl) (fun _ _ _ h => h) (Or.inl ⟨by rfl, ?_⟩) (by assumption) ?_
          rotate_left
          focus (intro wS hSw; (try dsimp only at hSw); go_simp; (try with_reducible rfl)); done
          (try simp only [Act.put, List.setIfInBounds_toArray, List.set_cons_zero, List.set_cons_succ])
          refine wpAnyH_take (i := 2) (v := ?_) (by rw [List.getElem?_toArray]; rfl) (by kernel_rfl) (by kernel_rfl) (by kernel_rfl) (fun _ _ _ h => h) (Or.inl ⟨by rfl, ?_⟩) (by assumption) ?_
          rotate_left
          focus (intro wS hSw; (try dsimp only at hSw); go_simp; (try with_reducible rfl)); done
          (try simp only [Act.put, List.setIfInBounds_toArray, List.set_cons_zero, List.set_cons_succ])
          refine wpAnyH_ready (rs := [1, 3]) (by kernel_rfl) (by simp) ?_
          refine AllReadyH.cons (by rw [List.getElem?_toArray]; rfl) (fun K hK => ?_) (AllReadyH.cons (by rw [List.getElem?_toArray]; rfl) (fun K hK => ?_) AllReadyH.nil)
          · go_simp
            skip
            refine hK.out _ _ ?_ (fun hHeld => ?_)
            focus (first | exact trivial | ((try dsimp only); (exact trivial))); done
            clear hK K
            (try simp only [Act.put, List.setIfInBounds_toArray, List.set_cons_zero, List.set_cons_succ])
            refine wpAnyH_ready (rs := [3]) (by kernel_rfl) (by simp) ?_
            refine AllReadyH.cons (by rw [List.getElem?_toArray]; rfl) (fun K hK => ?_) AllReadyH.nil
            go_simp
            refine (l20Cap_any g (N + 43 - 12 * (q + 1)) 0 _ (by (repeat (first | (with_reducible assumption) | (with_reducible refine Rdr.drew ?_) | (with_reducible refine Rdr.set ?_ (by first | (simp; done) | (simp; omega) | omega) _) | (with_reducible refine Rdr.alloc ?_ _)))) (by omega) (by omega)).mono ?_; rintro e w4 ⟨kk, oo, rr, bb, rfl, hcap, hr4, f4⟩; have hcap := Lib.hid (hcap (Int.le_refl _)); have z4 := f4.size; (try simp at z4); have lt4 := hr4.lt; replace TX := Blk.fr (by (repeat (first | (with_reducible assumption) | (with_reducible refine Blk.drew ?_) | (with_reducible refine Blk.other ?_ (by first | (simp; done) | (simp; omega) | omega) _) | (with_reducible refine Blk.alloc ?_ _))) : Blk _ w1.heap.size 30 #[.int .i64 v1, .slice A m c, .slice D m2 d]) f4 (.inr (by omega)); replace TR := Blk.fr (by (repeat (first | (with_reducible assumption) | (with_reducible refine Blk.drew ?_) | (with_reducible refine Blk.other ?_ (by first | (simp; done) | (simp; omega) | omega) _) | (with_reducible refine Blk.alloc ?_ _))) : Blk _ w.heap.size 30 #[.int .i64 0, .slice none 0 0, .slice none 0 0]) f4 (.inr (by omega)); replace ox := Own.fr (by (repeat (first | (with_reducible assumption) | (with_reducible refine Own.alloc ?_ _) | (with_reducible refine Own.drew ?_) | (with_reducible refine Own.set ?_ (by first | (simp; done) | (simp; omega) | omega) _))) : Own _ w2.heap.size w3.heap.size 3 1 A m c (ints xs)) f4 (.inr (by omega)); replace oc := (Own.fr (by (repeat (first | (with_reducible assumption) | (with_reducible refine Own.alloc ?_ _) | (with_reducible refine Own.drew ?_) | (with_reducible refine Own.set ?_ (by first | (simp; done) | (simp; omega) | omega) _))) : Own _ w3.heap.size wr.heap.size 45 4 D m2 d (caps cs)) f4 (.inr (by omega))).mono (B' := w3.heap.size) (T' := w4.heap.size) (Nat.le_refl _) (by omega); replace hf := Fr.trans (by (repeat (first | (with_reducible assumption) | (with_reducible refine Fr.drew ?_) | (with_reducible exact Fr.refl _ _ _) | (with_reducible refine Fr.setOut ?_ (by first | (simp; done) | (simp; omega) | omega) _) | (with_reducible refine Fr.alloc ?_ _))) : Fr g (g + 1) w _) f4; have hone := caps_one [((kk, oo, rr, bb) : Cp)]; rw [caps_cons, caps_nil, List.append_nil] at hone; clear f4 x2 xf hrd lX lR; have x2 := TX.cell 2 rfl; have xf := TX.free; have lX := TX.lt; have lR := TR.lt
            refine hK.out _ _ ?_ (fun hHeld => ?_)
            focus (first | exact trivial | ((try dsimp only); (exact trivial))); done
            clear hK K
            (try simp only [Act.put, List.setIfInBounds_toArray, List.set_cons_zero, List.set_cons_succ])
            refine wpAnyH_ready (rs := [4]) (by kernel_rfl) (by simp) ?_
            refine AllReadyH.cons (by rw [List.getElem?_toArray]; rfl) (fun K hK => ?_) AllReadyH.nil
            go_simp
            skip
            refine hK.out _ _ ?_ (fun hHeld => ?_)
            focus (first | exact trivial | ((try dsimp only); (exact trivial))); done
            clear hK K
            (try simp only [Act.put, List.setIfInBounds_toArray, List.set_cons_zero, List.set_cons_succ])
            refine wpAnyH_ready (rs := [5]) (by kernel_rfl) (by simp) ?_
            refine AllReadyH.cons (by rw [List.getElem?_toArray]; rfl) (fun K hK => ?_) AllReadyH.nil
            refine step_app _ rfl (.tmp 31) (.tmp 34) 28 rfl 45 j0 (capv 0 0 0 0) 4 32 Try.underlying28 hj0 hy0 hy1 hy2 rfl (by omega) w3.heap.size w4.heap.size w4.heap.size (w4.heap.size + 1) D (some ⟨w4.heap.size, 0, none⟩) m2 d 1 1 (caps cs) (capC (kk, oo, rr, bb)) rfl rfl (by (repeat (first | (with_reducible assumption) | (with_reducible refine Own.alloc ?_ _) | (with_reducible refine Own.drew ?_) | (with_reducible refine Own.set ?_ (by first | (simp; done) | (simp; omega) | omega) _)))) (cap_new (w4) w4.heap.size 45 rfl (kk, oo, rr, bb)) hone (by unfold maxLen; omega) (by omega) (by (try simp) <;> omega) ?_; intro A7 c7 w7 o7 f7; have z7 := f7.size; (try simp at z7); replace TX := Blk.fr (by (repeat (first | (with_reducible assumption) | (with_reducible refine Blk.drew ?_) | (with_reducible refine Blk.other ?_ (by first | (simp; done) | (simp; omega) | omega) _) | (with_reducible refine Blk.alloc ?_ _))) : Blk _ w1.heap.size 30 #[.int .i64 v1, .slice A m c, .slice D m2 d]) f7 (.inl (by omega)); replace TR := Blk.fr (by (repeat (first | (with_reducible assumption) | (with_reducible refine Blk.drew ?_) | (with_reducible refine Blk.other ?_ (by first | (simp; done) | (simp; omega) | omega) _) | (with_reducible refine Blk.alloc ?_ _))) : Blk _ w.heap.size 30 #[.int .i64 0, .slice none 0 0, .slice none 0 0]) f7 (.inl (by omega)); replace ox := Own.fr (by (repeat (first | (with_reducible assumption) | (with_reducible refine Own.alloc ?_ _) | (with_reducible refine Own.drew ?_) | (with_reducible refine Own.set ?_ (by first | (simp; done) | (simp; omega) | omega) _))) : Own _ w2.heap.size w3.heap.size 3 1 A m c (ints xs)) f7 (.inl (Nat.le_refl _)); have hr7 := Rdr.fr (g := g) (N := N + 43 - 12 * (q + 1) + 12) (by (repeat (first | (with_reducible assumption) | (with_reducible refine Rdr.drew ?_) | (with_reducible refine Rdr.set ?_ (by first | (simp; done) | (simp; omega) | omega) _) | (with_reducible refine Rdr.alloc ?_ _)))) f7 (.inl (by omega)) (by omega); replace hf := Fr.own (by (repeat (first | (with_reducible assumption) | (with_reducible refine Fr.drew ?_) | (with_reducible exact Fr.refl _ _ _) | (with_reducible refine Fr.setOut ?_ (by first | (simp; done) | (simp; omega) | omega) _) | (with_reducible refine Fr.alloc ?_ _))) : Fr g (g + 1) w _) (f7.wide (B' := w.heap.size) (by omega) (Nat.le_refl _)); clear x2 xf f7 lX lR hr4 hone; have x2 := TX.cell 2 rfl; have xf := TX.free; have lX := TX.lt; have lR := TR.lt
            refine hK.out _ _ ?_ (fun hHeld => ?_)
            focus (first | exact trivial | ((try dsimp only); (exact trivial))); done
            clear hK K
            (try simp only [Act.put, List.setIfInBounds_toArray, List.set_cons_zero, List.set_cons_succ])
            refine wpAnyH_take (i := 6) (v := ?_) (by rw [List.getElem?_toArray]; rfl) (by kernel_rfl) (by kernel_rfl) (by kernel_rfl) (fun _ _ _ h => h) (Or.inl ⟨by rfl, ?_⟩) (by assumption) ?_
            rotate_left
            focus (intro wS hSw; (try dsimp only at hSw); go_simp; (try with_reducible rfl)); done
            (try simp only [Act.put, List.setIfInBounds_toArray, List.set_cons_zero, List.set_cons_succ])
            refine wpAnyH_ready (rs := [7]) (by kernel_rfl) (by simp) ?_
            refine AllReadyH.cons (by rw [List.getElem?_toArray]; rfl) (fun K hK => ?_) AllReadyH.nil
            go_simp
            skip
            refine hK.out _ _ ?_ (fun hHeld => ?_)
            focus (first | exact trivial | ((try dsimp only); (exact trivial))); done
            clear hK K
            (try simp only [Act.put, List.setIfInBounds_toArray, List.set_cons_zero, List.set_cons_succ])
            refine wpAnyH_done (by kernel_rfl) ?_ _
            refine NoPanic.normal ?_
            go_wp2
            go_roundw
            case rel => exact ⟨q, m2 + 1, c7, A7, cs ++ [(kk, oo, rr, bb)], by omega, by go_num, TX.set 2 _, by (repeat (first | (with_reducible assumption) | (with_reducible refine Blk.drew ?_) | (with_reducible refine Blk.other ?_ (by first | (simp; done) | (simp; omega) | omega) _) | (with_reducible refine Blk.alloc ?_ _))), ox.set (p := ⟨w1.heap.size, 2, none⟩) (.inl (by show w1.heap.size < w2.heap.size; omega)) _, by rw [caps_append, caps_cons, caps_nil, List.append_nil]; exact (o7.set (p := ⟨w1.heap.size, 2, none⟩) (.inl (by show w1.heap.size < w3.heap.size; omega)) _).mono (Nat.le_refl _) (by simp), Lib.hid (by rw [List.length_append, hl2.out]; rfl), by omega, Lib.hid (ckOk_add hck.out hcap.out.1 hcap.out.2), (by (repeat (first | (with_reducible assumption) | (with_reducible refine Rdr.drew ?_) | (with_reducible refine Rdr.set ?_ (by first | (simp; done) | (simp; omega) | omega) _) | (with_reducible refine Rdr.alloc ?_ _))) : Rdr _ g (N + 43 - 12 * (q + 1) + 12)).mono (by omega), by (repeat (first | (with_reducible assumption) | (with_reducible refine Fr.drew ?_) | (with_reducible exact Fr.refl _ _ _) | (with_reducible refine Fr.setOut ?_ (by first | (simp; done) | (simp; omega) | omega) _) | (with_reducible refine Fr.alloc ?_ _))), by simp; omega⟩
            case measure => simp [intOf]
          · go_simp
            refine (l20Cap_any g (N + 43 - 12 * (q + 1)) 0 _ (by (repeat (first | (with_reducible assumption) | (with_reducible refine Rdr.drew ?_) | (with_reducible refine Rdr.set ?_ (by first | (simp; done) | (simp; omega) | omega) _) | (with_reducible refine Rdr.alloc ?_ _)))) (by omega) (by omega)).mono ?_; rintro e w4 ⟨kk, oo, rr, bb, rfl, hcap, hr4, f4⟩; have hcap := Lib.hid (hcap (Int.le_refl _)); have z4 := f4.size; (try simp at z4); have lt4 := hr4.lt; replace TX := Blk.fr (by (repeat (first | (with_reducible assumption) | (with_reducible refine Blk.drew ?_) | (with_reducible refine Blk.other ?_ (by first | (simp; done) | (simp; omega) | omega) _) | (with_reducible refine Blk.alloc ?_ _))) : Blk _ w1.heap.size 30 #[.int .i64 v1, .slice A m c, .slice D m2 d]) f4 (.inr (by omega)); replace TR := Blk.fr (by (repeat (first | (with_reducible assumption) | (with_reducible refine Blk.drew ?_) | (with_reducible refine Blk.other ?_ (by first | (simp; done) | (simp; omega) | omega) _) | (with_reducible refine Blk.alloc ?_ _))) : Blk _ w.heap.size 30 #[.int .i64 0, .slice none 0 0, .slice none 0 0]) f4 (.inr (by omega)); replace ox := Own.fr (by (repeat (first | (with_reducible assumption) | (with_reducible refine Own.alloc ?_ _) | (with_reducible refine Own.drew ?_) | (with_reducible refine Own.set ?_ (by first | (simp; done) | (simp; omega) | omega) _))) : Own _ w2.heap.size w3.heap.size 3 1 A m c (ints xs)) f4 (.inr (by omega)); replace oc := (Own.fr (by (repeat (first | (with_reducible assumption) | (with_reducible refine Own.alloc ?_ _) | (with_reducible refine Own.drew ?_) | (with_reducible refine Own.set ?_ (by first | (simp; done) | (simp; omega) | omega) _))) : Own _ w3.heap.size wr.heap.size 45 4 D m2 d (caps cs)) f4 (.inr (by omega))).mono (B' := w3.heap.size) (T' := w4.heap.size) (Nat.le_refl _) (by omega); replace hf := Fr.trans (by (repeat (first | (with_reducible assumption) | (with_reducible refine Fr.drew ?_) | (with_reducible exact Fr.refl _ _ _) | (with_reducible refine Fr.setOut ?_ (by first | (simp; done) | (simp; omega) | omega) _) | (with_reducible refine Fr.alloc ?_ _))) : Fr g (g + 1) w _) f4; have hone := caps_one [((kk, oo, rr, bb) : Cp)]; rw [caps_cons, caps_nil, List.append_nil] at hone; clear f4 x2 xf hrd lX lR; have x2 := TX.cell 2 rfl; have xf := TX.free; have lX := TX.lt; have lR := TR.lt
            refine hK.out _ _ ?_ (fun hHeld => ?_)
            focus (first | exact trivial | ((try dsimp only); (exact trivial))); done
            clear hK K
            (try simp only [Act.put, List.setIfInBounds_toArray, List.set_cons_zero, List.set_cons_succ])
            refine wpAnyH_ready (rs := [1, 4]) (by kernel_rfl) (by simp) ?_
            refine AllReadyH.cons (by rw [List.getElem?_toArray]; rfl) (fun K hK => ?_) (AllReadyH.cons (by rw [List.getElem?_toArray]; rfl) (fun K hK => ?_) AllReadyH.nil)
            · go_simp
              skip
              refine hK.out _ _ ?_ (fun hHeld => ?_)
              focus (first | exact trivial | ((try dsimp only); (exact trivial))); done
              clear hK K
              (try simp only [Act.put, List.setIfInBounds_toArray, List.set_cons_zero, List.set_cons_succ])
              refine wpAnyH_ready (rs := [4]) (by kernel_rfl) (by simp) ?_
              refine AllReadyH.cons (by rw [List.getElem?_toArray]; rfl) (fun K hK => ?_) AllReadyH.nil
              go_simp
              skip
              refine hK.out _ _ ?_ (fun hHeld => ?_)
              focus (first | exact trivial | ((try dsimp only); (exact trivial))); done
              clear hK K
              (try simp only [Act.put, List.setIfInBounds_toArray, List.set_cons_zero, List.set_cons_succ])
              refine wpAnyH_ready (rs := [5]) (by kernel_rfl) (by simp) ?_
              refine AllReadyH.cons (by rw [List.getElem?_toArray]; rfl) (fun K hK => ?_) AllReadyH.nil
              refine step_app _ rfl (.tmp 31) (.tmp 34) 28 rfl 45 j0 (capv 0 0 0 0) 4 32 Try.underlying28 hj0 hy0 hy1 hy2 rfl (by omega) w3.heap.size w4.heap.size w4.heap.size (w4.heap.size + 1) D (some ⟨w4.heap.size, 0, none⟩) m2 d 1 1 (caps cs) (capC (kk, oo, rr, bb)) rfl rfl (by (repeat (first | (with_reducible assumption) | (with_reducible refine Own.alloc ?_ _) | (with_reducible refine Own.drew ?_) | (with_reducible refine Own.set ?_ (by first | (simp; done) | (simp; omega) | omega) _)))) (cap_new (w4.drew) w4.heap.size 45 rfl (kk, oo, rr, bb)) hone (by unfold maxLen; omega) (by omega) (by (try simp) <;> omega) ?_; intro A7 c7 w7 o7 f7; have z7 := f7.size; (try simp at z7); replace TX := Blk.fr (by (repeat (first | (with_reducible assumption) | (with_reducible refine Blk.drew ?_) | (with_reducible refine Blk.other ?_ (by first | (simp; done) | (simp; omega) | omega) _) | (with_reducible refine Blk.alloc ?_ _))) : Blk _ w1.heap.size 30 #[.int .i64 v1, .slice A m c, .slice D m2 d]) f7 (.inl (by omega)); replace TR := Blk.fr (by (repeat (first | (with_reducible assumption) | (with_reducible refine Blk.drew ?_) | (with_reducible refine Blk.other ?_ (by first | (simp; done) | (simp; omega) | omega) _) | (with_reducible refine Blk.alloc ?_ _))) : Blk _ w.heap.size 30 #[.int .i64 0, .slice none 0 0, .slice none 0 0]) f7 (.inl (by omega)); replace ox := Own.fr (by (repeat (first | (with_reducible assumption) | (with_reducible refine Own.alloc ?_ _) | (with_reducible refine Own.drew ?_) | (with_reducible refine Own.set ?_ (by first | (simp; done) | (simp; omega) | omega) _))) : Own _ w2.heap.size w3.heap.size 3 1 A m c (ints xs)) f7 (.inl (Nat.le_refl _)); have hr7 := Rdr.fr (g := g) (N := N + 43 - 12 * (q + 1) + 12) (by (repeat (first | (with_reducible assumption) | (with_reducible refine Rdr.drew ?_) | (with_reducible refine Rdr.set ?_ (by first | (simp; done) | (simp; omega) | omega) _) | (with_reducible refine Rdr.alloc ?_ _)))) f7 (.inl (by omega)) (by omega); replace hf := Fr.own (by (repeat (first | (with_reducible assumption) | (with_reducible refine Fr.drew ?_) | (with_reducible exact Fr.refl _ _ _) | (with_reducible refine Fr.setOut ?_ (by first | (simp; done) | (simp; omega) | omega) _) | (with_reducible refine Fr.alloc ?_ _))) : Fr g (g + 1) w _) (f7.wide (B' := w.heap.size) (by omega) (Nat.le_refl _)); clear x2 xf f7 lX lR hr4 hone; have x2 := TX.cell 2 rfl; have xf := TX.free; have lX := TX.lt; have lR := TR.lt
              refine hK.out _ _ ?_ (fun hHeld => ?_)
              focus (first | exact trivial | ((try dsimp only); (exact trivial))); done
              clear hK K
              (try simp only [Act.put, List.setIfInBounds_toArray, List.set_cons_zero, List.set_cons_succ])
              refine wpAnyH_take (i := 6) (v := ?_) (by rw [List.getElem?_toArray]; rfl) (by kernel_rfl) (by kernel_rfl) (by kernel_rfl) (fun _ _ _ h => h) (Or.inl ⟨by rfl, ?_⟩) (by assumption) ?_
              rotate_left
              focus (intro wS hSw; (try dsimp only at hSw); go_simp; (try with_reducible rfl)); done
              (try simp only [Act.put, List.setIfInBounds_toArray, List.set_cons_zero, List.set_cons_succ])
              refine wpAnyH_ready (rs := [7]) (by kernel_rfl) (by simp) ?_
              refine AllReadyH.cons (by rw [List.getElem?_toArray]; rfl) (fun K hK => ?_) AllReadyH.nil
              go_simp
              skip
              refine hK.out _ _ ?_ (fun hHeld => ?_)
              focus (first | exact trivial | ((try dsimp only); (exact trivial))); done
              clear hK K
              (try simp only [Act.put, List.setIfInBounds_toArray, List.set_cons_zero, List.set_cons_succ])
              refine wpAnyH_done (by kernel_rfl) ?_ _
              refine NoPanic.normal ?_
              go_wp2
              go_roundw
              case rel => exact ⟨q, m2 + 1, c7, A7, cs ++ [(kk, oo, rr, bb)], by omega, by go_num, TX.set 2 _, by (repeat (first | (with_reducible assumption) | (with_reducible refine Blk.drew ?_) | (with_reducible refine Blk.other ?_ (by first | (simp; done) | (simp; omega) | omega) _) | (with_reducible refine Blk.alloc ?_ _))), ox.set (p := ⟨w1.heap.size, 2, none⟩) (.inl (by show w1.heap.size < w2.heap.size; omega)) _, by rw [caps_append, caps_cons, caps_nil, List.append_nil]; exact (o7.set (p := ⟨w1.heap.size, 2, none⟩) (.inl (by show w1.heap.size < w3.heap.size; omega)) _).mono (Nat.le_refl _) (by simp), Lib.hid (by rw [List.length_append, hl2.out]; rfl), by omega, Lib.hid (ckOk_add hck.out hcap.out.1 hcap.out.2), (by (repeat (first | (with_reducible assumption) | (with_reducible refine Rdr.drew ?_) | (with_reducible refine Rdr.set ?_ (by first | (simp; done) | (simp; omega) | omega) _) | (with_reducible refine Rdr.alloc ?_ _))) : Rdr _ g (N + 43 - 12 * (q + 1) + 12)).mono (by omega), by (repeat (first | (with_reducible assumption) | (with_reducible refine Fr.drew ?_) | (with_reducible exact Fr.refl _ _ _) | (with_reducible refine Fr.setOut ?_ (by first | (simp; done) | (simp; omega) | omega) _) | (with_reducible refine Fr.alloc ?_ _))), by simp; omega⟩
              case measure => simp [intOf]
            · go_simp
              skip
              refine hK.out _ _ ?_ (fun hHeld => ?_)
              focus (first | exact trivial | ((try dsimp only); (exact trivial))); done
              clear hK K
              (try simp only [Act.put, List.setIfInBounds_toArray, List.set_cons_zero, List.set_cons_succ])
              refine wpAnyH_ready (rs := [1]) (by kernel_rfl) (by simp) ?_
              refine AllReadyH.cons (by rw [List.getElem?_toArray]; rfl) (fun K hK => ?_) AllReadyH.nil
              go_simp
              skip
              refine hK.out _ _ ?_ (fun hHeld => ?_)
              focus (first | exact trivial | ((try dsimp only); (exact trivial))); done
              clear hK K
              (try simp only [Act.put, List.setIfInBounds_toArray, List.set_cons_zero, List.set_cons_succ])
              refine wpAnyH_ready (rs := [5]) (by kernel_rfl) (by simp) ?_
              refine AllReadyH.cons (by rw [List.getElem?_toArray]; rfl) (fun K hK => ?_) AllReadyH.nil
              refine step_app _ rfl (.tmp 31) (.tmp 34) 28 rfl 45 j0 (capv 0 0 0 0) 4 32 Try.underlying28 hj0 hy0 hy1 hy2 rfl (by omega) w3.heap.size w4.heap.size w4.heap.size (w4.heap.size + 1) D (some ⟨w4.heap.size, 0, none⟩) m2 d 1 1 (caps cs) (capC (kk, oo, rr, bb)) rfl rfl (by (repeat (first | (with_reducible assumption) | (with_reducible refine Own.alloc ?_ _) | (with_reducible refine Own.drew ?_) | (with_reducible refine Own.set ?_ (by first | (simp; done) | (simp; omega) | omega) _)))) (cap_new (w4.drew) w4.heap.size 45 rfl (kk, oo, rr, bb)) hone (by unfold maxLen; omega) (by omega) (by (try simp) <;> omega) ?_; intro A7 c7 w7 o7 f7; have z7 := f7.size; (try simp at z7); replace TX := Blk.fr (by (repeat (first | (with_reducible assumption) | (with_reducible refine Blk.drew ?_) | (with_reducible refine Blk.other ?_ (by first | (simp; done) | (simp; omega) | omega) _) | (with_reducible refine Blk.alloc ?_ _))) : Blk _ w1.heap.size 30 #[.int .i64 v1, .slice A m c, .slice D m2 d]) f7 (.inl (by omega)); replace TR := Blk.fr (by (repeat (first | (with_reducible assumption) | (with_reducible refine Blk.drew ?_) | (with_reducible refine Blk.other ?_ (by first | (simp; done) | (simp; omega) | omega) _) | (with_reducible refine Blk.alloc ?_ _))) : Blk _ w.heap.size 30 #[.int .i64 0, .slice none 0 0, .slice none 0 0]) f7 (.inl (by omega)); replace ox := Own.fr (by (repeat (first | (with_reducible assumption) | (with_reducible refine Own.alloc ?_ _) | (with_reducible refine Own.drew ?_) | (with_reducible refine Own.set ?_ (by first | (simp; done) | (simp; omega) | omega) _))) : Own _ w2.heap.size w3.heap.size 3 1 A m c (ints xs)) f7 (.inl (Nat.le_refl _)); have hr7 := Rdr.fr (g := g) (N := N + 43 - 12 * (q + 1) + 12) (by (repeat (first | (with_reducible assumption) | (with_reducible refine Rdr.drew ?_) | (with_reducible refine Rdr.set ?_ (by first | (simp; done) | (simp; omega) | omega) _) | (with_reducible refine Rdr.alloc ?_ _)))) f7 (.inl (by omega)) (by omega); replace hf := Fr.own (by (repeat (first | (with_reducible assumption) | (with_reducible refine Fr.drew ?_) | (with_reducible exact Fr.refl _ _ _) | (with_reducible refine Fr.setOut ?_ (by first | (simp; done) | (simp; omega) | omega) _) | (with_reducible refine Fr.alloc ?_ _))) : Fr g (g + 1) w _) (f7.wide (B' := w.heap.size) (by omega) (Nat.le_refl _)); clear x2 xf f7 lX lR hr4 hone; have x2 := TX.cell 2 rfl; have xf := TX.free; have lX := TX.lt; have lR := TR.lt
              refine hK.out _ _ ?_ (fun hHeld => ?_)
              focus (first | exact trivial | ((try dsimp only); (exact trivial))); done
              clear hK K
              (try simp only [Act.put, List.setIfInBounds_toArray, List.set_cons_zero, List.set_cons_succ])
              refine wpAnyH_take (i := 6) (v := ?_) (by rw [List.getElem?_toArray]; rfl) (by kernel_rfl) (by kernel_rfl) (by kernel_rfl) (fun _ _ _ h => h) (Or.inl ⟨by rfl, ?_⟩) (by assumption) ?_
              rotate_left
              focus (intro wS hSw; (try dsimp only at hSw); go_simp; (try with_reducible rfl)); done
              (try simp only [Act.put, List.setIfInBounds_toArray, List.set_cons_zero, List.set_cons_succ])
              refine wpAnyH_ready (rs := [7]) (by kernel_rfl) (by simp) ?_
              refine AllReadyH.cons (by rw [List.getElem?_toArray]; rfl) (fun K hK => ?_) AllReadyH.nil
              go_simp
              skip
              refine hK.out _ _ ?_ (fun hHeld => ?_)
              focus (first | exact trivial | ((try dsimp only); (exact trivial))); done
              clear hK K
              (try simp only [Act.put, List.setIfInBounds_toArray, List.set_cons_zero, List.set_cons_succ])
              refine wpAnyH_done (by kernel_rfl) ?_ _
              refine NoPanic.normal ?_
              go_wp2
              go_roundw
              case rel => exact ⟨q, m2 + 1, c7, A7, cs ++ [(kk, oo, rr, bb)], by omega, by go_num, TX.set 2 _, by (repeat (first | (with_reducible assumption) | (with_reducible refine Blk.drew ?_) | (with_reducible refine Blk.other ?_ (by first | (simp; done) | (simp; omega) | omega) _) | (with_reducible refine Blk.alloc ?_ _))), ox.set (p := ⟨w1.heap.size, 2, none⟩) (.inl (by show w1.heap.size < w2.heap.size; omega)) _, by rw [caps_append, caps_cons, caps_nil, List.append_nil]; exact (o7.set (p := ⟨w1.heap.size, 2, none⟩) (.inl (by show w1.heap.size < w3.heap.size; omega)) _).mono (Nat.le_refl _) (by simp), Lib.hid (by rw [List.length_append, hl2.out]; rfl), by omega, Lib.hid (ckOk_add hck.out hcap.out.1 hcap.out.2), (by (repeat (first | (with_reducible assumption) | (with_reducible refine Rdr.drew ?_) | (with_reducible refine Rdr.set ?_ (by first | (simp; done) | (simp; omega) | omega) _) | (with_reducible refine Rdr.alloc ?_ _))) : Rdr _ g (N + 43 - 12 * (q + 1) + 12)).mono (by omega), by (repeat (first | (with_reducible assumption) | (with_reducible refine Fr.drew ?_) | (with_reducible exact Fr.refl _ _ _) | (with_reducible refine Fr.setOut ?_ (by first | (simp; done) | (simp; omega) | omega) _) | (with_reducible refine Fr.alloc ?_ _))), by simp; omega⟩
              case measure => simp [intOf]
        | zero =>
          have HM := Lib.hid (msg_drawn (l := v1) (by omega) (by omega) hw.out hck.out (by rw [hl.out]; omega) (by rw [hl2.out]; omega))
          go_wp2_with fail
          refine (oddz_any g _ n _ hrd (by omega) hn).mono ?_
          rintro e w4 ⟨b4, rfl, hz4, hr4, f4⟩
          have z4 := f4.size
          have lt4 := hr4.lt
          replace TX := TX.fr f4 (.inr (by omega))
          replace TR := TR.fr f4 (.inr (by omega))
          replace ox := ox.fr f4 (.inr (by omega))
          replace oc := (oc.fr f4 (.inr (by omega))).mono (B' := w3.heap.size) (T' := w4.heap.size) (Nat.le_refl _) (by omega)
          have F4 := hf.trans f4
          have hr4' := hr4.mono (show _ ≤ N + 44 by omega)
          have hm3 : m2 ≤ 3 := by omega
          clear hf f4 hrd lX lR hw hck hk hmk hr4 hv1 ul1
          go_upto_if 39 with (fail)
          go_cut [] (fun wx => CutG w g (N + 46) w1.heap.size n wx)
          case first =>
            cases b4
            · have hr9 := hr4'.mono (show _ ≤ N + 46 by omega)
              clear hr4'
              go_wp2_with fail
              go_meet
              exact ⟨v1, A, m, c, D, m2, d, xs, cs, TX, by (repeat (first | (with_reducible assumption) | (with_reducible refine Blk.drew ?_) | (with_reducible refine Blk.other ?_ (by first | (simp; done) | (simp; omega) | omega) _) | (with_reducible refine Blk.alloc ?_ _))), Own.mono (B := w2.heap.size) (T := w3.heap.size) (by (repeat (first | (with_reducible assumption) | (with_reducible refine Own.alloc ?_ _) | (with_reducible refine Own.drew ?_) | (with_reducible refine Own.set ?_ (by first | (simp; done) | (simp; omega) | omega) _)))) (by omega) (by first | omega | (simp; done) | (simp; omega)), Own.mono (B := w3.heap.size) (T := w4.heap.size) (by (repeat (first | (with_reducible assumption) | (with_reducible refine Own.alloc ?_ _) | (with_reducible refine Own.drew ?_) | (with_reducible refine Own.set ?_ (by first | (simp; done) | (simp; omega) | omega) _)))) (by omega) (by first | omega | (simp; done) | (simp; omega)), hl, hl2, by omega, by omega, Lib.hid (fun _ => HM.out), by (repeat (first | (with_reducible assumption) | (with_reducible refine Rdr.drew ?_) | (with_reducible refine Rdr.set ?_ (by first | (simp; done) | (simp; omega) | omega) _) | (with_reducible refine Rdr.alloc ?_ _))), by (repeat (first | (with_reducible assumption) | (with_reducible refine Fr.drew ?_) | (with_reducible exact Fr.refl _ _ _) | (with_reducible refine Fr.setOut ?_ (by first | (simp; done) | (simp; omega) | omega) _) | (with_reducible refine Fr.alloc ?_ _)))⟩
            · have hn0 : Hid (¬ n ≤ 0) := Lib.hid (fun h => by cases hz4 h)
              clear HM hz4
              go_wp2_with fail
              refine (pick_any _ _ (4) _ hr4' (by omega) (by omega)).mono ?_
              rintro e w5 ⟨v5, rfl, hv5, ul5, -, hr5, f5⟩
              replace ul5 := ul5 (by omega)
              have z5 := f5.size
              have lt5 := hr5.lt
              replace TX := TX.fr f5 (.inr (by omega))
              replace TR := TR.fr f5 (.inr (by omega))
              replace ox := ox.fr f5 (.inr (by omega))
              replace oc := oc.fr f5 (.inr (by omega))
              have F5 := F4.trans f5
              have hvv : v5 = 0 ∨ v5 = 1 ∨ v5 = 2 ∨ v5 = 3 := by omega
              have lX := TX.lt
              have lR := TR.lt
              clear F4 f5 hr4' hv5 ul5
              rcases hvv with rfl | rfl | rfl | rfl
              · skip
                go_wp2_with fail
                refine (pick_any _ _ (2) _ (hr5.alloc _) (by omega) (by omega)).mono ?_
                rintro e w6 ⟨v6, rfl, hv6, ul6, -, hr6, f6⟩
                replace ul6 := ul6 (by omega)
                have z6 := f6.size
                have lt6 := hr6.lt
                simp at z6
                have F6 := Fr.trans (by (repeat (first | (with_reducible assumption) | (with_reducible refine Fr.drew ?_) | (with_reducible exact Fr.refl _ _ _) | (with_reducible refine Fr.setOut ?_ (by first | (simp; done) | (simp; omega) | omega) _) | (with_reducible refine Fr.alloc ?_ _))) : Fr g (g + 1) w (w5.alloc (.cells #[.int .i64 (-1), .int .i64 10000] 3))) f6
                replace TX := (TX.alloc (.cells #[.int .i64 (-1), .int .i64 10000] 3)).fr f6 (.inr (by omega))
                replace TR := (TR.alloc (.cells #[.int .i64 (-1), .int .i64 10000] 3)).fr f6 (.inr (by omega))
                replace ox := (ox.alloc (.cells #[.int .i64 (-1), .int .i64 10000] 3)).fr f6 (.inr (by omega))
                replace oc := (oc.alloc (.cells #[.int .i64 (-1), .int .i64 10000] 3)).fr f6 (.inr (by omega))
                obtain ⟨q, rfl⟩ := Int.eq_ofNat_of_zero_le hv6
                have hq : q < 2 := by omega
                obtain ⟨z, hz⟩ := ld2 (-1) 10000 hq
                have c0 := ((Blk.new w5 3 #[.int .i64 (-1), .int .i64 10000]).fr f6 (.inr (by omega))).cell q hz
                have x0 := TX.cell 0 rfl
                have xf := TX.free
                have hr9 := hr6.mono (show _ ≤ N + 46 by omega)
                clear hz f6 hv6 hr6 hr5 F5 lX lR
                go_wp2_with fail
                go_meet
                exact ⟨z, A, m, c, D, m2, d, xs, cs, TX.set 0 _, by (repeat (first | (with_reducible assumption) | (with_reducible refine Blk.drew ?_) | (with_reducible refine Blk.other ?_ (by first | (simp; done) | (simp; omega) | omega) _) | (with_reducible refine Blk.alloc ?_ _))), Own.mono (B := w2.heap.size) (T := w3.heap.size) (by (repeat (first | (with_reducible assumption) | (with_reducible refine Own.alloc ?_ _) | (with_reducible refine Own.drew ?_) | (with_reducible refine Own.set ?_ (by first | (simp; done) | (simp; omega) | omega) _)))) (by omega) (by first | omega | (simp; done) | (simp; omega)), Own.mono (B := w3.heap.size) (T := w4.heap.size) (by (repeat (first | (with_reducible assumption) | (with_reducible refine Own.alloc ?_ _) | (with_reducible refine Own.drew ?_) | (with_reducible refine Own.set ?_ (by first | (simp; done) | (simp; omega) | omega) _)))) (by omega) (by first | omega | (simp; done) | (simp; omega)), hl, hl2, by omega, by omega, Lib.hid (fun h => absurd h (by have := hn0.out; omega)), by (repeat (first | (with_reducible assumption) | (with_reducible refine Rdr.drew ?_) | (with_reducible refine Rdr.set ?_ (by first | (simp; done) | (simp; omega) | omega) _) | (with_reducible refine Rdr.alloc ?_ _))), by (repeat (first | (with_reducible assumption) | (with_reducible refine Fr.drew ?_) | (with_reducible exact Fr.refl _ _ _) | (with_reducible refine Fr.setOut ?_ (by first | (simp; done) | (simp; omega) | omega) _) | (with_reducible refine Fr.alloc ?_ _)))⟩
              · have x1 := TX.cell 1 rfl
                have xf := TX.free
                have hr9 := hr5.mono (show _ ≤ N + 46 by omega)
                clear hr5
                go_wp2_with (at_make; refine wpList_mk _ rfl _ _ 22 rfl 3 i0 (.int .i64 0) 1 Try.underlying22 hi0 hz0 hz1 _ _ _ _ 9 rfl rfl rfl rfl (by rw [hz2]; omega) (by unfold maxLen; omega) ?_; intro w6 hown hb6 hs6; rw [made_ints] at hown; replace TX := TX.below hb6; replace TR := TR.below hb6; replace oc := oc.below hb6; replace hr9 := hr9.below hb6; replace F5 := F5.trans (Fr.of_below hb6 _ _); clear x1 xf hb6 ox; have x1 := TX.cell 1 rfl; have xf := TX.free)
                go_meet
                exact ⟨v1, some ⟨w5.heap.size, 0, none⟩, 9, 9, D, m2, d, List.replicate 9 0, cs, TX.set 1 _, by (repeat (first | (with_reducible assumption) | (with_reducible refine Blk.drew ?_) | (with_reducible refine Blk.other ?_ (by first | (simp; done) | (simp; omega) | omega) _) | (with_reducible refine Blk.alloc ?_ _))), Own.mono (B := w5.heap.size) (T := w5.heap.size + 1) (by (repeat (first | (with_reducible assumption) | (with_reducible refine Own.alloc ?_ _) | (with_reducible refine Own.drew ?_) | (with_reducible refine Own.set ?_ (by first | (simp; done) | (simp; omega) | omega) _)))) (by omega) (by simp; omega), Own.mono (B := w3.heap.size) (T := w4.heap.size) (by (repeat (first | (with_reducible assumption) | (with_reducible refine Own.alloc ?_ _) | (with_reducible refine Own.drew ?_) | (with_reducible refine Own.set ?_ (by first | (simp; done) | (simp; omega) | omega) _)))) (by omega) (by simp; omega), Lib.hid (by simp), hl2, by omega, by omega, Lib.hid (fun h => absurd h (by have := hn0.out; omega)), by (repeat (first | (with_reducible assumption) | (with_reducible refine Rdr.drew ?_) | (with_reducible refine Rdr.set ?_ (by first | (simp; done) | (simp; omega) | omega) _) | (with_reducible refine Rdr.alloc ?_ _))), by (repeat (first | (with_reducible assumption) | (with_reducible refine Fr.drew ?_) | (with_reducible exact Fr.refl _ _ _) | (with_reducible refine Fr.setOut ?_ (by first | (simp; done) | (simp; omega) | omega) _) | (with_reducible refine Fr.alloc ?_ _)))⟩
              · have x2 := TX.cell 2 rfl
                have xf := TX.free
                have hr9 := hr5.mono (show _ ≤ N + 46 by omega)
                have hone := caps_one [((0, 0, 0, 0) : Cp)]
                rw [caps_cons, caps_nil, List.append_nil] at hone
                clear hr5
                go_wp2_with (at_builtin; refine wpList_app _ rfl (.tmp 62) (.tmp 64) 28 rfl 45 j0 (capv 0 0 0 0) 4 32 Try.underlying28 hj0 hy0 hy1 hy2 rfl (by omega) w3.heap.size w4.heap.size w5.heap.size (w5.heap.size + 1) D (some ⟨w5.heap.size, 0, none⟩) m2 d 1 1 (caps cs) (capC (0, 0, 0, 0)) rfl rfl (oc.alloc _) (cap_new w5 w5.heap.size 45 rfl (0, 0, 0, 0)) hone (by unfold maxLen; omega) (by omega) (by first | omega | (simp; omega)) ?_; intro A7 c7 w7 o7 f7; have z7 := f7.size; (try simp at z7); replace TX := (TX.alloc (.cells #[.int .i64 0, .int .i64 0, .int .i64 0, .int .i64 0] 45)).fr f7 (.inl (by omega)); replace TR := (TR.alloc (.cells #[.int .i64 0, .int .i64 0, .int .i64 0, .int .i64 0] 45)).fr f7 (.inl (by omega)); replace ox := (ox.alloc (.cells #[.int .i64 0, .int .i64 0, .int .i64 0, .int .i64 0] 45)).fr f7 (.inl (by omega)); replace hr9 := (hr9.alloc (.cells #[.int .i64 0, .int .i64 0, .int .i64 0, .int .i64 0] 45)).fr f7 (.inl (by omega)) (by omega); replace F5 := Fr.own (by (repeat (first | (with_reducible assumption) | (with_reducible refine Fr.drew ?_) | (with_reducible exact Fr.refl _ _ _) | (with_reducible refine Fr.setOut ?_ (by first | (simp; done) | (simp; omega) | omega) _) | (with_reducible refine Fr.alloc ?_ _))) : Fr g (g + 1) w (w5.alloc (.cells #[.int .i64 0, .int .i64 0, .int .i64 0, .int .i64 0] 45))) (f7.wide (B' := w.heap.size) (by omega) (Nat.le_refl _)); clear x2 xf f7 oc hone; have x2 := TX.cell 2 rfl; have xf := TX.free)
                go_meet
                exact ⟨v1, A, m, c, A7, m2 + 1, c7, xs, cs ++ [(0, 0, 0, 0)], TX.set 2 _, by (repeat (first | (with_reducible assumption) | (with_reducible refine Blk.drew ?_) | (with_reducible refine Blk.other ?_ (by first | (simp; done) | (simp; omega) | omega) _) | (with_reducible refine Blk.alloc ?_ _))), Own.mono (B := w2.heap.size) (T := w3.heap.size) (by (repeat (first | (with_reducible assumption) | (with_reducible refine Own.alloc ?_ _) | (with_reducible refine Own.drew ?_) | (with_reducible refine Own.set ?_ (by first | (simp; done) | (simp; omega) | omega) _)))) (by omega) (by simp; omega), by rw [caps_append, caps_cons, caps_nil, List.append_nil]; exact Own.mono (B := w3.heap.size) (T := w7.heap.size) (by (repeat (first | (with_reducible assumption) | (with_reducible refine Own.alloc ?_ _) | (with_reducible refine Own.drew ?_) | (with_reducible refine Own.set ?_ (by first | (simp; done) | (simp; omega) | omega) _)))) (by omega) (by simp), hl, Lib.hid (by rw [List.length_append, hl2.out]; rfl), by omega, by omega, Lib.hid (fun h => absurd h (by have := hn0.out; omega)), by (repeat (first | (with_reducible assumption) | (with_reducible refine Rdr.drew ?_) | (with_reducible refine Rdr.set ?_ (by first | (simp; done) | (simp; omega) | omega) _) | (with_reducible refine Rdr.alloc ?_ _))), by (repeat (first | (with_reducible assumption) | (with_reducible refine Fr.drew ?_) | (with_reducible exact Fr.refl _ _ _) | (with_reducible refine Fr.setOut ?_ (by first | (simp; done) | (simp; omega) | omega) _) | (with_reducible refine Fr.alloc ?_ _)))⟩
              · have x1 := TX.cell 1 rfl
                have xf := TX.free
                have hr9 := hr5.mono (show _ ≤ N + 46 by omega)
                clear hr5
                go_wp2_with (at_builtin; refine wpList_app _ rfl (.tmp 43) (.tmp 44) 22 rfl 3 i0 (.int .i64 0) 1 8 Try.underlying22 hi0 hz0 hz1 hz2 rfl (by omega) w2.heap.size w3.heap.size w5.heap.size (w5.heap.size + 1) A (some ⟨w5.heap.size, 0, none⟩) m c 1 1 (ints xs) (ints [-1]) rfl rfl (ox.alloc _) (Own.new (e := 3) (size := 1) w5 #[.int .i64 (-1)] 1 (by unfold maxLen; omega) rfl).rd (ints_one _) (by unfold maxLen; omega) (by omega) (by first | omega | (simp; omega)) ?_; intro A7 c7 w7 o7 f7; have z7 := f7.size; (try simp at z7); replace TX := (TX.alloc (.cells #[.int .i64 (-1)] 3)).fr f7 (.inl (by omega)); replace TR := (TR.alloc (.cells #[.int .i64 (-1)] 3)).fr f7 (.inl (by omega)); replace oc := (oc.alloc (.cells #[.int .i64 (-1)] 3)).fr f7 (.inr (Nat.le_refl _)); replace hr9 := (hr9.alloc (.cells #[.int .i64 (-1)] 3)).fr f7 (.inl (by omega)) (by omega); replace F5 := Fr.own (by (repeat (first | (with_reducible assumption) | (with_reducible refine Fr.drew ?_) | (with_reducible exact Fr.refl _ _ _) | (with_reducible refine Fr.setOut ?_ (by first | (simp; done) | (simp; omega) | omega) _) | (with_reducible refine Fr.alloc ?_ _))) : Fr g (g + 1) w (w5.alloc (.cells #[.int .i64 (-1)] 3))) (f7.wide (B' := w.heap.size) (by omega) (Nat.le_refl _)); clear x1 xf f7 ox; have x1 := TX.cell 1 rfl; have xf := TX.free)
                go_meet
                exact ⟨v1, A7, m + 1, c7, D, m2, d, xs ++ [-1], cs, TX.set 1 _, by (repeat (first | (with_reducible assumption) | (with_reducible refine Blk.drew ?_) | (with_reducible refine Blk.other ?_ (by first | (simp; done) | (simp; omega) | omega) _) | (with_reducible refine Blk.alloc ?_ _))), by rw [ints_append]; exact Own.mono (B := w2.heap.size) (T := w7.heap.size) (by (repeat (first | (with_reducible assumption) | (with_reducible refine Own.alloc ?_ _) | (with_reducible refine Own.drew ?_) | (with_reducible refine Own.set ?_ (by first | (simp; done) | (simp; omega) | omega) _)))) (by omega) (by simp), Own.mono (B := w3.heap.size) (T := w4.heap.size) (by (repeat (first | (with_reducible assumption) | (with_reducible refine Own.alloc ?_ _) | (with_reducible refine Own.drew ?_) | (with_reducible refine Own.set ?_ (by first | (simp; done) | (simp; omega) | omega) _)))) (by omega) (by simp; omega), Lib.hid (by rw [List.length_append, hl.out]; rfl), hl2, by omega, by omega, Lib.hid (fun h => absurd h (by have := hn0.out; omega)), by (repeat (first | (with_reducible assumption) | (with_reducible refine Rdr.drew ?_) | (with_reducible refine Rdr.set ?_ (by first | (simp; done) | (simp; omega) | omega) _) | (with_reducible refine Rdr.alloc ?_ _))), by (repeat (first | (with_reducible assumption) | (with_reducible refine Fr.drew ?_) | (with_reducible exact Fr.refl _ _ _) | (with_reducible refine Fr.setOut ?_ (by first | (simp; done) | (simp; omega) | omega) _) | (with_reducible refine Fr.alloc ?_ _)))⟩
          case rest =>
            clear TX TR ox oc F4 hr4' hz4 HM hl hl2 zq zr z4
            obtain ⟨l, A', m', c', D', m2', d', ys, ds, TX, TR, ox, oc, hl, hl2, hm9, hm4', hok, hrx, FX⟩ := hcut
            have lX := TX.lt
            have lR := TR.lt
            have zx := FX.size
            have x0 : wc.cell? ⟨w1.heap.size, 0, none⟩ = some (.int .i64 l) := TX.cell 0 rfl
            have x1 : wc.cell? ⟨w1.heap.size, 1, none⟩ = some (.slice A' m' c') := TX.cell 1 rfl
            have x2 : wc.cell? ⟨w1.heap.size, 2, none⟩ = some (.slice D' m2' d') := TX.cell 2 rfl
            have r0 : wc.cell? ⟨w.heap.size, 0, none⟩ = some (.int .i64 0) := TR.cell 0 rfl
            have r1 : wc.cell? ⟨w.heap.size, 1, none⟩ = some (.slice none 0 0) := TR.cell 1 rfl
            have r2 : wc.cell? ⟨w.heap.size, 2, none⟩ = some (.slice none 0 0) := TR.cell 2 rfl
            have rf := TR.free
            clear TX TR
            go_wp2
            refine bodyPost_ret (v := msg l A' m' c' D' m2' d') (by simp [results, Try.results62, go_sem, *]) rfl ⟨l, A', c', D', d', ys, ds, by rw [hl.out, hl2.out], ?_, ?_, by rw [hl.out]; omega, by rw [hl2.out]; omega, hok.out, by (repeat (first | (with_reducible assumption) | (with_reducible refine Rdr.drew ?_) | (with_reducible refine Rdr.set ?_ (by first | (simp; done) | (simp; omega) | omega) _) | (with_reducible refine Rdr.alloc ?_ _))), by (repeat (first | (with_reducible assumption) | (with_reducible refine Fr.drew ?_) | (with_reducible exact Fr.refl _ _ _) | (with_reducible refine Fr.setOut ?_ (by first | (simp; done) | (simp; omega) | omega) _) | (with_reducible refine Fr.alloc ?_ _)))⟩
            · rw [hl.out]; exact Rd.mono (B := w.heap.size + 1) (T := wc.heap.size) (Own.rd (e := 3) (c := c') (by (repeat (first | (with_reducible assumption) | (with_reducible refine Own.alloc ?_ _) | (with_reducible refine Own.drew ?_) | (with_reducible refine Own.set ?_ (by first | (simp; done) | (simp; omega) | omega) _))))) (by omega) (by simp)
            · rw [hl2.out]; exact Rd.mono (B := w.heap.size + 1) (T := wc.heap.size) (Own.rd (e := 45) (c := d') (by (repeat (first | (with_reducible assumption) | (with_reducible refine Own.alloc ?_ _) | (with_reducible refine Own.drew ?_) | (with_reducible refine Own.set ?_ (by first | (simp; done) | (simp; omega) | omega) _))))) (by omega) (by simp)
end Go.Proofs.Ythbfpgdfigilaaa
