/- Contracts of the draws of notification objects. -/
import Derived.Test.YtcdbamaifdabnaaNotice1
import Derived.Test.YtcdbamaifdabnaaDrawCalls
import Derived.Deep.Cut
import Derived.Deep.DeepCutAuto
namespace Go.Proofs.Ytcdbamaifdabnaa
set_option linter.unusedVariables false
open Go.RowKit
/-- A drawn notification object; the reader in block g has gone on. -/
def DrawnNoticeR (w : World) (g N : Nat) (e : Ending) (w' : World) : Prop :=
  ∃ (b : Int) (A : Option Addr) (c : Nat) (xs : List Int), e = .returned (notice b A xs.length c) ∧ Own w' w.heap.size w'.heap.size 3 1 A xs.length c (ints xs) ∧ xs.length ≤ 10 ∧ Rdr w' g N ∧ Fr g (g + 1) w w'
def CutN (w : World) (g N : Nat) (wx : World) : Prop :=
  ∃ (b : Int) (A : Option Addr) (c : Nat) (xs : List Int), Blk wx (w.heap.size + 1) 27 #[.int .i64 b, .slice A xs.length c] ∧ Blk wx w.heap.size 27 #[.int .i64 0, .slice none 0 0] ∧ Own wx (w.heap.size + 1 + 1) wx.heap.size 3 1 A xs.length c (ints xs) ∧ xs.length ≤ 8 ∧ Rdr wx g N ∧ Fr g (g + 1) w wx
set_option maxHeartbeats 4000000 in
theorem l20Notice_any (g N : Nat) (n : Int) (w : World) (hr : Rdr w g N) (hN : N ≤ 100000) (hn : n ≤ 4611686018427387904) :
    Calls Try.prog 44 #[.pointer (some ⟨g, 0, none⟩), .int .i64 n] w (DrawnNoticeR w g (N + 12)) := by
  obtain ⟨i0, hi0, hz0, hz1, hz2⟩ := info_parts Try.infoInt
  have hgl := hr.lt
  go_enter Try.func44, Try.ntmps44
  go_wp2_with fail
  refine (pick_any _ _ (2) _ ((hr.alloc _).alloc _) (by omega) (by omega)).mono ?_
  rintro e w1 ⟨v1, rfl, hv1, ul1, -, hr1, f1⟩
  replace ul1 := ul1 (by omega)
  have z1 := f1.size
  have lt1 := hr1.lt
  simp at z1
  have TR := ((Blk.new w 27 #[.int .i64 0, .slice none 0 0]).alloc (.cells #[.int .i64 0, .slice none 0 0] 27)).fr f1 (.inr (by omega))
  have TX := (Blk.newAt (w := w.alloc (.cells #[.int .i64 0, .slice none 0 0] 27)) (n := w.heap.size + 1) 27 #[.int .i64 0, .slice none 0 0] (by simp)).fr f1 (.inr (by omega))
  have F1 := Fr.trans (by (repeat (first | (with_reducible assumption) | (with_reducible refine Fr.drew ?_) | (with_reducible exact Fr.refl _ _ _) | (with_reducible refine Fr.setOut ?_ (by first | (simp; done) | (simp; omega) | omega) _) | (with_reducible refine Fr.alloc ?_ _))) : Fr g (g + 1) w _) f1
  have hvv : v1 = 0 ∨ v1 = 1 := by omega
  clear hv1 ul1 f1 hr
  go_upto_if 9 with (fail)
  go_cut [] (fun wx => CutN w g (N + 9) wx)
  case first =>
    rcases hvv with rfl | rfl
    · skip
      go_wp2_with fail
      refine (pick_any _ _ (256) _ hr1 (by omega) (by omega)).mono ?_
      rintro e w2 ⟨v2, rfl, hv2, ul2, -, hr2, f2⟩
      replace ul2 := ul2 (by omega)
      have z2 := f2.size
      have lt2 := hr2.lt
      have TX2 := TX.fr f2 (.inr (by omega))
      have TR2 := TR.fr f2 (.inr (by omega))
      have F2 := F1.trans f2
      obtain ⟨x0, x1⟩ := TX2.two
      have xf := TX2.free
      have hr3 := hr2.mono (show _ ≤ N + 9 by omega)
      clear TX TR F1 hr1 hr2 f2
      go_wp2_with fail
      go_meet
      exact ⟨v2, none, 0, [], TX2.set 0 _, by (repeat (first | (with_reducible assumption) | (with_reducible refine Blk.drew ?_) | (with_reducible refine Blk.other ?_ (by first | (simp; done) | (simp; omega) | omega) _) | (with_reducible refine Blk.alloc ?_ _))), Own.nil _ _ _ _ _ _, by simp, by (repeat (first | (with_reducible assumption) | (with_reducible refine Rdr.drew ?_) | (with_reducible refine Rdr.set ?_ (by first | (simp; done) | (simp; omega) | omega) _) | (with_reducible refine Rdr.alloc ?_ _))), by (repeat (first | (with_reducible assumption) | (with_reducible refine Fr.drew ?_) | (with_reducible exact Fr.refl _ _ _) | (with_reducible refine Fr.setOut ?_ (by first | (simp; done) | (simp; omega) | omega) _) | (with_reducible refine Fr.alloc ?_ _)))⟩
    · skip
      go_wp2_with fail
      refine (l20Calls_any g _ 0 _ hr1 (by omega) (by omega)).mono ?_
      rintro e w2 ⟨A2, c2, xs, rfl, o2, hl, hr2, f2⟩
      have z2 := f2.size
      have TX2 := TX.fr f2 (.inr (by omega))
      have TR2 := TR.fr f2 (.inr (by omega))
      have F2 := F1.trans f2
      obtain ⟨x0, x1⟩ := TX2.two
      have xf := TX2.free
      have hr3 := hr2.mono (show _ ≤ N + 9 by omega)
      clear TX TR F1 hr1 hr2 f2
      go_wp2_with fail
      go_meet
      exact ⟨0, A2, c2, xs, TX2.set 1 _, by (repeat (first | (with_reducible assumption) | (with_reducible refine Blk.drew ?_) | (with_reducible refine Blk.other ?_ (by first | (simp; done) | (simp; omega) | omega) _) | (with_reducible refine Blk.alloc ?_ _))), Own.mono (B := w1.heap.size) (T := w2.heap.size) (by (repeat (first | (with_reducible assumption) | (with_reducible refine Own.alloc ?_ _) | (with_reducible refine Own.drew ?_) | (with_reducible refine Own.set ?_ (by first | (simp; done) | (simp; omega) | omega) _)))) (by omega) (by simp), hl, by (repeat (first | (with_reducible assumption) | (with_reducible refine Rdr.drew ?_) | (with_reducible refine Rdr.set ?_ (by first | (simp; done) | (simp; omega) | omega) _) | (with_reducible refine Rdr.alloc ?_ _))), by (repeat (first | (with_reducible assumption) | (with_reducible refine Fr.drew ?_) | (with_reducible exact Fr.refl _ _ _) | (with_reducible refine Fr.setOut ?_ (by first | (simp; done) | (simp; omega) | omega) _) | (with_reducible refine Fr.alloc ?_ _)))⟩
  case rest =>
    clear TX TR F1 hr1 hvv
    obtain ⟨b, A, c, xs, TX, TR, ox, hl, hrx, Fx⟩ := hcut
    have zx := Fx.size
    have lX := TX.lt
    have lR := TR.lt
    go_wp2_with fail
    refine (odd_any _ _ (n) _ hrx (by omega) (by omega)).mono ?_
    rintro e w3 ⟨b3, rfl, hr3, f3⟩
    have z3 := f3.size
    have lt3 := hr3.lt
    replace TX := TX.fr f3 (.inr (by omega))
    replace TR := TR.fr f3 (.inr (by omega))
    replace ox := ox.fr f3 (.inr (by omega))
    have F3 := Fx.trans f3
    clear Fx f3 hrx lX lR
    have lX := TX.lt
    have lR := TR.lt
    cases b3
    · obtain ⟨x0, x1⟩ := TX.two
      obtain ⟨r0, r1⟩ := TR.two
      have rf := TR.free
      have hr9 := hr3.mono (show _ ≤ N + 12 by omega)
      clear TX TR hr3
      go_wp2
      refine bodyPost_ret (v := notice b A xs.length c) (by simp [results, Try.results44, go_sem, *]) rfl ⟨b, A, c, xs, by simp, Own.mono (B := w.heap.size + 1 + 1) (T := wc.heap.size) (by (repeat (first | (with_reducible assumption) | (with_reducible refine Own.alloc ?_ _) | (with_reducible refine Own.drew ?_) | (with_reducible refine Own.set ?_ (by first | (simp; done) | (simp; omega) | omega) _)))) (by omega) (by first | omega | (simp; done) | (simp; omega)), by omega, by (repeat (first | (with_reducible assumption) | (with_reducible refine Rdr.drew ?_) | (with_reducible refine Rdr.set ?_ (by first | (simp; done) | (simp; omega) | omega) _) | (with_reducible refine Rdr.alloc ?_ _))), by (repeat (first | (with_reducible assumption) | (with_reducible refine Fr.drew ?_) | (with_reducible exact Fr.refl _ _ _) | (with_reducible refine Fr.setOut ?_ (by first | (simp; done) | (simp; omega) | omega) _) | (with_reducible refine Fr.alloc ?_ _)))⟩
    · skip
      go_wp2_with fail
      refine (pick_any _ _ (3) _ hr3 (by omega) (by omega)).mono ?_
      rintro e w4 ⟨v4, rfl, hv4, ul4, -, hr4, f4⟩
      replace ul4 := ul4 (by omega)
      have z4 := f4.size
      have lt4 := hr4.lt
      replace TX := TX.fr f4 (.inr (by omega))
      replace TR := TR.fr f4 (.inr (by omega))
      replace ox := ox.fr f4 (.inr (by omega))
      have F4 := F3.trans f4
      clear F3 f4 hr3 lX lR
      have lX := TX.lt
      have lR := TR.lt
      have hvv : v4 = 0 ∨ v4 = 1 ∨ v4 = 2 := by omega
      clear hv4 ul4
      rcases hvv with rfl | rfl | rfl
      · obtain ⟨x0, x1⟩ := TX.two
        have xf := TX.free
        obtain ⟨r0, r1⟩ := TR.two
        have rf := TR.free
        go_wp2_with fail
        refine (pick_any _ _ (2) _ (hr4.alloc _) (by omega) (by omega)).mono ?_
        rintro e w5 ⟨v5, rfl, hv5, ul5, -, hr5, f5⟩
        replace ul5 := ul5 (by omega)
        have z5 := f5.size
        have lt5 := hr5.lt
        simp at z5
        have TA := (Blk.new w4 3 #[.int .i64 (-1), .int .i64 256]).fr f5 (.inr (by omega))
        replace TX := (TX.alloc (.cells #[.int .i64 (-1), .int .i64 256] 3)).fr f5 (.inr (by omega))
        replace TR := (TR.alloc (.cells #[.int .i64 (-1), .int .i64 256] 3)).fr f5 (.inr (by omega))
        replace ox := (ox.alloc (.cells #[.int .i64 (-1), .int .i64 256] 3)).fr f5 (.inr (by omega))
        have F5 := Fr.trans (by (repeat (first | (with_reducible assumption) | (with_reducible refine Fr.drew ?_) | (with_reducible exact Fr.refl _ _ _) | (with_reducible refine Fr.setOut ?_ (by first | (simp; done) | (simp; omega) | omega) _) | (with_reducible refine Fr.alloc ?_ _))) : Fr g (g + 1) w (w4.alloc (.cells #[.int .i64 (-1), .int .i64 256] 3))) f5
        clear x0 x1 xf r0 r1 rf F4 f5 hr4
        obtain ⟨x0, x1⟩ := TX.two
        have xf := TX.free
        obtain ⟨r0, r1⟩ := TR.two
        have rf := TR.free
        obtain ⟨a0, a1⟩ := TA.two
        have hr9 := hr5.mono (show _ ≤ N + 12 by omega)
        have hv6 : v5 = 0 ∨ v5 = 1 := by omega
        clear hv5 ul5 TX TR TA hr5
        rcases hv6 with rfl | rfl
        · skip
          go_wp2
          refine bodyPost_ret (v := notice (-1) A xs.length c) (by simp [results, Try.results44, go_sem, *]) rfl ⟨(-1), A, c, xs, by simp, Own.mono (B := w.heap.size + 1 + 1) (T := wc.heap.size) (by (repeat (first | (with_reducible assumption) | (with_reducible refine Own.alloc ?_ _) | (with_reducible refine Own.drew ?_) | (with_reducible refine Own.set ?_ (by first | (simp; done) | (simp; omega) | omega) _)))) (by omega) (by first | omega | (simp; done) | (simp; omega)), by omega, by (repeat (first | (with_reducible assumption) | (with_reducible refine Rdr.drew ?_) | (with_reducible refine Rdr.set ?_ (by first | (simp; done) | (simp; omega) | omega) _) | (with_reducible refine Rdr.alloc ?_ _))), by (repeat (first | (with_reducible assumption) | (with_reducible refine Fr.drew ?_) | (with_reducible exact Fr.refl _ _ _) | (with_reducible refine Fr.setOut ?_ (by first | (simp; done) | (simp; omega) | omega) _) | (with_reducible refine Fr.alloc ?_ _)))⟩
        · skip
          go_wp2
          refine bodyPost_ret (v := notice 256 A xs.length c) (by simp [results, Try.results44, go_sem, *]) rfl ⟨256, A, c, xs, by simp, Own.mono (B := w.heap.size + 1 + 1) (T := wc.heap.size) (by (repeat (first | (with_reducible assumption) | (with_reducible refine Own.alloc ?_ _) | (with_reducible refine Own.drew ?_) | (with_reducible refine Own.set ?_ (by first | (simp; done) | (simp; omega) | omega) _)))) (by omega) (by first | omega | (simp; done) | (simp; omega)), by omega, by (repeat (first | (with_reducible assumption) | (with_reducible refine Rdr.drew ?_) | (with_reducible refine Rdr.set ?_ (by first | (simp; done) | (simp; omega) | omega) _) | (with_reducible refine Rdr.alloc ?_ _))), by (repeat (first | (with_reducible assumption) | (with_reducible refine Fr.drew ?_) | (with_reducible exact Fr.refl _ _ _) | (with_reducible refine Fr.setOut ?_ (by first | (simp; done) | (simp; omega) | omega) _) | (with_reducible refine Fr.alloc ?_ _)))⟩
      · obtain ⟨x0, x1⟩ := TX.two
        have xf := TX.free
        obtain ⟨r0, r1⟩ := TR.two
        have rf := TR.free
        have hr9 := hr4.mono (show _ ≤ N + 12 by omega)
        clear TX TR hr4
        have hsz : ((((w4.setCell ⟨w.heap.size + 1, 0, none⟩ (.int .i64 1)).setCell ⟨w.heap.size + 1, 1, none⟩ (.slice (some ⟨w4.heap.size, 0, none⟩) 1 1)).setCell ⟨w.heap.size, 0, none⟩ (.int .i64 1)).setCell ⟨w.heap.size, 1, none⟩ (.slice (some ⟨w4.heap.size, 0, none⟩) 1 1)).heap.size = w4.heap.size := by simp
        have oN := Own.new (e := 3) (size := 1) ((((w4.setCell ⟨w.heap.size + 1, 0, none⟩ (.int .i64 1)).setCell ⟨w.heap.size + 1, 1, none⟩ (.slice (some ⟨w4.heap.size, 0, none⟩) 1 1)).setCell ⟨w.heap.size, 0, none⟩ (.int .i64 1)).setCell ⟨w.heap.size, 1, none⟩ (.slice (some ⟨w4.heap.size, 0, none⟩) 1 1)) #[.int .i64 2] 1 (by unfold maxLen; omega) rfl
        rw [hsz] at oN
        change Own _ _ _ _ _ _ [(2 : Int)].length 1 (ints [2]) at oN
        clear hsz
        go_wp2
        refine bodyPost_ret (v := notice 1 (some ⟨w4.heap.size, 0, none⟩) 1 1) (by simp [results, Try.results44, go_sem, *]) rfl ⟨1, some ⟨w4.heap.size, 0, none⟩, 1, [2], by simp, Own.mono oN (by omega) (by simp), by simp, by (repeat (first | (with_reducible assumption) | (with_reducible refine Rdr.drew ?_) | (with_reducible refine Rdr.set ?_ (by first | (simp; done) | (simp; omega) | omega) _) | (with_reducible refine Rdr.alloc ?_ _))), by (repeat (first | (with_reducible assumption) | (with_reducible refine Fr.drew ?_) | (with_reducible exact Fr.refl _ _ _) | (with_reducible refine Fr.setOut ?_ (by first | (simp; done) | (simp; omega) | omega) _) | (with_reducible refine Fr.alloc ?_ _)))⟩
      · obtain ⟨x0, x1⟩ := TX.two
        have xf := TX.free
        obtain ⟨r0, r1⟩ := TR.two
        have rf := TR.free
        go_wp2_with ((at_builtin; refine wpList_appg _ (by rfl) (.tmp 22) (.tmp 23) 22 rfl 3 i0 (.int .i64 0) 1 8 Try.underlying22 hi0 hz0 hz1 hz2 rfl (by omega) (w.heap.size + 1 + 1) _ w4.heap.size (w4.heap.size + 1) A (some ⟨w4.heap.size, 0, none⟩) xs.length c 2 2 (ints xs) (ints [3, 3]) rfl rfl (ox.alloc _) (Own.new (e := 3) (size := 1) w4 #[.int .i64 (3), .int .i64 (3)] 2 (by unfold maxLen; omega) rfl).rd (ints_one _) (by unfold maxLen; omega) (by omega) (by simp; omega) ?_; intro A5 c5 w5 o5 f5; have z5 := f5.size; (try simp at z5)); replace TX := (TX.alloc (.cells #[.int .i64 (3), .int .i64 (3)] 3)).fr f5 (.inl (by omega)); replace TR := (TR.alloc (.cells #[.int .i64 (3), .int .i64 (3)] 3)).fr f5 (.inl (by omega)); clear x0 x1 xf r0 r1 rf; obtain ⟨x0, x1⟩ := TX.two; have xf := TX.free; obtain ⟨r0, r1⟩ := TR.two; have rf := TR.free)
        rw [← ints_append] at o5
        have F5 := Fr.own (by (repeat (first | (with_reducible assumption) | (with_reducible refine Fr.drew ?_) | (with_reducible exact Fr.refl _ _ _) | (with_reducible refine Fr.setOut ?_ (by first | (simp; done) | (simp; omega) | omega) _) | (with_reducible refine Fr.alloc ?_ _))) : Fr g (g + 1) w (w4.alloc (.cells #[.int .i64 (3), .int .i64 (3)] 3))) (f5.wide (B' := w.heap.size) (by omega) (Nat.le_refl _))
        have hr9 := ((hr4.alloc (.cells #[.int .i64 (3), .int .i64 (3)] 3)).fr f5 (.inl (by omega)) (by omega)).mono (show _ ≤ N + 12 by omega)
        have o9 : Own w5 (w.heap.size + 1 + 1) w5.heap.size 3 1 A5 (xs ++ [3, 3]).length c5 (ints (xs ++ [3, 3])) := by simpa using o5
        clear TX TR hr4 F4 f5 o5 ox
        go_wp2
        refine bodyPost_ret (v := notice b A5 (xs.length + 2) c5) (by simp [results, Try.results44, go_sem, *]) rfl ⟨b, A5, c5, (xs ++ [3, 3]), by simp, Own.mono (B := w.heap.size + 1 + 1) (T := w5.heap.size) (by (repeat (first | (with_reducible assumption) | (with_reducible refine Own.alloc ?_ _) | (with_reducible refine Own.drew ?_) | (with_reducible refine Own.set ?_ (by first | (simp; done) | (simp; omega) | omega) _)))) (by omega) (by first | omega | (simp; done) | (simp; omega)), by simp; omega, by (repeat (first | (with_reducible assumption) | (with_reducible refine Rdr.drew ?_) | (with_reducible refine Rdr.set ?_ (by first | (simp; done) | (simp; omega) | omega) _) | (with_reducible refine Rdr.alloc ?_ _))), by (repeat (first | (with_reducible assumption) | (with_reducible refine Fr.drew ?_) | (with_reducible exact Fr.refl _ _ _) | (with_reducible refine Fr.setOut ?_ (by first | (simp; done) | (simp; omega) | omega) _) | (with_reducible refine Fr.alloc ?_ _)))⟩
end Go.Proofs.Ytcdbamaifdabnaa
