/- Contracts of the draws of threads. -/
import Derived.Test.YtdkfiikbofamfaaBlk
import Derived.Test.YtdkfiikbofamfaaTask1
namespace Go.Proofs.Ytdkfiikbofamfaa
set_option linter.unusedVariables false
open Go.RowKit

/-- A drawn thread; the reader in block g has gone on. -/
def DrawnTaskR (w : World) (g N : Nat) (e : Ending) (w' : World) : Prop :=
  ∃ s p x : Int, e = .returned (task s p x) ∧ Rdr w' g N ∧ Fr g (g + 1) w w'
set_option maxHeartbeats 4000000 in
theorem l20Task_any (g N : Nat) (n : Int) (w : World) (hr : Rdr w g N) (hN : N ≤ 1000000) (hn : n ≤ 4611686018427387904) :
    Calls Try.prog 38 #[.pointer (some ⟨g, 0, none⟩), .int .i64 n] w (DrawnTaskR w g (N + 6)) := by
  have hgl := hr.lt
  go_enter Try.func38, Try.ntmps38
  go_wp2_with fail
  refine (pick_any _ _ (6) _ (hr.alloc _) (by omega) (by omega)).mono ?_
  rintro e w1 ⟨v1, rfl, hv1, ul1, -, hr1, f1⟩
  replace ul1 := ul1 (by omega)
  have z1 := f1.size
  have lt1 := hr1.lt
  go_wp2_with fail
  refine (pick_any _ _ (8) _ hr1 (by omega) (by omega)).mono ?_
  rintro e w2 ⟨v2, rfl, hv2, ul2, -, hr2, f2⟩
  replace ul2 := ul2 (by omega)
  have z2 := f2.size
  have lt2 := hr2.lt
  have T0 := ((Blk.new w 25 #[.int .i64 0, .int .i64 0, .int .i64 0]).fr f1 (.inr (by omega))).fr f2 (.inr (by omega))
  simp at z1
  have hR := T0.lt
  cases hw : inB v1 2 4
  · skip
    go_wp2_with fail
    refine (l1In_any _ _ _ _).mono ?_
    rintro e w3 ⟨rfl, rfl⟩
    go_wp2_with fail
    refine (odd_any _ _ (n) _ (hr2.alloc _) (by omega) (by omega)).mono ?_
    rintro e w5 ⟨b5, rfl, hr5, f5⟩
    have z5 := f5.size
    have lt5 := hr5.lt
    simp at z5
    have hT5 : ∃ x : Int, Blk w5 w2.heap.size 25 #[.int .i64 v1, .int .i64 v2, .int .i64 x] := ⟨_, (Blk.new w2 25 #[.int .i64 v1, .int .i64 v2, .int .i64 (-1)]).fr f5 (.inr (by omega))⟩
    have hR5 := (T0.alloc (.cells #[.int .i64 v1, .int .i64 v2, .int .i64 (-1)] 25)).fr f5 (.inr (by omega))
    have F5 := (((((Fr.refl g (g + 1) w).alloc _).trans f1).trans f2).alloc _).trans f5
    obtain ⟨x, hT5⟩ := hT5
    have hr5' := hr5.mono (show _ ≤ N + 4 by omega)
    clear hr5
    have hr5 := hr5'
    clear hr5' hr1 hr2 f1 f2 f5 hw hv1 ul1 hv2 ul2 T0
    cases b5
    · have t0 := hT5.cell 0 rfl
      have t1 := hT5.cell 1 rfl
      have t2 := hT5.cell 2 rfl
      have q0 := hR5.cell 0 rfl
      have q1 := hR5.cell 1 rfl
      have q2 := hR5.cell 2 rfl
      have tf := hT5.free
      have qf := hR5.free
      have hr6 := hr5.mono (show _ ≤ N + 6 by omega)
      go_wp2
      refine bodyPost_ret (v := task v1 v2 x) (by simp [results, Try.results38, go_sem, *]) rfl ⟨_, _, _, rfl, by (repeat (first | (with_reducible assumption) | (with_reducible refine Rdr.drew ?_) | (with_reducible refine Rdr.set ?_ (by first | (simp; done) | (simp; omega) | omega) _) | (with_reducible refine Rdr.alloc ?_ _))), by (repeat (first | (with_reducible assumption) | (with_reducible refine Fr.drew ?_) | (with_reducible exact Fr.refl _ _ _) | (with_reducible refine Fr.setOut ?_ (by first | (simp; done) | (simp; omega) | omega) _) | (with_reducible refine Fr.alloc ?_ _)))⟩
    · skip
      go_wp2_with fail
      refine (pick_any _ _ (3) _ hr5 (by omega) (by omega)).mono ?_
      rintro e w6 ⟨v6, rfl, hv6, ul6, -, hr6, f6⟩
      replace ul6 := ul6 (by omega)
      have z6 := f6.size
      have lt6 := hr6.lt
      have hT6 := hT5.fr f6 (.inr (by omega))
      have hR6 := hR5.fr f6 (.inr (by omega))
      have F6 := F5.trans f6
      clear hT5 hR5 F5 f6 hr5
      have hvv : v6 = 0 ∨ v6 = 1 ∨ v6 = 2 := by omega
      clear hv6 ul6
      rcases hvv with rfl | rfl | rfl

      · skip
        go_wp2_with fail
        refine (pick_any _ _ (2) _ (hr6.alloc _) (by omega) (by omega)).mono ?_
        rintro e w7 ⟨v7, rfl, hv7, ul7, -, hr7, f7⟩
        replace ul7 := ul7 (by omega)
        have z7 := f7.size
        have lt7 := hr7.lt
        simp at z7
        have hA := (Blk.new w6 3 #[.int .i64 (-1), .int .i64 (6)]).fr f7 (.inr (by omega))
        have hT7 := (hT6.alloc (.cells #[.int .i64 (-1), .int .i64 (6)] 3)).fr f7 (.inr (by omega))
        have hR7 := (hR6.alloc (.cells #[.int .i64 (-1), .int .i64 (6)] 3)).fr f7 (.inr (by omega))
        have F7 := (F6.alloc (.cells #[.int .i64 (-1), .int .i64 (6)] 3)).trans f7
        have hr8 := hr7.mono (show _ ≤ N + 6 by omega)
        have t0 := hT7.cell 0 rfl
        have t1 := hT7.cell 1 rfl
        have t2 := hT7.cell 2 rfl
        have tf := hT7.free
        have q0 := hR7.cell 0 rfl
        have q1 := hR7.cell 1 rfl
        have q2 := hR7.cell 2 rfl
        have qf := hR7.free
        have a0 := hA.cell 0 rfl
        have a1 := hA.cell 1 rfl
        have hvv : v7 = 0 ∨ v7 = 1 := by omega
        clear hv7 ul7 hr7 hr6 f7 hR6 hT6 F6
        rcases hvv with rfl | rfl
        · go_wp2
          refine bodyPost_ret (v := task (-1) v2 x) (by simp [results, Try.results38, go_sem, *]) rfl ⟨_, _, _, rfl, by (repeat (first | (with_reducible assumption) | (with_reducible refine Rdr.drew ?_) | (with_reducible refine Rdr.set ?_ (by first | (simp; done) | (simp; omega) | omega) _) | (with_reducible refine Rdr.alloc ?_ _))), by (repeat (first | (with_reducible assumption) | (with_reducible refine Fr.drew ?_) | (with_reducible exact Fr.refl _ _ _) | (with_reducible refine Fr.setOut ?_ (by first | (simp; done) | (simp; omega) | omega) _) | (with_reducible refine Fr.alloc ?_ _)))⟩
        · go_wp2
          refine bodyPost_ret (v := task (6) v2 x) (by simp [results, Try.results38, go_sem, *]) rfl ⟨_, _, _, rfl, by (repeat (first | (with_reducible assumption) | (with_reducible refine Rdr.drew ?_) | (with_reducible refine Rdr.set ?_ (by first | (simp; done) | (simp; omega) | omega) _) | (with_reducible refine Rdr.alloc ?_ _))), by (repeat (first | (with_reducible assumption) | (with_reducible refine Fr.drew ?_) | (with_reducible exact Fr.refl _ _ _) | (with_reducible refine Fr.setOut ?_ (by first | (simp; done) | (simp; omega) | omega) _) | (with_reducible refine Fr.alloc ?_ _)))⟩
      · skip
        go_wp2_with fail
        refine (pick_any _ _ (2) _ (hr6.alloc _) (by omega) (by omega)).mono ?_
        rintro e w7 ⟨v7, rfl, hv7, ul7, -, hr7, f7⟩
        replace ul7 := ul7 (by omega)
        have z7 := f7.size
        have lt7 := hr7.lt
        simp at z7
        have hA := (Blk.new w6 3 #[.int .i64 (-1), .int .i64 (8)]).fr f7 (.inr (by omega))
        have hT7 := (hT6.alloc (.cells #[.int .i64 (-1), .int .i64 (8)] 3)).fr f7 (.inr (by omega))
        have hR7 := (hR6.alloc (.cells #[.int .i64 (-1), .int .i64 (8)] 3)).fr f7 (.inr (by omega))
        have F7 := (F6.alloc (.cells #[.int .i64 (-1), .int .i64 (8)] 3)).trans f7
        have hr8 := hr7.mono (show _ ≤ N + 6 by omega)
        have t0 := hT7.cell 0 rfl
        have t1 := hT7.cell 1 rfl
        have t2 := hT7.cell 2 rfl
        have tf := hT7.free
        have q0 := hR7.cell 0 rfl
        have q1 := hR7.cell 1 rfl
        have q2 := hR7.cell 2 rfl
        have qf := hR7.free
        have a0 := hA.cell 0 rfl
        have a1 := hA.cell 1 rfl
        have hvv : v7 = 0 ∨ v7 = 1 := by omega
        clear hv7 ul7 hr7 hr6 f7 hR6 hT6 F6
        rcases hvv with rfl | rfl
        · go_wp2
          refine bodyPost_ret (v := task v1 (-1) x) (by simp [results, Try.results38, go_sem, *]) rfl ⟨_, _, _, rfl, by (repeat (first | (with_reducible assumption) | (with_reducible refine Rdr.drew ?_) | (with_reducible refine Rdr.set ?_ (by first | (simp; done) | (simp; omega) | omega) _) | (with_reducible refine Rdr.alloc ?_ _))), by (repeat (first | (with_reducible assumption) | (with_reducible refine Fr.drew ?_) | (with_reducible exact Fr.refl _ _ _) | (with_reducible refine Fr.setOut ?_ (by first | (simp; done) | (simp; omega) | omega) _) | (with_reducible refine Fr.alloc ?_ _)))⟩
        · go_wp2
          refine bodyPost_ret (v := task v1 (8) x) (by simp [results, Try.results38, go_sem, *]) rfl ⟨_, _, _, rfl, by (repeat (first | (with_reducible assumption) | (with_reducible refine Rdr.drew ?_) | (with_reducible refine Rdr.set ?_ (by first | (simp; done) | (simp; omega) | omega) _) | (with_reducible refine Rdr.alloc ?_ _))), by (repeat (first | (with_reducible assumption) | (with_reducible refine Fr.drew ?_) | (with_reducible exact Fr.refl _ _ _) | (with_reducible refine Fr.setOut ?_ (by first | (simp; done) | (simp; omega) | omega) _) | (with_reducible refine Fr.alloc ?_ _)))⟩
      · skip
        go_wp2_with fail
        refine (pick_any _ _ (4) _ (hr6.alloc _) (by omega) (by omega)).mono ?_
        rintro e w7 ⟨v7, rfl, hv7, ul7, -, hr7, f7⟩
        replace ul7 := ul7 (by omega)
        have z7 := f7.size
        have lt7 := hr7.lt
        simp at z7
        have hA := (Blk.new w6 3 #[.int .i64 (-2), .int .i64 (100), .int .i64 (3), .int .i64 (-1)]).fr f7 (.inr (by omega))
        have hT7 := (hT6.alloc (.cells #[.int .i64 (-2), .int .i64 (100), .int .i64 (3), .int .i64 (-1)] 3)).fr f7 (.inr (by omega))
        have hR7 := (hR6.alloc (.cells #[.int .i64 (-2), .int .i64 (100), .int .i64 (3), .int .i64 (-1)] 3)).fr f7 (.inr (by omega))
        have F7 := (F6.alloc (.cells #[.int .i64 (-2), .int .i64 (100), .int .i64 (3), .int .i64 (-1)] 3)).trans f7
        have hr8 := hr7.mono (show _ ≤ N + 6 by omega)
        have t0 := hT7.cell 0 rfl
        have t1 := hT7.cell 1 rfl
        have t2 := hT7.cell 2 rfl
        have tf := hT7.free
        have q0 := hR7.cell 0 rfl
        have q1 := hR7.cell 1 rfl
        have q2 := hR7.cell 2 rfl
        have qf := hR7.free
        have a0 := hA.cell 0 rfl
        have a1 := hA.cell 1 rfl
        have a2 := hA.cell 2 rfl
        have a3 := hA.cell 3 rfl
        have hvv : v7 = 0 ∨ v7 = 1 ∨ v7 = 2 ∨ v7 = 3 := by omega
        clear hv7 ul7 hr7 hr6 f7 hR6 hT6 F6
        rcases hvv with rfl | rfl | rfl | rfl
        · go_wp2
          refine bodyPost_ret (v := task v1 v2 (-2)) (by simp [results, Try.results38, go_sem, *]) rfl ⟨_, _, _, rfl, by (repeat (first | (with_reducible assumption) | (with_reducible refine Rdr.drew ?_) | (with_reducible refine Rdr.set ?_ (by first | (simp; done) | (simp; omega) | omega) _) | (with_reducible refine Rdr.alloc ?_ _))), by (repeat (first | (with_reducible assumption) | (with_reducible refine Fr.drew ?_) | (with_reducible exact Fr.refl _ _ _) | (with_reducible refine Fr.setOut ?_ (by first | (simp; done) | (simp; omega) | omega) _) | (with_reducible refine Fr.alloc ?_ _)))⟩
        · go_wp2
          refine bodyPost_ret (v := task v1 v2 (100)) (by simp [results, Try.results38, go_sem, *]) rfl ⟨_, _, _, rfl, by (repeat (first | (with_reducible assumption) | (with_reducible refine Rdr.drew ?_) | (with_reducible refine Rdr.set ?_ (by first | (simp; done) | (simp; omega) | omega) _) | (with_reducible refine Rdr.alloc ?_ _))), by (repeat (first | (with_reducible assumption) | (with_reducible refine Fr.drew ?_) | (with_reducible exact Fr.refl _ _ _) | (with_reducible refine Fr.setOut ?_ (by first | (simp; done) | (simp; omega) | omega) _) | (with_reducible refine Fr.alloc ?_ _)))⟩
        · go_wp2
          refine bodyPost_ret (v := task v1 v2 (3)) (by simp [results, Try.results38, go_sem, *]) rfl ⟨_, _, _, rfl, by (repeat (first | (with_reducible assumption) | (with_reducible refine Rdr.drew ?_) | (with_reducible refine Rdr.set ?_ (by first | (simp; done) | (simp; omega) | omega) _) | (with_reducible refine Rdr.alloc ?_ _))), by (repeat (first | (with_reducible assumption) | (with_reducible refine Fr.drew ?_) | (with_reducible exact Fr.refl _ _ _) | (with_reducible refine Fr.setOut ?_ (by first | (simp; done) | (simp; omega) | omega) _) | (with_reducible refine Fr.alloc ?_ _)))⟩
        · go_wp2
          refine bodyPost_ret (v := task v1 v2 (-1)) (by simp [results, Try.results38, go_sem, *]) rfl ⟨_, _, _, rfl, by (repeat (first | (with_reducible assumption) | (with_reducible refine Rdr.drew ?_) | (with_reducible refine Rdr.set ?_ (by first | (simp; done) | (simp; omega) | omega) _) | (with_reducible refine Rdr.alloc ?_ _))), by (repeat (first | (with_reducible assumption) | (with_reducible refine Fr.drew ?_) | (with_reducible exact Fr.refl _ _ _) | (with_reducible refine Fr.setOut ?_ (by first | (simp; done) | (simp; omega) | omega) _) | (with_reducible refine Fr.alloc ?_ _)))⟩
  · skip
    go_wp2_with fail
    refine (l1In_any _ _ _ _).mono ?_
    rintro e w3 ⟨rfl, rfl⟩
    go_wp2_with fail
    refine (pick_any _ _ (5) _ (hr2.alloc _) (by omega) (by omega)).mono ?_
    rintro e w4 ⟨v4, rfl, hv4, ul4, -, hr4, f4⟩
    replace ul4 := ul4 (by omega)
    have z4 := f4.size
    have lt4 := hr4.lt
    simp at z4
    have hT4 := (Blk.new w2 25 #[.int .i64 v1, .int .i64 v2, .int .i64 (-1)]).fr f4 (.inr (by omega))
    have hR4 := (T0.alloc (.cells #[.int .i64 v1, .int .i64 v2, .int .i64 (-1)] 25)).fr f4 (.inr (by omega))
    have tc2 := hT4.cell 2 rfl
    have tf2 := hT4.free
    go_wp2_with fail
    refine (odd_any _ _ (n) _ (hr4.set (by omega) _) (by omega) (by omega)).mono ?_
    rintro e w5 ⟨b5, rfl, hr5, f5⟩
    have z5 := f5.size
    have lt5 := hr5.lt
    simp at z5
    have hT5 : ∃ x : Int, Blk w5 w2.heap.size 25 #[.int .i64 v1, .int .i64 v2, .int .i64 x] := ⟨_, (hT4.set 2 (.int .i64 v4)).fr f5 (.inr (by omega))⟩
    have hR5 := (hR4.other (p := ⟨w2.heap.size, 2, none⟩) (by simp; omega) (.int .i64 v4)).fr f5 (.inr (by omega))
    have F5 := ((((((Fr.refl g (g + 1) w).alloc _).trans f1).trans f2).alloc _).trans f4).setOut (p := ⟨w2.heap.size, 2, none⟩) (by simp; omega) (.int .i64 v4) |>.trans f5
    obtain ⟨x, hT5⟩ := hT5
    have hr5' := hr5.mono (show _ ≤ N + 4 by omega)
    clear hr5
    have hr5 := hr5'
    clear hr5' hr1 hr2 f1 f2 f4 f5 hw hv1 ul1 hv2 ul2 T0 tc2 tf2 hT4 hR4 hr4
    cases b5
    · have t0 := hT5.cell 0 rfl
      have t1 := hT5.cell 1 rfl
      have t2 := hT5.cell 2 rfl
      have q0 := hR5.cell 0 rfl
      have q1 := hR5.cell 1 rfl
      have q2 := hR5.cell 2 rfl
      have tf := hT5.free
      have qf := hR5.free
      have hr6 := hr5.mono (show _ ≤ N + 6 by omega)
      go_wp2
      refine bodyPost_ret (v := task v1 v2 x) (by simp [results, Try.results38, go_sem, *]) rfl ⟨_, _, _, rfl, by (repeat (first | (with_reducible assumption) | (with_reducible refine Rdr.drew ?_) | (with_reducible refine Rdr.set ?_ (by first | (simp; done) | (simp; omega) | omega) _) | (with_reducible refine Rdr.alloc ?_ _))), by (repeat (first | (with_reducible assumption) | (with_reducible refine Fr.drew ?_) | (with_reducible exact Fr.refl _ _ _) | (with_reducible refine Fr.setOut ?_ (by first | (simp; done) | (simp; omega) | omega) _) | (with_reducible refine Fr.alloc ?_ _)))⟩
    · skip
      go_wp2_with fail
      refine (pick_any _ _ (3) _ hr5 (by omega) (by omega)).mono ?_
      rintro e w6 ⟨v6, rfl, hv6, ul6, -, hr6, f6⟩
      replace ul6 := ul6 (by omega)
      have z6 := f6.size
      have lt6 := hr6.lt
      have hT6 := hT5.fr f6 (.inr (by omega))
      have hR6 := hR5.fr f6 (.inr (by omega))
      have F6 := F5.trans f6
      clear hT5 hR5 F5 f6 hr5
      have hvv : v6 = 0 ∨ v6 = 1 ∨ v6 = 2 := by omega
      clear hv6 ul6
      rcases hvv with rfl | rfl | rfl

      · skip
        go_wp2_with fail
        refine (pick_any _ _ (2) _ (hr6.alloc _) (by omega) (by omega)).mono ?_
        rintro e w7 ⟨v7, rfl, hv7, ul7, -, hr7, f7⟩
        replace ul7 := ul7 (by omega)
        have z7 := f7.size
        have lt7 := hr7.lt
        simp at z7
        have hA := (Blk.new w6 3 #[.int .i64 (-1), .int .i64 (6)]).fr f7 (.inr (by omega))
        have hT7 := (hT6.alloc (.cells #[.int .i64 (-1), .int .i64 (6)] 3)).fr f7 (.inr (by omega))
        have hR7 := (hR6.alloc (.cells #[.int .i64 (-1), .int .i64 (6)] 3)).fr f7 (.inr (by omega))
        have F7 := (F6.alloc (.cells #[.int .i64 (-1), .int .i64 (6)] 3)).trans f7
        have hr8 := hr7.mono (show _ ≤ N + 6 by omega)
        have t0 := hT7.cell 0 rfl
        have t1 := hT7.cell 1 rfl
        have t2 := hT7.cell 2 rfl
        have tf := hT7.free
        have q0 := hR7.cell 0 rfl
        have q1 := hR7.cell 1 rfl
        have q2 := hR7.cell 2 rfl
        have qf := hR7.free
        have a0 := hA.cell 0 rfl
        have a1 := hA.cell 1 rfl
        have hvv : v7 = 0 ∨ v7 = 1 := by omega
        clear hv7 ul7 hr7 hr6 f7 hR6 hT6 F6
        rcases hvv with rfl | rfl
        · go_wp2
          refine bodyPost_ret (v := task (-1) v2 x) (by simp [results, Try.results38, go_sem, *]) rfl ⟨_, _, _, rfl, by (repeat (first | (with_reducible assumption) | (with_reducible refine Rdr.drew ?_) | (with_reducible refine Rdr.set ?_ (by first | (simp; done) | (simp; omega) | omega) _) | (with_reducible refine Rdr.alloc ?_ _))), by (repeat (first | (with_reducible assumption) | (with_reducible refine Fr.drew ?_) | (with_reducible exact Fr.refl _ _ _) | (with_reducible refine Fr.setOut ?_ (by first | (simp; done) | (simp; omega) | omega) _) | (with_reducible refine Fr.alloc ?_ _)))⟩
        · go_wp2
          refine bodyPost_ret (v := task (6) v2 x) (by simp [results, Try.results38, go_sem, *]) rfl ⟨_, _, _, rfl, by (repeat (first | (with_reducible assumption) | (with_reducible refine Rdr.drew ?_) | (with_reducible refine Rdr.set ?_ (by first | (simp; done) | (simp; omega) | omega) _) | (with_reducible refine Rdr.alloc ?_ _))), by (repeat (first | (with_reducible assumption) | (with_reducible refine Fr.drew ?_) | (with_reducible exact Fr.refl _ _ _) | (with_reducible refine Fr.setOut ?_ (by first | (simp; done) | (simp; omega) | omega) _) | (with_reducible refine Fr.alloc ?_ _)))⟩
      · skip
        go_wp2_with fail
        refine (pick_any _ _ (2) _ (hr6.alloc _) (by omega) (by omega)).mono ?_
        rintro e w7 ⟨v7, rfl, hv7, ul7, -, hr7, f7⟩
        replace ul7 := ul7 (by omega)
        have z7 := f7.size
        have lt7 := hr7.lt
        simp at z7
        have hA := (Blk.new w6 3 #[.int .i64 (-1), .int .i64 (8)]).fr f7 (.inr (by omega))
        have hT7 := (hT6.alloc (.cells #[.int .i64 (-1), .int .i64 (8)] 3)).fr f7 (.inr (by omega))
        have hR7 := (hR6.alloc (.cells #[.int .i64 (-1), .int .i64 (8)] 3)).fr f7 (.inr (by omega))
        have F7 := (F6.alloc (.cells #[.int .i64 (-1), .int .i64 (8)] 3)).trans f7
        have hr8 := hr7.mono (show _ ≤ N + 6 by omega)
        have t0 := hT7.cell 0 rfl
        have t1 := hT7.cell 1 rfl
        have t2 := hT7.cell 2 rfl
        have tf := hT7.free
        have q0 := hR7.cell 0 rfl
        have q1 := hR7.cell 1 rfl
        have q2 := hR7.cell 2 rfl
        have qf := hR7.free
        have a0 := hA.cell 0 rfl
        have a1 := hA.cell 1 rfl
        have hvv : v7 = 0 ∨ v7 = 1 := by omega
        clear hv7 ul7 hr7 hr6 f7 hR6 hT6 F6
        rcases hvv with rfl | rfl
        · go_wp2
          refine bodyPost_ret (v := task v1 (-1) x) (by simp [results, Try.results38, go_sem, *]) rfl ⟨_, _, _, rfl, by (repeat (first | (with_reducible assumption) | (with_reducible refine Rdr.drew ?_) | (with_reducible refine Rdr.set ?_ (by first | (simp; done) | (simp; omega) | omega) _) | (with_reducible refine Rdr.alloc ?_ _))), by (repeat (first | (with_reducible assumption) | (with_reducible refine Fr.drew ?_) | (with_reducible exact Fr.refl _ _ _) | (with_reducible refine Fr.setOut ?_ (by first | (simp; done) | (simp; omega) | omega) _) | (with_reducible refine Fr.alloc ?_ _)))⟩
        · go_wp2
          refine bodyPost_ret (v := task v1 (8) x) (by simp [results, Try.results38, go_sem, *]) rfl ⟨_, _, _, rfl, by (repeat (first | (with_reducible assumption) | (with_reducible refine Rdr.drew ?_) | (with_reducible refine Rdr.set ?_ (by first | (simp; done) | (simp; omega) | omega) _) | (with_reducible refine Rdr.alloc ?_ _))), by (repeat (first | (with_reducible assumption) | (with_reducible refine Fr.drew ?_) | (with_reducible exact Fr.refl _ _ _) | (with_reducible refine Fr.setOut ?_ (by first | (simp; done) | (simp; omega) | omega) _) | (with_reducible refine Fr.alloc ?_ _)))⟩
      · skip
        go_wp2_with fail
        refine (pick_any _ _ (4) _ (hr6.alloc _) (by omega) (by omega)).mono ?_
        rintro e w7 ⟨v7, rfl, hv7, ul7, -, hr7, f7⟩
        replace ul7 := ul7 (by omega)
        have z7 := f7.size
        have lt7 := hr7.lt
        simp at z7
        have hA := (Blk.new w6 3 #[.int .i64 (-2), .int .i64 (100), .int .i64 (3), .int .i64 (-1)]).fr f7 (.inr (by omega))
        have hT7 := (hT6.alloc (.cells #[.int .i64 (-2), .int .i64 (100), .int .i64 (3), .int .i64 (-1)] 3)).fr f7 (.inr (by omega))
        have hR7 := (hR6.alloc (.cells #[.int .i64 (-2), .int .i64 (100), .int .i64 (3), .int .i64 (-1)] 3)).fr f7 (.inr (by omega))
        have F7 := (F6.alloc (.cells #[.int .i64 (-2), .int .i64 (100), .int .i64 (3), .int .i64 (-1)] 3)).trans f7
        have hr8 := hr7.mono (show _ ≤ N + 6 by omega)
        have t0 := hT7.cell 0 rfl
        have t1 := hT7.cell 1 rfl
        have t2 := hT7.cell 2 rfl
        have tf := hT7.free
        have q0 := hR7.cell 0 rfl
        have q1 := hR7.cell 1 rfl
        have q2 := hR7.cell 2 rfl
        have qf := hR7.free
        have a0 := hA.cell 0 rfl
        have a1 := hA.cell 1 rfl
        have a2 := hA.cell 2 rfl
        have a3 := hA.cell 3 rfl
        have hvv : v7 = 0 ∨ v7 = 1 ∨ v7 = 2 ∨ v7 = 3 := by omega
        clear hv7 ul7 hr7 hr6 f7 hR6 hT6 F6
        rcases hvv with rfl | rfl | rfl | rfl
        · go_wp2
          refine bodyPost_ret (v := task v1 v2 (-2)) (by simp [results, Try.results38, go_sem, *]) rfl ⟨_, _, _, rfl, by (repeat (first | (with_reducible assumption) | (with_reducible refine Rdr.drew ?_) | (with_reducible refine Rdr.set ?_ (by first | (simp; done) | (simp; omega) | omega) _) | (with_reducible refine Rdr.alloc ?_ _))), by (repeat (first | (with_reducible assumption) | (with_reducible refine Fr.drew ?_) | (with_reducible exact Fr.refl _ _ _) | (with_reducible refine Fr.setOut ?_ (by first | (simp; done) | (simp; omega) | omega) _) | (with_reducible refine Fr.alloc ?_ _)))⟩
        · go_wp2
          refine bodyPost_ret (v := task v1 v2 (100)) (by simp [results, Try.results38, go_sem, *]) rfl ⟨_, _, _, rfl, by (repeat (first | (with_reducible assumption) | (with_reducible refine Rdr.drew ?_) | (with_reducible refine Rdr.set ?_ (by first | (simp; done) | (simp; omega) | omega) _) | (with_reducible refine Rdr.alloc ?_ _))), by (repeat (first | (with_reducible assumption) | (with_reducible refine Fr.drew ?_) | (with_reducible exact Fr.refl _ _ _) | (with_reducible refine Fr.setOut ?_ (by first | (simp; done) | (simp; omega) | omega) _) | (with_reducible refine Fr.alloc ?_ _)))⟩
        · go_wp2
          refine bodyPost_ret (v := task v1 v2 (3)) (by simp [results, Try.results38, go_sem, *]) rfl ⟨_, _, _, rfl, by (repeat (first | (with_reducible assumption) | (with_reducible refine Rdr.drew ?_) | (with_reducible refine Rdr.set ?_ (by first | (simp; done) | (simp; omega) | omega) _) | (with_reducible refine Rdr.alloc ?_ _))), by (repeat (first | (with_reducible assumption) | (with_reducible refine Fr.drew ?_) | (with_reducible exact Fr.refl _ _ _) | (with_reducible refine Fr.setOut ?_ (by first | (simp; done) | (simp; omega) | omega) _) | (with_reducible refine Fr.alloc ?_ _)))⟩
        · go_wp2
          refine bodyPost_ret (v := task v1 v2 (-1)) (by simp [results, Try.results38, go_sem, *]) rfl ⟨_, _, _, rfl, by (repeat (first | (with_reducible assumption) | (with_reducible refine Rdr.drew ?_) | (with_reducible refine Rdr.set ?_ (by first | (simp; done) | (simp; omega) | omega) _) | (with_reducible refine Rdr.alloc ?_ _))), by (repeat (first | (with_reducible assumption) | (with_reducible refine Fr.drew ?_) | (with_reducible exact Fr.refl _ _ _) | (with_reducible refine Fr.setOut ?_ (by first | (simp; done) | (simp; omega) | omega) _) | (with_reducible refine Fr.alloc ?_ _)))⟩
end Go.Proofs.Ytdkfiikbofamfaa
