/- What the functions on notification objects answer, case by case; and plain laws of them. -/
import Derived.Test.YtcdbamaifdabnaaNotice4
import Derived.Test.YtcdbamaifdabnaaNotice6
namespace Go.Proofs.Ytcdbamaifdabnaa
set_option linter.unusedVariables false
open Go.RowKit
theorem noticeV_nil {b : Int} {xs : List Int} (h : noticeV b xs = true) : noticeV b [] = true := by
  have := noticeV_calls h
  unfold noticeV
  rw [this.1]
  simp [callsV, diff]
theorem noticeV_zero {b : Int} {xs : List Int} (h : noticeV b xs = true) : noticeV 0 xs = true := by
  have := noticeV_calls h
  unfold noticeV
  rw [this.2.1]
  simp [inB]
theorem noticeV_or {b v : Int} (h : noticeV b [] = true) (hv : inB v 1 255 = true) : noticeV (orI b v) [] = true := by
  have h1 := (noticeV_calls h).1
  rw [inB_true] at h1 hv
  have := orI_small (a := b) (b := v) h1 (by omega)
  unfold noticeV
  have h2 : inB (orI b v) 0 255 = true := by rw [inB_true]; omega
  rw [h2]
  simp [callsV, diff]
theorem noticeV_tail {x : Int} {xs : List Int} (h : noticeV 0 (x :: xs) = true) : noticeV 0 xs = true := by
  have h1 := (noticeV_calls h).2.1
  have h2 : callsV xs = true := by
    unfold callsV diff at *
    simp only [Bool.and_eq_true, decide_eq_true_eq, List.all_eq_true, List.length_cons, List.nodup_cons] at *
    exact ⟨by omega, fun y hy => h1.2.1 y (List.mem_cons_of_mem _ hy), h1.2.2.2⟩
  unfold noticeV
  rw [h2]
  simp [inB]
theorem noticeV_snoc {v : Int} {xs : List Int} (h : waitOk 0 xs v = true) (hl : xs.length ≤ 10) : noticeV 0 (xs ++ [v]) = true := by
  unfold waitOk at h
  simp only [Bool.and_eq_true, decide_eq_true_eq] at h
  have h1 := (noticeV_calls h.1).2.1
  have h2 : callsV (xs ++ [v]) = true := by
    unfold callsV at *
    rw [diff_snoc]
    simp only [Bool.and_eq_true, decide_eq_true_eq, List.length_append, List.length_cons, List.length_nil] at *
    exact ⟨by omega, h1.2, h.2.1, h.2.2⟩
  unfold noticeV
  rw [h2]
  simp [inB]
section
variable (B T n c : Nat) (b : Int) (A : Option Addr) (xs : List Int) (w : World) (hr : Rd w B T 1 A n (ints xs)) (hn : n ≤ 1048576) (hnc : n ≤ c)
include hr hn hnc
theorem iPoll_no (hv : noticeV b xs = false) : Calls Try.prog 18 #[notice b A n c] w (NewNoticeN w 0 [] 0) := by
  have h := iPollNotice_any B T n c b A xs w hr hn hnc
  rwa [(poll_no hv).1, (poll_no hv).2] at h
theorem iPoll_ok (hv : noticeV b xs = true) : Calls Try.prog 18 #[notice b A n c] w (NewNoticeN w 0 xs b) := by
  have h := iPollNotice_any B T n c b A xs w hr hn hnc
  rwa [(poll_yes hv).1, (poll_yes hv).2] at h
theorem iSig_no (v : Int) (hv : sigOk b xs v = false) : Calls Try.prog 22 #[notice b A n c, .int .i64 v] w (NewNoticeN w 0 [] (-1)) := by
  have h := iSignalNotice_any B T n c b A xs v w hr hn hnc
  rwa [(sig_no hv).1, (sig_no hv).2.1, (sig_no hv).2.2] at h
theorem iWait_no (v : Int) (hv : waitOk b xs v = false) : Calls Try.prog 24 #[notice b A n c, .int .i64 v] w (NewNoticeN w 0 [] 0) := by
  have h := iWaitNotice_any B T n c b A xs v w hr hn hnc
  rwa [(wait_no hv).1, (wait_no hv).2] at h
theorem iWait_bits (v : Int) (hv : waitOk b xs v = true ∧ (b == 0) = false) : Calls Try.prog 24 #[notice b A n c, .int .i64 v] w (NewNoticeN w 0 [] b) := by
  have h := iWaitNotice_any B T n c b A xs v w hr hn hnc
  rwa [(wait_bits hv.1 hv.2).1, (wait_bits hv.1 hv.2).2] at h
theorem sPoll_no (hv : noticeV b xs = false) : Calls Try.prog 17 #[notice b A n c] w (NewNoticeN w 0 [] 0) := by
  have h := sPollNotice_any B T n c b A xs w hr hn hnc
  rwa [(poll_no hv).1, (poll_no hv).2] at h
theorem sPoll_ok (hv : noticeV b xs = true) : Calls Try.prog 17 #[notice b A n c] w (NewNoticeN w 0 xs b) := by
  have h := sPollNotice_any B T n c b A xs w hr hn hnc
  rwa [(poll_yes hv).1, (poll_yes hv).2] at h
theorem sSig_no (v : Int) (hv : sigOk b xs v = false) : Calls Try.prog 21 #[notice b A n c, .int .i64 v] w (NewNoticeN w 0 [] (-1)) := by
  have h := sSignalNotice_any B T n c b A xs v w hr hn hnc
  rwa [(sig_no hv).1, (sig_no hv).2.1, (sig_no hv).2.2] at h
theorem sWait_no (v : Int) (hv : waitOk b xs v = false) : Calls Try.prog 23 #[notice b A n c, .int .i64 v] w (NewNoticeN w 0 [] 0) := by
  have h := sWaitNotice_any B T n c b A xs v w hr hn hnc
  rwa [(wait_no hv).1, (wait_no hv).2] at h
theorem sWait_bits (v : Int) (hv : waitOk b xs v = true ∧ (b == 0) = false) : Calls Try.prog 23 #[notice b A n c, .int .i64 v] w (NewNoticeN w 0 [] b) := by
  have h := sWaitNotice_any B T n c b A xs v w hr hn hnc
  rwa [(wait_bits hv.1 hv.2).1, (wait_bits hv.1 hv.2).2] at h
end
theorem iSig_none (B T n c : Nat) (b : Int) (A : Option Addr) (v : Int) (w : World) (hr : Rd w B T 1 A n (ints [])) (hn : n ≤ 1048576) (hnc : n ≤ c) (hv : sigOk b [] v = true) : Calls Try.prog 22 #[notice b A n c, .int .i64 v] w (NewNoticeN w (orI b v) [] (-1)) := by
  have h := iSignalNotice_any B T n c b A [] v w hr hn hnc
  rwa [(sig_none hv).1, (sig_none hv).2.1, (sig_none hv).2.2] at h
theorem iSig_some (B T n c : Nat) (b : Int) (A : Option Addr) (x : Int) (xs : List Int) (v : Int) (w : World) (hr : Rd w B T 1 A n (ints (x :: xs))) (hn : n ≤ 1048576) (hnc : n ≤ c) (hv : sigOk b (x :: xs) v = true) : Calls Try.prog 22 #[notice b A n c, .int .i64 v] w (NewNoticeN w 0 xs x) := by
  have h := iSignalNotice_any B T n c b A (x :: xs) v w hr hn hnc
  rwa [(sig_some hv).1, (sig_some hv).2.1, (sig_some hv).2.2] at h
theorem iWait_yes (B T n c : Nat) (A : Option Addr) (xs : List Int) (v : Int) (w : World) (hr : Rd w B T 1 A n (ints xs)) (hn : n ≤ 1048576) (hnc : n ≤ c) (hv : waitOk 0 xs v = true) : Calls Try.prog 24 #[notice 0 A n c, .int .i64 v] w (NewNoticeN w 0 (xs ++ [v]) 0) := by
  have h := iWaitNotice_any B T n c 0 A xs v w hr hn hnc
  rwa [(wait_yes hv).1, (wait_yes hv).2] at h
theorem sSig_none (B T n c : Nat) (b : Int) (A : Option Addr) (v : Int) (w : World) (hr : Rd w B T 1 A n (ints [])) (hn : n ≤ 1048576) (hnc : n ≤ c) (hv : sigOk b [] v = true) : Calls Try.prog 21 #[notice b A n c, .int .i64 v] w (NewNoticeN w (orI b v) [] (-1)) := by
  have h := sSignalNotice_any B T n c b A [] v w hr hn hnc
  rwa [(sig_none hv).1, (sig_none hv).2.1, (sig_none hv).2.2] at h
theorem sSig_some (B T n c : Nat) (b : Int) (A : Option Addr) (x : Int) (xs : List Int) (v : Int) (w : World) (hr : Rd w B T 1 A n (ints (x :: xs))) (hn : n ≤ 1048576) (hnc : n ≤ c) (hv : sigOk b (x :: xs) v = true) : Calls Try.prog 21 #[notice b A n c, .int .i64 v] w (NewNoticeN w 0 xs x) := by
  have h := sSignalNotice_any B T n c b A (x :: xs) v w hr hn hnc
  rwa [(sig_some hv).1, (sig_some hv).2.1, (sig_some hv).2.2] at h
theorem sWait_yes (B T n c : Nat) (A : Option Addr) (xs : List Int) (v : Int) (w : World) (hr : Rd w B T 1 A n (ints xs)) (hn : n ≤ 1048576) (hnc : n ≤ c) (hv : waitOk 0 xs v = true) : Calls Try.prog 23 #[notice 0 A n c, .int .i64 v] w (NewNoticeN w 0 (xs ++ [v]) 0) := by
  have h := sWaitNotice_any B T n c 0 A xs v w hr hn hnc
  rwa [(wait_yes hv).1, (wait_yes hv).2] at h
end Go.Proofs.Ytcdbamaifdabnaa
