/- The texts that the laws on drawn notification objects need. -/
import Derived.Test.YtcdbamaifdabnaaDrawNotice2
import Derived.Test.YtcdbamaifdabnaaNotice7
import Derived.Test.YtcdbamaifdabnaaAlive
namespace Go.Proofs.Ytcdbamaifdabnaa
set_option linter.unusedVariables false
open Go.RowKit
theorem sig_split (b : Int) (xs : List Int) (v : Int) : (sigOk b xs v = false ∧ noticeV b xs = false) ∨ (sigOk b xs v = false ∧ noticeV b xs = true ∧ v < 1) ∨ (sigOk b xs v = false ∧ noticeV b xs = true ∧ ¬ v < 1 ∧ 255 < v) ∨
    (sigOk b xs v = true ∧ noticeV b xs = true ∧ ¬ v < 1 ∧ ¬ 255 < v ∧ xs = []) ∨ (∃ x l, sigOk b xs v = true ∧ noticeV b xs = true ∧ ¬ v < 1 ∧ ¬ 255 < v ∧ xs = x :: l) := by
  unfold sigOk
  cases h : noticeV b xs
  · simp
  · by_cases h1 : v < 1
    · refine .inr (.inl ⟨?_, rfl, h1⟩)
      rw [Bool.true_and, inB_false]; omega
    · by_cases h2 : 255 < v
      · refine .inr (.inr (.inl ⟨?_, rfl, h1, h2⟩))
        rw [Bool.true_and, inB_false]; omega
      · have h3 : inB v 1 255 = true := by rw [inB_true]; omega
        cases xs with
        | nil => exact .inr (.inr (.inr (.inl ⟨by rw [h3]; rfl, rfl, h1, h2, rfl⟩)))
        | cons x l => exact .inr (.inr (.inr (.inr ⟨x, l, by rw [h3]; rfl, rfl, h1, h2, rfl⟩)))
theorem sig_or {b v : Int} (h : sigOk b [] v = true) : sigOk (orI b v) [] v = true ∧ orI (orI b v) v = orI b v ∧ noticeV (orI b v) [] = true := by
  unfold sigOk at *
  simp only [Bool.and_eq_true] at h
  have h1 := (noticeV_calls h.1).1
  have h2 := h.2
  have h3 := noticeV_or h.1 h.2
  rw [inB_true] at h1 h2
  exact ⟨by rw [h3, h.2]; rfl, orI_again h1 (by omega), h3⟩
theorem sig_zero {a : Int} (h1 : ¬ a < 1) (h2 : ¬ 255 < a) : sigOk 0 [] a = true ∧ orI 0 a = a ∧ noticeV a [] = true := by
  have h3 : inB a 1 255 = true := by rw [inB_true]; omega
  have h4 : inB a 0 255 = true := by rw [inB_true]; omega
  refine ⟨?_, orI_zero (by omega), ?_⟩
  · unfold sigOk; rw [h3]; simp [noticeV, inB, callsV, diff]
  · unfold noticeV; rw [h4]; simp [callsV, diff]
theorem sig_pair {a b : Int} (h1 : ¬ a < 1) (h2 : ¬ 255 < a) (h3 : ¬ b < 1) (h4 : ¬ 255 < b) : sigOk a [] b = true ∧ orI b a = orI a b ∧ noticeV (orI a b) [] = true := by
  have h5 : inB b 1 255 = true := by rw [inB_true]; omega
  have h6 := (sig_zero h1 h2).2.2
  exact ⟨by unfold sigOk; rw [h6, h5]; rfl, orI_comm (by omega) (by omega), noticeV_or h6 h5⟩
theorem sig_bad {a : Int} (h : a < 1 ∨ 255 < a) : sigOk 0 [] a = false := by
  have h5 : inB a 1 255 = false := by rw [inB_false]; exact h
  unfold sigOk; rw [h5, Bool.and_false]
theorem wait_split (b : Int) (xs : List Int) (v : Int) : waitOk b xs v = false ∨ (waitOk b xs v = true ∧ (b == 0) = false ∧ ¬ b = 0) ∨ (waitOk b xs v = true ∧ b = 0) := by
  cases h : waitOk b xs v
  · exact .inl rfl
  · by_cases hb : b = 0
    · exact .inr (.inr ⟨rfl, hb⟩)
    · exact .inr (.inl ⟨rfl, by simp [hb], hb⟩)
theorem both_split (a v : Int) : a < 1 ∨ (¬ a < 1 ∧ 255 < a) ∨ (¬ a < 1 ∧ ¬ 255 < a ∧ v < 1) ∨ (¬ a < 1 ∧ ¬ 255 < a ∧ ¬ v < 1 ∧ 255 < v) ∨ (¬ a < 1 ∧ ¬ 255 < a ∧ ¬ v < 1 ∧ ¬ 255 < v) := by omega
theorem iWait_ys (B T n c : Nat) (A : Option Addr) (xs ys : List Int) (v : Int) (w : World) (hr : Rd w B T 1 A n (ints xs)) (hn : n ≤ 1048576) (hnc : n ≤ c) (hv : waitOk 0 xs v = true) (hys : xs ++ [v] = ys) : Calls Try.prog 24 #[notice 0 A n c, .int .i64 v] w (NewNoticeN w 0 ys 0) := by
  subst hys
  exact iWait_yes B T n c A xs v w hr hn hnc hv
theorem sWait_ys (B T n c : Nat) (A : Option Addr) (xs ys : List Int) (v : Int) (w : World) (hr : Rd w B T 1 A n (ints xs)) (hn : n ≤ 1048576) (hnc : n ≤ c) (hv : waitOk 0 xs v = true) (hys : xs ++ [v] = ys) : Calls Try.prog 23 #[notice 0 A n c, .int .i64 v] w (NewNoticeN w 0 ys 0) := by
  subst hys
  exact sWait_yes B T n c A xs v w hr hn hnc hv
/-- In the loop over the line: what is left waits; x is as it was. -/
def WaitInv (w : World) (pb vb zb : Nat) (A1 A2 : Option Addr) (n1 c1 c2 : Nat) (ys : List Int) (k : Nat) (wr : World) : Prop :=
  ∃ (D : Option Addr) (d : Nat) (l : List Int) (B' T' : Nat), ys.drop k = l ∧ Blk wr zb 27 #[.int .i64 0, .slice D l.length d] ∧ Rd wr B' T' 1 D l.length (ints l) ∧ (T' ≤ zb ∨ zb < B') ∧ l.length ≤ d ∧ noticeV 0 l = true ∧
    Blk wr vb 27 #[.int .i64 0, .slice A2 ys.length c2] ∧ Rd wr 0 zb 1 A2 ys.length (ints ys) ∧ Blk wr pb 27 #[.int .i64 0, .slice A1 n1 c1] ∧ Below w.heap.size w wr
theorem sig_one {x : Int} {l : List Int} (h : noticeV 0 (x :: l) = true) : sigOk 0 (x :: l) 1 = true := by unfold sigOk; rw [h]; rfl
end Go.Proofs.Ytcdbamaifdabnaa
