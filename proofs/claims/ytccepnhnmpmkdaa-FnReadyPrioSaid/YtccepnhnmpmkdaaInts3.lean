/- Contracts of different, CallsValid, TimesValid (impl and spec), and of package slices' Reverse at []int. -/
import Derived.Test.YtccepnhnmpmkdaaInts2
namespace Go.Proofs.Ytccepnhnmpmkdaa
set_option linter.unusedVariables false
open Go.RowKit

/-- Different threads. -/
def diff (xs : List Int) : Bool := xs.all (fun x => inB x 0 15) && decide xs.Nodup
theorem diff_snoc (l : List Int) (x : Int) : diff (l ++ [x]) = (diff l && (inB x 0 15 && decide (x ∉ l))) := by
  unfold diff
  rw [Bool.eq_iff_iff]
  simp only [List.all_append, List.all_cons, List.all_nil, Bool.and_true, Bool.and_eq_true, decide_eq_true_eq, List.nodup_append]
  constructor
  · rintro ⟨⟨h1, h2⟩, h3, _, h5⟩
    exact ⟨⟨h1, h3⟩, h2, fun hm => h5 x hm x (by simp) rfl⟩
  · rintro ⟨⟨h1, h3⟩, h2, h4⟩
    exact ⟨⟨h1, h2⟩, h3, by simp, fun a ha b hb => by
      simp only [List.mem_singleton] at hb
      subst hb
      rintro rfl
      exact h4 ha⟩
theorem diff_take {xs : List Int} (k : Nat) (h : diff xs = true) : diff (xs.take k) = true := by
  unfold diff at *
  simp only [Bool.and_eq_true, decide_eq_true_eq, List.all_eq_true] at *
  exact ⟨fun x hx => h.1 x (List.mem_of_mem_take hx), h.2.sublist (List.take_sublist _ _)⟩
theorem take_snoc' {xs : List Int} {k : Nat} {x : Int} (hx : xs[k]? = some x) : xs.take (k + 1) = xs.take k ++ [x] := by rw [List.take_add_one, hx]; rfl
theorem diff_step {xs : List Int} {k : Nat} {x : Int} (h : diff (xs.take k) = true) (hx : xs[k]? = some x) (h1 : inB x 0 15 = true) (h2 : x ∉ xs.take k) : diff (xs.take (k + 1)) = true := by
  rw [take_snoc' hx, diff_snoc, h, h1]; simp [h2]
theorem diff_no1 {xs : List Int} {k : Nat} {x : Int} (hx : xs[k]? = some x) (h1 : inB x 0 15 = false) : diff xs = false := by
  cases hd : diff xs
  · rfl
  · have := diff_take (k + 1) hd
    rw [take_snoc' hx, diff_snoc, h1] at this
    simp at this
theorem diff_no2 {xs : List Int} {k : Nat} {x : Int} (hx : xs[k]? = some x) (h1 : x ∈ xs.take k) : diff xs = false := by
  cases hd : diff xs
  · rfl
  · have := diff_take (k + 1) hd
    rw [take_snoc' hx, diff_snoc] at this
    simp [h1] at this

def callsV (xs : List Int) : Bool := decide (xs.length ≤ 16) && diff xs
theorem mem_take_at {xs : List Int} {j k : Nat} {x : Int} (hx : xs[j]? = some x) (h : j < k) : x ∈ xs.take k := by
  have : (xs.take k)[j]? = some x := by rw [List.getElem?_take, if_pos h]; exact hx
  exact List.mem_of_getElem? this

set_option maxHeartbeats 1000000 in
theorem different_any (B T n c : Nat) (A : Option Addr) (xs : List Int) (w : World) (hr : Rd w B T 1 A n (ints xs)) (hn : n ≤ 1048576) (hnc : n ≤ c) :
    Calls Try.prog 36 #[.slice A n c] w fun e w' => e = .returned (.bool (diff xs)) ∧ Below w.heap.size w w' := by
  have hl := ints_len hr
  have HL := Lib.hid hl
  clear hl
  go_enter Try.func36, Try.ntmps36
  go_wp2
  go_loopw [7] (fun i wr => ∃ k : Nat, k ≤ n ∧ i = .int .i64 k ∧ Hid (diff (xs.take k) = true) ∧ Below w.heap.size w wr) (fun i _ => n - (intOf i).toNat)
  case atStart => exact ⟨0, by omega, rfl, Lib.hid (by simp [diff]), Below.refl _ _⟩
  case round =>
    obtain ⟨k, hk, rfl, ht, hb⟩ := hrel
    by_cases hlt : k < n
    · have hrb := hr.below hb
      obtain ⟨b, o, x, rfl, hbl, hx, hc⟩ := ints_at hrb hlt
      have hkk : (k : Int) < (n : Int) := by omega
      have hkc : (k : Int) ≤ (c : Int) := by omega
      have hk0 : (0 : Int) ≤ (k : Int) := by omega
      have HX := Lib.hid hx
      have HR := Lib.hid (hrb.take (Nat.le_of_lt hlt))
      clear hr hx hrb
      cases hin : inB x 0 15
      · go_wp2_with (go_at_call 50; refine (isThread_any _ _).mono ?_; rintro e w' ⟨rfl, rfl⟩)
        go_ret
        exact ⟨by rw [diff_no1 HX.out hin]; rfl, hb⟩
      · have hk0' : ¬ c = 0 := by omega
        go_wp2_with (first | (go_at_call 50; refine (isThread_any _ _).mono ?_; rintro e w' ⟨rfl, rfl⟩) | (go_at_call 51; refine (Contains_any B T k c (some ⟨b, o, none⟩) (xs.take k) _ _ (by have := HR.out; rwa [Nat.mul_one, ← ints_take] at this) (by omega)).mono ?_; rintro e w2 ⟨rfl, hb2⟩))
        · go_ret
          have hm : x ∈ xs.take k := by assumption
          exact ⟨by rw [diff_no2 HX.out hm]; rfl, by (repeat (first | exact Below.refl _ _ | assumption | refine Below.setCell ?_ (by first | (simp; done) | (simp; omega) | omega) _ | refine Below.alloc1 ?_ _ | refine Below.alloc ?_ (by first | (simp; done) | (simp; omega) | omega) _ | refine Below.drew ?_ | refine Below.drewN ?_ _ | refine Below.via ?_ (by assumption)))⟩
        · go_roundw
          case rel => exact ⟨k + 1, by omega, by go_num, Lib.hid (diff_step ht.out HX.out hin ‹_›), by (repeat (first | exact Below.refl _ _ | assumption | refine Below.setCell ?_ (by first | (simp; done) | (simp; omega) | omega) _ | refine Below.alloc1 ?_ _ | refine Below.alloc ?_ (by first | (simp; done) | (simp; omega) | omega) _ | refine Below.drew ?_ | refine Below.drewN ?_ _ | refine Below.via ?_ (by assumption)))⟩
          case measure => simp [intOf]; omega
    · have hkn : k = n := by omega
      subst hkn
      clear hr
      go_wp2
      go_ret
      have h1 := ht.out
      rw [List.take_of_length_le (by rw [HL.out]; exact Nat.le_refl _)] at h1
      exact ⟨by rw [h1]; rfl, hb⟩
end Go.Proofs.Ytccepnhnmpmkdaa
