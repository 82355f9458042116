/- Contracts of TimesValid (impl and spec). -/
import Derived.Test.YtjpmgoejcafjiaaInts3
namespace Go.Proofs.Ytjpmgoejcafjiaa
set_option linter.unusedVariables false
open Go.RowKit

def timesV (xs : List Int) : Bool := decide (xs.length ≤ 16) && xs.all (fun x => inB x 0 10000)
def allT (xs : List Int) : Bool := xs.all (fun x => inB x 0 10000)
theorem timesV_no {xs : List Int} (h : allT xs = false) : timesV xs = false := by unfold timesV; unfold allT at h; rw [h, Bool.and_false]
theorem timesV_yes {xs : List Int} (h : allT xs = true) : timesV xs = decide (xs.length ≤ 16) := by unfold timesV; unfold allT at h; rw [h, Bool.and_true]
theorem allT_step {xs : List Int} {k : Nat} {x : Int} (h : allT (xs.take k) = true) (hx : xs[k]? = some x) (h1 : inB x 0 10000 = true) : allT (xs.take (k + 1)) = true := by
  unfold allT at *
  rw [take_snoc' hx, List.all_append, h]
  simp [h1]
theorem allT_no {xs : List Int} {k : Nat} {x : Int} (hx : xs[k]? = some x) (h1 : inB x 0 10000 = false) : allT xs = false := by
  unfold allT
  rw [List.all_eq_false]
  exact ⟨x, List.mem_of_getElem? hx, by simp [h1]⟩

set_option maxHeartbeats 1000000 in
theorem sTimesValid_any (B T n c : Nat) (A : Option Addr) (xs : List Int) (w : World) (hr : Rd w B T 1 A n (ints xs)) (hn : n ≤ 1048576) :
    Calls Try.prog 15 #[.slice A n c] w fun e w' => e = .returned (.bool (timesV xs)) ∧ Below w.heap.size w w' := by
  have hl := ints_len hr
  have HL := Lib.hid hl
  clear hl
  go_enter Try.func15, Try.ntmps15
  go_wp2
  go_loopw [3] (fun i wr => ∃ k : Nat, k ≤ n ∧ i = .int .i64 k ∧ Hid (allT (xs.take k) = true) ∧ Below w.heap.size w wr) (fun i _ => n - (intOf i).toNat)
  case atStart => exact ⟨0, by omega, rfl, Lib.hid (by simp [allT]), Below.refl _ _⟩
  case round =>
    obtain ⟨k, hk, rfl, ht, hb⟩ := hrel
    by_cases hlt : k < n
    · have hrb := hr.below hb
      obtain ⟨b, o, x, rfl, hbl, hx, hc⟩ := ints_at hrb hlt
      have hkk : (k : Int) < (n : Int) := by omega
      have hk0 : (0 : Int) ≤ (k : Int) := by omega
      have HX := Lib.hid hx
      clear hx hrb hr
      cases hin : inB x 0 10000
      · go_wp2_with (go_at_call 39; refine (l1In_any _ _ _ _).mono ?_; rintro e w' ⟨rfl, rfl⟩)
        go_ret
        exact ⟨by rw [timesV_no (allT_no HX.out hin)]; rfl, hb⟩
      · go_wp2_with (go_at_call 39; refine (l1In_any _ _ _ _).mono ?_; rintro e w' ⟨rfl, rfl⟩)
        go_roundw
        case rel => exact ⟨k + 1, by omega, by go_num, Lib.hid (allT_step ht.out HX.out hin), by (repeat (first | exact Below.refl _ _ | assumption | refine Below.setCell ?_ (by first | (simp; done) | (simp; omega) | omega) _ | refine Below.alloc1 ?_ _ | refine Below.alloc ?_ (by first | (simp; done) | (simp; omega) | omega) _ | refine Below.drew ?_ | refine Below.drewN ?_ _ | refine Below.via ?_ (by assumption)))⟩
        case measure => simp [intOf]; omega
    · have hkn : k = n := by omega
      subst hkn
      clear hr
      go_wp2
      go_ret
      have h1 := ht.out
      rw [List.take_of_length_le (by rw [HL.out]; exact Nat.le_refl _)] at h1
      refine ⟨ret_bool ?_, hb⟩
      rw [timesV_yes h1, HL.out]
      simp
      omega
set_option maxHeartbeats 400000 in
theorem cTimes_any (x : Int) (w : World) : Calls Try.prog 41 #[.int .i64 x] w fun e w' => e = .returned (.bool (!inB x 0 10000)) ∧ w = w' := by
  go_enter Try.func41, Try.ntmps41
  go_wp2_with fail
  refine (in_any _ _ _ _).mono ?_
  rintro e w1 ⟨rfl, rfl⟩
  go_wp2
  go_ret
  exact ⟨rfl, rfl⟩
/-- Where the first one out of range stands; -1 if there is none. -/
def fo (xs : List Int) (P : Int → Bool) : Int := if xs.all P = true then -1 else (xs.findIdx (fun x => !P x) : Int)
theorem fo_at {xs : List Int} {P : Int → Bool} {k : Nat} {x : Int} (h : (xs.take k).all P = true) (hx : xs[k]? = some x) (hp : P x = false) : fo xs P = k := by
  have hl : k < xs.length := (List.getElem?_eq_some_iff.1 hx).1
  have hxe : xs[k] = x := (List.getElem?_eq_some_iff.1 hx).2
  unfold fo
  rw [if_neg (by
    rw [List.all_eq_true]
    intro h2
    have := h2 x (List.mem_of_getElem? hx)
    rw [hp] at this
    cases this)]
  have h3 : xs.findIdx (fun x => !P x) = k := by
    rw [List.findIdx_eq hl]
    refine ⟨by rw [hxe, hp]; rfl, fun j hj => ?_⟩
    rw [List.all_eq_true] at h
    have h4 := h xs[j] (List.mem_of_getElem? (i := j) (by rw [List.getElem?_take, if_pos hj]; exact List.getElem?_eq_getElem (by omega)))
    rw [h4]
    rfl
  rw [h3]
theorem fo_none {xs : List Int} {P : Int → Bool} (h : xs.all P = true) : fo xs P = -1 := by unfold fo; rw [if_pos h]
theorem fo_ge {xs : List Int} {P : Int → Bool} : decide (0 ≤ fo xs P) = !xs.all P := by
  unfold fo
  cases h : xs.all P
  · rw [if_neg (by simp)]; simp
  · rw [if_pos rfl]; rfl
theorem fo_step {xs : List Int} {P : Int → Bool} {k : Nat} {x : Int} (h : (xs.take k).all P = true) (hx : xs[k]? = some x) (h1 : P x = true) : (xs.take (k + 1)).all P = true := by
  rw [take_snoc' hx, List.all_append, h]
  simp [h1]

set_option maxHeartbeats 400000 in
/-- IndexFunc, with a function F that tests 'not P' and leaves the memory as it is. -/
theorem IndexFunc_any (P : Int → Bool) (hF : ∀ (x : Int) (w : World), Calls Try.prog 41 #[.int .i64 x] w fun e w' => e = .returned (.bool (!P x)) ∧ w = w')
    (B T n c : Nat) (A : Option Addr) (xs : List Int) (w : World) (hr : Rd w B T 1 A n (ints xs)) (hn : n ≤ 1048576) :
    Calls Try.prog 54 #[.slice A n c, .func (.func 41) #[] #[]] w fun e w' => e = .returned (.int .i64 (fo xs P)) ∧ Below w.heap.size w w' := by
  have hl := ints_len hr
  have HL := Lib.hid hl
  clear hl
  go_enter Try.func54, Try.ntmps54
  go_wp2
  go_loopw [8] (fun i wr => ∃ k : Nat, k ≤ n ∧ i = .int .i64 k ∧ Hid ((xs.take k).all P = true) ∧ Below w.heap.size w wr) (fun i _ => n - (intOf i).toNat)
  case atStart => exact ⟨0, by omega, rfl, Lib.hid (by simp), Below.refl _ _⟩
  case round =>
    obtain ⟨k, hk, rfl, ht, hb⟩ := hrel
    by_cases hlt : k < n
    · obtain ⟨b, o, x, rfl, hbl, hx, hc⟩ := ints_at (hr.below hb) hlt
      have hkk : (k : Int) < (n : Int) := by omega
      have hk0 : (0 : Int) ≤ (k : Int) := by omega
      have HX := Lib.hid hx
      have HH := Lib.hid hF
      clear hr hx hF
      cases hp : P x
      · go_wp2_with fail
        refine (HH.out _ _).mono ?_
        rintro e w' ⟨rfl, rfl⟩
        rw [hp]
        go_wp2
        go_ret
        exact ⟨by rw [fo_at ht.out HX.out hp]; rfl, hb⟩
      · go_wp2_with fail
        refine (HH.out _ _).mono ?_
        rintro e w' ⟨rfl, rfl⟩
        rw [hp]
        go_wp2
        go_roundw
        case rel => exact ⟨k + 1, by omega, by go_num, Lib.hid (fo_step ht.out HX.out hp), hb⟩
        case measure => simp [intOf]; omega
    · have hkn : k = n := by omega
      subst hkn
      clear hr hF
      go_wp2
      go_ret
      have h1 := ht.out
      rw [List.take_of_length_le (by rw [HL.out]; exact Nat.le_refl _)] at h1
      exact ⟨by rw [fo_none h1]; rfl, hb⟩
set_option maxHeartbeats 400000 in
theorem ContainsFunc_any (P : Int → Bool) (hF : ∀ (x : Int) (w : World), Calls Try.prog 41 #[.int .i64 x] w fun e w' => e = .returned (.bool (!P x)) ∧ w = w')
    (B T n c : Nat) (A : Option Addr) (xs : List Int) (w : World) (hr : Rd w B T 1 A n (ints xs)) (hn : n ≤ 1048576) :
    Calls Try.prog 40 #[.slice A n c, .func (.func 41) #[] #[]] w fun e w' => e = .returned (.bool (!xs.all P)) ∧ Below w.heap.size w w' := by
  have HH := Lib.hid hF
  clear hF
  go_enter Try.func40, Try.ntmps40
  go_wp2_with fail
  refine (IndexFunc_any P HH.out B T n c A xs _ hr hn).mono ?_
  rintro e w1 ⟨rfl, hb⟩
  go_wp2
  go_ret
  exact ⟨by rw [← fo_ge]; rfl, hb⟩
set_option maxHeartbeats 1000000 in
theorem iTimesValid_any (B T n c : Nat) (A : Option Addr) (xs : List Int) (w : World) (hr : Rd w B T 1 A n (ints xs)) (hn : n ≤ 1048576) :
    Calls Try.prog 17 #[.slice A n c] w fun e w' => e = .returned (.bool (timesV xs)) ∧ Below w.heap.size w w' := by
  have hl := ints_len hr
  by_cases h16 : n ≤ 16
  · have hv : timesV xs = allT xs := by unfold timesV allT; rw [hl]; simp [h16]
    have HV := Lib.hid hv
    have hd : (n : Int) ≤ 16 := by omega
    clear hv hl
    go_enter Try.func17, Try.ntmps17
    go_wp2_with fail
    refine (ContainsFunc_any (fun x => inB x 0 10000) cTimes_any B T n c A xs _ hr hn).mono ?_
    rintro e w1 ⟨rfl, hb1⟩
    go_wp2
    go_ret
    exact ⟨ret_bool (by rw [HV.out]; simp [allT]), hb1⟩
  · have hv : timesV xs = false := by unfold timesV; rw [hl]; simp [h16]
    have HV := Lib.hid hv
    have hd : ¬ (n : Int) ≤ 16 := by omega
    clear hv hl
    go_enter Try.func17, Try.ntmps17
    go_wp2_with fail
    go_ret
    exact ⟨by rw [HV.out]; rfl, Below.refl _ _⟩
end Go.Proofs.Ytjpmgoejcafjiaa
