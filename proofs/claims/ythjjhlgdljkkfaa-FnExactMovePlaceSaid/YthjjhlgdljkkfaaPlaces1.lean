/- Contracts of PlacesValid and FindPlace (impl and spec). -/
import Derived.Test.YthjjhlgdljkkfaaInts2
namespace Go.Proofs.Ythjjhlgdljkkfaa
set_option linter.unusedVariables false
open Go.RowKit

/-- Each is -1 or the number of an entry, and no number stands twice. -/
def spots (xs : List Int) : Bool := xs.all (fun x => inB x (-1) 29) && decide (xs.filter (fun x => decide (0 ≤ x))).Nodup
theorem spots_snoc (l : List Int) (x : Int) : spots (l ++ [x]) = (spots l && (inB x (-1) 29 && (decide (x < 0) || decide (x ∉ l)))) := by
  unfold spots
  rw [Bool.eq_iff_iff]
  simp only [List.all_append, List.all_cons, List.all_nil, Bool.and_true, Bool.and_eq_true, decide_eq_true_eq, List.filter_append, Bool.or_eq_true]
  by_cases h0 : x < 0
  · have : List.filter (fun x => decide (0 ≤ x)) [x] = [] := by simp; omega
    rw [this, List.append_nil]
    constructor
    · rintro ⟨⟨h1, h2⟩, h3⟩
      exact ⟨⟨h1, h3⟩, h2, .inl h0⟩
    · rintro ⟨⟨h1, h3⟩, h2, _⟩
      exact ⟨⟨h1, h2⟩, h3⟩
  · have : List.filter (fun x => decide (0 ≤ x)) [x] = [x] := by simp; omega
    rw [this, List.nodup_append]
    constructor
    · rintro ⟨⟨h1, h2⟩, h3, _, h5⟩
      refine ⟨⟨h1, h3⟩, h2, .inr fun hm => h5 x (by simp [hm]; omega) x (by simp) rfl⟩
    · rintro ⟨⟨h1, h3⟩, h2, h4⟩
      rcases h4 with h4 | h4
      · omega
      · refine ⟨⟨h1, h2⟩, h3, by simp, fun a ha b hb => ?_⟩
        simp only [List.mem_singleton] at hb
        subst hb
        rintro rfl
        exact h4 (List.mem_filter.1 ha).1
theorem spots_take {xs : List Int} (k : Nat) (h : spots xs = true) : spots (xs.take k) = true := by
  unfold spots at *
  simp only [Bool.and_eq_true, decide_eq_true_eq, List.all_eq_true] at *
  exact ⟨fun x hx => h.1 x (List.mem_of_mem_take hx), h.2.sublist ((List.take_sublist _ _).filter _)⟩
theorem take_snoc' {xs : List Int} {k : Nat} {x : Int} (hx : xs[k]? = some x) : xs.take (k + 1) = xs.take k ++ [x] := by rw [List.take_add_one, hx]; rfl
theorem spots_step {xs : List Int} {k : Nat} {x : Int} (h : spots (xs.take k) = true) (hx : xs[k]? = some x) (h1 : inB x (-1) 29 = true) (h2 : x < 0 ∨ x ∉ xs.take k) : spots (xs.take (k + 1)) = true := by
  rw [take_snoc' hx, spots_snoc, h, h1]; simpa using h2
theorem spots_no1 {xs : List Int} {k : Nat} {x : Int} (hx : xs[k]? = some x) (h1 : inB x (-1) 29 = false) : spots xs = false := by
  cases hd : spots xs
  · rfl
  · have := spots_take (k + 1) hd
    rw [take_snoc' hx, spots_snoc, h1] at this
    simp at this
theorem spots_no2 {xs : List Int} {k : Nat} {x : Int} (hx : xs[k]? = some x) (h0 : ¬ x < 0) (h1 : x ∈ xs.take k) : spots xs = false := by
  cases hd : spots xs
  · rfl
  · have := spots_take (k + 1) hd
    rw [take_snoc' hx, spots_snoc] at this
    simp [h0, h1] at this
theorem mem_take_at {xs : List Int} {j k : Nat} {x : Int} (hx : xs[j]? = some x) (h : j < k) : x ∈ xs.take k := by
  have : (xs.take k)[j]? = some x := by rw [List.getElem?_take, if_pos h]; exact hx
  exact List.mem_of_getElem? this
def placesV (xs : List Int) : Bool := decide (xs.length ≤ 40) && spots xs
theorem placesV_no {xs : List Int} (h : spots xs = false) : placesV xs = false := by unfold placesV; rw [h]; simp
theorem placesV_yes {xs : List Int} (h : spots xs = true) : placesV xs = decide ((xs.length : Int) ≤ 40) := by
  unfold placesV; rw [h, Bool.and_true]
  by_cases hl : xs.length ≤ 40
  · rw [decide_eq_true hl, decide_eq_true (by omega)]
  · rw [decide_eq_false hl, decide_eq_false (by omega)]

set_option maxHeartbeats 1000000 in
theorem iPlacesValid_any (B T n c : Nat) (A : Option Addr) (xs : List Int) (w : World) (hr : Rd w B T 1 A n (ints xs)) (hn : n ≤ 1048576) (hnc : n ≤ c) :
    Calls Try.prog 14 #[.slice A n c] w fun e w' => e = .returned (.bool (placesV xs)) ∧ Below w.heap.size w w' := by
  have hl := ints_len hr
  have HL := Lib.hid hl
  clear hl
  go_enter Try.func14, Try.ntmps14
  go_wp2
  go_loopw [7] (fun i wr => ∃ k : Nat, k ≤ n ∧ i = .int .i64 k ∧ Hid (spots (xs.take k) = true) ∧ Below w.heap.size w wr) (fun i _ => n - (intOf i).toNat)
  case atStart => exact ⟨0, by omega, rfl, Lib.hid (by simp [spots]), Below.refl _ _⟩
  case round =>
    obtain ⟨k, hk, rfl, ht, hb⟩ := hrel
    by_cases hlt : k < n
    · have hrb := hr.below hb
      obtain ⟨b, o, x, rfl, hbl, hx, hc⟩ := ints_at hrb hlt
      have hkk : (k : Int) < (n : Int) := by omega
      have hkc : (k : Int) ≤ (c : Int) := by omega
      have hk0 : (0 : Int) ≤ (k : Int) := by omega
      have HX := Lib.hid hx
      have HR := Lib.hid (hrb.take (Nat.le_of_lt hlt))
      clear hr hx hrb
      cases hin : inB x (-1) 29
      · go_wp2_with (go_at_call 31; refine (in_any _ _ _ _).mono ?_; rintro e w' ⟨rfl, rfl⟩)
        go_ret
        exact ⟨by rw [placesV_no (spots_no1 HX.out hin)]; rfl, hb⟩
      · have hk0' : ¬ c = 0 := by omega
        by_cases h0 : x < 0
        · go_wp2_with (go_at_call 31; refine (in_any _ _ _ _).mono ?_; rintro e w' ⟨rfl, rfl⟩)
          go_roundw
          case rel => exact ⟨k + 1, by omega, by go_num, Lib.hid (spots_step ht.out HX.out hin (.inl h0)), by (repeat (first | exact Below.refl _ _ | assumption | refine Below.setCell ?_ (by first | (simp; done) | (simp; omega) | omega) _ | refine Below.alloc1 ?_ _ | refine Below.alloc ?_ (by first | (simp; done) | (simp; omega) | omega) _ | refine Below.drew ?_ | refine Below.drewN ?_ _ | refine Below.via ?_ (by assumption)))⟩
          case measure => simp [intOf]; omega
        · have h00 : (0 : Int) ≤ x := by omega
          go_wp2_with (first | (go_at_call 31; refine (in_any _ _ _ _).mono ?_; rintro e w' ⟨rfl, rfl⟩) | (go_at_call 32; refine (Contains_any B T k c (some ⟨b, o, none⟩) (xs.take k) _ _ (by have := HR.out; rwa [Nat.mul_one, ← ints_take] at this) (by omega)).mono ?_; rintro e w2 ⟨rfl, hb2⟩))
          · go_ret
            have hm : x ∈ xs.take k := by assumption
            exact ⟨by rw [placesV_no (spots_no2 HX.out (by omega) hm)]; rfl, by (repeat (first | exact Below.refl _ _ | assumption | refine Below.setCell ?_ (by first | (simp; done) | (simp; omega) | omega) _ | refine Below.alloc1 ?_ _ | refine Below.alloc ?_ (by first | (simp; done) | (simp; omega) | omega) _ | refine Below.drew ?_ | refine Below.drewN ?_ _ | refine Below.via ?_ (by assumption)))⟩
          · go_roundw
            case rel => exact ⟨k + 1, by omega, by go_num, Lib.hid (spots_step ht.out HX.out hin (.inr ‹_›)), by (repeat (first | exact Below.refl _ _ | assumption | refine Below.setCell ?_ (by first | (simp; done) | (simp; omega) | omega) _ | refine Below.alloc1 ?_ _ | refine Below.alloc ?_ (by first | (simp; done) | (simp; omega) | omega) _ | refine Below.drew ?_ | refine Below.drewN ?_ _ | refine Below.via ?_ (by assumption)))⟩
            case measure => simp [intOf]; omega
    · have hkn : k = n := by omega
      subst hkn
      clear hr
      have h1 := ht.out
      rw [List.take_of_length_le (by rw [HL.out]; exact Nat.le_refl _)] at h1
      have HV := Lib.hid (placesV_yes h1)
      clear h1
      go_wp2
      go_ret
      exact ⟨by rw [HV.out, HL.out]; rfl, hb⟩
set_option maxHeartbeats 1000000 in
theorem sPlacesValid_any (B T n c : Nat) (A : Option Addr) (xs : List Int) (w : World) (hr : Rd w B T 1 A n (ints xs)) (hn : n ≤ 1048576) :
    Calls Try.prog 12 #[.slice A n c] w fun e w' => e = .returned (.bool (placesV xs)) ∧ Below w.heap.size w w' := by
  have hl := ints_len hr
  have HL := Lib.hid hl
  clear hl
  go_enter Try.func12, Try.ntmps12
  go_wp2
  go_loopw [3] (fun i wr => ∃ k : Nat, k ≤ n ∧ i = .int .i64 k ∧ Hid (spots (xs.take k) = true) ∧ Below w.heap.size w wr) (fun i _ => n - (intOf i).toNat)
  case atStart => exact ⟨0, by omega, rfl, Lib.hid (by simp [spots]), Below.refl _ _⟩
  case round =>
    obtain ⟨k, hk, rfl, ht, hb⟩ := hrel
    by_cases hlt : k < n
    · have hrb := hr.below hb
      obtain ⟨b, o, x, rfl, hbl, hx, hc⟩ := ints_at hrb hlt
      have hkk : (k : Int) < (n : Int) := by omega
      have hk0 : (0 : Int) ≤ (k : Int) := by omega
      have HX := Lib.hid hx
      clear hx hrb
      cases hin : inB x (-1) 29
      · clear hr
        go_wp2_with (go_at_call 30; refine (l1In_any _ _ _ _).mono ?_; rintro e w' ⟨rfl, rfl⟩)
        go_ret
        exact ⟨by rw [placesV_no (spots_no1 HX.out hin)]; rfl, hb⟩
      · go_wp2_with (go_at_call 30; refine (l1In_any _ _ _ _).mono ?_; rintro e w' ⟨rfl, rfl⟩)
        obtain ⟨wo, rfl⟩ : ∃ wo : World, wo = wr := ⟨_, rfl⟩
        go_loopw [4] (fun i wr => ∃ j : Nat, j ≤ k ∧ i = .int .i64 j ∧ Hid (x < 0 ∨ x ∉ xs.take j) ∧ Below w.heap.size w wr ∧ Below wo.heap.size wo wr) (fun i _ => k - (intOf i).toNat)
        case atStart => exact ⟨0, by omega, rfl, Lib.hid (by simp), hb, Below.refl _ _⟩
        case round =>
          obtain ⟨j, hj, rfl, hx2, hb2, hb3⟩ := hrel
          by_cases hjk : j < k
          · obtain ⟨b', o', y, he, hbl2, hy, hc2⟩ := ints_at (hr.below hb2) (Nat.lt_trans hjk hlt)
            injection he with he
            injection he with he1 he2
            subst he1
            subst he2
            have hcx := (hb3.cell (p := ⟨b, o + k, none⟩) hbl).trans hc
            have hjj : (j : Int) < (k : Int) := by omega
            have hj0 : (0 : Int) ≤ (j : Int) := by omega
            have hjn : (j : Int) < (n : Int) := by omega
            have HY := Lib.hid hy
            clear hr hy hc
            by_cases h0 : x < 0
            · have h00 : decide (0 ≤ x) = false := by simp; omega
              go_wp2
              go_quiet (fail)
              go_wp2
              go_roundw
              case rel => exact ⟨j + 1, by omega, by go_num, Lib.hid (.inl (by omega)), by (repeat (first | exact Below.refl _ _ | assumption | refine Below.setCell ?_ (by first | (simp; done) | (simp; omega) | omega) _ | refine Below.alloc1 ?_ _ | refine Below.alloc ?_ (by first | (simp; done) | (simp; omega) | omega) _ | refine Below.drew ?_ | refine Below.drewN ?_ _ | refine Below.via ?_ (by assumption))), by (repeat (first | exact Below.refl _ _ | assumption | refine Below.setCell ?_ (by first | (simp; done) | (simp; omega) | omega) _ | refine Below.alloc1 ?_ _ | refine Below.alloc ?_ (by first | (simp; done) | (simp; omega) | omega) _ | refine Below.drew ?_ | refine Below.drewN ?_ _ | refine Below.via ?_ (by assumption)))⟩
              case measure => simp [intOf]; omega
            · have h00 : (0 : Int) ≤ x := by omega
              by_cases hxy : y = x
              · subst hxy
                go_wp2
                go_quiet (fail)
                go_wp2
                go_ret
                exact ⟨by rw [placesV_no (spots_no2 HX.out (by omega) (mem_take_at HY.out hjk))]; rfl, by (repeat (first | exact Below.refl _ _ | assumption | refine Below.setCell ?_ (by first | (simp; done) | (simp; omega) | omega) _ | refine Below.alloc1 ?_ _ | refine Below.alloc ?_ (by first | (simp; done) | (simp; omega) | omega) _ | refine Below.drew ?_ | refine Below.drewN ?_ _ | refine Below.via ?_ (by assumption)))⟩
              · have hd : (y == x) = false := by simp [hxy]
                go_wp2
                go_quiet (fail)
                go_wp2
                go_roundw
                case rel => exact ⟨j + 1, by omega, by go_num, Lib.hid (hx2.out.imp id fun h => notMem_succ h HY.out (fun e => hxy e.symm)), by (repeat (first | exact Below.refl _ _ | assumption | refine Below.setCell ?_ (by first | (simp; done) | (simp; omega) | omega) _ | refine Below.alloc1 ?_ _ | refine Below.alloc ?_ (by first | (simp; done) | (simp; omega) | omega) _ | refine Below.drew ?_ | refine Below.drewN ?_ _ | refine Below.via ?_ (by assumption))), by (repeat (first | exact Below.refl _ _ | assumption | refine Below.setCell ?_ (by first | (simp; done) | (simp; omega) | omega) _ | refine Below.alloc1 ?_ _ | refine Below.alloc ?_ (by first | (simp; done) | (simp; omega) | omega) _ | refine Below.drew ?_ | refine Below.drewN ?_ _ | refine Below.via ?_ (by assumption)))⟩
                case measure => simp [intOf]; omega
          · have hjk' : j = k := by omega
            subst hjk'
            clear hr hc
            go_wp2
            go_roundw
            case rel => exact ⟨j + 1, by omega, by go_num, Lib.hid (spots_step ht.out HX.out hin hx2.out), hb2⟩
            case measure => simp [intOf]; omega
    · have hkn : k = n := by omega
      subst hkn
      clear hr
      have h1 := ht.out
      rw [List.take_of_length_le (by rw [HL.out]; exact Nat.le_refl _)] at h1
      have HV := Lib.hid (placesV_yes h1)
      clear h1
      go_wp2
      go_ret
      exact ⟨by rw [HV.out, HL.out]; rfl, hb⟩
def findP (xs : List Int) (v : Int) : Int := if placesV xs = true ∧ 0 ≤ v then fi xs v else -1
theorem findP_no1 {xs : List Int} {v : Int} (h : placesV xs = false) : findP xs v = -1 := by unfold findP; simp [h]
theorem findP_no2 {xs : List Int} {v : Int} (h : v < 0) : findP xs v = -1 := by unfold findP; rw [if_neg (by omega)]
theorem findP_yes {xs : List Int} {v : Int} (h : placesV xs = true) (h0 : 0 ≤ v) : findP xs v = fi xs v := by unfold findP; rw [if_pos ⟨h, h0⟩]
set_option maxHeartbeats 1000000 in
theorem iFindPlace_any (B T n c : Nat) (A : Option Addr) (xs : List Int) (v : Int) (w : World) (hr : Rd w B T 1 A n (ints xs)) (hn : n ≤ 1048576) (hnc : n ≤ c) :
    Calls Try.prog 17 #[.slice A n c, .int .i64 v] w fun e w' => e = .returned (.int .i64 (findP xs v)) ∧ Below w.heap.size w w' := by
  cases hv : placesV xs
  · have HP := Lib.hid (findP_no1 (v := v) hv)
    go_enter Try.func17, Try.ntmps17
    go_wp2_with fail
    refine (iPlacesValid_any _ _ _ _ _ xs _ hr hn hnc).mono ?_
    rintro e w1 ⟨rfl, hb1⟩
    go_wp2
    go_ret
    exact ⟨by rw [HP.out]; rfl, hb1⟩
  · by_cases h0 : v < 0
    · have HP := Lib.hid (findP_no2 (xs := xs) h0)
      go_enter Try.func17, Try.ntmps17
      go_wp2_with fail
      refine (iPlacesValid_any _ _ _ _ _ xs _ hr hn hnc).mono ?_
      rintro e w1 ⟨rfl, hb1⟩
      go_wp2
      go_ret
      exact ⟨by rw [HP.out]; rfl, hb1⟩
    · have HP := Lib.hid (findP_yes hv (by omega : 0 ≤ v))
      have h00 : (0 : Int) ≤ v := by omega
      go_enter Try.func17, Try.ntmps17
      go_wp2_with fail
      refine (iPlacesValid_any _ _ _ _ _ xs _ hr hn hnc).mono ?_
      rintro e w1 ⟨rfl, hb1⟩
      go_wp2_with fail
      refine (Index_any _ _ _ _ _ xs v _ (hr.below hb1) hn).mono ?_
      rintro e w2 ⟨rfl, hb2⟩
      go_wp2
      go_ret
      exact ⟨by rw [HP.out]; rfl, by (repeat (first | exact Below.refl _ _ | assumption | refine Below.setCell ?_ (by first | (simp; done) | (simp; omega) | omega) _ | refine Below.alloc1 ?_ _ | refine Below.alloc ?_ (by first | (simp; done) | (simp; omega) | omega) _ | refine Below.drew ?_ | refine Below.drewN ?_ _ | refine Below.via ?_ (by assumption)))⟩
set_option maxHeartbeats 1000000 in
theorem sFindPlace_any (B T n c : Nat) (A : Option Addr) (xs : List Int) (v : Int) (w : World) (hr : Rd w B T 1 A n (ints xs)) (hn : n ≤ 1048576) :
    Calls Try.prog 16 #[.slice A n c, .int .i64 v] w fun e w' => e = .returned (.int .i64 (findP xs v)) ∧ Below w.heap.size w w' := by
  have hl := ints_len hr
  have HL := Lib.hid hl
  clear hl
  by_cases h0 : v < 0
  · have HP := Lib.hid (findP_no2 (xs := xs) h0)
    have h00 : decide (0 ≤ v) = false := by simp; omega
    go_enter Try.func16, Try.ntmps16
    go_wp2
    go_loopw [5] (fun i wr => i = .int .i64 0 ∧ Below w.heap.size w wr) (fun i _ => 0)
    case atStart => exact ⟨rfl, Below.refl _ _⟩
    case round =>
      obtain ⟨rfl, hb⟩ := hrel
      clear hr
      go_wp2
      all_goals
        go_ret
        exact ⟨by rw [HP.out]; rfl, hb⟩
  · have h00 : (0 : Int) ≤ v := by omega
    cases hv : placesV xs
    · have HP := Lib.hid (findP_no1 (v := v) hv)
      go_enter Try.func16, Try.ntmps16
      go_wp2
      go_loopw [5] (fun i wr => i = .int .i64 0 ∧ Below w.heap.size w wr) (fun i _ => 0)
      case atStart => exact ⟨rfl, Below.refl _ _⟩
      case round =>
        obtain ⟨rfl, hb⟩ := hrel
        by_cases hn0 : 0 < n
        · have hn00 : (0 : Int) < (n : Int) := by omega
          go_wp2_with fail
          refine (sPlacesValid_any _ _ _ _ _ xs _ (hr.below hb) hn).mono ?_
          rintro e w1 ⟨rfl, hb1⟩
          go_wp2
          go_ret
          exact ⟨by rw [HP.out]; rfl, by (repeat (first | exact Below.refl _ _ | assumption | refine Below.setCell ?_ (by first | (simp; done) | (simp; omega) | omega) _ | refine Below.alloc1 ?_ _ | refine Below.alloc ?_ (by first | (simp; done) | (simp; omega) | omega) _ | refine Below.drew ?_ | refine Below.drewN ?_ _ | refine Below.via ?_ (by assumption)))⟩
        · have hn00 : ¬ (0 : Int) < (n : Int) := by omega
          clear hr
          go_wp2
          go_ret
          exact ⟨by rw [HP.out]; rfl, hb⟩
    · have HP := Lib.hid (findP_yes hv h00)
      go_enter Try.func16, Try.ntmps16
      go_wp2
      go_loopw [5] (fun i wr => ∃ k : Nat, k ≤ n ∧ i = .int .i64 k ∧ Hid (v ∉ xs.take k) ∧ Below w.heap.size w wr) (fun i _ => n - (intOf i).toNat)
      case atStart => exact ⟨0, by omega, rfl, Lib.hid (by simp), Below.refl _ _⟩
      case round =>
        obtain ⟨k, hk, rfl, ht, hb⟩ := hrel
        by_cases hlt : k < n
        · have hkk : (k : Int) < (n : Int) := by omega
          go_wp2_with fail
          refine (sPlacesValid_any _ _ _ _ _ xs _ (hr.below hb) hn).mono ?_
          rintro e w1 ⟨rfl, hb1⟩
          obtain ⟨b, o, x, rfl, hbl, hx, hc⟩ := ints_at ((hr.below hb).below hb1) hlt
          have hk0 : (0 : Int) ≤ (k : Int) := by omega
          have HX := Lib.hid hx
          clear hr hx
          by_cases hxy : x = v
          · subst hxy
            go_wp2
            go_ret
            exact ⟨by rw [HP.out, fi_at ht.out HX.out]; rfl, by (repeat (first | exact Below.refl _ _ | assumption | refine Below.setCell ?_ (by first | (simp; done) | (simp; omega) | omega) _ | refine Below.alloc1 ?_ _ | refine Below.alloc ?_ (by first | (simp; done) | (simp; omega) | omega) _ | refine Below.drew ?_ | refine Below.drewN ?_ _ | refine Below.via ?_ (by assumption)))⟩
          · have hd : (x == v) = false := by simp [hxy]
            go_wp2
            go_roundw
            case rel => exact ⟨k + 1, by omega, by go_num, Lib.hid (notMem_succ ht.out HX.out (fun e => hxy e.symm)), by (repeat (first | exact Below.refl _ _ | assumption | refine Below.setCell ?_ (by first | (simp; done) | (simp; omega) | omega) _ | refine Below.alloc1 ?_ _ | refine Below.alloc ?_ (by first | (simp; done) | (simp; omega) | omega) _ | refine Below.drew ?_ | refine Below.drewN ?_ _ | refine Below.via ?_ (by assumption)))⟩
            case measure => simp [intOf]; omega
        · have hkn : k = n := by omega
          subst hkn
          have h1 := ht.out
          rw [List.take_of_length_le (by rw [HL.out]; exact Nat.le_refl _)] at h1
          have HF := Lib.hid (fi_none h1)
          clear hr h1
          go_wp2
          go_ret
          exact ⟨by rw [HP.out, HF.out]; rfl, hb⟩
end Go.Proofs.Ythjjhlgdljkkfaa
