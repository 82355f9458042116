/- Contracts of exchange and SwapPlaces (impl). -/
import Derived.Test.YthjjhlgdljkkfaaPlaces1
import Derived.Deep.RegionHeld3
namespace Go.Proofs.Ythjjhlgdljkkfaa
set_option linter.unusedVariables false
open Go.RowKit
/-- A slice of integers in new memory, and a bool. -/
def NewIntsB (w : World) (xs : List Int) (b : Bool) (e : Ending) (w' : World) : Prop :=
  ∃ A c, e = .returned (.tuple #[.slice A xs.length c, .bool b]) ∧ Own w' w.heap.size w'.heap.size 3 1 A xs.length c (ints xs) ∧ Below w.heap.size w w'

def inR (xs : List Int) (a : Int) : Bool := inB a 0 ((xs.length : Int) - 1)
theorem inR_at {xs : List Int} {a : Int} (h : inR xs a = true) : ∃ (i : Nat) (x : Int), a = (i : Int) ∧ i < xs.length ∧ xs[i]? = some x := by
  unfold inR at h
  rw [inB_true] at h
  obtain ⟨i, rfl⟩ := Int.eq_ofNat_of_zero_le h.1
  have hi : i < xs.length := by omega
  exact ⟨i, _, rfl, hi, List.getElem?_eq_getElem hi⟩
def swp (xs : List Int) (i j : Nat) : List Int := (xs.set i (xs.getD j 0)).set j (xs.getD i 0)
theorem swp_len (xs : List Int) (i j : Nat) : (swp xs i j).length = xs.length := by simp [swp]
theorem swp_at {xs : List Int} {i j : Nat} {x y : Int} (hx : xs[i]? = some x) (hy : xs[j]? = some y) : swp xs i j = (xs.set i y).set j x := by simp [swp, List.getD, hx, hy]
def exL (may : Bool) (xs : List Int) (a b : Int) : List Int := if placesV xs = true then (if (inR xs a && (inR xs b && may)) = true then swp xs a.toNat b.toNat else xs) else []
def exO (may : Bool) (xs : List Int) (a b : Int) : Bool := placesV xs && (inR xs a && (inR xs b && may))
theorem ex_no1 {may : Bool} {xs : List Int} {a b : Int} (h : placesV xs = false) : exL may xs a b = [] ∧ exO may xs a b = false := by unfold exL exO; simp [h]
theorem ex_no2 {may : Bool} {xs : List Int} {a b : Int} (h : placesV xs = true) (h2 : (inR xs a && (inR xs b && may)) = false) : exL may xs a b = xs ∧ exO may xs a b = false := by unfold exL exO; simp [h, h2]
theorem ex_yes {xs : List Int} {i j : Nat} {x y : Int} (h : placesV xs = true) (h2 : (inR xs i && (inR xs j && true)) = true) (hx : xs[i]? = some x) (hy : xs[j]? = some y) : exL true xs i j = (xs.set i y).set j x ∧ exO true xs i j = true := by
  unfold exL exO; rw [h, h2]; simp [swp_at hx hy]
theorem ex_len (may : Bool) (xs : List Int) (a b : Int) : (exL may xs a b).length ≤ 1048576 := by
  unfold exL
  split
  · rename_i h
    unfold placesV at h
    simp only [Bool.and_eq_true, decide_eq_true_eq] at h
    split
    · rw [swp_len]; omega
    · omega
  · simp

theorem mayYes_any (w : World) : Calls Try.prog 36 #[] w fun e w' => e = .returned (.bool true) ∧ w = w' := by
  go_enter Try.func36, Try.ntmps36
  go_wp2
  go_ret
  exact ⟨rfl, rfl⟩
set_option maxHeartbeats 1000000 in
theorem exchange_swap (B T n c : Nat) (A : Option Addr) (xs : List Int) (a b : Int) (w : World) (hr : Rd w B T 1 A n (ints xs)) (hn : n ≤ 1048576) (hnc : n ≤ c) :
    Calls Try.prog 34 #[.slice A n c, .int .i64 a, .int .i64 b, .func (.func 36) #[] #[]] w (NewIntsB w (exL true xs a b) (exO true xs a b)) := by
  have hl := ints_len hr
  subst hl
  cases hv : placesV xs
  · have HP := Lib.hid (ex_no1 (may := true) (a := a) (b := b) hv)
    go_enter Try.func34, Try.ntmps34
    go_wp2_with fail
    refine (iPlacesValid_any _ _ _ _ _ xs _ hr hn hnc).mono ?_
    rintro e w1 ⟨rfl, hb1⟩
    go_wp2
    go_ret2
    rw [HP.out.1, HP.out.2]
    exact ⟨none, 0, rfl, Own.nil _ _ _ _ _ _, hb1⟩
  · have hlen : (0 : Int) ≤ (xs.length : Int) := by omega
    cases ha : inR xs a
    · have HP := Lib.hid (ex_no2 (may := true) (a := a) (b := b) hv (by rw [ha]; rfl))
      have ha' : inB a 0 ((xs.length : Int) - 1) = false := ha
      go_enter Try.func34, Try.ntmps34
      go_wp2_with fail
      refine (iPlacesValid_any _ _ _ _ _ xs _ hr hn hnc).mono ?_
      rintro e w1 ⟨rfl, hb1⟩
      go_wp2_with fail
      refine (clone_any _ _ _ _ _ xs _ (hr.below hb1) hn).mono ?_
      rintro e w2 ⟨A2, c2, rfl, o2, hb2⟩
      go_wp2_with fail
      refine (in_any _ _ _ _).mono ?_
      rintro e w3 ⟨rfl, rfl⟩
      go_wp2
      go_ret2
      rw [HP.out.1, HP.out.2]
      exact ⟨A2, c2, rfl, o2.mono hb1.size (Nat.le_refl _), by (repeat (first | exact Below.refl _ _ | assumption | refine Below.setCell ?_ (by first | (simp; done) | (simp; omega) | omega) _ | refine Below.alloc1 ?_ _ | refine Below.alloc ?_ (by first | (simp; done) | (simp; omega) | omega) _ | refine Below.drew ?_ | refine Below.drewN ?_ _ | refine Below.via ?_ (by assumption)))⟩
    · cases hb : inR xs b
      · have HP := Lib.hid (ex_no2 (may := true) (a := a) (b := b) hv (by rw [ha, hb]; rfl))
        have ha' : inB a 0 ((xs.length : Int) - 1) = true := ha
        have hb' : inB b 0 ((xs.length : Int) - 1) = false := hb
        go_enter Try.func34, Try.ntmps34
        go_wp2_with fail
        refine (iPlacesValid_any _ _ _ _ _ xs _ hr hn hnc).mono ?_
        rintro e w1 ⟨rfl, hb1⟩
        go_wp2_with fail
        refine (clone_any _ _ _ _ _ xs _ (hr.below hb1) hn).mono ?_
        rintro e w2 ⟨A2, c2, rfl, o2, hb2⟩
        go_wp2_with fail
        refine (in_any _ _ _ _).mono ?_
        rintro e w3 ⟨rfl, rfl⟩
        go_wp2_with fail
        refine (in_any _ _ _ _).mono ?_
        rintro e w4 ⟨rfl, rfl⟩
        go_wp2
        go_ret2
        rw [HP.out.1, HP.out.2]
        exact ⟨A2, c2, rfl, o2.mono hb1.size (Nat.le_refl _), by (repeat (first | exact Below.refl _ _ | assumption | refine Below.setCell ?_ (by first | (simp; done) | (simp; omega) | omega) _ | refine Below.alloc1 ?_ _ | refine Below.alloc ?_ (by first | (simp; done) | (simp; omega) | omega) _ | refine Below.drew ?_ | refine Below.drewN ?_ _ | refine Below.via ?_ (by assumption)))⟩
      · obtain ⟨i, x, rfl, hi, hx⟩ := inR_at ha
        obtain ⟨j, y, rfl, hj, hy⟩ := inR_at hb
        have HP := Lib.hid (ex_yes hv (by rw [ha, hb]; rfl) hx hy)
        have ha' : inB (i : Int) 0 ((xs.length : Int) - 1) = true := ha
        have hb' : inB (j : Int) 0 ((xs.length : Int) - 1) = true := hb
        by_cases hij : i = j
        · subst hij
          have hxy : y = x := by rw [hx] at hy; injection hy with h; exact h.symm
          subst hxy
          have HX := Lib.hid hx
          have HY := Lib.hid hy
          clear ha hb hx hy
          go_enter Try.func34, Try.ntmps34
          go_wp2_with fail
          refine (iPlacesValid_any _ _ _ _ _ xs _ hr hn hnc).mono ?_
          rintro e w1 ⟨rfl, hb1⟩
          go_wp2_with fail
          refine (clone_any _ _ _ _ _ xs _ (hr.below hb1) hn).mono ?_
          rintro e w2 ⟨A2, c2, rfl, o2, hb2⟩
          go_wp2_with fail
          refine (in_any _ _ _ _).mono ?_
          rintro e w3 ⟨rfl, rfl⟩
          go_wp2_with fail
          refine (in_any _ _ _ _).mono ?_
          rintro e w4 ⟨rfl, rfl⟩
          go_wp2_with fail
          refine (mayYes_any _).mono ?_
          rintro e w5 ⟨rfl, rfl⟩
          obtain ⟨g, o, rfl, h2, h3, h4, h5, h6, h7⟩ := o2.at_ (by omega)
          have hcx := h5 i _ (ints_get HX.out)
          have hcy := h5 i _ (ints_get HX.out)
          have hset1 := h7 i (.int .i64 y) (by rw [ints_length]; omega)
          rw [← ints_set] at hset1
          obtain ⟨g', o', hA, -, -, -, -, -, k7⟩ := hset1.at_ (by omega)
          injection hA with hA
          injection hA with hg ho
          subst hg
          subst ho
          have hset2 := k7 i (.int .i64 y) (by rw [ints_length]; simp; omega)
          rw [← ints_set] at hset2
          have hi0 : (0 : Int) ≤ (i : Int) := by omega
          have hi1 : (i : Int) < (xs.length : Int) := by omega
          have hj0 : (0 : Int) ≤ (i : Int) := by omega
          have hj1 : (i : Int) < (xs.length : Int) := by omega
          have z1 := hb1.size
          have z2 := hb2.size
          clear h5 h7 hset1 k7 ha' hb'
          go_wp2
          refine wp_region_noPanic ?_
          refine wp_region_held_drew (S := (fun _ => True)) (by kernel_rfl) ?_ (fun hHeld => ?_)
          focus (first | exact trivial | ((try dsimp only); ((repeat' (first | assumption | with_reducible refine And.intro ?_ ?_)) <;> go_keep))); done
          refine wpAnyH_take (i := 0) (v := ?_) (by rw [List.getElem?_toArray]; rfl) (by kernel_rfl) (by kernel_rfl) (by kernel_rfl) (fun _ _ _ h => h) (Or.inl ⟨by rfl, ?_⟩) (by assumption) ?_
          rotate_left
          focus (intro wS hSw; (try dsimp only at hSw); go_simp; (try with_reducible rfl)); done
          (try simp only [Act.put, List.setIfInBounds_toArray, List.set_cons_zero, List.set_cons_succ])
          refine wpAnyH_take (i := 1) (v := ?_) (by rw [List.getElem?_toArray]; rfl) (by kernel_rfl) (by kernel_rfl) (by kernel_rfl) (fun _ _ _ h => h) (Or.inl ⟨by rfl, ?_⟩) (by assumption) ?_
          rotate_left
          focus (intro wS hSw; (try dsimp only at hSw); go_simp; (try with_reducible rfl)); done
          (try simp only [Act.put, List.setIfInBounds_toArray, List.set_cons_zero, List.set_cons_succ])
          refine wpAnyH_take (i := 2) (v := ?_) (by rw [List.getElem?_toArray]; rfl) (by kernel_rfl) (by kernel_rfl) (by kernel_rfl) (fun _ _ _ h => h) (Or.inl ⟨by rfl, ?_⟩) (by assumption) ?_
          rotate_left
          focus (intro wS hSw; (try dsimp only at hSw); go_simp; (try with_reducible rfl)); done
          (try simp only [Act.put, List.setIfInBounds_toArray, List.set_cons_zero, List.set_cons_succ])
          refine wpAnyH_take (i := 3) (v := ?_) (by rw [List.getElem?_toArray]; rfl) (by kernel_rfl) (by kernel_rfl) (by kernel_rfl) (fun _ _ _ h => h) (Or.inl ⟨by rfl, ?_⟩) (by assumption) ?_
          rotate_left
          focus (intro wS hSw; (try dsimp only at hSw); go_simp; (try with_reducible rfl)); done
          (try simp only [Act.put, List.setIfInBounds_toArray, List.set_cons_zero, List.set_cons_succ])
          refine wpAnyH_take (i := 4) (v := ?_) (by rw [List.getElem?_toArray]; rfl) (by kernel_rfl) (by kernel_rfl) (by kernel_rfl) (fun _ _ _ h => h) (Or.inl ⟨by rfl, ?_⟩) (by assumption) ?_
          rotate_left
          focus (intro wS hSw; (try dsimp only at hSw); go_simp; (try with_reducible rfl)); done
          (try simp only [Act.put, List.setIfInBounds_toArray, List.set_cons_zero, List.set_cons_succ])
          refine wpAnyH_take (i := 5) (v := ?_) (by rw [List.getElem?_toArray]; rfl) (by kernel_rfl) (by kernel_rfl) (by kernel_rfl) (fun _ _ _ h => h) (Or.inl ⟨by rfl, ?_⟩) (by assumption) ?_
          rotate_left
          focus (intro wS hSw; (try dsimp only at hSw); go_simp; (try with_reducible rfl)); done
          (try simp only [Act.put, List.setIfInBounds_toArray, List.set_cons_zero, List.set_cons_succ])
          refine wpAnyH_take (i := 6) (v := ?_) (by rw [List.getElem?_toArray]; rfl) (by kernel_rfl) (by kernel_rfl) (by kernel_rfl) (fun _ _ _ h => h) (Or.inl ⟨by rfl, ?_⟩) (by assumption) ?_
          rotate_left
          focus (intro wS hSw; (try dsimp only at hSw); go_simp; (try with_reducible rfl)); done
          (try simp only [Act.put, List.setIfInBounds_toArray, List.set_cons_zero, List.set_cons_succ])
          refine wpAnyH_take (i := 8) (v := ?_) (by rw [List.getElem?_toArray]; rfl) (by kernel_rfl) (by kernel_rfl) (by kernel_rfl) (fun _ _ _ h => h) (Or.inl ⟨by rfl, ?_⟩) (by assumption) ?_
          rotate_left
          focus (intro wS hSw; (try dsimp only at hSw); go_simp; (try with_reducible rfl)); done
          (try simp only [Act.put, List.setIfInBounds_toArray, List.set_cons_zero, List.set_cons_succ])
          refine wpAnyH_take (i := 9) (v := ?_) (by rw [List.getElem?_toArray]; rfl) (by kernel_rfl) (by kernel_rfl) (by kernel_rfl) (fun _ _ _ h => h) (Or.inl ⟨by rfl, ?_⟩) (by assumption) ?_
          rotate_left
          focus (intro wS hSw; (try dsimp only at hSw); go_simp; (try with_reducible rfl)); done
          (try simp only [Act.put, List.setIfInBounds_toArray, List.set_cons_zero, List.set_cons_succ])
          refine wpAnyH_take (i := 10) (v := ?_) (by rw [List.getElem?_toArray]; rfl) (by kernel_rfl) (by kernel_rfl) (by kernel_rfl) (fun _ _ _ h => h) (Or.inl ⟨by rfl, ?_⟩) (by assumption) ?_
          rotate_left
          focus (intro wS hSw; (try dsimp only at hSw); go_simp; (try with_reducible rfl)); done
          (try simp only [Act.put, List.setIfInBounds_toArray, List.set_cons_zero, List.set_cons_succ])
          refine wpAnyH_ready (rs := [7, 11]) (by kernel_rfl) (by simp) ?_
          refine AllReadyH.cons (by rw [List.getElem?_toArray]; rfl) (fun K hK => ?_) (AllReadyH.cons (by rw [List.getElem?_toArray]; rfl) (fun K hK => ?_) AllReadyH.nil)
          all_goals go_simp
          all_goals refine hK.out _ _ trivial (fun hHeld => ?_)
          all_goals clear hK K
          all_goals (try simp only [Act.put, List.setIfInBounds_toArray, List.set_cons_zero, List.set_cons_succ])
          · refine wpAnyH_ready (rs := [11]) (by kernel_rfl) (by simp) ?_
            refine AllReadyH.cons (by rw [List.getElem?_toArray]; rfl) (fun K hK => ?_) AllReadyH.nil
            go_simp
            skip
            refine hK.out _ _ ?_ (fun hHeld => ?_)
            focus (first | exact trivial | ((try dsimp only); (exact trivial))); done
            clear hK K
            (try simp only [Act.put, List.setIfInBounds_toArray, List.set_cons_zero, List.set_cons_succ])
            refine wpAnyH_take (i := 12) (v := ?_) (by rw [List.getElem?_toArray]; rfl) (by kernel_rfl) (by kernel_rfl) (by kernel_rfl) (fun _ _ _ h => h) (Or.inl ⟨by rfl, ?_⟩) (by assumption) ?_
            rotate_left
            focus (intro wS hSw; (try dsimp only at hSw); go_simp; (try with_reducible rfl)); done
            (try simp only [Act.put, List.setIfInBounds_toArray, List.set_cons_zero, List.set_cons_succ])
            refine wpAnyH_ready (rs := [13]) (by kernel_rfl) (by simp) ?_
            refine AllReadyH.cons (by rw [List.getElem?_toArray]; rfl) (fun K hK => ?_) AllReadyH.nil
            go_simp
            skip
            refine hK.out _ _ ?_ (fun hHeld => ?_)
            focus (first | exact trivial | ((try dsimp only); (exact trivial))); done
            clear hK K
            (try simp only [Act.put, List.setIfInBounds_toArray, List.set_cons_zero, List.set_cons_succ])
            refine wpAnyH_take (i := 14) (v := ?_) (by rw [List.getElem?_toArray]; rfl) (by kernel_rfl) (by kernel_rfl) (by kernel_rfl) (fun _ _ _ h => h) (Or.inl ⟨by rfl, ?_⟩) (by assumption) ?_
            rotate_left
            focus (intro wS hSw; (try dsimp only at hSw); go_simp; (try with_reducible rfl)); done
            (try simp only [Act.put, List.setIfInBounds_toArray, List.set_cons_zero, List.set_cons_succ])
            refine wpAnyH_ready (rs := [15]) (by kernel_rfl) (by simp) ?_
            refine AllReadyH.cons (by rw [List.getElem?_toArray]; rfl) (fun K hK => ?_) AllReadyH.nil
            go_simp
            skip
            refine hK.out _ _ ?_ (fun hHeld => ?_)
            focus (first | exact trivial | ((try dsimp only); (exact trivial))); done
            clear hK K
            (try simp only [Act.put, List.setIfInBounds_toArray, List.set_cons_zero, List.set_cons_succ])
            refine wpAnyH_done (by kernel_rfl) ?_ _
            refine NoPanic.normal ?_
            go_wp2
            go_ret2
            rw [HP.out.1, HP.out.2]
            exact ⟨some ⟨g, o, none⟩, c2, by simp, by simpa using (hset2.mono (B' := w.heap.size) (T' := w2.heap.size) (by omega) (Nat.le_refl _)).drew, by (repeat (first | exact Below.refl _ _ | assumption | refine Below.setCell ?_ (by first | (simp; done) | (simp; omega) | omega) _ | refine Below.alloc1 ?_ _ | refine Below.alloc ?_ (by first | (simp; done) | (simp; omega) | omega) _ | refine Below.drew ?_ | refine Below.drewN ?_ _ | refine Below.via ?_ (by assumption)))⟩
          · refine wpAnyH_ready (rs := [7]) (by kernel_rfl) (by simp) ?_
            refine AllReadyH.cons (by rw [List.getElem?_toArray]; rfl) (fun K hK => ?_) AllReadyH.nil
            go_simp
            skip
            refine hK.out _ _ ?_ (fun hHeld => ?_)
            focus (first | exact trivial | ((try dsimp only); (exact trivial))); done
            clear hK K
            (try simp only [Act.put, List.setIfInBounds_toArray, List.set_cons_zero, List.set_cons_succ])
            refine wpAnyH_take (i := 12) (v := ?_) (by rw [List.getElem?_toArray]; rfl) (by kernel_rfl) (by kernel_rfl) (by kernel_rfl) (fun _ _ _ h => h) (Or.inl ⟨by rfl, ?_⟩) (by assumption) ?_
            rotate_left
            focus (intro wS hSw; (try dsimp only at hSw); go_simp; (try with_reducible rfl)); done
            (try simp only [Act.put, List.setIfInBounds_toArray, List.set_cons_zero, List.set_cons_succ])
            refine wpAnyH_ready (rs := [13]) (by kernel_rfl) (by simp) ?_
            refine AllReadyH.cons (by rw [List.getElem?_toArray]; rfl) (fun K hK => ?_) AllReadyH.nil
            go_simp
            skip
            refine hK.out _ _ ?_ (fun hHeld => ?_)
            focus (first | exact trivial | ((try dsimp only); (exact trivial))); done
            clear hK K
            (try simp only [Act.put, List.setIfInBounds_toArray, List.set_cons_zero, List.set_cons_succ])
            refine wpAnyH_take (i := 14) (v := ?_) (by rw [List.getElem?_toArray]; rfl) (by kernel_rfl) (by kernel_rfl) (by kernel_rfl) (fun _ _ _ h => h) (Or.inl ⟨by rfl, ?_⟩) (by assumption) ?_
            rotate_left
            focus (intro wS hSw; (try dsimp only at hSw); go_simp; (try with_reducible rfl)); done
            (try simp only [Act.put, List.setIfInBounds_toArray, List.set_cons_zero, List.set_cons_succ])
            refine wpAnyH_ready (rs := [15]) (by kernel_rfl) (by simp) ?_
            refine AllReadyH.cons (by rw [List.getElem?_toArray]; rfl) (fun K hK => ?_) AllReadyH.nil
            go_simp
            skip
            refine hK.out _ _ ?_ (fun hHeld => ?_)
            focus (first | exact trivial | ((try dsimp only); (exact trivial))); done
            clear hK K
            (try simp only [Act.put, List.setIfInBounds_toArray, List.set_cons_zero, List.set_cons_succ])
            refine wpAnyH_done (by kernel_rfl) ?_ _
            refine NoPanic.normal ?_
            go_wp2
            go_ret2
            rw [HP.out.1, HP.out.2]
            exact ⟨some ⟨g, o, none⟩, c2, by simp, by simpa using (hset2.mono (B' := w.heap.size) (T' := w2.heap.size) (by omega) (Nat.le_refl _)).drew, by (repeat (first | exact Below.refl _ _ | assumption | refine Below.setCell ?_ (by first | (simp; done) | (simp; omega) | omega) _ | refine Below.alloc1 ?_ _ | refine Below.alloc ?_ (by first | (simp; done) | (simp; omega) | omega) _ | refine Below.drew ?_ | refine Below.drewN ?_ _ | refine Below.via ?_ (by assumption)))⟩
        · have hji : ¬ j = i := fun e => hij e.symm
          have HX := Lib.hid hx
          have HY := Lib.hid hy
          clear ha hb hx hy
          go_enter Try.func34, Try.ntmps34
          go_wp2_with fail
          refine (iPlacesValid_any _ _ _ _ _ xs _ hr hn hnc).mono ?_
          rintro e w1 ⟨rfl, hb1⟩
          go_wp2_with fail
          refine (clone_any _ _ _ _ _ xs _ (hr.below hb1) hn).mono ?_
          rintro e w2 ⟨A2, c2, rfl, o2, hb2⟩
          go_wp2_with fail
          refine (in_any _ _ _ _).mono ?_
          rintro e w3 ⟨rfl, rfl⟩
          go_wp2_with fail
          refine (in_any _ _ _ _).mono ?_
          rintro e w4 ⟨rfl, rfl⟩
          go_wp2_with fail
          refine (mayYes_any _).mono ?_
          rintro e w5 ⟨rfl, rfl⟩
          obtain ⟨g, o, rfl, h2, h3, h4, h5, h6, h7⟩ := o2.at_ (by omega)
          have hcx := h5 i _ (ints_get HX.out)
          have hcy := h5 j _ (ints_get HY.out)
          have hset1 := h7 i (.int .i64 y) (by rw [ints_length]; omega)
          rw [← ints_set] at hset1
          obtain ⟨g', o', hA, -, -, -, -, -, k7⟩ := hset1.at_ (by omega)
          injection hA with hA
          injection hA with hg ho
          subst hg
          subst ho
          have hset2 := k7 j (.int .i64 x) (by rw [ints_length]; simp; omega)
          rw [← ints_set] at hset2
          have hi0 : (0 : Int) ≤ (i : Int) := by omega
          have hi1 : (i : Int) < (xs.length : Int) := by omega
          have hj0 : (0 : Int) ≤ (j : Int) := by omega
          have hj1 : (j : Int) < (xs.length : Int) := by omega
          have z1 := hb1.size
          have z2 := hb2.size
          clear h5 h7 hset1 k7 ha' hb'
          go_wp2
          refine wp_region_noPanic ?_
          refine wp_region_held_drew (S := (fun _ => True)) (by kernel_rfl) ?_ (fun hHeld => ?_)
          focus (first | exact trivial | ((try dsimp only); ((repeat' (first | assumption | with_reducible refine And.intro ?_ ?_)) <;> go_keep))); done
          refine wpAnyH_take (i := 0) (v := ?_) (by rw [List.getElem?_toArray]; rfl) (by kernel_rfl) (by kernel_rfl) (by kernel_rfl) (fun _ _ _ h => h) (Or.inl ⟨by rfl, ?_⟩) (by assumption) ?_
          rotate_left
          focus (intro wS hSw; (try dsimp only at hSw); go_simp; (try with_reducible rfl)); done
          (try simp only [Act.put, List.setIfInBounds_toArray, List.set_cons_zero, List.set_cons_succ])
          refine wpAnyH_take (i := 1) (v := ?_) (by rw [List.getElem?_toArray]; rfl) (by kernel_rfl) (by kernel_rfl) (by kernel_rfl) (fun _ _ _ h => h) (Or.inl ⟨by rfl, ?_⟩) (by assumption) ?_
          rotate_left
          focus (intro wS hSw; (try dsimp only at hSw); go_simp; (try with_reducible rfl)); done
          (try simp only [Act.put, List.setIfInBounds_toArray, List.set_cons_zero, List.set_cons_succ])
          refine wpAnyH_take (i := 2) (v := ?_) (by rw [List.getElem?_toArray]; rfl) (by kernel_rfl) (by kernel_rfl) (by kernel_rfl) (fun _ _ _ h => h) (Or.inl ⟨by rfl, ?_⟩) (by assumption) ?_
          rotate_left
          focus (intro wS hSw; (try dsimp only at hSw); go_simp; (try with_reducible rfl)); done
          (try simp only [Act.put, List.setIfInBounds_toArray, List.set_cons_zero, List.set_cons_succ])
          refine wpAnyH_take (i := 3) (v := ?_) (by rw [List.getElem?_toArray]; rfl) (by kernel_rfl) (by kernel_rfl) (by kernel_rfl) (fun _ _ _ h => h) (Or.inl ⟨by rfl, ?_⟩) (by assumption) ?_
          rotate_left
          focus (intro wS hSw; (try dsimp only at hSw); go_simp; (try with_reducible rfl)); done
          (try simp only [Act.put, List.setIfInBounds_toArray, List.set_cons_zero, List.set_cons_succ])
          refine wpAnyH_take (i := 4) (v := ?_) (by rw [List.getElem?_toArray]; rfl) (by kernel_rfl) (by kernel_rfl) (by kernel_rfl) (fun _ _ _ h => h) (Or.inl ⟨by rfl, ?_⟩) (by assumption) ?_
          rotate_left
          focus (intro wS hSw; (try dsimp only at hSw); go_simp; (try with_reducible rfl)); done
          (try simp only [Act.put, List.setIfInBounds_toArray, List.set_cons_zero, List.set_cons_succ])
          refine wpAnyH_take (i := 5) (v := ?_) (by rw [List.getElem?_toArray]; rfl) (by kernel_rfl) (by kernel_rfl) (by kernel_rfl) (fun _ _ _ h => h) (Or.inl ⟨by rfl, ?_⟩) (by assumption) ?_
          rotate_left
          focus (intro wS hSw; (try dsimp only at hSw); go_simp; (try with_reducible rfl)); done
          (try simp only [Act.put, List.setIfInBounds_toArray, List.set_cons_zero, List.set_cons_succ])
          refine wpAnyH_take (i := 6) (v := ?_) (by rw [List.getElem?_toArray]; rfl) (by kernel_rfl) (by kernel_rfl) (by kernel_rfl) (fun _ _ _ h => h) (Or.inl ⟨by rfl, ?_⟩) (by assumption) ?_
          rotate_left
          focus (intro wS hSw; (try dsimp only at hSw); go_simp; (try with_reducible rfl)); done
          (try simp only [Act.put, List.setIfInBounds_toArray, List.set_cons_zero, List.set_cons_succ])
          refine wpAnyH_take (i := 8) (v := ?_) (by rw [List.getElem?_toArray]; rfl) (by kernel_rfl) (by kernel_rfl) (by kernel_rfl) (fun _ _ _ h => h) (Or.inl ⟨by rfl, ?_⟩) (by assumption) ?_
          rotate_left
          focus (intro wS hSw; (try dsimp only at hSw); go_simp; (try with_reducible rfl)); done
          (try simp only [Act.put, List.setIfInBounds_toArray, List.set_cons_zero, List.set_cons_succ])
          refine wpAnyH_take (i := 9) (v := ?_) (by rw [List.getElem?_toArray]; rfl) (by kernel_rfl) (by kernel_rfl) (by kernel_rfl) (fun _ _ _ h => h) (Or.inl ⟨by rfl, ?_⟩) (by assumption) ?_
          rotate_left
          focus (intro wS hSw; (try dsimp only at hSw); go_simp; (try with_reducible rfl)); done
          (try simp only [Act.put, List.setIfInBounds_toArray, List.set_cons_zero, List.set_cons_succ])
          refine wpAnyH_take (i := 10) (v := ?_) (by rw [List.getElem?_toArray]; rfl) (by kernel_rfl) (by kernel_rfl) (by kernel_rfl) (fun _ _ _ h => h) (Or.inl ⟨by rfl, ?_⟩) (by assumption) ?_
          rotate_left
          focus (intro wS hSw; (try dsimp only at hSw); go_simp; (try with_reducible rfl)); done
          (try simp only [Act.put, List.setIfInBounds_toArray, List.set_cons_zero, List.set_cons_succ])
          refine wpAnyH_ready (rs := [7, 11]) (by kernel_rfl) (by simp) ?_
          refine AllReadyH.cons (by rw [List.getElem?_toArray]; rfl) (fun K hK => ?_) (AllReadyH.cons (by rw [List.getElem?_toArray]; rfl) (fun K hK => ?_) AllReadyH.nil)
          all_goals go_simp
          all_goals refine hK.out _ _ trivial (fun hHeld => ?_)
          all_goals clear hK K
          all_goals (try simp only [Act.put, List.setIfInBounds_toArray, List.set_cons_zero, List.set_cons_succ])
          · refine wpAnyH_ready (rs := [11]) (by kernel_rfl) (by simp) ?_
            refine AllReadyH.cons (by rw [List.getElem?_toArray]; rfl) (fun K hK => ?_) AllReadyH.nil
            go_simp
            skip
            refine hK.out _ _ ?_ (fun hHeld => ?_)
            focus (first | exact trivial | ((try dsimp only); (exact trivial))); done
            clear hK K
            (try simp only [Act.put, List.setIfInBounds_toArray, List.set_cons_zero, List.set_cons_succ])
            refine wpAnyH_take (i := 12) (v := ?_) (by rw [List.getElem?_toArray]; rfl) (by kernel_rfl) (by kernel_rfl) (by kernel_rfl) (fun _ _ _ h => h) (Or.inl ⟨by rfl, ?_⟩) (by assumption) ?_
            rotate_left
            focus (intro wS hSw; (try dsimp only at hSw); go_simp; (try with_reducible rfl)); done
            (try simp only [Act.put, List.setIfInBounds_toArray, List.set_cons_zero, List.set_cons_succ])
            refine wpAnyH_ready (rs := [13]) (by kernel_rfl) (by simp) ?_
            refine AllReadyH.cons (by rw [List.getElem?_toArray]; rfl) (fun K hK => ?_) AllReadyH.nil
            go_simp
            skip
            refine hK.out _ _ ?_ (fun hHeld => ?_)
            focus (first | exact trivial | ((try dsimp only); (exact trivial))); done
            clear hK K
            (try simp only [Act.put, List.setIfInBounds_toArray, List.set_cons_zero, List.set_cons_succ])
            refine wpAnyH_take (i := 14) (v := ?_) (by rw [List.getElem?_toArray]; rfl) (by kernel_rfl) (by kernel_rfl) (by kernel_rfl) (fun _ _ _ h => h) (Or.inl ⟨by rfl, ?_⟩) (by assumption) ?_
            rotate_left
            focus (intro wS hSw; (try dsimp only at hSw); go_simp; (try with_reducible rfl)); done
            (try simp only [Act.put, List.setIfInBounds_toArray, List.set_cons_zero, List.set_cons_succ])
            refine wpAnyH_ready (rs := [15]) (by kernel_rfl) (by simp) ?_
            refine AllReadyH.cons (by rw [List.getElem?_toArray]; rfl) (fun K hK => ?_) AllReadyH.nil
            go_simp
            skip
            refine hK.out _ _ ?_ (fun hHeld => ?_)
            focus (first | exact trivial | ((try dsimp only); (exact trivial))); done
            clear hK K
            (try simp only [Act.put, List.setIfInBounds_toArray, List.set_cons_zero, List.set_cons_succ])
            refine wpAnyH_done (by kernel_rfl) ?_ _
            refine NoPanic.normal ?_
            go_wp2
            go_ret2
            rw [HP.out.1, HP.out.2]
            exact ⟨some ⟨g, o, none⟩, c2, by simp, by simpa using (hset2.mono (B' := w.heap.size) (T' := w2.heap.size) (by omega) (Nat.le_refl _)).drew, by (repeat (first | exact Below.refl _ _ | assumption | refine Below.setCell ?_ (by first | (simp; done) | (simp; omega) | omega) _ | refine Below.alloc1 ?_ _ | refine Below.alloc ?_ (by first | (simp; done) | (simp; omega) | omega) _ | refine Below.drew ?_ | refine Below.drewN ?_ _ | refine Below.via ?_ (by assumption)))⟩
          · refine wpAnyH_ready (rs := [7]) (by kernel_rfl) (by simp) ?_
            refine AllReadyH.cons (by rw [List.getElem?_toArray]; rfl) (fun K hK => ?_) AllReadyH.nil
            go_simp
            skip
            refine hK.out _ _ ?_ (fun hHeld => ?_)
            focus (first | exact trivial | ((try dsimp only); (exact trivial))); done
            clear hK K
            (try simp only [Act.put, List.setIfInBounds_toArray, List.set_cons_zero, List.set_cons_succ])
            refine wpAnyH_take (i := 12) (v := ?_) (by rw [List.getElem?_toArray]; rfl) (by kernel_rfl) (by kernel_rfl) (by kernel_rfl) (fun _ _ _ h => h) (Or.inl ⟨by rfl, ?_⟩) (by assumption) ?_
            rotate_left
            focus (intro wS hSw; (try dsimp only at hSw); go_simp; (try with_reducible rfl)); done
            (try simp only [Act.put, List.setIfInBounds_toArray, List.set_cons_zero, List.set_cons_succ])
            refine wpAnyH_ready (rs := [13]) (by kernel_rfl) (by simp) ?_
            refine AllReadyH.cons (by rw [List.getElem?_toArray]; rfl) (fun K hK => ?_) AllReadyH.nil
            go_simp
            skip
            refine hK.out _ _ ?_ (fun hHeld => ?_)
            focus (first | exact trivial | ((try dsimp only); (exact trivial))); done
            clear hK K
            (try simp only [Act.put, List.setIfInBounds_toArray, List.set_cons_zero, List.set_cons_succ])
            refine wpAnyH_take (i := 14) (v := ?_) (by rw [List.getElem?_toArray]; rfl) (by kernel_rfl) (by kernel_rfl) (by kernel_rfl) (fun _ _ _ h => h) (Or.inl ⟨by rfl, ?_⟩) (by assumption) ?_
            rotate_left
            focus (intro wS hSw; (try dsimp only at hSw); go_simp; (try with_reducible rfl)); done
            (try simp only [Act.put, List.setIfInBounds_toArray, List.set_cons_zero, List.set_cons_succ])
            refine wpAnyH_ready (rs := [15]) (by kernel_rfl) (by simp) ?_
            refine AllReadyH.cons (by rw [List.getElem?_toArray]; rfl) (fun K hK => ?_) AllReadyH.nil
            go_simp
            skip
            refine hK.out _ _ ?_ (fun hHeld => ?_)
            focus (first | exact trivial | ((try dsimp only); (exact trivial))); done
            clear hK K
            (try simp only [Act.put, List.setIfInBounds_toArray, List.set_cons_zero, List.set_cons_succ])
            refine wpAnyH_done (by kernel_rfl) ?_ _
            refine NoPanic.normal ?_
            go_wp2
            go_ret2
            rw [HP.out.1, HP.out.2]
            exact ⟨some ⟨g, o, none⟩, c2, by simp, by simpa using (hset2.mono (B' := w.heap.size) (T' := w2.heap.size) (by omega) (Nat.le_refl _)).drew, by (repeat (first | exact Below.refl _ _ | assumption | refine Below.setCell ?_ (by first | (simp; done) | (simp; omega) | omega) _ | refine Below.alloc1 ?_ _ | refine Below.alloc ?_ (by first | (simp; done) | (simp; omega) | omega) _ | refine Below.drew ?_ | refine Below.drewN ?_ _ | refine Below.via ?_ (by assumption)))⟩
set_option maxHeartbeats 400000 in
theorem iSwapPlaces_any (B T n c : Nat) (A : Option Addr) (xs : List Int) (a b : Int) (w : World) (hr : Rd w B T 1 A n (ints xs)) (hn : n ≤ 1048576) (hnc : n ≤ c) :
    Calls Try.prog 23 #[.slice A n c, .int .i64 a, .int .i64 b] w (NewIntsB w (exL true xs a b) (exO true xs a b)) := by
  go_enter Try.func23, Try.ntmps23
  go_wp2_with fail
  refine (exchange_swap _ _ _ _ _ xs a b _ hr hn hnc).mono ?_
  rintro e w1 ⟨A1, c1, rfl, o1, hb1⟩
  go_wp2
  go_ret2
  exact ⟨A1, c1, rfl, o1, hb1⟩
set_option maxHeartbeats 1000000 in
theorem sSwapPlaces_any (B T n c : Nat) (A : Option Addr) (xs : List Int) (a b : Int) (w : World) (hr : Rd w B T 1 A n (ints xs)) (hn : n ≤ 1048576) :
    Calls Try.prog 22 #[.slice A n c, .int .i64 a, .int .i64 b] w (NewIntsB w (exL true xs a b) (exO true xs a b)) := by
  obtain ⟨i0, hi0, hz0, hz1, hz2⟩ := info_parts Try.infoInt
  have hl := ints_len hr
  subst hl
  cases hv : placesV xs
  · have HP := Lib.hid (ex_no1 (may := true) (a := a) (b := b) hv)
    go_enter Try.func22, Try.ntmps22
    go_wp2_with fail
    refine (sPlacesValid_any _ _ _ _ _ xs _ hr hn).mono ?_
    rintro e w1 ⟨rfl, hb1⟩
    go_wp2
    go_ret2
    rw [HP.out.1, HP.out.2]
    exact ⟨_, 0, rfl, Own.nil _ _ _ _ _ _, by (repeat (first | exact Below.refl _ _ | assumption | refine Below.setCell ?_ (by first | (simp; done) | (simp; omega) | omega) _ | refine Below.alloc1 ?_ _ | refine Below.alloc ?_ (by first | (simp; done) | (simp; omega) | omega) _ | refine Below.drew ?_ | refine Below.drewN ?_ _ | refine Below.via ?_ (by assumption)))⟩
  · have hlen : (0 : Int) ≤ (xs.length : Int) := by omega
    cases ha : inR xs a
    · have HP := Lib.hid (ex_no2 (may := true) (a := a) (b := b) hv (by rw [ha]; rfl))
      have ha' : inB a 0 ((xs.length : Int) - 1) = false := ha
      go_enter Try.func22, Try.ntmps22
      go_wp2_with fail
      refine (sPlacesValid_any _ _ _ _ _ xs _ hr hn).mono ?_
      rintro e w1 ⟨rfl, hb1⟩
      go_wp2_with (at_builtin; refine wpList_appg _ (by rfl) (.tmp 13) (.tmp 14) 22 rfl 3 i0 (.int .i64 0) 1 8 Try.underlying22 hi0 hz0 hz1 hz2 rfl (by omega) w1.heap.size 0 _ _ (some ⟨w1.heap.size, 0, none⟩) A 0 0 xs.length c [] (ints xs) rfl rfl (Own.nil _ _ _ _ _ _) ((hr.below hb1).alloc _) (ints_one _) (by unfold maxLen; omega) (by omega) (by simp) ?_; intro A2 c2 w2 o2 f2; rw [Nat.zero_add, List.nil_append] at o2; have z2 := f2.size; (try simp at z2))
      refine (l1In_any _ _ _ _).mono ?_
      rintro e w3 ⟨rfl, rfl⟩
      go_wp2
      go_ret2
      rw [HP.out.1, HP.out.2]
      exact ⟨A2, c2, rfl, o2.mono hb1.size (Nat.le_refl _), (Below.via (Below.alloc1 hb1 _) f2.below0)⟩
    · cases hb : inR xs b
      · have HP := Lib.hid (ex_no2 (may := true) (a := a) (b := b) hv (by rw [ha, hb]; rfl))
        have ha' : inB a 0 ((xs.length : Int) - 1) = true := ha
        have hb' : inB b 0 ((xs.length : Int) - 1) = false := hb
        go_enter Try.func22, Try.ntmps22
        go_wp2_with fail
        refine (sPlacesValid_any _ _ _ _ _ xs _ hr hn).mono ?_
        rintro e w1 ⟨rfl, hb1⟩
        go_wp2_with (at_builtin; refine wpList_appg _ (by rfl) (.tmp 13) (.tmp 14) 22 rfl 3 i0 (.int .i64 0) 1 8 Try.underlying22 hi0 hz0 hz1 hz2 rfl (by omega) w1.heap.size 0 _ _ (some ⟨w1.heap.size, 0, none⟩) A 0 0 xs.length c [] (ints xs) rfl rfl (Own.nil _ _ _ _ _ _) ((hr.below hb1).alloc _) (ints_one _) (by unfold maxLen; omega) (by omega) (by simp) ?_; intro A2 c2 w2 o2 f2; rw [Nat.zero_add, List.nil_append] at o2; have z2 := f2.size; (try simp at z2))
        refine (l1In_any _ _ _ _).mono ?_
        rintro e w3 ⟨rfl, rfl⟩
        go_wp2_with fail
        refine (l1In_any _ _ _ _).mono ?_
        rintro e w4 ⟨rfl, rfl⟩
        go_wp2
        go_ret2
        rw [HP.out.1, HP.out.2]
        exact ⟨A2, c2, rfl, o2.mono hb1.size (Nat.le_refl _), (Below.via (Below.alloc1 hb1 _) f2.below0)⟩
      · obtain ⟨i, x, rfl, hi, hx⟩ := inR_at ha
        obtain ⟨j, y, rfl, hj, hy⟩ := inR_at hb
        have HP := Lib.hid (ex_yes hv (by rw [ha, hb]; rfl) hx hy)
        have ha' : inB (i : Int) 0 ((xs.length : Int) - 1) = true := ha
        have hb' : inB (j : Int) 0 ((xs.length : Int) - 1) = true := hb
        have HX := Lib.hid hx
        have HY := Lib.hid hy
        have hii0 : (0 : Int) ≤ (i : Int) := by omega
        have hi1 : (i : Int) < (xs.length : Int) := by omega
        have hj0 : (0 : Int) ≤ (j : Int) := by omega
        have hj1 : (j : Int) < (xs.length : Int) := by omega
        clear ha hb hx hy
        go_enter Try.func22, Try.ntmps22
        go_wp2_with fail
        refine (sPlacesValid_any _ _ _ _ _ xs _ hr hn).mono ?_
        rintro e w1 ⟨rfl, hb1⟩
        go_wp2_with (at_builtin; refine wpList_appg _ (by rfl) (.tmp 13) (.tmp 14) 22 rfl 3 i0 (.int .i64 0) 1 8 Try.underlying22 hi0 hz0 hz1 hz2 rfl (by omega) w1.heap.size 0 _ _ (some ⟨w1.heap.size, 0, none⟩) A 0 0 xs.length c [] (ints xs) rfl rfl (Own.nil _ _ _ _ _ _) ((hr.below hb1).alloc _) (ints_one _) (by unfold maxLen; omega) (by omega) (by simp) ?_; intro A2 c2 w2 o2 f2; rw [Nat.zero_add, List.nil_append] at o2; have z2 := f2.size; (try simp at z2))
        refine (l1In_any _ _ _ _).mono ?_
        rintro e w3 ⟨rfl, rfl⟩
        go_wp2_with fail
        refine (l1In_any _ _ _ _).mono ?_
        rintro e w4 ⟨rfl, rfl⟩
        have hB2 := Below.via (Below.alloc1 hb1 (.cells #[] 3)) f2.below0
        have hr2 := (hr.here Nat.one_pos).below hB2
        have z1 := hb1.size
        obtain ⟨gr, or, rfl, hra, hrb, hrc⟩ := hr2.2 (by omega)
        have hcx := hrc i _ (ints_get HX.out)
        have hcy := hrc j _ (ints_get HY.out)
        obtain ⟨g, o, rfl, h2, h3, h4, h5, h6, h7⟩ := o2.at_ (by omega)
        have hci := h5 i _ (ints_get HX.out)
        have hcj := h5 j _ (ints_get HY.out)
        have hset1 := h7 i (.int .i64 y) (by rw [ints_length]; omega)
        rw [← ints_set] at hset1
        obtain ⟨g', o', hA, -, -, -, k5, -, k7⟩ := hset1.at_ (by omega)
        injection hA with hA
        injection hA with hg ho
        subst hg
        subst ho
        have hset2 := k7 j (.int .i64 x) (by rw [ints_length]; simp; omega)
        rw [← ints_set] at hset2
        have hjl : j < (xs.set i y).length := by simp; omega
        have hcj2 := k5 j _ (ints_get (List.getElem?_eq_getElem hjl))
        have hgr : ¬ gr = g := by omega
        have hgr' : ¬ g = gr := by omega
        clear h5 h7 hset1 k7 k5 hr2 hrc
        go_wp2
        go_ret2
        rw [HP.out.1, HP.out.2]
        exact ⟨some ⟨g, o, none⟩, c2, by simp, by simpa using hset2.mono (B' := w.heap.size) (T' := w2.heap.size) (by omega) (Nat.le_refl _), (hB2.setCell (p := ⟨g, o + i, none⟩) (by show w.heap.size ≤ g; omega) _).setCell (p := ⟨g, o + j, none⟩) (by show w.heap.size ≤ g; omega) _⟩
end Go.Proofs.Ythjjhlgdljkkfaa
