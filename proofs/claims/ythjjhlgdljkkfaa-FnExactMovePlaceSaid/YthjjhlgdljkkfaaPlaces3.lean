/- Contracts of exchange with MovePlace's test, and of MovePlace (impl and spec). -/
import Derived.Test.YthjjhlgdljkkfaaPlaces2
namespace Go.Proofs.Ythjjhlgdljkkfaa
set_option linter.unusedVariables false
open Go.RowKit
def mayM (xs : List Int) (a b : Int) : Bool := decide (0 ≤ xs.getD a.toNat 0) && decide (xs.getD b.toNat 0 < 0)
theorem mayM_at {xs : List Int} {i j : Nat} {x y : Int} (hx : xs[i]? = some x) (hy : xs[j]? = some y) : (decide (0 ≤ x) && decide (y < 0)) = mayM xs (i : Int) (j : Int) := by
  simp [mayM, List.getD, hx, hy]
set_option maxHeartbeats 1000000 in
theorem may_any (g0 g1 g2 B T n c i j : Nat) (A : Option Addr) (xs : List Int) (x y : Int) (w : World) (p0 : w.cell? ⟨g0, 0, none⟩ = some (.slice A n c)) (p1 : w.cell? ⟨g1, 0, none⟩ = some (.int .i64 (i : Int))) (p2 : w.cell? ⟨g2, 0, none⟩ = some (.int .i64 (j : Int)))
    (hr : Rd w B T 1 A n (ints xs)) (hi : i < n) (hj : j < n) (hx : xs[i]? = some x) (hy : xs[j]? = some y) :
    Calls Try.prog 35 #[.pointer (some ⟨g0, 0, none⟩), .pointer (some ⟨g1, 0, none⟩), .pointer (some ⟨g2, 0, none⟩)] w fun e w' => e = .returned (.bool (decide (0 ≤ x) && decide (y < 0))) ∧ Below w.heap.size w w' := by
  obtain ⟨b, o, rfl, -, -, hrc⟩ := hr.2 (by omega)
  have hcx := hrc i _ (ints_get hx)
  have hcy := hrc j _ (ints_get hy)
  have hi0 : (0 : Int) ≤ (i : Int) := by omega
  have hi1 : (i : Int) < (n : Int) := by omega
  have hj0 : (0 : Int) ≤ (j : Int) := by omega
  have hj1 : (j : Int) < (n : Int) := by omega
  clear hr hrc hx hy
  by_cases h0 : 0 ≤ x
  · by_cases h1 : y < 0
    · go_enter Try.func35, Try.ntmps35
      go_wp2
      go_ret
      exact ⟨by simp [h0, h1], by (repeat (first | exact Below.refl _ _ | assumption | refine Below.setCell ?_ (by first | (simp; done) | (simp; omega) | omega) _ | refine Below.alloc1 ?_ _ | refine Below.alloc ?_ (by first | (simp; done) | (simp; omega) | omega) _ | refine Below.drew ?_ | refine Below.drewN ?_ _ | refine Below.via ?_ (by assumption)))⟩
    · have h1' : decide (y < 0) = false := by simp; omega
      go_enter Try.func35, Try.ntmps35
      go_wp2
      go_ret
      exact ⟨by simp, by (repeat (first | exact Below.refl _ _ | assumption | refine Below.setCell ?_ (by first | (simp; done) | (simp; omega) | omega) _ | refine Below.alloc1 ?_ _ | refine Below.alloc ?_ (by first | (simp; done) | (simp; omega) | omega) _ | refine Below.drew ?_ | refine Below.drewN ?_ _ | refine Below.via ?_ (by assumption)))⟩
  · have h0' : decide (0 ≤ x) = false := by simp; omega
    go_enter Try.func35, Try.ntmps35
    go_wp2
    go_ret
    exact ⟨by simp, by (repeat (first | exact Below.refl _ _ | assumption | refine Below.setCell ?_ (by first | (simp; done) | (simp; omega) | omega) _ | refine Below.alloc1 ?_ _ | refine Below.alloc ?_ (by first | (simp; done) | (simp; omega) | omega) _ | refine Below.drew ?_ | refine Below.drewN ?_ _ | refine Below.via ?_ (by assumption)))⟩
set_option maxHeartbeats 1000000 in
theorem exchange_move (B T n c g0 g1 g2 : Nat) (A : Option Addr) (xs : List Int) (a b : Int) (w : World) (p0 : w.cell? ⟨g0, 0, none⟩ = some (.slice A n c)) (p1 : w.cell? ⟨g1, 0, none⟩ = some (.int .i64 a)) (p2 : w.cell? ⟨g2, 0, none⟩ = some (.int .i64 b)) (hr : Rd w B T 1 A n (ints xs)) (hn : n ≤ 1048576) (hnc : n ≤ c) :
    Calls Try.prog 34 #[.slice A n c, .int .i64 a, .int .i64 b, .func (.func 35) #[] #[.pointer (some ⟨g0, 0, none⟩), .pointer (some ⟨g1, 0, none⟩), .pointer (some ⟨g2, 0, none⟩)]] w (NewIntsB w (exL (mayM xs a b) xs a b) (exO (mayM xs a b) xs a b)) := by
  have hl := ints_len hr
  subst hl
  cases hv : placesV xs
  · have HP := Lib.hid (ex_no1 (may := mayM xs a b) (a := a) (b := b) hv)
    go_enter Try.func34, Try.ntmps34
    go_wp2_with fail
    refine (iPlacesValid_any _ _ _ _ _ xs _ hr hn hnc).mono ?_
    rintro e w1 ⟨rfl, hb1⟩
    go_wp2
    go_ret2
    rw [HP.out.1, HP.out.2]
    exact ⟨none, 0, rfl, Own.nil _ _ _ _ _ _, hb1⟩
  · have hlen : (0 : Int) ≤ (xs.length : Int) := by omega
    cases ha : inR xs a
    · have HP := Lib.hid (ex_no2 (may := mayM xs a b) (a := a) (b := b) hv (by rw [ha]; rfl))
      have ha' : inB a 0 ((xs.length : Int) - 1) = false := ha
      go_enter Try.func34, Try.ntmps34
      go_wp2_with fail
      refine (iPlacesValid_any _ _ _ _ _ xs _ hr hn hnc).mono ?_
      rintro e w1 ⟨rfl, hb1⟩
      go_wp2_with fail
      refine (clone_any _ _ _ _ _ xs _ (hr.below hb1) hn).mono ?_
      rintro e w2 ⟨A2, c2, rfl, o2, hb2⟩
      go_wp2_with fail
      refine (in_any _ _ _ _).mono ?_
      rintro e w3 ⟨rfl, rfl⟩
      go_wp2
      go_ret2
      rw [HP.out.1, HP.out.2]
      exact ⟨A2, c2, rfl, o2.mono hb1.size (Nat.le_refl _), by (repeat (first | exact Below.refl _ _ | assumption | refine Below.setCell ?_ (by first | (simp; done) | (simp; omega) | omega) _ | refine Below.alloc1 ?_ _ | refine Below.alloc ?_ (by first | (simp; done) | (simp; omega) | omega) _ | refine Below.drew ?_ | refine Below.drewN ?_ _ | refine Below.via ?_ (by assumption)))⟩
    · cases hb : inR xs b
      · have HP := Lib.hid (ex_no2 (may := mayM xs a b) (a := a) (b := b) hv (by rw [ha, hb]; rfl))
        have ha' : inB a 0 ((xs.length : Int) - 1) = true := ha
        have hb' : inB b 0 ((xs.length : Int) - 1) = false := hb
        go_enter Try.func34, Try.ntmps34
        go_wp2_with fail
        refine (iPlacesValid_any _ _ _ _ _ xs _ hr hn hnc).mono ?_
        rintro e w1 ⟨rfl, hb1⟩
        go_wp2_with fail
        refine (clone_any _ _ _ _ _ xs _ (hr.below hb1) hn).mono ?_
        rintro e w2 ⟨A2, c2, rfl, o2, hb2⟩
        go_wp2_with fail
        refine (in_any _ _ _ _).mono ?_
        rintro e w3 ⟨rfl, rfl⟩
        go_wp2_with fail
        refine (in_any _ _ _ _).mono ?_
        rintro e w4 ⟨rfl, rfl⟩
        go_wp2
        go_ret2
        rw [HP.out.1, HP.out.2]
        exact ⟨A2, c2, rfl, o2.mono hb1.size (Nat.le_refl _), by (repeat (first | exact Below.refl _ _ | assumption | refine Below.setCell ?_ (by first | (simp; done) | (simp; omega) | omega) _ | refine Below.alloc1 ?_ _ | refine Below.alloc ?_ (by first | (simp; done) | (simp; omega) | omega) _ | refine Below.drew ?_ | refine Below.drewN ?_ _ | refine Below.via ?_ (by assumption)))⟩
      · obtain ⟨i, x, rfl, hi, hx⟩ := inR_at ha
        obtain ⟨j, y, rfl, hj, hy⟩ := inR_at hb
        have l0 := World.block_lt_of_cell? w _ p0
        have l1 := World.block_lt_of_cell? w _ p1
        have l2 := World.block_lt_of_cell? w _ p2
        have hmv := mayM_at hx hy
        have ha' : inB (i : Int) 0 ((xs.length : Int) - 1) = true := ha
        have hb' : inB (j : Int) 0 ((xs.length : Int) - 1) = true := hb
        cases hm : mayM xs (i : Int) (j : Int)
        · have HP := Lib.hid (ex_no2 (may := false) hv (by rw [ha, hb]; rfl : (inR xs (i : Int) && (inR xs (j : Int) && false)) = false))
          rw [hm] at hmv
          have HM := Lib.hid hmv
          have HX := Lib.hid hx
          have HY := Lib.hid hy
          clear ha hb hx hy hmv hm
          go_enter Try.func34, Try.ntmps34
          go_wp2_with fail
          refine (iPlacesValid_any _ _ _ _ _ xs _ hr hn hnc).mono ?_
          rintro e w1 ⟨rfl, hb1⟩
          go_wp2_with fail
          refine (clone_any _ _ _ _ _ xs _ (hr.below hb1) hn).mono ?_
          rintro e w2 ⟨A2, c2, rfl, o2, hb2⟩
          go_wp2_with fail
          refine (in_any _ _ _ _).mono ?_
          rintro e w3 ⟨rfl, rfl⟩
          go_wp2_with fail
          refine (in_any _ _ _ _).mono ?_
          rintro e w4 ⟨rfl, rfl⟩
          have hB2 := Below.via hb1 hb2
          go_wp2_with fail
          refine (may_any g0 g1 g2 B T xs.length c i j A xs x y w2 ((hB2.cell (p := ⟨g0, 0, none⟩) l0).trans p0) ((hB2.cell (p := ⟨g1, 0, none⟩) l1).trans p1) ((hB2.cell (p := ⟨g2, 0, none⟩) l2).trans p2) (hr.below hB2) hi hj HX.out HY.out).mono ?_
          rintro e w5 ⟨rfl, hb5⟩
          rw [HM.out]
          go_wp2
          go_ret2
          rw [HP.out.1, HP.out.2]
          exact ⟨A2, c2, rfl, (o2.below hb5).mono hb1.size hb5.size, Below.via hB2 hb5⟩
        · have hij : ¬ i = j := by
            intro e
            subst e
            rw [hm] at hmv
            rw [hx] at hy
            injection hy with hy
            subst hy
            simp at hmv
            omega
          have hji : ¬ j = i := fun e => hij e.symm
          have HP := Lib.hid (ex_yes hv (by rw [ha, hb]; rfl) hx hy)
          rw [hm] at hmv
          have HM := Lib.hid hmv
          have HX := Lib.hid hx
          have HY := Lib.hid hy
          clear ha hb hx hy hmv hm
          go_enter Try.func34, Try.ntmps34
          go_wp2_with fail
          refine (iPlacesValid_any _ _ _ _ _ xs _ hr hn hnc).mono ?_
          rintro e w1 ⟨rfl, hb1⟩
          go_wp2_with fail
          refine (clone_any _ _ _ _ _ xs _ (hr.below hb1) hn).mono ?_
          rintro e w2 ⟨A2, c2, rfl, o2, hb2⟩
          go_wp2_with fail
          refine (in_any _ _ _ _).mono ?_
          rintro e w3 ⟨rfl, rfl⟩
          go_wp2_with fail
          refine (in_any _ _ _ _).mono ?_
          rintro e w4 ⟨rfl, rfl⟩
          have hB2 := Below.via hb1 hb2
          go_wp2_with fail
          refine (may_any g0 g1 g2 B T xs.length c i j A xs x y w2 ((hB2.cell (p := ⟨g0, 0, none⟩) l0).trans p0) ((hB2.cell (p := ⟨g1, 0, none⟩) l1).trans p1) ((hB2.cell (p := ⟨g2, 0, none⟩) l2).trans p2) (hr.below hB2) hi hj HX.out HY.out).mono ?_
          rintro e w5 ⟨rfl, hb5⟩
          rw [HM.out]
          replace o2 := o2.below hb5
          have z5 := hb5.size
          obtain ⟨g, o, rfl, h2, h3, h4, h5, h6, h7⟩ := o2.at_ (by omega)
          have hcx := h5 i _ (ints_get HX.out)
          have hcy := h5 j _ (ints_get HY.out)
          have hset1 := h7 i (.int .i64 y) (by rw [ints_length]; omega)
          rw [← ints_set] at hset1
          obtain ⟨g', o', hA, -, -, -, -, -, k7⟩ := hset1.at_ (by omega)
          injection hA with hA
          injection hA with hg ho
          subst hg
          subst ho
          have hset2 := k7 j (.int .i64 x) (by rw [ints_length]; simp; omega)
          rw [← ints_set] at hset2
          have hi0 : (0 : Int) ≤ (i : Int) := by omega
          have hi1 : (i : Int) < (xs.length : Int) := by omega
          have hj0 : (0 : Int) ≤ (j : Int) := by omega
          have hj1 : (j : Int) < (xs.length : Int) := by omega
          have z1 := hb1.size
          have z2 := hb2.size
          clear h5 h7 hset1 k7 ha' hb'
          go_wp2
          refine wp_region_noPanic ?_
          refine wp_region_held_drew (S := (fun _ => True)) (by kernel_rfl) ?_ (fun hHeld => ?_)
          focus (first | exact trivial | ((try dsimp only); ((repeat' (first | assumption | with_reducible refine And.intro ?_ ?_)) <;> go_keep))); done
          refine wpAnyH_take (i := 0) (v := ?_) (by rw [List.getElem?_toArray]; rfl) (by kernel_rfl) (by kernel_rfl) (by kernel_rfl) (fun _ _ _ h => h) (Or.inl ⟨by rfl, ?_⟩) (by assumption) ?_
          rotate_left
          focus (intro wS hSw; (try dsimp only at hSw); go_simp; (try with_reducible rfl)); done
          (try simp only [Act.put, List.setIfInBounds_toArray, List.set_cons_zero, List.set_cons_succ])
          refine wpAnyH_take (i := 1) (v := ?_) (by rw [List.getElem?_toArray]; rfl) (by kernel_rfl) (by kernel_rfl) (by kernel_rfl) (fun _ _ _ h => h) (Or.inl ⟨by rfl, ?_⟩) (by assumption) ?_
          rotate_left
          focus (intro wS hSw; (try dsimp only at hSw); go_simp; (try with_reducible rfl)); done
          (try simp only [Act.put, List.setIfInBounds_toArray, List.set_cons_zero, List.set_cons_succ])
          refine wpAnyH_take (i := 2) (v := ?_) (by rw [List.getElem?_toArray]; rfl) (by kernel_rfl) (by kernel_rfl) (by kernel_rfl) (fun _ _ _ h => h) (Or.inl ⟨by rfl, ?_⟩) (by assumption) ?_
          rotate_left
          focus (intro wS hSw; (try dsimp only at hSw); go_simp; (try with_reducible rfl)); done
          (try simp only [Act.put, List.setIfInBounds_toArray, List.set_cons_zero, List.set_cons_succ])
          refine wpAnyH_take (i := 3) (v := ?_) (by rw [List.getElem?_toArray]; rfl) (by kernel_rfl) (by kernel_rfl) (by kernel_rfl) (fun _ _ _ h => h) (Or.inl ⟨by rfl, ?_⟩) (by assumption) ?_
          rotate_left
          focus (intro wS hSw; (try dsimp only at hSw); go_simp; (try with_reducible rfl)); done
          (try simp only [Act.put, List.setIfInBounds_toArray, List.set_cons_zero, List.set_cons_succ])
          refine wpAnyH_take (i := 4) (v := ?_) (by rw [List.getElem?_toArray]; rfl) (by kernel_rfl) (by kernel_rfl) (by kernel_rfl) (fun _ _ _ h => h) (Or.inl ⟨by rfl, ?_⟩) (by assumption) ?_
          rotate_left
          focus (intro wS hSw; (try dsimp only at hSw); go_simp; (try with_reducible rfl)); done
          (try simp only [Act.put, List.setIfInBounds_toArray, List.set_cons_zero, List.set_cons_succ])
          refine wpAnyH_take (i := 5) (v := ?_) (by rw [List.getElem?_toArray]; rfl) (by kernel_rfl) (by kernel_rfl) (by kernel_rfl) (fun _ _ _ h => h) (Or.inl ⟨by rfl, ?_⟩) (by assumption) ?_
          rotate_left
          focus (intro wS hSw; (try dsimp only at hSw); go_simp; (try with_reducible rfl)); done
          (try simp only [Act.put, List.setIfInBounds_toArray, List.set_cons_zero, List.set_cons_succ])
          refine wpAnyH_take (i := 6) (v := ?_) (by rw [List.getElem?_toArray]; rfl) (by kernel_rfl) (by kernel_rfl) (by kernel_rfl) (fun _ _ _ h => h) (Or.inl ⟨by rfl, ?_⟩) (by assumption) ?_
          rotate_left
          focus (intro wS hSw; (try dsimp only at hSw); go_simp; (try with_reducible rfl)); done
          (try simp only [Act.put, List.setIfInBounds_toArray, List.set_cons_zero, List.set_cons_succ])
          refine wpAnyH_take (i := 8) (v := ?_) (by rw [List.getElem?_toArray]; rfl) (by kernel_rfl) (by kernel_rfl) (by kernel_rfl) (fun _ _ _ h => h) (Or.inl ⟨by rfl, ?_⟩) (by assumption) ?_
          rotate_left
          focus (intro wS hSw; (try dsimp only at hSw); go_simp; (try with_reducible rfl)); done
          (try simp only [Act.put, List.setIfInBounds_toArray, List.set_cons_zero, List.set_cons_succ])
          refine wpAnyH_take (i := 9) (v := ?_) (by rw [List.getElem?_toArray]; rfl) (by kernel_rfl) (by kernel_rfl) (by kernel_rfl) (fun _ _ _ h => h) (Or.inl ⟨by rfl, ?_⟩) (by assumption) ?_
          rotate_left
          focus (intro wS hSw; (try dsimp only at hSw); go_simp; (try with_reducible rfl)); done
          (try simp only [Act.put, List.setIfInBounds_toArray, List.set_cons_zero, List.set_cons_succ])
          refine wpAnyH_take (i := 10) (v := ?_) (by rw [List.getElem?_toArray]; rfl) (by kernel_rfl) (by kernel_rfl) (by kernel_rfl) (fun _ _ _ h => h) (Or.inl ⟨by rfl, ?_⟩) (by assumption) ?_
          rotate_left
          focus (intro wS hSw; (try dsimp only at hSw); go_simp; (try with_reducible rfl)); done
          (try simp only [Act.put, List.setIfInBounds_toArray, List.set_cons_zero, List.set_cons_succ])
          refine wpAnyH_ready (rs := [7, 11]) (by kernel_rfl) (by simp) ?_
          refine AllReadyH.cons (by rw [List.getElem?_toArray]; rfl) (fun K hK => ?_) (AllReadyH.cons (by rw [List.getElem?_toArray]; rfl) (fun K hK => ?_) AllReadyH.nil)
          all_goals go_simp
          all_goals refine hK.out _ _ trivial (fun hHeld => ?_)
          all_goals clear hK K
          all_goals (try simp only [Act.put, List.setIfInBounds_toArray, List.set_cons_zero, List.set_cons_succ])
          · refine wpAnyH_ready (rs := [11]) (by kernel_rfl) (by simp) ?_
            refine AllReadyH.cons (by rw [List.getElem?_toArray]; rfl) (fun K hK => ?_) AllReadyH.nil
            go_simp
            skip
            refine hK.out _ _ ?_ (fun hHeld => ?_)
            focus (first | exact trivial | ((try dsimp only); (exact trivial))); done
            clear hK K
            (try simp only [Act.put, List.setIfInBounds_toArray, List.set_cons_zero, List.set_cons_succ])
            refine wpAnyH_take (i := 12) (v := ?_) (by rw [List.getElem?_toArray]; rfl) (by kernel_rfl) (by kernel_rfl) (by kernel_rfl) (fun _ _ _ h => h) (Or.inl ⟨by rfl, ?_⟩) (by assumption) ?_
            rotate_left
            focus (intro wS hSw; (try dsimp only at hSw); go_simp; (try with_reducible rfl)); done
            (try simp only [Act.put, List.setIfInBounds_toArray, List.set_cons_zero, List.set_cons_succ])
            refine wpAnyH_ready (rs := [13]) (by kernel_rfl) (by simp) ?_
            refine AllReadyH.cons (by rw [List.getElem?_toArray]; rfl) (fun K hK => ?_) AllReadyH.nil
            go_simp
            skip
            refine hK.out _ _ ?_ (fun hHeld => ?_)
            focus (first | exact trivial | ((try dsimp only); (exact trivial))); done
            clear hK K
            (try simp only [Act.put, List.setIfInBounds_toArray, List.set_cons_zero, List.set_cons_succ])
            refine wpAnyH_take (i := 14) (v := ?_) (by rw [List.getElem?_toArray]; rfl) (by kernel_rfl) (by kernel_rfl) (by kernel_rfl) (fun _ _ _ h => h) (Or.inl ⟨by rfl, ?_⟩) (by assumption) ?_
            rotate_left
            focus (intro wS hSw; (try dsimp only at hSw); go_simp; (try with_reducible rfl)); done
            (try simp only [Act.put, List.setIfInBounds_toArray, List.set_cons_zero, List.set_cons_succ])
            refine wpAnyH_ready (rs := [15]) (by kernel_rfl) (by simp) ?_
            refine AllReadyH.cons (by rw [List.getElem?_toArray]; rfl) (fun K hK => ?_) AllReadyH.nil
            go_simp
            skip
            refine hK.out _ _ ?_ (fun hHeld => ?_)
            focus (first | exact trivial | ((try dsimp only); (exact trivial))); done
            clear hK K
            (try simp only [Act.put, List.setIfInBounds_toArray, List.set_cons_zero, List.set_cons_succ])
            refine wpAnyH_done (by kernel_rfl) ?_ _
            refine NoPanic.normal ?_
            go_wp2
            go_ret2
            rw [HP.out.1, HP.out.2]
            exact ⟨some ⟨g, o, none⟩, c2, by simp, by simpa using (hset2.mono (B' := w.heap.size) (T' := w5.heap.size) (by omega) (by omega)).drew, by (repeat (first | exact Below.refl _ _ | assumption | refine Below.setCell ?_ (by first | (simp; done) | (simp; omega) | omega) _ | refine Below.alloc1 ?_ _ | refine Below.alloc ?_ (by first | (simp; done) | (simp; omega) | omega) _ | refine Below.drew ?_ | refine Below.drewN ?_ _ | refine Below.via ?_ (by assumption)))⟩
          · refine wpAnyH_ready (rs := [7]) (by kernel_rfl) (by simp) ?_
            refine AllReadyH.cons (by rw [List.getElem?_toArray]; rfl) (fun K hK => ?_) AllReadyH.nil
            go_simp
            skip
            refine hK.out _ _ ?_ (fun hHeld => ?_)
            focus (first | exact trivial | ((try dsimp only); (exact trivial))); done
            clear hK K
            (try simp only [Act.put, List.setIfInBounds_toArray, List.set_cons_zero, List.set_cons_succ])
            refine wpAnyH_take (i := 12) (v := ?_) (by rw [List.getElem?_toArray]; rfl) (by kernel_rfl) (by kernel_rfl) (by kernel_rfl) (fun _ _ _ h => h) (Or.inl ⟨by rfl, ?_⟩) (by assumption) ?_
            rotate_left
            focus (intro wS hSw; (try dsimp only at hSw); go_simp; (try with_reducible rfl)); done
            (try simp only [Act.put, List.setIfInBounds_toArray, List.set_cons_zero, List.set_cons_succ])
            refine wpAnyH_ready (rs := [13]) (by kernel_rfl) (by simp) ?_
            refine AllReadyH.cons (by rw [List.getElem?_toArray]; rfl) (fun K hK => ?_) AllReadyH.nil
            go_simp
            skip
            refine hK.out _ _ ?_ (fun hHeld => ?_)
            focus (first | exact trivial | ((try dsimp only); (exact trivial))); done
            clear hK K
            (try simp only [Act.put, List.setIfInBounds_toArray, List.set_cons_zero, List.set_cons_succ])
            refine wpAnyH_take (i := 14) (v := ?_) (by rw [List.getElem?_toArray]; rfl) (by kernel_rfl) (by kernel_rfl) (by kernel_rfl) (fun _ _ _ h => h) (Or.inl ⟨by rfl, ?_⟩) (by assumption) ?_
            rotate_left
            focus (intro wS hSw; (try dsimp only at hSw); go_simp; (try with_reducible rfl)); done
            (try simp only [Act.put, List.setIfInBounds_toArray, List.set_cons_zero, List.set_cons_succ])
            refine wpAnyH_ready (rs := [15]) (by kernel_rfl) (by simp) ?_
            refine AllReadyH.cons (by rw [List.getElem?_toArray]; rfl) (fun K hK => ?_) AllReadyH.nil
            go_simp
            skip
            refine hK.out _ _ ?_ (fun hHeld => ?_)
            focus (first | exact trivial | ((try dsimp only); (exact trivial))); done
            clear hK K
            (try simp only [Act.put, List.setIfInBounds_toArray, List.set_cons_zero, List.set_cons_succ])
            refine wpAnyH_done (by kernel_rfl) ?_ _
            refine NoPanic.normal ?_
            go_wp2
            go_ret2
            rw [HP.out.1, HP.out.2]
            exact ⟨some ⟨g, o, none⟩, c2, by simp, by simpa using (hset2.mono (B' := w.heap.size) (T' := w5.heap.size) (by omega) (by omega)).drew, by (repeat (first | exact Below.refl _ _ | assumption | refine Below.setCell ?_ (by first | (simp; done) | (simp; omega) | omega) _ | refine Below.alloc1 ?_ _ | refine Below.alloc ?_ (by first | (simp; done) | (simp; omega) | omega) _ | refine Below.drew ?_ | refine Below.drewN ?_ _ | refine Below.via ?_ (by assumption)))⟩
set_option maxHeartbeats 1000000 in
theorem iMovePlace_any (B T n c : Nat) (A : Option Addr) (xs : List Int) (a b : Int) (w : World) (hr : Rd w B T 1 A n (ints xs)) (hn : n ≤ 1048576) (hnc : n ≤ c) :
    Calls Try.prog 19 #[.slice A n c, .int .i64 a, .int .i64 b] w (NewIntsB w (exL (mayM xs a b) xs a b) (exO (mayM xs a b) xs a b)) := by
  go_enter Try.func19, Try.ntmps19
  go_wp2_with fail
  refine (exchange_move B T n c w.heap.size (w.heap.size + 1) (w.heap.size + 1 + 1) A xs a b _ ?_ ?_ ?_ (((hr.alloc _).alloc _).alloc _) hn hnc).mono ?_
  · simp [go_sem]
  · simp [go_sem]
  · simp [go_sem]
  rintro e w1 ⟨A1, c1, rfl, o1, hb1⟩
  have z1 := hb1.size
  simp at z1
  simp at o1
  go_wp2
  go_ret2
  exact ⟨A1, c1, rfl, o1.mono (by omega) (Nat.le_refl _), Below.via (Below.alloc1 (Below.alloc1 (Below.alloc1 (Below.refl _ _) _) _) _) hb1⟩
end Go.Proofs.Ythjjhlgdljkkfaa
