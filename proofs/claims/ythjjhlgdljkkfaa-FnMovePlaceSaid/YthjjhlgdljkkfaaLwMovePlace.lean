/- The walk of the law FnMovePlace: it returns true and leaves all that was in memory as it was, for every code. -/
import Derived.Test.YthjjhlgdljkkfaaLwPlacesHead
namespace Go.Proofs.Ythjjhlgdljkkfaa
set_option linter.unusedVariables false
open Go.RowKit

theorem swp_move {xs : List Int} {i j : Nat} {x y : Int} (hi : i < xs.length) (hj : j < xs.length) (hv : placesV xs = true) (hx : xs[i]? = some x) (hy : xs[j]? = some y) (hm : mayM xs (i : Int) (j : Int) = true) :
    y = -1 ∧ (swp xs i j)[j]? = some x ∧ (swp xs i j)[i]? = some (-1) ∧ mayM (swp xs i j) (j : Int) (i : Int) = true ∧ placesV (swp xs i j) = true := by
  have h := mayM_at hx hy
  rw [hm] at h
  simp only [Bool.and_eq_true, decide_eq_true_eq] at h
  have hin := spots_in hv hy
  rw [inB_true] at hin
  have hy1 : y = -1 := by omega
  subst hy1
  have hij : i ≠ j := by
    intro e
    subst e
    rw [hx] at hy
    injection hy with hy
    omega
  have g1 : (swp xs i j)[i]? = some (-1) := by rw [swp_get hi hj, if_neg hij, if_pos rfl]; exact hy
  have g2 : (swp xs i j)[j]? = some x := by rw [swp_get hi hj, if_pos rfl]; exact hx
  refine ⟨rfl, g2, g1, ?_, placesV_swp hi hj hv⟩
  rw [← mayM_at g2 g1]
  simp
  omega
set_option maxHeartbeats 4000000 in
theorem law_MovePlace (B T n c : Nat) (A : Option Addr) (bs : List Value) (w : World) (hr : Rd w B T 1 A n bs) (hb : Bytes bs) (hnc : n ≤ c) :
    Calls Try.prog 9 #[.slice A n c] w fun e w' => e = .returned (.bool true) ∧ Below w.heap.size w w' := by
  by_cases hbig : 1048576 < n
  · have hd : (1048576 : Int) < (n : Int) := by omega
    go_enter Try.func9, Try.ntmps9
    go_wp2_with fail
    go_ret
    exact ⟨rfl, Below.refl _ _⟩
  have hn : n ≤ 1048576 := by omega
  have hd : ¬ (1048576 : Int) < (n : Int) := by omega
  have hB := Below.refl w.heap.size w
  go_enter Try.func9, Try.ntmps9
  go_wp2_with fail
  refine (DrawMovePlace_any B T n c A bs _ hr hb hn hnc).mono ?_
  rintro e w1 ⟨A1, c1, xs, u, v, rfl, o1, hl, hb1⟩
  have z1 := hb1.size
  replace hB := Below.via hB hb1
  go_wp2_with fail
  refine (iMovePlace_any _ _ _ _ _ xs u v _ o1.rd (by omega) o1.le).mono ?_
  rintro e w2 ⟨A2, c2, rfl, o2, hb2⟩
  have z2 := hb2.size
  replace hB := Below.via hB hb2
  replace o1 := o1.below hb2
  go_wp2_with fail
  refine (sMovePlace_any _ _ _ _ _ xs u v _ o1.rd (by omega)).mono ?_
  rintro e w3 ⟨A3, c3, rfl, o3, hb3⟩
  have z3 := hb3.size
  replace hB := Below.via hB hb3
  replace o1 := o1.below hb3
  replace o2 := o2.below hb3
  go_wp2_with fail
  refine (sameInts_any _ _ _ _ _ _ _ _ _ _ _ _ _ o2.rd o3.rd (ex_len (mayM xs u v) xs u v)).mono ?_
  rintro e w4 ⟨rfl, hb4⟩
  have z4 := hb4.size
  replace hB := Below.via hB hb4
  replace o1 := o1.below hb4
  replace o2 := o2.below hb4
  rcases ex_case (mayM xs u v) xs u v with ⟨h1, h2⟩ | ⟨h1, h2⟩ | ⟨h1, hv, hm, i, j, x, y, rfl, rfl, hi, hj, hx, hy, h2⟩
  · rw [h2] at o2
    rw [h1, h2]
    clear h1 h2
    go_wp2_with fail
    refine (alive_any _).mono ?_
    rintro e w5 ⟨rfl, hb5⟩
    have z5 := hb5.size
    replace hB := Below.via hB hb5
    go_wp2
    go_ret
    exact ⟨rfl, hB⟩
  · rw [h2] at o2
    rw [h1, h2]
    clear h1 h2
    by_cases h0 : xs = []
    · subst h0
      go_wp2_with fail
      refine (alive_any _).mono ?_
      rintro e w5 ⟨rfl, hb5⟩
      have z5 := hb5.size
      replace hB := Below.via hB hb5
      go_wp2
      go_ret
      exact ⟨rfl, hB⟩
    · have h0' : (xs.length == 0) = false := by simp [h0]
      have h00 : ¬ xs.length = 0 := by simpa using h0
      go_wp2_with fail
      refine (sameInts_any _ _ _ _ _ _ _ _ _ _ xs xs _ o2.rd o1.rd (by omega)).mono ?_
      rintro e w5 ⟨rfl, hb5⟩
      have z5 := hb5.size
      replace hB := Below.via hB hb5
      go_wp2_with fail
      refine (alive_any _).mono ?_
      rintro e w6 ⟨rfl, hb6⟩
      have z6 := hb6.size
      replace hB := Below.via hB hb6
      go_wp2
      go_ret
      exact ⟨rfl, hB⟩
  · obtain ⟨rfl, gy, gx, hm2, hV⟩ := swp_move hi hj hv hx hy hm
    have hl2 := swp_len xs i j
    have hk := ex_swap hV (by rw [hl2]; exact hj : j < _) (by rw [hl2]; exact hi : i < _)
    rw [swp_back hi hj] at hk
    rw [h2] at o2
    rw [h1, h2]
    obtain ⟨ys, hys⟩ : ∃ ys, swp xs i j = ys := ⟨_, rfl⟩
    rw [hys] at o2 hV hl2 hk gx gy hm2 ⊢
    rw [hl2] at o2 ⊢
    have HV := Lib.hid hV
    have HK := Lib.hid hk
    have HM := Lib.hid hm2
    have HGX := Lib.hid gx
    have HGY := Lib.hid gy
    have HX := Lib.hid hx
    have hlen : xs.length ≤ 1048576 := by omega
    clear hV hk gx gy hx hy h1 h2 hys hv hl2 hm hm2
    go_wp2_with fail
    refine (iMovePlace_any _ _ _ _ _ ys (j : Int) (i : Int) _ o2.rd hlen o2.le).mono ?_
    rintro e w5 ⟨A5, c5, rfl, o5, hb5⟩
    have z5 := hb5.size
    replace hB := Below.via hB hb5
    replace o1 := o1.below hb5
    replace o2 := o2.below hb5
    rw [HM.out, HK.out.1] at o5 ⊢
    rw [HK.out.2]
    obtain ⟨g2, p2, rfl, -, -, q2⟩ := o2.rd.2 (by omega)
    have k2i := q2 i _ (ints_get HGX.out)
    have k2j := q2 j _ (ints_get HGY.out)
    obtain ⟨g1, p1, rfl, -, -, q1⟩ := o1.rd.2 (by omega)
    have k1i := q1 i _ (ints_get HX.out)
    have hi0 : (0 : Int) ≤ (i : Int) := by omega
    have hi1 : (i : Int) < (xs.length : Int) := by omega
    have hj0 : (0 : Int) ≤ (j : Int) := by omega
    have hj1 : (j : Int) < (xs.length : Int) := by omega
    clear q1 q2
    go_wp2_with fail
    refine wp_region_noPanic ?_
    refine wp_region_held_drew (S := (fun W => W.cell? ⟨g2, p2 + j, none⟩ = some (.int .i64 x) ∧ W.cell? ⟨g1, p1 + i, none⟩ = some (.int .i64 x) ∧ W.cell? ⟨g2, p2 + i, none⟩ = some (.int .i64 (-1)))) (by kernel_rfl) ?_ (fun hHeld => ?_)
    focus (first | exact trivial | ((try dsimp only); ((repeat' (first | assumption | with_reducible refine And.intro ?_ ?_)) <;> go_keep))); done
    refine wpAnyH_take (i := 0) (v := ?_) (by rw [List.getElem?_toArray]; rfl) (by kernel_rfl) (by kernel_rfl) (by kernel_rfl) (fun _ _ _ h => h) (Or.inl ⟨by rfl, ?_⟩) (by assumption) ?_
    rotate_left
    focus (intro wS hSw; (try dsimp only at hSw); go_simp; (try with_reducible rfl)); done
    (try simp only [Act.put, List.setIfInBounds_toArray, List.set_cons_zero, List.set_cons_succ])
    refine wpAnyH_take (i := 1) (v := ?_) (by rw [List.getElem?_toArray]; rfl) (by kernel_rfl) (by kernel_rfl) (by kernel_rfl) (fun _ _ _ h => h) (Or.inl ⟨by rfl, ?_⟩) (by assumption) ?_
    rotate_left
    focus (intro wS hSw; (try dsimp only at hSw); go_simp; (try with_reducible rfl)); done
    (try simp only [Act.put, List.setIfInBounds_toArray, List.set_cons_zero, List.set_cons_succ])
    refine wpAnyH_take (i := 2) (v := ?_) (by rw [List.getElem?_toArray]; rfl) (by kernel_rfl) (by kernel_rfl) (by kernel_rfl) (fun _ _ _ h => h) (Or.inl ⟨by rfl, ?_⟩) (by assumption) ?_
    rotate_left
    focus (intro wS hSw; (try dsimp only at hSw); go_simp; (try with_reducible rfl)); done
    (try simp only [Act.put, List.setIfInBounds_toArray, List.set_cons_zero, List.set_cons_succ])
    refine wpAnyH_take (i := 3) (v := ?_) (by rw [List.getElem?_toArray]; rfl) (by kernel_rfl) (by kernel_rfl) (by kernel_rfl) (fun _ _ _ h => h) (Or.inl ⟨by rfl, ?_⟩) (by assumption) ?_
    rotate_left
    focus (intro wS hSw; (try dsimp only at hSw); go_simp; (try with_reducible rfl)); done
    (try simp only [Act.put, List.setIfInBounds_toArray, List.set_cons_zero, List.set_cons_succ])
    refine wpAnyH_take (i := 4) (v := ?_) (by rw [List.getElem?_toArray]; rfl) (by kernel_rfl) (by kernel_rfl) (by kernel_rfl) (fun _ _ _ h => h) (Or.inl ⟨by rfl, ?_⟩) (by assumption) ?_
    rotate_left
    focus (intro wS hSw; (try dsimp only at hSw); go_simp; (try with_reducible rfl)); done
    (try simp only [Act.put, List.setIfInBounds_toArray, List.set_cons_zero, List.set_cons_succ])
    refine wpAnyH_take (i := 5) (v := ?_) (by rw [List.getElem?_toArray]; rfl) (by kernel_rfl) (by kernel_rfl) (by kernel_rfl) (fun _ _ _ h => h) (Or.inl ⟨by rfl, ?_⟩) (by assumption) ?_
    rotate_left
    focus (intro wS hSw; (try dsimp only at hSw); go_simp; (try with_reducible rfl)); done
    (try simp only [Act.put, List.setIfInBounds_toArray, List.set_cons_zero, List.set_cons_succ])
    refine wpAnyH_take (i := 6) (v := ?_) (by rw [List.getElem?_toArray]; rfl) (by kernel_rfl) (by kernel_rfl) (by kernel_rfl) (fun _ _ _ h => h) (Or.inl ⟨by rfl, ?_⟩) (by assumption) ?_
    rotate_left
    focus (intro wS hSw; (try dsimp only at hSw); go_simp; (try with_reducible rfl)); done
    (try simp only [Act.put, List.setIfInBounds_toArray, List.set_cons_zero, List.set_cons_succ])
    refine wpAnyH_take (i := 7) (v := ?_) (by rw [List.getElem?_toArray]; rfl) (by kernel_rfl) (by kernel_rfl) (by kernel_rfl) (fun _ _ _ h => h) (Or.inl ⟨by rfl, ?_⟩) (by assumption) ?_
    rotate_left
    focus (intro wS hSw; (try dsimp only at hSw); go_simp; (try with_reducible rfl)); done
    (try simp only [Act.put, List.setIfInBounds_toArray, List.set_cons_zero, List.set_cons_succ])
    refine wpAnyH_take (i := 8) (v := ?_) (by rw [List.getElem?_toArray]; rfl) (by kernel_rfl) (by kernel_rfl) (by kernel_rfl) (fun _ _ _ h => h) (Or.inl ⟨by rfl, ?_⟩) (by assumption) ?_
    rotate_left
    focus (intro wS hSw; (try dsimp only at hSw); go_simp; (try with_reducible rfl)); done
    (try simp only [Act.put, List.setIfInBounds_toArray, List.set_cons_zero, List.set_cons_succ])
    refine wpAnyH_take (i := 9) (v := ?_) (by rw [List.getElem?_toArray]; rfl) (by kernel_rfl) (by kernel_rfl) (by kernel_rfl) (fun _ _ _ h => h) (Or.inl ⟨by rfl, ?_⟩) (by assumption) ?_
    rotate_left
    focus (intro wS hSw; (try dsimp only at hSw); go_simp; (try with_reducible rfl)); done
    (try simp only [Act.put, List.setIfInBounds_toArray, List.set_cons_zero, List.set_cons_succ])
    refine wpAnyH_take (i := 10) (v := ?_) (by rw [List.getElem?_toArray]; rfl) (by kernel_rfl) (by kernel_rfl) (by kernel_rfl) (fun _ _ _ h => h) (Or.inl ⟨by rfl, ?_⟩) (by assumption) ?_
    rotate_left
    focus (intro wS hSw; (try dsimp only at hSw); go_simp; (try with_reducible rfl)); done
    (try simp only [Act.put, List.setIfInBounds_toArray, List.set_cons_zero, List.set_cons_succ])
    refine wpAnyH_take (i := 11) (v := ?_) (by rw [List.getElem?_toArray]; rfl) (by kernel_rfl) (by kernel_rfl) (by kernel_rfl) (fun _ _ _ h => h) (Or.inl ⟨by rfl, ?_⟩) (by assumption) ?_
    rotate_left
    focus (intro wS hSw; (try dsimp only at hSw); go_simp; (try with_reducible rfl)); done
    (try simp only [Act.put, List.setIfInBounds_toArray, List.set_cons_zero, List.set_cons_succ])
    refine wpAnyH_take (i := 12) (v := ?_) (by rw [List.getElem?_toArray]; rfl) (by kernel_rfl) (by kernel_rfl) (by kernel_rfl) (fun _ _ _ h => h) (Or.inl ⟨by rfl, ?_⟩) (by assumption) ?_
    rotate_left
    focus (intro wS hSw; (try dsimp only at hSw); go_simp; (try with_reducible rfl)); done
    (try simp only [Act.put, List.setIfInBounds_toArray, List.set_cons_zero, List.set_cons_succ])
    refine wpAnyH_take (i := 13) (v := ?_) (by rw [List.getElem?_toArray]; rfl) (by kernel_rfl) (by kernel_rfl) (by kernel_rfl) (fun _ _ _ h => h) (Or.inl ⟨by rfl, ?_⟩) (by assumption) ?_
    rotate_left
    focus (intro wS hSw; (try dsimp only at hSw); go_simp; (try with_reducible rfl)); done
    (try simp only [Act.put, List.setIfInBounds_toArray, List.set_cons_zero, List.set_cons_succ])
    refine wpAnyH_take (i := 14) (v := ?_) (by rw [List.getElem?_toArray]; rfl) (by kernel_rfl) (by kernel_rfl) (by kernel_rfl) (fun _ _ _ h => h) (Or.inl ⟨by rfl, ?_⟩) (by assumption) ?_
    rotate_left
    focus (intro wS hSw; (try dsimp only at hSw); go_simp; (try with_reducible rfl)); done
    (try simp only [Act.put, List.setIfInBounds_toArray, List.set_cons_zero, List.set_cons_succ])
    refine wpAnyH_take (i := 15) (v := ?_) (by rw [List.getElem?_toArray]; rfl) (by kernel_rfl) (by kernel_rfl) (by kernel_rfl) (fun _ _ _ h => h) (Or.inl ⟨by rfl, ?_⟩) (by assumption) ?_
    rotate_left
    focus (intro wS hSw; (try dsimp only at hSw); go_simp; (try with_reducible rfl)); done
    (try simp only [Act.put, List.setIfInBounds_toArray, List.set_cons_zero, List.set_cons_succ])
    refine wpAnyH_take (i := 16) (v := ?_) (by rw [List.getElem?_toArray]; rfl) (by kernel_rfl) (by kernel_rfl) (by kernel_rfl) (fun _ _ _ h => h) (Or.inl ⟨by rfl, ?_⟩) (by assumption) ?_
    rotate_left
    focus (intro wS hSw; (try dsimp only at hSw); go_simp; (try with_reducible rfl)); done
    (try simp only [Act.put, List.setIfInBounds_toArray, List.set_cons_zero, List.set_cons_succ])
    refine wpAnyH_take (i := 17) (v := ?_) (by rw [List.getElem?_toArray]; rfl) (by kernel_rfl) (by kernel_rfl) (by kernel_rfl) (fun _ _ _ h => h) (Or.inl ⟨by rfl, ?_⟩) (by assumption) ?_
    rotate_left
    focus (intro wS hSw; (try dsimp only at hSw); go_simp; (try with_reducible rfl)); done
    (try simp only [Act.put, List.setIfInBounds_toArray, List.set_cons_zero, List.set_cons_succ])
    refine wpAnyH_take (i := 18) (v := ?_) (by rw [List.getElem?_toArray]; rfl) (by kernel_rfl) (by kernel_rfl) (by kernel_rfl) (fun _ _ _ h => h) (Or.inl ⟨by rfl, ?_⟩) (by assumption) ?_
    rotate_left
    focus (intro wS hSw; (try dsimp only at hSw); go_simp; (try with_reducible rfl)); done
    (try simp only [Act.put, List.setIfInBounds_toArray, List.set_cons_zero, List.set_cons_succ])
    refine wpAnyH_take (i := 19) (v := ?_) (by rw [List.getElem?_toArray]; rfl) (by kernel_rfl) (by kernel_rfl) (by kernel_rfl) (fun _ _ _ h => h) (Or.inl ⟨by rfl, ?_⟩) (by assumption) ?_
    rotate_left
    focus (intro wS hSw; (try dsimp only at hSw); go_simp; (try with_reducible rfl)); done
    (try simp only [Act.put, List.setIfInBounds_toArray, List.set_cons_zero, List.set_cons_succ])
    refine wpAnyH_take (i := 20) (v := ?_) (by rw [List.getElem?_toArray]; rfl) (by kernel_rfl) (by kernel_rfl) (by kernel_rfl) (fun _ _ _ h => h) (Or.inl ⟨by rfl, ?_⟩) (by assumption) ?_
    rotate_left
    focus (intro wS hSw; (try dsimp only at hSw); go_simp; (try with_reducible rfl)); done
    (try simp only [Act.put, List.setIfInBounds_toArray, List.set_cons_zero, List.set_cons_succ])
    refine wpAnyH_take (i := 21) (v := ?_) (by rw [List.getElem?_toArray]; rfl) (by kernel_rfl) (by kernel_rfl) (by kernel_rfl) (fun _ _ _ h => h) (Or.inl ⟨by rfl, ?_⟩) (by assumption) ?_
    rotate_left
    focus (intro wS hSw; (try dsimp only at hSw); go_simp; (try with_reducible rfl)); done
    (try simp only [Act.put, List.setIfInBounds_toArray, List.set_cons_zero, List.set_cons_succ])
    refine wpAnyH_ready (rs := [22]) (by kernel_rfl) (by simp) ?_
    refine AllReadyH.cons (by rw [List.getElem?_toArray]; rfl) (fun K hK => ?_) AllReadyH.nil
    go_simp
    refine (sameInts_any _ _ _ _ _ _ _ _ _ _ xs xs _ o5.drew.rd o1.drew.rd hlen).mono ?_; rintro e w7 ⟨rfl, hb7⟩; replace hB := Below.via (Below.drew hB) hb7; replace o2 := o2.drew.below hb7
    refine hK.out _ _ ?_ (fun hHeld => ?_)
    focus (first | exact trivial | ((try dsimp only); (exact ⟨Below.keep hb7 hHeld.1, Below.keep hb7 hHeld.2.1, Below.keep hb7 hHeld.2.2⟩))); done
    clear hK K
    (try simp only [Act.put, List.setIfInBounds_toArray, List.set_cons_zero, List.set_cons_succ])
    refine wpAnyH_take (i := 23) (v := ?_) (by rw [List.getElem?_toArray]; rfl) (by kernel_rfl) (by kernel_rfl) (by kernel_rfl) (fun _ _ _ h => h) (Or.inl ⟨by rfl, ?_⟩) (by assumption) ?_
    rotate_left
    focus (intro wS hSw; (try dsimp only at hSw); go_simp; (try with_reducible rfl)); done
    (try simp only [Act.put, List.setIfInBounds_toArray, List.set_cons_zero, List.set_cons_succ])
    refine wpAnyH_take (i := 24) (v := ?_) (by rw [List.getElem?_toArray]; rfl) (by kernel_rfl) (by kernel_rfl) (by kernel_rfl) (fun _ _ _ h => h) (Or.inl ⟨by rfl, ?_⟩) (by assumption) ?_
    rotate_left
    focus (intro wS hSw; (try dsimp only at hSw); go_simp; (try with_reducible rfl)); done
    (try simp only [Act.put, List.setIfInBounds_toArray, List.set_cons_zero, List.set_cons_succ])
    refine wpAnyH_take (i := 25) (v := ?_) (by rw [List.getElem?_toArray]; rfl) (by kernel_rfl) (by kernel_rfl) (by kernel_rfl) (fun _ _ _ h => h) (Or.inl ⟨by rfl, ?_⟩) (by assumption) ?_
    rotate_left
    focus (intro wS hSw; (try dsimp only at hSw); go_simp; (try with_reducible rfl)); done
    (try simp only [Act.put, List.setIfInBounds_toArray, List.set_cons_zero, List.set_cons_succ])
    refine wpAnyH_ready (rs := [26]) (by kernel_rfl) (by simp) ?_
    refine AllReadyH.cons (by rw [List.getElem?_toArray]; rfl) (fun K hK => ?_) AllReadyH.nil
    go_simp
    refine (iPlacesValid_any _ _ _ _ _ ys _ o2.rd hlen o2.le).mono ?_; rintro e w8 ⟨rfl, hb8⟩; replace hB := Below.via hB hb8; rw [HV.out]
    refine hK.out _ _ ?_ (fun hHeld => ?_)
    focus (first | exact trivial | ((try dsimp only); (exact ⟨Below.keep hb8 hHeld.1, Below.keep hb8 hHeld.2.1, Below.keep hb8 hHeld.2.2⟩))); done
    clear hK K
    (try simp only [Act.put, List.setIfInBounds_toArray, List.set_cons_zero, List.set_cons_succ])
    refine wpAnyH_take (i := 27) (v := ?_) (by rw [List.getElem?_toArray]; rfl) (by kernel_rfl) (by kernel_rfl) (by kernel_rfl) (fun _ _ _ h => h) (Or.inl ⟨by rfl, ?_⟩) (by assumption) ?_
    rotate_left
    focus (intro wS hSw; (try dsimp only at hSw); go_simp; (try with_reducible rfl)); done
    (try simp only [Act.put, List.setIfInBounds_toArray, List.set_cons_zero, List.set_cons_succ])
    refine wpAnyH_take (i := 28) (v := ?_) (by rw [List.getElem?_toArray]; rfl) (by kernel_rfl) (by kernel_rfl) (by kernel_rfl) (fun _ _ _ h => h) (Or.inl ⟨by rfl, ?_⟩) (by assumption) ?_
    rotate_left
    focus (intro wS hSw; (try dsimp only at hSw); go_simp; (try with_reducible rfl)); done
    (try simp only [Act.put, List.setIfInBounds_toArray, List.set_cons_zero, List.set_cons_succ])
    refine wpAnyH_done (by kernel_rfl) ?_ _
    refine NoPanic.normal ?_
    go_wp2
    go_ret
    exact ⟨rfl, hB⟩
end Go.Proofs.Ythjjhlgdljkkfaa
