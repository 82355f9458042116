/- Contracts on slices of entries: eqEntryS, szEntryS, markEntryS, heldEntryS, sameTree. -/
import Derived.Test.YtpgmfjipkhldmaaEntS
import Derived.Test.YtpgmfjipkhldmaaRegion
namespace Go.Proofs.Ytpgmfjipkhldmaa
set_option linter.unusedVariables false
open Go.RowKit
theorem tm3 {x : Int} (h : 0 ≤ x) : IntKind.i64.wrap (x.tmod 3) = x.tmod 3 := by
  rw [IntKind.wrap_i64, Int.tmod_eq_emod_of_nonneg h]
  omega
theorem wr64e {x : Int} (h0 : -9223372036854775808 ≤ x) (h1 : x ≤ 9223372036854775807) : IntKind.i64.wrap x = x := by
  rw [IntKind.wrap_i64]
  omega
def szLeft (l : Int) (n : Nat) : Int := if (n : Int) ≤ l then l - n else -1
theorem szLeft_yes {l : Int} {n : Nat} (h : (n : Int) ≤ l) : szLeft l n = l - n := if_pos h
theorem szLeft_no {l : Int} {n : Nat} (h : ¬ (n : Int) ≤ l) : szLeft l n = -1 := if_neg h
set_option maxHeartbeats 400000 in
theorem szEntryS_left (n c : Nat) (A : Option Addr) (l : Int) (w : World) (h0 : 0 ≤ l) (h1 : l ≤ 1048576) (hm : n ≤ 9223372036854775807) :
    Calls Try.prog 23 #[.slice A n c, .int .i64 l] w fun e w' => e = .returned (.int .i64 (szLeft l n)) ∧ w = w' := by
  by_cases h : (n : Int) ≤ l
  · have h2 : ¬ (l - (n : Int)) < 0 := by omega
    have HE := Lib.hid (szLeft_yes h)
    go_enter Try.func23, Try.ntmps23
    go_wp2
    go_ret
    exact ⟨by rw [HE.out]; rfl, rfl⟩
  · have h2 : (l - (n : Int)) < 0 := by omega
    have HE := Lib.hid (szLeft_no h)
    go_enter Try.func23, Try.ntmps23
    go_wp2
    go_ret
    exact ⟨by rw [HE.out]; rfl, rfl⟩
set_option maxHeartbeats 600000 in
theorem eqEntryS_any (B T B2 T2 n c m c2 : Nat) (A A2 : Option Addr) (xs ys : List En) (w : World) (hr : Rd w B T 6 A n (ents xs)) (hr2 : Rd w B2 T2 6 A2 m (ents ys)) (hn : n ≤ 1048576) :
    Calls Try.prog 25 #[.slice A n c, .slice A2 m c2] w fun e w' => e = .returned (.bool (decide (xs = ys))) ∧ Below w.heap.size w w' := by
  have hl := ents_len hr
  have hl2 := ents_len hr2
  by_cases hnm : n = m
  · subst hnm
    have HL := Lib.hid hl
    have HL2 := Lib.hid hl2
    clear hl hl2
    go_enter Try.func25, Try.ntmps25
    go_wp2
    go_loopw [5] (fun i wr => ∃ k : Nat, k ≤ n ∧ i = .int .i64 k ∧ Hid (xs.take k = ys.take k) ∧ Below w.heap.size w wr) (fun i _ => n - (intOf i).toNat)
    case atStart => exact ⟨0, by omega, rfl, Lib.hid rfl, Below.refl _ _⟩
    case round =>
      obtain ⟨k, hk, rfl, ht, hb⟩ := hrel
      by_cases hlt : k < n
      · obtain ⟨b, o, k1, o1, r1, b1, p1, g1, rfl, hbl, hx, q0, q1, q2, q3, q4, q5⟩ := ent_at (hr.below hb) hlt
        obtain ⟨b2, o2, k2, p2, r2, d2, q9, g2, rfl, hbl2, hy, e0, e1, e2, e3, e4, e5⟩ := ent_at (hr2.below hb) hlt
        have hkk : (k : Int) < (n : Int) := by omega
        have hk0 : (0 : Int) ≤ (k : Int) := by omega
        have HX := Lib.hid hx
        have HY := Lib.hid hy
        clear hr hr2 hx hy
        go_wp2_with fail
        refine wp_region_noPanic ?_
        refine wp_region_held_drew (S := (fun W => W.cell? ⟨b, o + k * 6, none⟩ = some (.int .i64 k1) ∧ W.cell? ⟨b, o + k * 6 + 1, none⟩ = some (.int .i64 o1) ∧ W.cell? ⟨b, o + k * 6 + 2, none⟩ = some (.int .i64 r1) ∧ W.cell? ⟨b, o + k * 6 + 3, none⟩ = some (.int .i64 b1) ∧ W.cell? ⟨b, o + k * 6 + 4, none⟩ = some (.int .i64 p1) ∧ W.cell? ⟨b, o + k * 6 + 5, none⟩ = some (.bool g1) ∧ W.cell? ⟨b2, o2 + k * 6, none⟩ = some (.int .i64 k2) ∧ W.cell? ⟨b2, o2 + k * 6 + 1, none⟩ = some (.int .i64 p2) ∧ W.cell? ⟨b2, o2 + k * 6 + 2, none⟩ = some (.int .i64 r2) ∧ W.cell? ⟨b2, o2 + k * 6 + 3, none⟩ = some (.int .i64 d2) ∧ W.cell? ⟨b2, o2 + k * 6 + 4, none⟩ = some (.int .i64 q9) ∧ W.cell? ⟨b2, o2 + k * 6 + 5, none⟩ = some (.bool g2))) (by kernel_rfl) ?_ (fun hHeld => ?_)
        focus (first | exact trivial | ((try dsimp only); ((repeat' (first | assumption | with_reducible refine And.intro ?_ ?_)) <;> go_keep))); done
        refine wpAnyH_take (i := 0) (v := ?_) (by rw [List.getElem?_toArray]; rfl) (by kernel_rfl) (by kernel_rfl) (by kernel_rfl) (fun _ _ _ h => h) (Or.inl ⟨by rfl, ?_⟩) (by assumption) ?_
        rotate_left
        focus (intro wS hSw; (try dsimp only at hSw); go_simp; (try with_reducible rfl)); done
        (try simp only [Act.put, List.setIfInBounds_toArray, List.set_cons_zero, List.set_cons_succ])
        refine wpAnyH_take (i := 1) (v := ?_) (by rw [List.getElem?_toArray]; rfl) (by kernel_rfl) (by kernel_rfl) (by kernel_rfl) (fun _ _ _ h => h) (Or.inl ⟨by rfl, ?_⟩) (by assumption) ?_
        rotate_left
        focus (intro wS hSw; (try dsimp only at hSw); go_simp; (try with_reducible rfl)); done
        (try simp only [Act.put, List.setIfInBounds_toArray, List.set_cons_zero, List.set_cons_succ])
        refine wpAnyH_take (i := 2) (v := ?_) (by rw [List.getElem?_toArray]; rfl) (by kernel_rfl) (by kernel_rfl) (by kernel_rfl) (fun _ _ _ h => h) (Or.inl ⟨by rfl, ?_⟩) (by assumption) ?_
        rotate_left
        focus (intro wS hSw; (try dsimp only at hSw); go_simp; (try with_reducible rfl)); done
        (try simp only [Act.put, List.setIfInBounds_toArray, List.set_cons_zero, List.set_cons_succ])
        refine wpAnyH_take (i := 3) (v := ?_) (by rw [List.getElem?_toArray]; rfl) (by kernel_rfl) (by kernel_rfl) (by kernel_rfl) (fun _ _ _ h => h) (Or.inl ⟨by rfl, ?_⟩) (by assumption) ?_
        rotate_left
        focus (intro wS hSw; (try dsimp only at hSw); go_simp; (try with_reducible rfl)); done
        (try simp only [Act.put, List.setIfInBounds_toArray, List.set_cons_zero, List.set_cons_succ])
        refine wpAnyH_take (i := 4) (v := ?_) (by rw [List.getElem?_toArray]; rfl) (by kernel_rfl) (by kernel_rfl) (by kernel_rfl) (fun _ _ _ h => h) (Or.inl ⟨by rfl, ?_⟩) (by assumption) ?_
        rotate_left
        focus (intro wS hSw; (try dsimp only at hSw); go_simp; (try with_reducible rfl)); done
        (try simp only [Act.put, List.setIfInBounds_toArray, List.set_cons_zero, List.set_cons_succ])
        refine wpAnyH_take (i := 5) (v := ?_) (by rw [List.getElem?_toArray]; rfl) (by kernel_rfl) (by kernel_rfl) (by kernel_rfl) (fun _ _ _ h => h) (Or.inl ⟨by rfl, ?_⟩) (by assumption) ?_
        rotate_left
        focus (intro wS hSw; (try dsimp only at hSw); go_simp; (try with_reducible rfl)); done
        (try simp only [Act.put, List.setIfInBounds_toArray, List.set_cons_zero, List.set_cons_succ])
        refine wpAnyH_take (i := 6) (v := ?_) (by rw [List.getElem?_toArray]; rfl) (by kernel_rfl) (by kernel_rfl) (by kernel_rfl) (fun _ _ _ h => h) (Or.inl ⟨by rfl, ?_⟩) (by assumption) ?_
        rotate_left
        focus (intro wS hSw; (try dsimp only at hSw); go_simp; (try with_reducible rfl)); done
        (try simp only [Act.put, List.setIfInBounds_toArray, List.set_cons_zero, List.set_cons_succ])
        refine wpAnyH_take (i := 7) (v := ?_) (by rw [List.getElem?_toArray]; rfl) (by kernel_rfl) (by kernel_rfl) (by kernel_rfl) (fun _ _ _ h => h) (Or.inl ⟨by rfl, ?_⟩) (by assumption) ?_
        rotate_left
        focus (intro wS hSw; (try dsimp only at hSw); go_simp; (try with_reducible rfl)); done
        (try simp only [Act.put, List.setIfInBounds_toArray, List.set_cons_zero, List.set_cons_succ])
        refine wpAnyH_ready (rs := [8]) (by kernel_rfl) (by simp) ?_
        refine AllReadyH.cons (by rw [List.getElem?_toArray]; rfl) (fun K hK => ?_) AllReadyH.nil
        go_simp
        refine (eqEntry_any _ _ _ _ _ _ _ _ _ _ _ _ _).mono ?_; rintro e w1 ⟨rfl, hb1⟩; have hB1 := Below.via (Below.drew hb) hb1
        refine hK.out _ _ ?_ (fun hHeld => ?_)
        focus (first | exact trivial | ((try dsimp only); (exact ⟨(hb1.cell (p := ⟨b, o + k * 6, none⟩) hbl).trans q0, (hb1.cell (p := ⟨b, o + k * 6 + 1, none⟩) hbl).trans q1, (hb1.cell (p := ⟨b, o + k * 6 + 2, none⟩) hbl).trans q2, (hb1.cell (p := ⟨b, o + k * 6 + 3, none⟩) hbl).trans q3, (hb1.cell (p := ⟨b, o + k * 6 + 4, none⟩) hbl).trans q4, (hb1.cell (p := ⟨b, o + k * 6 + 5, none⟩) hbl).trans q5, (hb1.cell (p := ⟨b2, o2 + k * 6, none⟩) hbl2).trans e0, (hb1.cell (p := ⟨b2, o2 + k * 6 + 1, none⟩) hbl2).trans e1, (hb1.cell (p := ⟨b2, o2 + k * 6 + 2, none⟩) hbl2).trans e2, (hb1.cell (p := ⟨b2, o2 + k * 6 + 3, none⟩) hbl2).trans e3, (hb1.cell (p := ⟨b2, o2 + k * 6 + 4, none⟩) hbl2).trans e4, (hb1.cell (p := ⟨b2, o2 + k * 6 + 5, none⟩) hbl2).trans e5⟩))); done
        clear hK K
        (try simp only [Act.put, List.setIfInBounds_toArray, List.set_cons_zero, List.set_cons_succ])
        refine wpAnyH_take (i := 9) (v := ?_) (by rw [List.getElem?_toArray]; rfl) (by kernel_rfl) (by kernel_rfl) (by kernel_rfl) (fun _ _ _ h => h) (Or.inl ⟨by rfl, ?_⟩) (by assumption) ?_
        rotate_left
        focus (intro wS hSw; (try dsimp only at hSw); go_simp; (try with_reducible rfl)); done
        (try simp only [Act.put, List.setIfInBounds_toArray, List.set_cons_zero, List.set_cons_succ])
        refine wpAnyH_done (by kernel_rfl) ?_ _
        refine NoPanic.normal ?_
        by_cases hxy : (((k1, o1, r1, b1), p1, g1) : En) = ((k2, p2, r2, d2), q9, g2)
        · rw [show entEq ((k1, o1, r1, b1), p1, g1) ((k2, p2, r2, d2), q9, g2) = true from decide_eq_true hxy]
          have HE := Lib.hid hxy
          clear hxy
          go_wp2
          go_roundw
          case rel => exact ⟨k + 1, by omega, by go_num, Lib.hid (by rw [List.take_add_one, List.take_add_one, ht.out, HX.out, HY.out, HE.out]), hB1⟩
          case measure => simp [intOf]; omega
        · have HD := Lib.hid (show decide (xs = ys) = false by
            rw [decide_eq_false_iff_not]
            intro he
            have h1 := HX.out
            rw [he, HY.out] at h1
            injection h1 with h1
            exact hxy h1.symm)
          rw [show entEq ((k1, o1, r1, b1), p1, g1) ((k2, p2, r2, d2), q9, g2) = false from decide_eq_false hxy]
          clear hxy
          go_wp2
          go_ret
          exact ⟨by rw [HD.out]; rfl, hB1⟩
      · have hkn : k = n := by omega
        subst hkn
        clear hr hr2
        have h1 := ht.out
        rw [List.take_of_length_le (by rw [HL.out]; exact Nat.le_refl _), List.take_of_length_le (by rw [HL2.out]; exact Nat.le_refl _)] at h1
        have HE := Lib.hid (decide_eq_true h1)
        clear h1
        go_wp2
        go_ret
        exact ⟨by rw [HE.out]; rfl, hb⟩
  · have hne : ¬ (n : Int) = (m : Int) := by omega
    have hd : decide (xs = ys) = false := by
      rw [decide_eq_false_iff_not]
      intro he
      subst he
      omega
    have HD := Lib.hid hd
    clear hd hl hl2
    go_enter Try.func25, Try.ntmps25
    go_wp2
    go_ret
    exact ⟨by rw [HD.out]; rfl, Below.refl _ _⟩
set_option maxHeartbeats 600000 in
theorem sameTree_same (B T B2 T2 n c c2 : Nat) (A A2 : Option Addr) (xs : List En) (w : World) (hr : Rd w B T 6 A n (ents xs)) (hr2 : Rd w B2 T2 6 A2 n (ents xs)) (hn : n ≤ 1048576) :
    Calls Try.prog 13 #[.slice A n c, .slice A2 n c2] w fun e w' => e = .returned (.bool true) ∧ Below w.heap.size w w' := by
  go_enter Try.func13, Try.ntmps13
  go_wp2
  go_loopw [5] (fun i wr => ∃ k : Nat, k ≤ n ∧ i = .int .i64 k ∧ Below w.heap.size w wr) (fun i _ => n - (intOf i).toNat)
  case atStart => exact ⟨0, by omega, rfl, Below.refl _ _⟩
  case round =>
    obtain ⟨k, hk, rfl, hb⟩ := hrel
    by_cases hlt : k < n
    · obtain ⟨b, o, k1, o1, r1, b1, p1, g1, rfl, hbl, hx, q0, q1, q2, q3, q4, q5⟩ := ent_at (hr.below hb) hlt
      obtain ⟨b2, o2, k2, p2, r2, d2, q9, g2, rfl, hbl2, hy, e0, e1, e2, e3, e4, e5⟩ := ent_at (hr2.below hb) hlt
      rw [hx] at hy
      simp only [Option.some.injEq, Prod.mk.injEq] at hy
      obtain ⟨⟨rfl, rfl, rfl, rfl⟩, rfl, rfl⟩ := hy
      have hkk : (k : Int) < (n : Int) := by omega
      have hk0 : (0 : Int) ≤ (k : Int) := by omega
      clear hr hr2 hx
      go_wp2_with fail
      refine wp_region_noPanic ?_
      refine wp_region_held_drew (S := (fun W => W.cell? ⟨b, o + k * 6, none⟩ = some (.int .i64 k1) ∧ W.cell? ⟨b, o + k * 6 + 1, none⟩ = some (.int .i64 o1) ∧ W.cell? ⟨b, o + k * 6 + 2, none⟩ = some (.int .i64 r1) ∧ W.cell? ⟨b, o + k * 6 + 3, none⟩ = some (.int .i64 b1) ∧ W.cell? ⟨b, o + k * 6 + 4, none⟩ = some (.int .i64 p1) ∧ W.cell? ⟨b, o + k * 6 + 5, none⟩ = some (.bool g1) ∧ W.cell? ⟨b2, o2 + k * 6, none⟩ = some (.int .i64 k1) ∧ W.cell? ⟨b2, o2 + k * 6 + 1, none⟩ = some (.int .i64 o1) ∧ W.cell? ⟨b2, o2 + k * 6 + 2, none⟩ = some (.int .i64 r1) ∧ W.cell? ⟨b2, o2 + k * 6 + 3, none⟩ = some (.int .i64 b1) ∧ W.cell? ⟨b2, o2 + k * 6 + 4, none⟩ = some (.int .i64 p1) ∧ W.cell? ⟨b2, o2 + k * 6 + 5, none⟩ = some (.bool g1))) (by kernel_rfl) ?_ (fun hHeld => ?_)
      focus (first | exact trivial | ((try dsimp only); ((repeat' (first | assumption | with_reducible refine And.intro ?_ ?_)) <;> go_keep))); done
      refine wpAnyH_take (i := 0) (v := ?_) (by rw [List.getElem?_toArray]; rfl) (by kernel_rfl) (by kernel_rfl) (by kernel_rfl) (fun _ _ _ h => h) (Or.inl ⟨by rfl, ?_⟩) (by assumption) ?_
      rotate_left
      focus (intro wS hSw; (try dsimp only at hSw); go_simp; (try with_reducible rfl)); done
      (try simp only [Act.put, List.setIfInBounds_toArray, List.set_cons_zero, List.set_cons_succ])
      refine wpAnyH_take (i := 1) (v := ?_) (by rw [List.getElem?_toArray]; rfl) (by kernel_rfl) (by kernel_rfl) (by kernel_rfl) (fun _ _ _ h => h) (Or.inl ⟨by rfl, ?_⟩) (by assumption) ?_
      rotate_left
      focus (intro wS hSw; (try dsimp only at hSw); go_simp; (try with_reducible rfl)); done
      (try simp only [Act.put, List.setIfInBounds_toArray, List.set_cons_zero, List.set_cons_succ])
      refine wpAnyH_take (i := 2) (v := ?_) (by rw [List.getElem?_toArray]; rfl) (by kernel_rfl) (by kernel_rfl) (by kernel_rfl) (fun _ _ _ h => h) (Or.inl ⟨by rfl, ?_⟩) (by assumption) ?_
      rotate_left
      focus (intro wS hSw; (try dsimp only at hSw); go_simp; (try with_reducible rfl)); done
      (try simp only [Act.put, List.setIfInBounds_toArray, List.set_cons_zero, List.set_cons_succ])
      refine wpAnyH_take (i := 3) (v := ?_) (by rw [List.getElem?_toArray]; rfl) (by kernel_rfl) (by kernel_rfl) (by kernel_rfl) (fun _ _ _ h => h) (Or.inl ⟨by rfl, ?_⟩) (by assumption) ?_
      rotate_left
      focus (intro wS hSw; (try dsimp only at hSw); go_simp; (try with_reducible rfl)); done
      (try simp only [Act.put, List.setIfInBounds_toArray, List.set_cons_zero, List.set_cons_succ])
      refine wpAnyH_take (i := 4) (v := ?_) (by rw [List.getElem?_toArray]; rfl) (by kernel_rfl) (by kernel_rfl) (by kernel_rfl) (fun _ _ _ h => h) (Or.inl ⟨by rfl, ?_⟩) (by assumption) ?_
      rotate_left
      focus (intro wS hSw; (try dsimp only at hSw); go_simp; (try with_reducible rfl)); done
      (try simp only [Act.put, List.setIfInBounds_toArray, List.set_cons_zero, List.set_cons_succ])
      refine wpAnyH_take (i := 5) (v := ?_) (by rw [List.getElem?_toArray]; rfl) (by kernel_rfl) (by kernel_rfl) (by kernel_rfl) (fun _ _ _ h => h) (Or.inl ⟨by rfl, ?_⟩) (by assumption) ?_
      rotate_left
      focus (intro wS hSw; (try dsimp only at hSw); go_simp; (try with_reducible rfl)); done
      (try simp only [Act.put, List.setIfInBounds_toArray, List.set_cons_zero, List.set_cons_succ])
      refine wpAnyH_take (i := 6) (v := ?_) (by rw [List.getElem?_toArray]; rfl) (by kernel_rfl) (by kernel_rfl) (by kernel_rfl) (fun _ _ _ h => h) (Or.inl ⟨by rfl, ?_⟩) (by assumption) ?_
      rotate_left
      focus (intro wS hSw; (try dsimp only at hSw); go_simp; (try with_reducible rfl)); done
      (try simp only [Act.put, List.setIfInBounds_toArray, List.set_cons_zero, List.set_cons_succ])
      refine wpAnyH_take (i := 7) (v := ?_) (by rw [List.getElem?_toArray]; rfl) (by kernel_rfl) (by kernel_rfl) (by kernel_rfl) (fun _ _ _ h => h) (Or.inl ⟨by rfl, ?_⟩) (by assumption) ?_
      rotate_left
      focus (intro wS hSw; (try dsimp only at hSw); go_simp; (try with_reducible rfl)); done
      (try simp only [Act.put, List.setIfInBounds_toArray, List.set_cons_zero, List.set_cons_succ])
      refine wpAnyH_take (i := 8) (v := ?_) (by rw [List.getElem?_toArray]; rfl) (by kernel_rfl) (by kernel_rfl) (by kernel_rfl) (fun _ _ _ h => h) (Or.inl ⟨by rfl, ?_⟩) (by assumption) ?_
      rotate_left
      focus (intro wS hSw; (try dsimp only at hSw); go_simp; (try with_reducible rfl)); done
      (try simp only [Act.put, List.setIfInBounds_toArray, List.set_cons_zero, List.set_cons_succ])
      refine wpAnyH_done (by kernel_rfl) ?_ _
      refine NoPanic.normal ?_
      go_wp2
      go_roundw
      case rel => exact ⟨k + 1, by omega, by go_num, by (repeat (first | (with_reducible assumption) | (with_reducible exact Below.refl _ _) | (with_reducible refine Below.setCell ?_ (by first | (simp; done) | (simp; omega) | omega) _) | (with_reducible refine Below.alloc ?_ (by first | (simp; done) | (simp; omega) | omega) _) | (with_reducible refine Below.drew ?_) | (with_reducible refine Below.drewN ?_ _)))⟩
      case measure => simp [intOf]; omega
    · have hkn : k = n := by omega
      subst hkn
      clear hr hr2
      go_wp2
      go_ret
      exact ⟨rfl, hb⟩
set_option maxHeartbeats 600000 in
theorem markEntryS_any (B T n c : Nat) (A : Option Addr) (es : List En) (k0 : Int) (w : World) (hr : Own w B T 39 6 A n c (ents es)) (hn : n ≤ 1048576) (h0 : 0 ≤ k0) (h1 : k0 ≤ 100000000) :
    Calls Try.prog 26 #[.slice A n c, .int .i64 k0] w fun e w' => e = .returned (.int .i64 (k0 + 6 * n)) ∧ Own w' B T 39 6 A n c (ents (marksE k0 n)) ∧ Fr B T w w' := by
  have hl := ents_len hr.rd
  have HL := Lib.hid hl
  clear hl
  go_enter Try.func26, Try.ntmps26
  go_wp2
  go_loopw [1, 5] (fun q i wr => ∃ k : Nat, k ≤ n ∧ i = .int .i64 k ∧ q = .int .i64 (k0 + 6 * k) ∧ Own wr B T 39 6 A n c (ents (marksE k0 k ++ es.drop k)) ∧ Fr B T w wr) (fun _ i _ => n - (intOf i).toNat)
  case atStart => exact ⟨0, by omega, rfl, by simp, by simpa [marksE] using hr, Fr.refl _ _ _⟩
  case round =>
    obtain ⟨k, hk, rfl, rfl, ho, hb⟩ := hrel
    by_cases hlt : k < n
    · obtain ⟨g, o, rfl, h2, h3, h4, h5, h6, h7⟩ := ho.put6 hlt (mk6 (k0 + 6 * (k : Int)))
      obtain ⟨u0, g0⟩ := h5 0 (by omega)
      obtain ⟨u1, g1⟩ := h5 1 (by omega)
      obtain ⟨u2, g2⟩ := h5 2 (by omega)
      obtain ⟨u3, g3⟩ := h5 3 (by omega)
      obtain ⟨u4, g4⟩ := h5 4 (by omega)
      obtain ⟨u5, g5⟩ := h5 5 (by omega)
      rw [marksE_set k0 es n k HL.out hlt] at h7
      simp only [Nat.add_zero, mk6] at g0 h7
      have hkk : (k : Int) < (n : Int) := by omega
      have hk0 : (0 : Int) ≤ (k : Int) := by omega
      have hn' : (n : Int) ≤ 1048576 := by omega
      obtain ⟨s, hs⟩ : ∃ s, k0 + 6 * (k : Int) = s := ⟨_, rfl⟩
      rw [hs] at h7 ⊢
      have hs1 : s ≤ 200000000 := by omega
      have hs0 : 0 ≤ s := by omega
      have hmw : IntKind.i64.wrap ((s + 1 + 1 + 1 + 1 + 1).tmod 3) = (s + 1 + 1 + 1 + 1 + 1).tmod 3 := tm3 (by omega)
      have HS := Lib.hid hs
      have H7 := Lib.hid h7
      clear h5 ho hr hs h7
      go_wp2
      go_roundw
      case rel => exact ⟨k + 1, by omega, by go_num, by have := HS.out; congr 1; omega, H7.out, (((((hb.setCell h2 h3 _).setCell h2 h3 _).setCell h2 h3 _).setCell h2 h3 _).setCell h2 h3 _).setCell h2 h3 _⟩
      case measure => simp [intOf]; omega
    · have hkn : k = n := by omega
      subst hkn
      clear hr
      go_wp2
      go_ret
      refine ⟨rfl, ?_, hb⟩
      simpa [List.drop_of_length_le (by rw [HL.out]; exact Nat.le_refl _ : es.length ≤ k)] using ho
set_option maxHeartbeats 600000 in
theorem heldEntryS_any (B T n c : Nat) (A : Option Addr) (k0 : Int) (w : World) (hr : Rd w B T 6 A n (ents (marksE k0 n))) (hn : n ≤ 1048576) (h0 : 0 ≤ k0) (h1 : k0 ≤ 100000000) :
    Calls Try.prog 27 #[.slice A n c, .int .i64 k0] w fun e w' => e = .returned (.int .i64 (k0 + 6 * n)) ∧ Below w.heap.size w w' := by
  go_enter Try.func27, Try.ntmps27
  go_wp2
  go_loopw [1, 5] (fun q i wr => ∃ k : Nat, k ≤ n ∧ i = .int .i64 k ∧ q = .int .i64 (k0 + 6 * k) ∧ Below w.heap.size w wr) (fun _ i _ => n - (intOf i).toNat)
  case atStart => exact ⟨0, by omega, rfl, by simp, Below.refl _ _⟩
  case round =>
    obtain ⟨k, hk, rfl, rfl, hb⟩ := hrel
    by_cases hlt : k < n
    · obtain ⟨b, o, kk, oo, rr, bb, pp, gg, rfl, hbl, hx, e0, e1, e2, e3, e4, e5⟩ := ent_at (hr.below hb) hlt
      rw [marksE_get k0 n k hlt] at hx
      unfold mk6 at hx
      simp only [Option.some.injEq, Prod.mk.injEq] at hx
      obtain ⟨⟨rfl, rfl, rfl, rfl⟩, rfl, rfl⟩ := hx
      have hkk : (k : Int) < (n : Int) := by omega
      have hk0 : (0 : Int) ≤ (k : Int) := by omega
      have hn' : (n : Int) ≤ 1048576 := by omega
      obtain ⟨s, hs⟩ : ∃ s, k0 + 6 * (k : Int) = s := ⟨_, rfl⟩
      rw [hs] at e0 e1 e2 e3 e4 e5 ⊢
      have hs1 : s ≤ 200000000 := by omega
      have hs0 : 0 ≤ s := by omega
      have hmw : IntKind.i64.wrap ((s + 1 + 1 + 1 + 1 + 1).tmod 3) = (s + 1 + 1 + 1 + 1 + 1).tmod 3 := tm3 (by omega)
      have HS := Lib.hid hs
      clear hr hs
      go_wp2
      go_roundw
      case rel => exact ⟨k + 1, by omega, by go_num, by have := HS.out; congr 1; omega, hb⟩
      case measure => simp [intOf]; omega
    · have hkn : k = n := by omega
      subst hkn
      clear hr
      go_wp2
      go_ret
      exact ⟨rfl, hb⟩
end Go.Proofs.Ytpgmfjipkhldmaa
