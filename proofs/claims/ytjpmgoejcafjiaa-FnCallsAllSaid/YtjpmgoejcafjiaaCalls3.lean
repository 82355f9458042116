/- Contracts of slices.Reverse at []int and of DropCaller (impl and spec). -/
import Derived.Test.YtjpmgoejcafjiaaCalls2
namespace Go.Proofs.Ytjpmgoejcafjiaa
set_option linter.unusedVariables false
open Go.RowKit

/-- ys is xs, turned around from both ends for m places. -/
def Rev (xs ys : List Int) (m : Nat) : Prop := ys.length = xs.length ∧ ∀ t, t < xs.length → ys[t]? = if t < m ∨ xs.length - m ≤ t then xs[xs.length - 1 - t]? else xs[t]?
theorem Rev.zero (xs : List Int) : Rev xs xs 0 := ⟨rfl, fun t ht => by rw [if_neg (by omega)]⟩
theorem Rev.done {xs ys : List Int} {m : Nat} (h : Rev xs ys m) (hm : xs.length ≤ 2 * m + 1) : ys = xs.reverse := by
  apply List.ext_getElem? 
  intro t
  by_cases ht : t < xs.length
  · rw [h.2 t ht, List.getElem?_reverse ht]
    split
    · rfl
    · rw [show xs.length - 1 - t = t by omega]
  · rw [List.getElem?_eq_none (by rw [h.1]; omega), List.getElem?_eq_none (by simp; omega)]
theorem Rev.step {xs ys : List Int} {m : Nat} {a b : Int} (h : Rev xs ys m) (hm : 2 * m + 1 < xs.length) (ha : ys[m]? = some a) (hb : ys[xs.length - 1 - m]? = some b) : Rev xs ((ys.set m b).set (xs.length - 1 - m) a) (m + 1) := by
  refine ⟨by simp [h.1], fun t ht => ?_⟩
  have h1 := h.2 m (by omega)
  have h2 := h.2 (xs.length - 1 - m) (by omega)
  rw [if_neg (by omega), ha] at h1
  rw [if_neg (by omega), hb] at h2
  by_cases e1 : t = xs.length - 1 - m
  · subst e1
    rw [List.getElem?_set_self (by simp [h.1]; omega), if_pos (by omega), h1]
    congr 1
    omega
  · rw [List.getElem?_set_ne (by omega)]
    by_cases e2 : t = m
    · subst e2
      rw [List.getElem?_set_self (by rw [h.1]; omega), if_pos (by omega), h2]
    · rw [List.getElem?_set_ne (by omega), h.2 t ht]
      by_cases e3 : t < m ∨ xs.length - m ≤ t
      · rw [if_pos e3, if_pos (by omega)]
      · rw [if_neg e3, if_neg (by omega)]

set_option maxHeartbeats 1000000 in
theorem Reverse_any (B T n c : Nat) (A : Option Addr) (xs : List Int) (w : World) (hr : Own w B T 3 1 A n c (ints xs)) (hn : n ≤ 1048576) :
    Calls Try.prog 49 #[.slice A n c] w fun e w' => e = .returned (.tuple #[]) ∧ Own w' B T 3 1 A n c (ints xs.reverse) ∧ Fr B T w w' := by
  have hl := ints_len hr.rd
  subst hl
  go_enter Try.func49, Try.ntmps49
  go_wp2
  go_loopw [2, 3] (fun i j wr => ∃ (m : Nat) (ys : List Int), (m : Int) ≤ xs.length ∧ i = .int .i64 m ∧ j = .int .i64 ((xs.length : Int) - 1 - m) ∧ Hid (Rev xs ys m) ∧ Own wr B T 3 1 A xs.length c (ints ys) ∧ Fr B T w wr) (fun i _ _ => xs.length - (intOf i).toNat)
  case atStart => exact ⟨0, xs, by omega, rfl, by simp, Lib.hid (Rev.zero xs), hr, Fr.refl _ _ _⟩
  case round =>
    obtain ⟨m, ys, hm, rfl, rfl, ht, ho, hb⟩ := hrel
    by_cases hlt : 2 * m + 1 < xs.length
    · obtain ⟨g, o, rfl, h2, h3, h4, h5, h6, h7⟩ := ho.at_ (by omega)
      have hyl := ht.out.1
      obtain ⟨a, ha⟩ : ∃ a, ys[m]? = some a := ⟨_, List.getElem?_eq_getElem (by omega)⟩
      obtain ⟨b, hb'⟩ : ∃ b, ys[xs.length - 1 - m]? = some b := ⟨_, List.getElem?_eq_getElem (by omega)⟩
      have hca := h5 m _ (ints_get ha)
      have hcb := h5 _ _ (ints_get hb')
      have hset1 := h7 m (.int .i64 b) (by rw [ints_length]; omega)
      rw [← ints_set] at hset1
      obtain ⟨g', o', hA, -, -, -, -, -, k7⟩ := hset1.at_ (by omega)
      injection hA with hA
      injection hA with hg ho'
      subst hg
      subst ho'
      have hset2 := k7 (xs.length - 1 - m) (.int .i64 a) (by rw [ints_length, List.length_set]; omega)
      rw [← ints_set] at hset2
      have HS := Lib.hid (ht.out.step hlt ha hb')
      have hfa := h6 (o + m)
      have hfb := h6 (o + (xs.length - 1 - m))
      obtain ⟨q, hq⟩ : ∃ q : Nat, q = xs.length - 1 - m := ⟨_, rfl⟩
      rw [← hq] at hcb hset2 HS hfb
      have hqi : (xs.length : Int) - 1 - m = (q : Int) := by omega
      rw [hqi]
      have hm0 : (0 : Int) ≤ (m : Int) := by omega
      have hm1 : (m : Int) < (xs.length : Int) := by omega
      have hm2 : (m : Int) < (q : Int) := by omega
      have hq0 : (0 : Int) ≤ (q : Int) := by omega
      have hq1 : (q : Int) < (xs.length : Int) := by omega
      have hne : ¬ m = q := by omega
      have HQ := Lib.hid hq
      clear h5 h6 h7 k7 ho hr hset1 ha hb' hq hqi
      go_wp2
      refine wp_region_noPanic ?_
      refine wp_region_held_drew (S := (fun _ => True)) (by kernel_rfl) ?_ (fun hHeld => ?_)
      focus (first | exact trivial | ((try dsimp only); ((repeat' (first | assumption | with_reducible refine And.intro ?_ ?_)) <;> go_keep))); done
      refine wpAnyH_take (i := 0) (v := ?_) (by rw [List.getElem?_toArray]; rfl) (by kernel_rfl) (by kernel_rfl) (by kernel_rfl) (fun _ _ _ h => h) (Or.inl ⟨by rfl, ?_⟩) (by assumption) ?_
      rotate_left
      focus (intro wS hSw; (try dsimp only at hSw); go_simp; (try with_reducible rfl)); done
      (try simp only [Act.put, List.setIfInBounds_toArray, List.set_cons_zero, List.set_cons_succ])
      refine wpAnyH_take (i := 1) (v := ?_) (by rw [List.getElem?_toArray]; rfl) (by kernel_rfl) (by kernel_rfl) (by kernel_rfl) (fun _ _ _ h => h) (Or.inl ⟨by rfl, ?_⟩) (by assumption) ?_
      rotate_left
      focus (intro wS hSw; (try dsimp only at hSw); go_simp; (try with_reducible rfl)); done
      (try simp only [Act.put, List.setIfInBounds_toArray, List.set_cons_zero, List.set_cons_succ])
      refine wpAnyH_take (i := 2) (v := ?_) (by rw [List.getElem?_toArray]; rfl) (by kernel_rfl) (by kernel_rfl) (by kernel_rfl) (fun _ _ _ h => h) (Or.inl ⟨by rfl, ?_⟩) (by assumption) ?_
      rotate_left
      focus (intro wS hSw; (try dsimp only at hSw); go_simp; (try with_reducible rfl)); done
      (try simp only [Act.put, List.setIfInBounds_toArray, List.set_cons_zero, List.set_cons_succ])
      refine wpAnyH_take (i := 3) (v := ?_) (by rw [List.getElem?_toArray]; rfl) (by kernel_rfl) (by kernel_rfl) (by kernel_rfl) (fun _ _ _ h => h) (Or.inl ⟨by rfl, ?_⟩) (by assumption) ?_
      rotate_left
      focus (intro wS hSw; (try dsimp only at hSw); go_simp; (try with_reducible rfl)); done
      (try simp only [Act.put, List.setIfInBounds_toArray, List.set_cons_zero, List.set_cons_succ])
      refine wpAnyH_take (i := 4) (v := ?_) (by rw [List.getElem?_toArray]; rfl) (by kernel_rfl) (by kernel_rfl) (by kernel_rfl) (fun _ _ _ h => h) (Or.inl ⟨by rfl, ?_⟩) (by assumption) ?_
      rotate_left
      focus (intro wS hSw; (try dsimp only at hSw); go_simp; (try with_reducible rfl)); done
      (try simp only [Act.put, List.setIfInBounds_toArray, List.set_cons_zero, List.set_cons_succ])
      refine wpAnyH_take (i := 5) (v := ?_) (by rw [List.getElem?_toArray]; rfl) (by kernel_rfl) (by kernel_rfl) (by kernel_rfl) (fun _ _ _ h => h) (Or.inl ⟨by rfl, ?_⟩) (by assumption) ?_
      rotate_left
      focus (intro wS hSw; (try dsimp only at hSw); go_simp; (try with_reducible rfl)); done
      (try simp only [Act.put, List.setIfInBounds_toArray, List.set_cons_zero, List.set_cons_succ])
      refine wpAnyH_take (i := 6) (v := ?_) (by rw [List.getElem?_toArray]; rfl) (by kernel_rfl) (by kernel_rfl) (by kernel_rfl) (fun _ _ _ h => h) (Or.inl ⟨by rfl, ?_⟩) (by assumption) ?_
      rotate_left
      focus (intro wS hSw; (try dsimp only at hSw); go_simp; (try with_reducible rfl)); done
      (try simp only [Act.put, List.setIfInBounds_toArray, List.set_cons_zero, List.set_cons_succ])
      refine wpAnyH_take (i := 8) (v := ?_) (by rw [List.getElem?_toArray]; rfl) (by kernel_rfl) (by kernel_rfl) (by kernel_rfl) (fun _ _ _ h => h) (Or.inl ⟨by rfl, ?_⟩) (by assumption) ?_
      rotate_left
      focus (intro wS hSw; (try dsimp only at hSw); go_simp; (try with_reducible rfl)); done
      (try simp only [Act.put, List.setIfInBounds_toArray, List.set_cons_zero, List.set_cons_succ])
      refine wpAnyH_take (i := 9) (v := ?_) (by rw [List.getElem?_toArray]; rfl) (by kernel_rfl) (by kernel_rfl) (by kernel_rfl) (fun _ _ _ h => h) (Or.inl ⟨by rfl, ?_⟩) (by assumption) ?_
      rotate_left
      focus (intro wS hSw; (try dsimp only at hSw); go_simp; (try with_reducible rfl)); done
      (try simp only [Act.put, List.setIfInBounds_toArray, List.set_cons_zero, List.set_cons_succ])
      refine wpAnyH_take (i := 10) (v := ?_) (by rw [List.getElem?_toArray]; rfl) (by kernel_rfl) (by kernel_rfl) (by kernel_rfl) (fun _ _ _ h => h) (Or.inl ⟨by rfl, ?_⟩) (by assumption) ?_
      rotate_left
      focus (intro wS hSw; (try dsimp only at hSw); go_simp; (try with_reducible rfl)); done
      (try simp only [Act.put, List.setIfInBounds_toArray, List.set_cons_zero, List.set_cons_succ])
      refine wpAnyH_ready (rs := [7, 11]) (by kernel_rfl) (by simp) ?_
      refine AllReadyH.cons (by rw [List.getElem?_toArray]; rfl) (fun K hK => ?_) (AllReadyH.cons (by rw [List.getElem?_toArray]; rfl) (fun K hK => ?_) AllReadyH.nil)
      all_goals go_simp
      all_goals refine hK.out _ _ trivial (fun hHeld => ?_)
      all_goals clear hK K
      all_goals (try simp only [Act.put, List.setIfInBounds_toArray, List.set_cons_zero, List.set_cons_succ])
      · refine wpAnyH_ready (rs := [11]) (by kernel_rfl) (by simp) ?_
        refine AllReadyH.cons (by rw [List.getElem?_toArray]; rfl) (fun K hK => ?_) AllReadyH.nil
        go_simp
        skip
        refine hK.out _ _ ?_ (fun hHeld => ?_)
        focus (first | exact trivial | ((try dsimp only); (exact trivial))); done
        clear hK K
        (try simp only [Act.put, List.setIfInBounds_toArray, List.set_cons_zero, List.set_cons_succ])
        refine wpAnyH_take (i := 12) (v := ?_) (by rw [List.getElem?_toArray]; rfl) (by kernel_rfl) (by kernel_rfl) (by kernel_rfl) (fun _ _ _ h => h) (Or.inl ⟨by rfl, ?_⟩) (by assumption) ?_
        rotate_left
        focus (intro wS hSw; (try dsimp only at hSw); go_simp; (try with_reducible rfl)); done
        (try simp only [Act.put, List.setIfInBounds_toArray, List.set_cons_zero, List.set_cons_succ])
        refine wpAnyH_ready (rs := [13]) (by kernel_rfl) (by simp) ?_
        refine AllReadyH.cons (by rw [List.getElem?_toArray]; rfl) (fun K hK => ?_) AllReadyH.nil
        go_simp
        skip
        refine hK.out _ _ ?_ (fun hHeld => ?_)
        focus (first | exact trivial | ((try dsimp only); (exact trivial))); done
        clear hK K
        (try simp only [Act.put, List.setIfInBounds_toArray, List.set_cons_zero, List.set_cons_succ])
        refine wpAnyH_take (i := 14) (v := ?_) (by rw [List.getElem?_toArray]; rfl) (by kernel_rfl) (by kernel_rfl) (by kernel_rfl) (fun _ _ _ h => h) (Or.inl ⟨by rfl, ?_⟩) (by assumption) ?_
        rotate_left
        focus (intro wS hSw; (try dsimp only at hSw); go_simp; (try with_reducible rfl)); done
        (try simp only [Act.put, List.setIfInBounds_toArray, List.set_cons_zero, List.set_cons_succ])
        refine wpAnyH_ready (rs := [15]) (by kernel_rfl) (by simp) ?_
        refine AllReadyH.cons (by rw [List.getElem?_toArray]; rfl) (fun K hK => ?_) AllReadyH.nil
        go_simp
        skip
        refine hK.out _ _ ?_ (fun hHeld => ?_)
        focus (first | exact trivial | ((try dsimp only); (exact trivial))); done
        clear hK K
        (try simp only [Act.put, List.setIfInBounds_toArray, List.set_cons_zero, List.set_cons_succ])
        refine wpAnyH_done (by kernel_rfl) ?_ _
        refine NoPanic.normal ?_
        go_wp2
        go_roundw
        case rel => exact ⟨m + 1, _, by omega, by go_num, by congr 1; have := HQ.out; omega, HS, hset2, ((hb.setCell (p := ⟨g, o + m, none⟩) h2 h3 _).setCell (p := ⟨g, o + q, none⟩) h2 h3 _).drew⟩
        case measure => simp [intOf]; omega
      · refine wpAnyH_ready (rs := [7]) (by kernel_rfl) (by simp) ?_
        refine AllReadyH.cons (by rw [List.getElem?_toArray]; rfl) (fun K hK => ?_) AllReadyH.nil
        go_simp
        skip
        refine hK.out _ _ ?_ (fun hHeld => ?_)
        focus (first | exact trivial | ((try dsimp only); (exact trivial))); done
        clear hK K
        (try simp only [Act.put, List.setIfInBounds_toArray, List.set_cons_zero, List.set_cons_succ])
        refine wpAnyH_take (i := 12) (v := ?_) (by rw [List.getElem?_toArray]; rfl) (by kernel_rfl) (by kernel_rfl) (by kernel_rfl) (fun _ _ _ h => h) (Or.inl ⟨by rfl, ?_⟩) (by assumption) ?_
        rotate_left
        focus (intro wS hSw; (try dsimp only at hSw); go_simp; (try with_reducible rfl)); done
        (try simp only [Act.put, List.setIfInBounds_toArray, List.set_cons_zero, List.set_cons_succ])
        refine wpAnyH_ready (rs := [13]) (by kernel_rfl) (by simp) ?_
        refine AllReadyH.cons (by rw [List.getElem?_toArray]; rfl) (fun K hK => ?_) AllReadyH.nil
        go_simp
        skip
        refine hK.out _ _ ?_ (fun hHeld => ?_)
        focus (first | exact trivial | ((try dsimp only); (exact trivial))); done
        clear hK K
        (try simp only [Act.put, List.setIfInBounds_toArray, List.set_cons_zero, List.set_cons_succ])
        refine wpAnyH_take (i := 14) (v := ?_) (by rw [List.getElem?_toArray]; rfl) (by kernel_rfl) (by kernel_rfl) (by kernel_rfl) (fun _ _ _ h => h) (Or.inl ⟨by rfl, ?_⟩) (by assumption) ?_
        rotate_left
        focus (intro wS hSw; (try dsimp only at hSw); go_simp; (try with_reducible rfl)); done
        (try simp only [Act.put, List.setIfInBounds_toArray, List.set_cons_zero, List.set_cons_succ])
        refine wpAnyH_ready (rs := [15]) (by kernel_rfl) (by simp) ?_
        refine AllReadyH.cons (by rw [List.getElem?_toArray]; rfl) (fun K hK => ?_) AllReadyH.nil
        go_simp
        skip
        refine hK.out _ _ ?_ (fun hHeld => ?_)
        focus (first | exact trivial | ((try dsimp only); (exact trivial))); done
        clear hK K
        (try simp only [Act.put, List.setIfInBounds_toArray, List.set_cons_zero, List.set_cons_succ])
        refine wpAnyH_done (by kernel_rfl) ?_ _
        refine NoPanic.normal ?_
        go_wp2
        go_roundw
        case rel => exact ⟨m + 1, _, by omega, by go_num, by congr 1; have := HQ.out; omega, HS, hset2, ((hb.setCell (p := ⟨g, o + m, none⟩) h2 h3 _).setCell (p := ⟨g, o + q, none⟩) h2 h3 _).drew⟩
        case measure => simp [intOf]; omega
    · have hm' := ht.out.done (by omega)
      subst hm'
      have hge : ¬ (m : Int) < (xs.length : Int) - 1 - m := by omega
      clear hr
      go_wp2
      go_end0
      exact ⟨rfl, ho, hb⟩
/-- Two slices of integers in new memory. -/
def NewInts2 (w : World) (xs ys : List Int) (e : Ending) (w' : World) : Prop :=
  ∃ A c D d M, e = .returned (.tuple #[.slice A xs.length c, .slice D ys.length d]) ∧ w.heap.size ≤ M ∧ M ≤ w'.heap.size ∧ Own w' M w'.heap.size 3 1 A xs.length c (ints xs) ∧ Own w' w.heap.size M 3 1 D ys.length d (ints ys) ∧ Below w.heap.size w w'
def dropA (xs : List Int) (v : Int) : List Int := if callsV xs = true then xs.take (xs.idxOf v) else []
def dropB (xs : List Int) (v : Int) : List Int := if callsV xs = true then (xs.drop (xs.idxOf v + 1)).reverse else []
theorem dropA_len (xs : List Int) (v : Int) : (dropA xs v).length ≤ 1048576 := by
  unfold dropA
  split
  · rename_i h
    unfold callsV at h
    simp only [Bool.and_eq_true, decide_eq_true_eq] at h
    have := h.1
    simp
    omega
  · simp
theorem dropB_len (xs : List Int) (v : Int) : (dropB xs v).length ≤ 1048576 := by
  unfold dropB
  split
  · rename_i h
    unfold callsV at h
    simp only [Bool.and_eq_true, decide_eq_true_eq] at h
    have := h.1
    simp
    omega
  · simp
theorem idxOf_ne {x v : Int} {l : List Int} (h : x ≠ v) : (x :: l).idxOf v = l.idxOf v + 1 := by
  have hb : (x == v) = false := by simp [h]
  rw [List.idxOf_cons, hb]
  rfl
theorem drop_no1 {xs : List Int} {v : Int} (h : callsV xs = false) : dropA xs v = [] ∧ dropB xs v = [] := by unfold dropA dropB; simp [h]
theorem drop_no2 {xs : List Int} {v : Int} (h : callsV xs = true) (hm : v ∉ xs) : dropA xs v = xs ∧ dropB xs v = [] := by
  unfold dropA dropB
  rw [if_pos h, if_pos h, List.idxOf_eq_length hm]
  simp
theorem drop_yes {xs : List Int} {v : Int} {k : Nat} (h : callsV xs = true) (hk : xs.idxOf v = k) : dropA xs v = xs.take k ∧ dropB xs v = (xs.drop (k + 1)).reverse := by
  unfold dropA dropB
  rw [if_pos h, if_pos h, hk]
  exact ⟨rfl, rfl⟩

set_option maxHeartbeats 1000000 in
theorem iDropCaller_any (B T n c : Nat) (A : Option Addr) (xs : List Int) (v : Int) (w : World) (hr : Rd w B T 1 A n (ints xs)) (hn : n ≤ 1048576) (hnc : n ≤ c) :
    Calls Try.prog 32 #[.slice A n c, .int .i64 v] w (NewInts2 w (dropA xs v) (dropB xs v)) := by
  have hl := ints_len hr
  cases hv : callsV xs
  · have HP := Lib.hid (drop_no1 (v := v) hv)
    go_enter Try.func32, Try.ntmps32
    go_wp2_with fail
    refine (iCallsValid_any _ _ _ _ _ xs _ hr hn hnc).mono ?_
    rintro e w1 ⟨rfl, hb1⟩
    go_wp2
    go_ret2
    rw [HP.out.1, HP.out.2]
    exact ⟨none, 0, none, 0, w.heap.size, rfl, Nat.le_refl _, hb1.size, Own.nil _ _ _ _ _ _, Own.nil _ _ _ _ _ _, hb1⟩
  · by_cases hm : v ∈ xs
    · obtain ⟨k, hk⟩ : ∃ k, xs.idxOf v = k := ⟨_, rfl⟩
      have hkl : k < n := by have := List.idxOf_lt_length_of_mem hm; omega
      have hfi : fi xs v = (k : Int) := by unfold fi; rw [if_pos hm, hk]
      have HF := Lib.hid hfi
      have HP := Lib.hid (drop_yes hv hk)
      have hA1 : (xs.take k).length = k := by rw [List.length_take, hl]; omega
      have hB1 : (xs.drop (k + 1)).length = n - (k + 1) := by rw [List.length_drop, hl]
      have H1 := Lib.hid hA1
      have H2 := Lib.hid hB1
      have hk0 : (0 : Int) ≤ (k : Int) := by omega
      have hk1 : ¬ (k : Int) < 0 := by omega
      have hk2 : (k : Int) + 1 ≤ (n : Int) := by omega
      have hk3 : (0 : Int) ≤ (k : Int) + 1 := by omega
      have hk4 : (k : Int) ≤ (c : Int) := by omega
      have hk5 : (n : Int) ≤ (c : Int) := by omega
      have hkt : ((k : Int) + 1).toNat = k + 1 := by omega
      obtain ⟨b, o, -, rfl, -, -, -⟩ := ints_at hr hkl
      clear hl hk hm hfi hA1 hB1
      go_enter Try.func32, Try.ntmps32
      go_wp2_with fail
      refine (iCallsValid_any _ _ _ _ _ xs _ hr hn hnc).mono ?_
      rintro e w1 ⟨rfl, hb1⟩
      go_wp2_with fail
      refine (Index_any _ _ _ _ _ xs v _ (hr.below hb1) hn).mono ?_
      rintro e w2 ⟨rfl, hb2⟩
      rw [HF.out]
      have hr2 := (hr.below hb1).below hb2
      have hcut := hr2.cut (k := k + 1) (by omega) hnc
      have htk := hr2.take (k := k) (by omega)
      rw [Nat.mul_one, ← ints_drop] at hcut
      rw [Nat.mul_one, ← ints_take] at htk
      clear hr hr2
      have HC1 : c = k + 1 → Rd w2 B T 1 (some ⟨b, o, none⟩) (n - (k + 1)) (ints (xs.drop (k + 1))) := fun h => by rwa [if_pos h] at hcut
      have HC2 : ¬ c = k + 1 → Rd w2 B T 1 (some ⟨b, o + (k + 1), none⟩) (n - (k + 1)) (ints (xs.drop (k + 1))) := fun h => by
        rw [if_neg h] at hcut
        simpa [Addr.add_lit] using hcut
      clear hcut
      go_wp2_with fail
      all_goals
        refine (clone_any B T _ _ _ (xs.drop (k + 1)) _ (by first | exact HC1 ‹_› | exact HC2 ‹_›) (by omega)).mono ?_
        rintro e w3 ⟨A3, c3, rfl, o3, hb3⟩
        rw [H2.out] at o3 ⊢
        go_wp2_with fail
        refine (Reverse_any _ _ _ _ _ _ _ o3 (by omega)).mono ?_
        rintro e w4 ⟨rfl, o4, f4⟩
        have z1 := hb1.size
        have z2 := hb2.size
        have z3 := hb3.size
        have z4 := f4.size
        have htk4 := ((htk.here Nat.one_pos).below hb3).fr f4 (.inl (Nat.le_refl _))
        go_wp2_with fail
        refine (clone_any 0 w2.heap.size _ _ _ (xs.take k) _ htk4 (by omega)).mono ?_
        rintro e w5 ⟨A5, c5, rfl, o5, hb5⟩
        have z5 := hb5.size
        go_wp2
        go_ret2
        rw [HP.out.1, HP.out.2]
        refine ⟨A5, c5, A3, c3, w4.heap.size, ?_, by omega, by omega, o5, ?_, ?_⟩
        · rw [List.length_reverse, H2.out]
          simp
        · rw [List.length_reverse, H2.out]
          exact (o4.below hb5).mono (by omega) (by omega)
        · exact Below.via ((Below.via (Below.via hb1 hb2) hb3).trans (f4.below (by omega) (by omega))) hb5
    · have HP := Lib.hid (drop_no2 hv hm)
      have HF := Lib.hid (fi_none hm)
      go_enter Try.func32, Try.ntmps32
      go_wp2_with fail
      refine (iCallsValid_any _ _ _ _ _ xs _ hr hn hnc).mono ?_
      rintro e w1 ⟨rfl, hb1⟩
      go_wp2_with fail
      refine (Index_any _ _ _ _ _ xs v _ (hr.below hb1) hn).mono ?_
      rintro e w2 ⟨rfl, hb2⟩
      rw [HF.out]
      go_wp2_with fail
      refine (clone_any _ _ _ _ _ xs _ ((hr.below hb1).below hb2) hn).mono ?_
      rintro e w3 ⟨A3, c3, rfl, o3, hb3⟩
      go_wp2
      go_ret2
      rw [HP.out.1, HP.out.2]
      exact ⟨A3, c3, none, 0, w2.heap.size, by simp [hl], by have := hb1.size; have := hb2.size; omega, hb3.size, o3, Own.nil _ _ _ _ _ _, by (repeat (first | exact Below.refl _ _ | assumption | refine Below.setCell ?_ (by first | (simp; done) | (simp; omega) | omega) _ | refine Below.alloc1 ?_ _ | refine Below.alloc ?_ (by first | (simp; done) | (simp; omega) | omega) _ | refine Below.drew ?_ | refine Below.drewN ?_ _ | refine Below.via ?_ (by assumption)))⟩
set_option maxHeartbeats 1000000 in
theorem sDropCaller_any (B T n c : Nat) (A : Option Addr) (xs : List Int) (v : Int) (w : World) (hr : Rd w B T 1 A n (ints xs)) (hn : n ≤ 1048576) (hnc : n ≤ c) :
    Calls Try.prog 31 #[.slice A n c, .int .i64 v] w (NewInts2 w (dropA xs v) (dropB xs v)) := by
  obtain ⟨i0, hi0, hz0, hz1, hz2⟩ := info_parts Try.infoInt
  have hl := ints_len hr
  cases hv : callsV xs
  · have HP := Lib.hid (drop_no1 (v := v) hv)
    go_enter Try.func31, Try.ntmps31
    go_wp2_with fail
    refine (sCallsValid_any B T n c A xs _ (hr.alloc _) hn).mono ?_
    rintro e w1 ⟨rfl, hb1⟩
    go_wp2
    go_ret2
    rw [HP.out.1, HP.out.2]
    exact ⟨_, 0, _, 0, w.heap.size, rfl, Nat.le_refl _, by have := hb1.size; simp at this ⊢; omega, Own.nil _ _ _ _ _ _, Own.nil _ _ _ _ _ _, by (repeat (first | exact Below.refl _ _ | assumption | refine Below.setCell ?_ (by first | (simp; done) | (simp; omega) | omega) _ | refine Below.alloc1 ?_ _ | refine Below.alloc ?_ (by first | (simp; done) | (simp; omega) | omega) _ | refine Below.drew ?_ | refine Below.drewN ?_ _ | refine Below.via ?_ (by assumption)))⟩
  · have h16 : n ≤ 16 := by
      unfold callsV at hv
      simp only [Bool.and_eq_true, decide_eq_true_eq] at hv
      omega
    have HP := Lib.hid (drop_yes hv (rfl : xs.idxOf v = xs.idxOf v))
    have HL := Lib.hid hl
    clear hl
    go_enter Try.func31, Try.ntmps31
    go_wp2_with fail
    refine (sCallsValid_any B T n c A xs _ (hr.alloc _) hn).mono ?_
    rintro e w1 ⟨rfl, hb1⟩
    go_wp2
    go_loopw [7, 8] (fun a i wr => ∃ j : Nat, j ≤ n ∧ i = .int .i64 ((j : Int) - 1) ∧ a = .int .i64 ((j + (xs.drop j).idxOf v : Nat) : Int) ∧ Below w1.heap.size w1 wr) (fun _ i _ => (intOf i + 1).toNat)
    case atStart => exact ⟨n, Nat.le_refl _, rfl, by rw [List.drop_of_length_le (by rw [HL.out]; exact Nat.le_refl _)]; simp, Below.refl _ _⟩
    case round =>
      obtain ⟨j, hj, rfl, rfl, hb⟩ := hrel
      cases j with
      | succ q =>
        obtain ⟨b, o, x, rfl, hbl, hx, hc⟩ := ints_at (((hr.alloc _).below hb1).below hb) (show q < n by omega)
        have hd1 : xs.drop q = x :: xs.drop (q + 1) := by
          rw [List.drop_eq_getElem_cons (by rw [HL.out]; omega)]
          congr 1
          exact (List.getElem?_eq_some_iff.1 hx).2
        have HD := Lib.hid hd1
        have hq0 : (0 : Int) ≤ (q : Int) := by omega
        have hq1 : (q : Int) < (n : Int) := by omega
        have hqs : ((q + 1 : Nat) : Int) - 1 = (q : Int) := by omega
        rw [hqs]
        clear hr hx hd1 hqs
        by_cases hxv : x = v
        · subst hxv
          go_wp2
          go_roundw
          case rel => exact ⟨q, by omega, by go_num, by rw [HD.out, List.idxOf_cons_self]; simp, by (repeat (first | exact Below.refl _ _ | assumption | refine Below.setCell ?_ (by first | (simp; done) | (simp; omega) | omega) _ | refine Below.alloc1 ?_ _ | refine Below.alloc ?_ (by first | (simp; done) | (simp; omega) | omega) _ | refine Below.drew ?_ | refine Below.drewN ?_ _ | refine Below.via ?_ (by assumption)))⟩
          case measure => simp [intOf]
        · have hd : (x == v) = false := by simp [hxv]
          go_wp2
          go_roundw
          case rel => exact ⟨q, by omega, by go_num, by rw [HD.out, idxOf_ne hxv, show q + 1 + (xs.drop (q + 1)).idxOf v = q + ((xs.drop (q + 1)).idxOf v + 1) by omega], by (repeat (first | exact Below.refl _ _ | assumption | refine Below.setCell ?_ (by first | (simp; done) | (simp; omega) | omega) _ | refine Below.alloc1 ?_ _ | refine Below.alloc ?_ (by first | (simp; done) | (simp; omega) | omega) _ | refine Below.drew ?_ | refine Below.drewN ?_ _ | refine Below.via ?_ (by assumption)))⟩
          case measure => simp [intOf]
      | zero =>
        obtain ⟨a, ha⟩ : ∃ a, 0 + (xs.drop 0).idxOf v = a := ⟨_, rfl⟩
        rw [ha, show ((0 : Nat) : Int) - 1 = -1 by omega]
        rw [Nat.zero_add, List.drop_zero] at ha
        have hal : a ≤ n := by
          have := List.idxOf_le_length (a := v) (l := xs)
          rw [HL.out] at this
          omega
        rw [ha] at HP
        have z1 := hb1.size
        have z := hb.size
        have hB : Below w.heap.size w wr := Below.via (Below.via ((Below.refl _ _).alloc (Nat.le_refl _) _) hb1) hb
        obtain ⟨wo, rfl⟩ : ∃ wo : World, wo = wr := ⟨_, rfl⟩
        clear ha hb hb1 z1 z
        go_wp2
        go_loopw [6, 9] (fun l i wr => ∃ (j : Nat) (D : Option Addr) (d : Nat), j ≤ n ∧ (a + 1 ≤ j ∨ j = n) ∧ l = .slice D (n - j) d ∧ i = .int .i64 ((j : Int) - 1) ∧ Own wr w.heap.size wr.heap.size 3 1 D (n - j) d (ints (xs.drop j).reverse) ∧ Below w.heap.size w wr) (fun _ i _ => (intOf i + 1).toNat)
        case atStart => exact ⟨n, _, 0, Nat.le_refl _, .inr rfl, by rw [Nat.sub_self], rfl, by rw [Nat.sub_self, List.drop_of_length_le (by rw [HL.out]; exact Nat.le_refl _)]; exact Own.nil _ _ _ _ _ _, hB⟩
        case round =>
          obtain ⟨j, D, d, hj2, hja, rfl, rfl, ol, hb⟩ := hrel
          by_cases hja2 : a + 1 < j
          · obtain ⟨q, rfl⟩ : ∃ q, j = q + 1 := ⟨j - 1, by omega⟩
            obtain ⟨b, o, x, rfl, hbl, hx, hc⟩ := ints_at (hr.below hb) (show q < n by omega)
            have hd1 : xs.drop q = x :: xs.drop (q + 1) := by
              rw [List.drop_eq_getElem_cons (by rw [HL.out]; omega)]
              congr 1
              exact (List.getElem?_eq_some_iff.1 hx).2
            have HD := Lib.hid hd1
            have hq0 : (0 : Int) ≤ (q : Int) := by omega
            have hq1 : (q : Int) < (n : Int) := by omega
            have hq2 : (a : Int) < (q : Int) := by omega
            have hqs : ((q + 1 : Nat) : Int) - 1 = (q : Int) := by omega
            have hbs := hb.size
            rw [hqs]
            clear hr hx hd1 hqs
            go_wp2_with (at_builtin; refine wpList_app _ rfl (.tmp 40) (.tmp 45) 22 rfl 3 i0 (.int .i64 0) 1 8 Try.underlying22 hi0 hz0 hz1 hz2 rfl (by omega) w.heap.size wr.heap.size wr.heap.size (wr.heap.size + 1) D (some ⟨wr.heap.size, 0, none⟩) (n - (q + 1)) d 1 1 (ints (xs.drop (q + 1)).reverse) (ints [x]) rfl rfl (ol.alloc _) (one_rd _ _ _) (ints_one _) (by unfold maxLen; omega) (by omega) (by simp; omega) ?_; intro A5 c5 w5 o5 f5)
            go_roundw
            case rel =>
              refine ⟨q, A5, c5, by omega, by omega, by rw [show n - (q + 1) + 1 = n - q by omega], rfl, ?_, (Below.alloc1 hb _).trans (f5.below (Nat.le_refl _) (by simp; omega))⟩
              rw [show n - q = n - (q + 1) + 1 by omega, HD.out, List.reverse_cons, ints_append]
              exact o5
            case measure => simp [intOf]
          · have hdj : xs.drop j = xs.drop (a + 1) := by
              by_cases hja3 : j = a + 1
              · rw [hja3]
              · rw [List.drop_of_length_le (by rw [HL.out]; omega), List.drop_of_length_le (by rw [HL.out]; omega)]
            have hlen : (xs.drop (a + 1)).reverse.length = n - j := by rw [List.length_reverse, ← hdj, List.length_drop, HL.out]
            have HLB := Lib.hid hlen
            have hlen2 : (xs.take a).length = a := by rw [List.length_take, HL.out]; omega
            have HLA := Lib.hid hlen2
            rw [hdj] at ol
            have hq2 : ¬ (a : Int) < (j : Int) - 1 := by omega
            have ha0 : (0 : Int) ≤ (a : Int) := by omega
            have ha1 : (a : Int) ≤ (c : Int) := by omega
            have htk := (hr.below hb).take (k := a) hal
            rw [Nat.mul_one, ← ints_take] at htk
            have hbs := hb.size
            clear hr hdj hlen hlen2
            go_wp2_with (at_builtin; refine wpList_app _ rfl (.tmp 47) (.tmp 50) 22 rfl 3 i0 (.int .i64 0) 1 8 Try.underlying22 hi0 hz0 hz1 hz2 rfl (by omega) wr.heap.size 0 B T (some ⟨wr.heap.size, 0, none⟩) A 0 0 a c [] (ints (xs.take a)) rfl rfl (Own.nil _ _ _ _ _ _) (htk.alloc _) (ints_one _) (by unfold maxLen; omega) (by omega) (by simp) ?_; intro A5 c5 w5 o5 f5)
            go_ret2
            rw [HP.out.1, HP.out.2]
            rw [Nat.zero_add, List.nil_append] at o5
            refine ⟨A5, c5, D, d, wr.heap.size, by rw [HLA.out, HLB.out]; simp, hbs, by have := f5.size; simp at this; omega, ?_, ?_, Below.via (Below.alloc1 hb _) f5.below0⟩
            · rw [HLA.out]
              exact o5
            · rw [HLB.out]
              exact (ol.alloc _).below f5.below0
end Go.Proofs.Ytjpmgoejcafjiaa
