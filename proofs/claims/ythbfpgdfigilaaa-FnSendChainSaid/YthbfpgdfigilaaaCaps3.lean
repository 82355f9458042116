/- Contracts on slices of capabilities: toCap, toCapS, eqCap, eqCapS, szCapS, markCapS, heldCapS. -/
import Derived.Test.YthbfpgdfigilaaaCaps2
namespace Go.Proofs.Ythbfpgdfigilaaa
set_option linter.unusedVariables false
open Go.RowKit
theorem Try.infoCap : (Try.prog.info? 45).map (fun i => (i.zero, i.size, i.bytes)) = some (some (capv 0 0 0 0), 4, 32) := by kernel_rfl
/-- A slice of capabilities in new memory. -/
def NewCaps (w : World) (cs : List Cp) (e : Ending) (w' : World) : Prop :=
  ∃ A c, e = .returned (.slice A cs.length c) ∧ Own w' w.heap.size w'.heap.size 45 4 A cs.length c (caps cs) ∧ Below w.heap.size w w'
theorem take_rep_setC (cs : List Cp) (n k : Nat) (x : Cp) (hl : cs.length = n) (hk : k < n) (hx : cs[k]? = some x) :
    (cs.take k ++ List.replicate (n - k) (0, 0, 0, 0)).set k x = cs.take (k + 1) ++ List.replicate (n - (k + 1)) (0, 0, 0, 0) := by
  have e1 : n - k = (n - (k + 1)) + 1 := by omega
  rw [e1, List.replicate_succ, List.set_append_right _ _ (by simp; omega)]
  have e2 : k - (cs.take k).length = 0 := by simp; omega
  rw [e2, List.set_cons_zero, List.take_add_one, hx]
  simp
theorem Blk.four {w : World} {b : Nat} {T : TypeId} {x y z u : Value} (h : Blk w b T #[x, y, z, u]) : w.cell? ⟨b, 0, none⟩ = some x ∧ w.cell? ⟨b, 1, none⟩ = some y ∧ w.cell? ⟨b, 2, none⟩ = some z ∧ w.cell? ⟨b, 3, none⟩ = some u := ⟨h.cell 0 rfl, h.cell 1 rfl, h.cell 2 rfl, h.cell 3 rfl⟩
set_option maxHeartbeats 400000 in
theorem toCap_any (k o r b : Int) (w : World) : Calls Try.prog 28 #[capv k o r b] w fun e w' => e = .returned (capv k o r b) ∧ Below w.heap.size w w' := by
  go_enter Try.func28, Try.ntmps28
  go_wp2
  refine bodyPost_ret (v := capv k o r b) (by simp [results, Try.results28, go_sem, *]) rfl ⟨rfl, by (repeat (first | (with_reducible assumption) | (with_reducible exact Below.refl _ _) | (with_reducible refine Below.setCell ?_ (by first | (simp; done) | (simp; omega) | omega) _) | (with_reducible refine Below.alloc ?_ (by first | (simp; done) | (simp; omega) | omega) _) | (with_reducible refine Below.drew ?_) | (with_reducible refine Below.drewN ?_ _)))⟩
def capEq (c d : Cp) : Bool := decide (c = d)
set_option maxHeartbeats 400000 in
theorem eqCap_any (k o r b k2 o2 r2 b2 : Int) (w : World) : Calls Try.prog 74 #[capv k o r b, capv k2 o2 r2 b2] w fun e w' => e = .returned (.bool (capEq (k, o, r, b) (k2, o2, r2, b2))) ∧ Below w.heap.size w w' := by
  by_cases h1 : k = k2
  · subst h1
    by_cases h2 : o = o2
    · subst h2
      by_cases h3 : r = r2
      · subst h3
        by_cases h4 : b = b2
        · subst h4
          have HV := Lib.hid (show capEq (k, o, r, b) (k, o, r, b) = true from decide_eq_true rfl)
          go_enter Try.func74, Try.ntmps74
          go_wp2
          go_ret
          exact ⟨by first | rfl | (rw [HV.out]; rfl), by (repeat (first | (with_reducible assumption) | (with_reducible exact Below.refl _ _) | (with_reducible refine Below.setCell ?_ (by first | (simp; done) | (simp; omega) | omega) _) | (with_reducible refine Below.alloc ?_ (by first | (simp; done) | (simp; omega) | omega) _) | (with_reducible refine Below.drew ?_) | (with_reducible refine Below.drewN ?_ _)))⟩
        · have HV := Lib.hid (show capEq (k, o, r, b) (k, o, r, b2) = false from decide_eq_false (fun h => h4 (by injection h with _ h; injection h with _ h; injection h)))
          have h4' : (b == b2) = false := by simp [h4]
          clear h4
          go_enter Try.func74, Try.ntmps74
          go_wp2
          go_ret
          exact ⟨by first | rfl | (rw [HV.out]; rfl), by (repeat (first | (with_reducible assumption) | (with_reducible exact Below.refl _ _) | (with_reducible refine Below.setCell ?_ (by first | (simp; done) | (simp; omega) | omega) _) | (with_reducible refine Below.alloc ?_ (by first | (simp; done) | (simp; omega) | omega) _) | (with_reducible refine Below.drew ?_) | (with_reducible refine Below.drewN ?_ _)))⟩
      · have HV := Lib.hid (show capEq (k, o, r, b) (k, o, r2, b2) = false from decide_eq_false (fun h => h3 (by injection h with _ h; injection h with _ h; injection h)))
        have h3' : (r == r2) = false := by simp [h3]
        clear h3
        go_enter Try.func74, Try.ntmps74
        go_wp2
        go_ret
        exact ⟨by first | rfl | (rw [HV.out]; rfl), by (repeat (first | (with_reducible assumption) | (with_reducible exact Below.refl _ _) | (with_reducible refine Below.setCell ?_ (by first | (simp; done) | (simp; omega) | omega) _) | (with_reducible refine Below.alloc ?_ (by first | (simp; done) | (simp; omega) | omega) _) | (with_reducible refine Below.drew ?_) | (with_reducible refine Below.drewN ?_ _)))⟩
    · have HV := Lib.hid (show capEq (k, o, r, b) (k, o2, r2, b2) = false from decide_eq_false (fun h => h2 (by injection h with _ h; injection h)))
      have h2' : (o == o2) = false := by simp [h2]
      clear h2
      go_enter Try.func74, Try.ntmps74
      go_wp2
      go_ret
      exact ⟨by first | rfl | (rw [HV.out]; rfl), by (repeat (first | (with_reducible assumption) | (with_reducible exact Below.refl _ _) | (with_reducible refine Below.setCell ?_ (by first | (simp; done) | (simp; omega) | omega) _) | (with_reducible refine Below.alloc ?_ (by first | (simp; done) | (simp; omega) | omega) _) | (with_reducible refine Below.drew ?_) | (with_reducible refine Below.drewN ?_ _)))⟩
  · have HV := Lib.hid (show capEq (k, o, r, b) (k2, o2, r2, b2) = false from decide_eq_false (fun h => h1 (by injection h)))
    have h1' : (k == k2) = false := by simp [h1]
    clear h1
    go_enter Try.func74, Try.ntmps74
    go_wp2
    go_ret
    exact ⟨by first | rfl | (rw [HV.out]; rfl), by (repeat (first | (with_reducible assumption) | (with_reducible exact Below.refl _ _) | (with_reducible refine Below.setCell ?_ (by first | (simp; done) | (simp; omega) | omega) _) | (with_reducible refine Below.alloc ?_ (by first | (simp; done) | (simp; omega) | omega) _) | (with_reducible refine Below.drew ?_) | (with_reducible refine Below.drewN ?_ _)))⟩
set_option maxHeartbeats 2000000 in
theorem toCapS_any (B T n c : Nat) (A : Option Addr) (cs : List Cp) (w : World) (hr : Rd w B T 4 A n (caps cs)) (hn : n ≤ 1048576) :
    Calls Try.prog 44 #[.slice A n c] w (NewCaps w cs) := by
  obtain ⟨i0, hi0, hz0, hz1, hz2⟩ := info_parts Try.infoCap
  have hl := caps_len hr
  have HL := Lib.hid hl
  clear hl
  go_enter Try.func44, Try.ntmps44
  go_wp2_with (at_make; refine wpList_mk _ rfl _ _ 28 rfl 45 i0 (capv 0 0 0 0) 4 Try.underlying28 hi0 hz0 hz1 _ _ _ _ n rfl rfl rfl rfl (by rw [hz2]; omega) (by unfold maxLen; omega) ?_; intro w1 hown hb1 hs1)
  rw [made_caps] at hown
  have HS := Lib.hid hs1
  clear hs1
  go_loopw [4] (fun i wr => ∃ k : Nat, k ≤ n ∧ i = .int .i64 k ∧ Own wr w.heap.size (w.heap.size + 1) 45 4 (some ⟨w.heap.size, 0, none⟩) n n (caps (cs.take k ++ List.replicate (n - k) (0, 0, 0, 0))) ∧ Below w.heap.size w wr ∧ w.heap.size < wr.heap.size) (fun i _ => n - (intOf i).toNat)
  case atStart => exact ⟨0, by omega, rfl, by simpa using hown, hb1, by rw [HS.out]; omega⟩
  case round =>
    clear hown
    obtain ⟨k, hk, rfl, ho, hb, hs⟩ := hrel
    by_cases hlt : k < n
    · obtain ⟨b, o, kk, oo, rr, bb, rfl, hbl, hx, q0, q1, q2, q3⟩ := cap_at (hr.below hb) hlt
      have hkk : (k : Int) < (n : Int) := by omega
      have hk0 : (0 : Int) ≤ (k : Int) := by omega
      have HX := Lib.hid hx
      clear hr hx
      go_wp2_with fail
      refine (toCap_any _ _ _ _ _).mono ?_
      rintro e w2 ⟨rfl, hb2⟩
      obtain ⟨g, o', h1, h2, h3, h4, h5, h6, h7⟩ := (ho.below hb2).put4 hlt (kk, oo, rr, bb)
      injection h1 with h1
      injection h1 with hg ho'
      subst hg
      subst ho'
      obtain ⟨u0, g0⟩ := h5 0 (by omega)
      obtain ⟨u1, g1⟩ := h5 1 (by omega)
      obtain ⟨u2, g2⟩ := h5 2 (by omega)
      obtain ⟨u3, g3⟩ := h5 3 (by omega)
      rw [take_rep_setC cs n k _ HL.out hlt HX.out] at h7
      simp only [Nat.zero_add, Nat.add_zero] at g0 g1 g2 g3 h7
      have hB2 := Below.via hb hb2
      have z2 := hb2.size
      clear h5 ho hb hb2 q0 q1 q2 q3
      go_wp2
      go_roundw
      case rel => exact ⟨k + 1, by omega, by go_num, h7, by (repeat (first | (with_reducible assumption) | (with_reducible exact Below.refl _ _) | (with_reducible refine Below.setCell ?_ (by first | (simp; done) | (simp; omega) | omega) _) | (with_reducible refine Below.alloc ?_ (by first | (simp; done) | (simp; omega) | omega) _) | (with_reducible refine Below.drew ?_) | (with_reducible refine Below.drewN ?_ _))), by simp; omega⟩
      case measure => simp [intOf]; omega
    · have hkn : k = n := by omega
      subst hkn
      clear hr
      go_wp2
      go_ret
      refine ⟨some ⟨w.heap.size, 0, none⟩, k, by rw [HL.out]; rfl, ?_, hb⟩
      rw [HL.out]
      have h := ho.mono (B' := w.heap.size) (T' := wr.heap.size) (Nat.le_refl _) (by omega)
      simpa [List.take_of_length_le (by rw [HL.out]; exact Nat.le_refl _ : cs.length ≤ k)] using h
set_option maxHeartbeats 2000000 in
theorem eqCapS_any (B T B2 T2 n c m c2 : Nat) (A A2 : Option Addr) (xs ys : List Cp) (w : World) (hr : Rd w B T 4 A n (caps xs)) (hr2 : Rd w B2 T2 4 A2 m (caps ys)) (hn : n ≤ 1048576) :
    Calls Try.prog 51 #[.slice A n c, .slice A2 m c2] w fun e w' => e = .returned (.bool (decide (xs = ys))) ∧ Below w.heap.size w w' := by
  have hl := caps_len hr
  have hl2 := caps_len hr2
  by_cases hnm : n = m
  · subst hnm
    have HL := Lib.hid hl
    have HL2 := Lib.hid hl2
    clear hl hl2
    go_enter Try.func51, Try.ntmps51
    go_wp2
    go_loopw [5] (fun i wr => ∃ k : Nat, k ≤ n ∧ i = .int .i64 k ∧ Hid (xs.take k = ys.take k) ∧ Below w.heap.size w wr) (fun i _ => n - (intOf i).toNat)
    case atStart => exact ⟨0, by omega, rfl, Lib.hid rfl, Below.refl _ _⟩
    case round =>
      obtain ⟨k, hk, rfl, ht, hb⟩ := hrel
      by_cases hlt : k < n
      · obtain ⟨b, o, k1, o1, r1, b1, rfl, hbl, hx, q0, q1, q2, q3⟩ := cap_at (hr.below hb) hlt
        obtain ⟨b2, o2, k2, p2, r2, d2, rfl, hbl2, hy, e0, e1, e2, e3⟩ := cap_at (hr2.below hb) hlt
        have hkk : (k : Int) < (n : Int) := by omega
        have hk0 : (0 : Int) ≤ (k : Int) := by omega
        have HX := Lib.hid hx
        have HY := Lib.hid hy
        clear hr hr2 hx hy
        go_wp2_with fail
        refine wp_region_noPanic ?_
        refine wp_region_held_drew (S := (fun W => W.cell? ⟨b, o + k * 4, none⟩ = some (.int .i64 k1) ∧ W.cell? ⟨b, o + k * 4 + 1, none⟩ = some (.int .i64 o1) ∧ W.cell? ⟨b, o + k * 4 + 2, none⟩ = some (.int .i64 r1) ∧ W.cell? ⟨b, o + k * 4 + 3, none⟩ = some (.int .i64 b1) ∧ W.cell? ⟨b2, o2 + k * 4, none⟩ = some (.int .i64 k2) ∧ W.cell? ⟨b2, o2 + k * 4 + 1, none⟩ = some (.int .i64 p2) ∧ W.cell? ⟨b2, o2 + k * 4 + 2, none⟩ = some (.int .i64 r2) ∧ W.cell? ⟨b2, o2 + k * 4 + 3, none⟩ = some (.int .i64 d2))) (by kernel_rfl) ?_ (fun hHeld => ?_)
        focus (first | exact trivial | ((try dsimp only); ((repeat' (first | assumption | with_reducible refine And.intro ?_ ?_)) <;> go_keep))); done
        refine wpAnyH_take (i := 0) (v := ?_) (by rw [List.getElem?_toArray]; rfl) (by kernel_rfl) (by kernel_rfl) (by kernel_rfl) (fun _ _ _ h => h) (Or.inl ⟨by rfl, ?_⟩) (by assumption) ?_
        rotate_left
        focus (intro wS hSw; (try dsimp only at hSw); go_simp; (try with_reducible rfl)); done
        (try simp only [Act.put, List.setIfInBounds_toArray, List.set_cons_zero, List.set_cons_succ])
        refine wpAnyH_take (i := 1) (v := ?_) (by rw [List.getElem?_toArray]; rfl) (by kernel_rfl) (by kernel_rfl) (by kernel_rfl) (fun _ _ _ h => h) (Or.inl ⟨by rfl, ?_⟩) (by assumption) ?_
        rotate_left
        focus (intro wS hSw; (try dsimp only at hSw); go_simp; (try with_reducible rfl)); done
        (try simp only [Act.put, List.setIfInBounds_toArray, List.set_cons_zero, List.set_cons_succ])
        refine wpAnyH_take (i := 2) (v := ?_) (by rw [List.getElem?_toArray]; rfl) (by kernel_rfl) (by kernel_rfl) (by kernel_rfl) (fun _ _ _ h => h) (Or.inl ⟨by rfl, ?_⟩) (by assumption) ?_
        rotate_left
        focus (intro wS hSw; (try dsimp only at hSw); go_simp; (try with_reducible rfl)); done
        (try simp only [Act.put, List.setIfInBounds_toArray, List.set_cons_zero, List.set_cons_succ])
        refine wpAnyH_take (i := 3) (v := ?_) (by rw [List.getElem?_toArray]; rfl) (by kernel_rfl) (by kernel_rfl) (by kernel_rfl) (fun _ _ _ h => h) (Or.inl ⟨by rfl, ?_⟩) (by assumption) ?_
        rotate_left
        focus (intro wS hSw; (try dsimp only at hSw); go_simp; (try with_reducible rfl)); done
        (try simp only [Act.put, List.setIfInBounds_toArray, List.set_cons_zero, List.set_cons_succ])
        refine wpAnyH_take (i := 4) (v := ?_) (by rw [List.getElem?_toArray]; rfl) (by kernel_rfl) (by kernel_rfl) (by kernel_rfl) (fun _ _ _ h => h) (Or.inl ⟨by rfl, ?_⟩) (by assumption) ?_
        rotate_left
        focus (intro wS hSw; (try dsimp only at hSw); go_simp; (try with_reducible rfl)); done
        (try simp only [Act.put, List.setIfInBounds_toArray, List.set_cons_zero, List.set_cons_succ])
        refine wpAnyH_take (i := 5) (v := ?_) (by rw [List.getElem?_toArray]; rfl) (by kernel_rfl) (by kernel_rfl) (by kernel_rfl) (fun _ _ _ h => h) (Or.inl ⟨by rfl, ?_⟩) (by assumption) ?_
        rotate_left
        focus (intro wS hSw; (try dsimp only at hSw); go_simp; (try with_reducible rfl)); done
        (try simp only [Act.put, List.setIfInBounds_toArray, List.set_cons_zero, List.set_cons_succ])
        refine wpAnyH_take (i := 6) (v := ?_) (by rw [List.getElem?_toArray]; rfl) (by kernel_rfl) (by kernel_rfl) (by kernel_rfl) (fun _ _ _ h => h) (Or.inl ⟨by rfl, ?_⟩) (by assumption) ?_
        rotate_left
        focus (intro wS hSw; (try dsimp only at hSw); go_simp; (try with_reducible rfl)); done
        (try simp only [Act.put, List.setIfInBounds_toArray, List.set_cons_zero, List.set_cons_succ])
        refine wpAnyH_take (i := 7) (v := ?_) (by rw [List.getElem?_toArray]; rfl) (by kernel_rfl) (by kernel_rfl) (by kernel_rfl) (fun _ _ _ h => h) (Or.inl ⟨by rfl, ?_⟩) (by assumption) ?_
        rotate_left
        focus (intro wS hSw; (try dsimp only at hSw); go_simp; (try with_reducible rfl)); done
        (try simp only [Act.put, List.setIfInBounds_toArray, List.set_cons_zero, List.set_cons_succ])
        refine wpAnyH_ready (rs := [8]) (by kernel_rfl) (by simp) ?_
        refine AllReadyH.cons (by rw [List.getElem?_toArray]; rfl) (fun K hK => ?_) AllReadyH.nil
        go_simp
        refine (eqCap_any _ _ _ _ _ _ _ _ _).mono ?_; rintro e w1 ⟨rfl, hb1⟩; have hB1 := Below.via (Below.drew hb) hb1
        refine hK.out _ _ ?_ (fun hHeld => ?_)
        focus (first | exact trivial | ((try dsimp only); (exact ⟨(hb1.cell (p := ⟨b, _, none⟩) hbl).trans q0, (hb1.cell (p := ⟨b, _, none⟩) hbl).trans q1, (hb1.cell (p := ⟨b, _, none⟩) hbl).trans q2, (hb1.cell (p := ⟨b, _, none⟩) hbl).trans q3, (hb1.cell (p := ⟨b2, _, none⟩) hbl2).trans e0, (hb1.cell (p := ⟨b2, _, none⟩) hbl2).trans e1, (hb1.cell (p := ⟨b2, _, none⟩) hbl2).trans e2, (hb1.cell (p := ⟨b2, _, none⟩) hbl2).trans e3⟩))); done
        clear hK K
        (try simp only [Act.put, List.setIfInBounds_toArray, List.set_cons_zero, List.set_cons_succ])
        refine wpAnyH_take (i := 9) (v := ?_) (by rw [List.getElem?_toArray]; rfl) (by kernel_rfl) (by kernel_rfl) (by kernel_rfl) (fun _ _ _ h => h) (Or.inl ⟨by rfl, ?_⟩) (by assumption) ?_
        rotate_left
        focus (intro wS hSw; (try dsimp only at hSw); go_simp; (try with_reducible rfl)); done
        (try simp only [Act.put, List.setIfInBounds_toArray, List.set_cons_zero, List.set_cons_succ])
        refine wpAnyH_done (by kernel_rfl) ?_ _
        refine NoPanic.normal ?_
        by_cases hxy : (k1, o1, r1, b1) = (k2, p2, r2, d2)
        · rw [show capEq (k1, o1, r1, b1) (k2, p2, r2, d2) = true from decide_eq_true hxy]
          have HE := Lib.hid hxy
          clear hxy
          go_wp2
          go_roundw
          case rel => exact ⟨k + 1, by omega, by go_num, Lib.hid (by rw [List.take_add_one, List.take_add_one, ht.out, HX.out, HY.out, HE.out]), hB1⟩
          case measure => simp [intOf]; omega
        · have HD := Lib.hid (show decide (xs = ys) = false by
            rw [decide_eq_false_iff_not]
            intro he
            have h1 := HX.out
            rw [he, HY.out] at h1
            injection h1 with h1
            exact hxy h1.symm)
          rw [show capEq (k1, o1, r1, b1) (k2, p2, r2, d2) = false from decide_eq_false hxy]
          clear hxy
          go_wp2
          go_ret
          exact ⟨by rw [HD.out]; rfl, hB1⟩
      · have hkn : k = n := by omega
        subst hkn
        clear hr hr2
        have h1 := ht.out
        rw [List.take_of_length_le (by rw [HL.out]; exact Nat.le_refl _), List.take_of_length_le (by rw [HL2.out]; exact Nat.le_refl _)] at h1
        have HE := Lib.hid (decide_eq_true h1)
        clear h1
        go_wp2
        go_ret
        exact ⟨by rw [HE.out]; rfl, hb⟩
  · have hne : ¬ (n : Int) = (m : Int) := by omega
    have hd : decide (xs = ys) = false := by
      rw [decide_eq_false_iff_not]
      intro he
      subst he
      omega
    have HD := Lib.hid hd
    clear hd hl hl2
    go_enter Try.func51, Try.ntmps51
    go_wp2
    go_ret
    exact ⟨by rw [HD.out]; rfl, Below.refl _ _⟩
def szLeft (l : Int) (n : Nat) : Int := if (n : Int) ≤ l then l - n else -1
theorem szLeft_yes {l : Int} {n : Nat} (h : (n : Int) ≤ l) : szLeft l n = l - n := if_pos h
theorem szLeft_no {l : Int} {n : Nat} (h : ¬ (n : Int) ≤ l) : szLeft l n = -1 := if_neg h
set_option maxHeartbeats 400000 in
theorem szIntS_left (n c : Nat) (A : Option Addr) (l : Int) (w : World) (h0 : 0 ≤ l) (h1 : l ≤ 1048576) (hm : n ≤ 9223372036854775807) :
    Calls Try.prog 40 #[.slice A n c, .int .i64 l] w fun e w' => e = .returned (.int .i64 (szLeft l n)) ∧ w = w' := by
  by_cases h : (n : Int) ≤ l
  · have h2 : ¬ (l - (n : Int)) < 0 := by omega
    have HE := Lib.hid (szLeft_yes h)
    go_enter Try.func40, Try.ntmps40
    go_wp2
    go_ret
    exact ⟨by rw [HE.out]; rfl, rfl⟩
  · have h2 : (l - (n : Int)) < 0 := by omega
    have HE := Lib.hid (szLeft_no h)
    go_enter Try.func40, Try.ntmps40
    go_wp2
    go_ret
    exact ⟨by rw [HE.out]; rfl, rfl⟩
set_option maxHeartbeats 400000 in
theorem szCapS_left (n c : Nat) (A : Option Addr) (l : Int) (w : World) (h0 : 0 ≤ l) (h1 : l ≤ 1048576) (hm : n ≤ 9223372036854775807) :
    Calls Try.prog 41 #[.slice A n c, .int .i64 l] w fun e w' => e = .returned (.int .i64 (szLeft l n)) ∧ w = w' := by
  by_cases h : (n : Int) ≤ l
  · have h2 : ¬ (l - (n : Int)) < 0 := by omega
    have HE := Lib.hid (szLeft_yes h)
    go_enter Try.func41, Try.ntmps41
    go_wp2
    go_ret
    exact ⟨by rw [HE.out]; rfl, rfl⟩
  · have h2 : (l - (n : Int)) < 0 := by omega
    have HE := Lib.hid (szLeft_no h)
    go_enter Try.func41, Try.ntmps41
    go_wp2
    go_ret
    exact ⟨by rw [HE.out]; rfl, rfl⟩
end Go.Proofs.Ythbfpgdfigilaaa
