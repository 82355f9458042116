/- The walk of the law FnQueuesValid: it returns true and leaves all that was in memory as it was, for every code. -/
import Derived.Test.YtccepnhnmpmkdaaLwQueuesHead
namespace Go.Proofs.Ytccepnhnmpmkdaa
set_option linter.unusedVariables false
open Go.RowKit
set_option maxHeartbeats 4000000 in
theorem law_QueuesValid (B T n c : Nat) (A : Option Addr) (bs : List Value) (w : World) (hr : Rd w B T 1 A n bs) (hb : Bytes bs) (hnc : n ≤ c) :
    Calls Try.prog 8 #[.slice A n c] w fun e w' => e = .returned (.bool true) ∧ Below w.heap.size w w' := by
  obtain ⟨i0, hi0, hz0, hz1, hz2⟩ := info_parts Try.infoInt
  by_cases hbig : 1048576 < n
  · have hd : (1048576 : Int) < (n : Int) := by omega
    go_enter Try.func8, Try.ntmps8
    go_wp2_with fail
    go_ret
    exact ⟨rfl, Below.refl _ _⟩
  have hn : n ≤ 1048576 := by omega
  have hd : ¬ (1048576 : Int) < (n : Int) := by omega
  have hB := Below.refl w.heap.size w
  go_enter Try.func8, Try.ntmps8
  go_wp2_with fail
  refine (DrawQueuesValid_any B T n c A bs _ hr hb hn hnc).mono ?_
  rintro e w1 ⟨A1, n1, c1, yss, rfl, r1, hle, hs, hb1⟩
  have z1 := hb1.size
  replace hB := Below.via hB hb1
  clear hb1
  have hl := r1.len
  have TQ := Blk.new w1 24 #[.slice A1 n1 c1]
  have hB1 := Below.refl w1.heap.size w1
  have hT1 : w1.heap.size ≤ w1.heap.size := Nat.le_refl _
  have hBw := hB
  have HW2 := Lib.hid r1
  have HW := Lib.hid (show ∀ (us : List Int) (Ak : Option Addr), Rd w1 w.heap.size w1.heap.size 1 Ak us.length (ints us) → Rd w1 w.heap.size w1.heap.size 1 Ak us.length (ints us) from fun _ _ h => h)
  go_wp2_with fail
  refine (iQueuesValid_any _ _ _ _ _ yss _ (r1.alloc _) (by omega)).mono ?_
  rintro e w2 ⟨rfl, hb2⟩
  have z2 := hb2.size
  (try simp at z2)
  replace TQ := TQ.below hb2
  replace r1 := Rows.below (by (repeat (first | (with_reducible assumption) | (with_reducible refine Rows.drew ?_) | (with_reducible refine Rows.alloc ?_ _))) : Rows _ w.heap.size w1.heap.size A1 n1 yss) hb2
  replace hB := Below.via (by (repeat (first | (with_reducible assumption) | (with_reducible exact Below.refl _ _) | (with_reducible refine Below.setCell ?_ (by first | (simp; done) | (simp; omega) | omega) _) | (with_reducible refine Below.alloc ?_ (by first | (simp; done) | (simp; omega) | omega) _) | (with_reducible refine Below.drew ?_) | (with_reducible refine Below.drewN ?_ _))) : Below w.heap.size w _) hb2
  replace hB1 := Below.via (by (repeat (first | (with_reducible assumption) | (with_reducible exact Below.refl _ _) | (with_reducible refine Below.setCell ?_ (by first | (simp; done) | (simp; omega) | omega) _) | (with_reducible refine Below.alloc ?_ (by first | (simp; done) | (simp; omega) | omega) _) | (with_reducible refine Below.drew ?_) | (with_reducible refine Below.drewN ?_ _))) : Below w1.heap.size w1 _) hb2
  clear hb2
  have q0 := TQ.cell 0 rfl
  have lQ := TQ.lt
  go_wp2_with fail
  refine (sQueuesValid_any _ _ _ _ _ yss _ r1 (by omega)).mono ?_
  rintro e w3 ⟨rfl, hb3⟩
  clear q0
  have z3 := hb3.size
  (try simp at z3)
  replace TQ := TQ.below hb3
  replace r1 := Rows.below (by (repeat (first | (with_reducible assumption) | (with_reducible refine Rows.drew ?_) | (with_reducible refine Rows.alloc ?_ _))) : Rows _ w.heap.size w1.heap.size A1 n1 yss) hb3
  replace hB := Below.via (by (repeat (first | (with_reducible assumption) | (with_reducible exact Below.refl _ _) | (with_reducible refine Below.setCell ?_ (by first | (simp; done) | (simp; omega) | omega) _) | (with_reducible refine Below.alloc ?_ (by first | (simp; done) | (simp; omega) | omega) _) | (with_reducible refine Below.drew ?_) | (with_reducible refine Below.drewN ?_ _))) : Below w.heap.size w _) hb3
  replace hB1 := Below.via (by (repeat (first | (with_reducible assumption) | (with_reducible exact Below.refl _ _) | (with_reducible refine Below.setCell ?_ (by first | (simp; done) | (simp; omega) | omega) _) | (with_reducible refine Below.alloc ?_ (by first | (simp; done) | (simp; omega) | omega) _) | (with_reducible refine Below.drew ?_) | (with_reducible refine Below.drewN ?_ _))) : Below w1.heap.size w1 _) hb3
  clear hb3
  have q0 := TQ.cell 0 rfl
  have lQ := TQ.lt
  cases hv : queuesV yss
  · skip
    clear q0 lQ
    go_wp2_with fail
    refine (alive_any _).mono ?_
    rintro e w4 ⟨rfl, hb4⟩
    replace hB := Below.via (by (repeat (first | (with_reducible assumption) | (with_reducible exact Below.refl _ _) | (with_reducible refine Below.setCell ?_ (by first | (simp; done) | (simp; omega) | omega) _) | (with_reducible refine Below.alloc ?_ (by first | (simp; done) | (simp; omega) | omega) _) | (with_reducible refine Below.drew ?_) | (with_reducible refine Below.drewN ?_ _))) : Below w.heap.size w _) hb4
    go_wp2
    go_ret
    exact ⟨rfl, by (repeat (first | (with_reducible assumption) | (with_reducible exact Below.refl _ _) | (with_reducible refine Below.setCell ?_ (by first | (simp; done) | (simp; omega) | omega) _) | (with_reducible refine Below.alloc ?_ (by first | (simp; done) | (simp; omega) | omega) _) | (with_reducible refine Below.drew ?_) | (with_reducible refine Below.drewN ?_ _)))⟩
  · skip
    have hl8 := (queuesV_len hv).1
    obtain rfl : n1 = 8 := by omega
    obtain ⟨j0, hj0, hy0, hy1, hy2⟩ := info_parts Try.infoRow
    obtain ⟨cs, hcs1, hone, hrows⟩ := HW2.out.parts
    obtain ⟨ys, hy⟩ : ∃ ys, yss[0]? = some ys := ⟨_, List.getElem?_eq_getElem (by omega)⟩
    have hsz := row_small hs hy
    obtain ⟨A0, c0, hc0, hle0, hrd1⟩ := hrows 0 ys hy
    have hcs := hcs1.belowT hB1
    have hrd0 := hrd1.belowT hB1
    obtain ⟨b, o, rfl, hb0, hbT, hcell⟩ := hcs.2 (by omega)
    have hcr := hcell 0 _ hc0
    (try simp only [Nat.add_zero] at hcr)
    obtain ⟨k1, hk1⟩ : ∃ k1, ys.length = k1 := ⟨_, rfl⟩
    rw [hk1] at hcr hle0 hrd0 hsz
    have HK := Lib.hid hk1
    have hbad := bad_more hy
    have hless := bad_less hv
    have hsn := add_size (zs := [16]) hy
    have hsd := size_drop (yss := yss)
    have HBD := Lib.hid (And.intro hbad (And.intro hless (And.intro hsn hsd)))
    have HR := Lib.hid hrows
    have HC := Lib.hid (And.intro hc0 (And.intro hl8 hs))
    clear hbad hless hsn hsd hrows hv hk1 hc0 hcell hy hl hl8 hs
    go_wp2_with (at_builtin; refine wpList_appg _ (by rfl) (.tmp 20) (.tmp 22) 22 rfl 38 j0 (.slice none 0 0) 1 24 Try.underlying22 hj0 hy0 hy1 hy2 rfl (by omega) w3.heap.size 0 w.heap.size w1.heap.size (some ⟨w3.heap.size, 0, none⟩) (some ⟨b, o, none⟩) 0 0 8 c1 [] cs rfl rfl (Own.nil _ _ _ _ _ _) (hcs.alloc _) hone (by unfold maxLen; omega) (by omega) (by simp) ?_; intro A4 c4 w4 o4 f4; rw [List.nil_append] at o4; rw [Nat.zero_add] at o4 ⊢; have z4 := f4.size; (try simp at z4); have hb4 := f4.below0; replace hrd0 := (hrd0.alloc (.cells #[] 38)).below hb4; replace TQ := (TQ.alloc (.cells #[] 38)).below hb4; replace r1 := (r1.alloc (.cells #[] 38)).below hb4; replace hB := Below.via (by (repeat (first | (with_reducible assumption) | (with_reducible exact Below.refl _ _) | (with_reducible refine Below.setCell ?_ (by first | (simp; done) | (simp; omega) | omega) _) | (with_reducible refine Below.alloc ?_ (by first | (simp; done) | (simp; omega) | omega) _) | (with_reducible refine Below.drew ?_) | (with_reducible refine Below.drewN ?_ _))) : Below w.heap.size w (w3.alloc (.cells #[] 38))) hb4; replace hB1 := Below.via (by (repeat (first | (with_reducible assumption) | (with_reducible exact Below.refl _ _) | (with_reducible refine Below.setCell ?_ (by first | (simp; done) | (simp; omega) | omega) _) | (with_reducible refine Below.alloc ?_ (by first | (simp; done) | (simp; omega) | omega) _) | (with_reducible refine Below.drew ?_) | (with_reducible refine Below.drewN ?_ _))) : Below w1.heap.size w1 (w3.alloc (.cells #[] 38))) hb4; replace hcr := (hb4.cell (p := ⟨b, o, none⟩) (by simp; omega)).trans (((Below.refl w3.heap.size w3).alloc (Nat.le_refl _) _).cell (p := ⟨b, o, none⟩) (by show b < w3.heap.size; omega) |>.trans hcr); have TB := Blk.new w4 24 #[.slice A4 8 c4]; clear q0 lQ hb4 f4)
    replace TQ := TQ.alloc (.cells #[.slice A4 8 c4] 24)
    have hcb := (((Below.refl w4.heap.size w4).alloc (Nat.le_refl _) (.cells #[.slice A4 8 c4] 24)).cell (p := ⟨b, o, none⟩) (by show b < w4.heap.size; omega)).trans hcr
    have q0 := TQ.cell 0 rfl
    have b0 := TB.cell 0 rfl
    have lQ := TQ.lt
    have lB := TB.lt
    (try simp at lQ lB)
    obtain ⟨g4, p4, rfl, hg4, hg4b, hg4c, hcell4, hfr4, hset4⟩ := o4.at_ (by omega)
    have H4 := Lib.hid (And.intro hcell4 hset4)
    clear hcell4 hset4
    have hcr1 := (hB1.cell (p := ⟨b, o, none⟩) (by show b < w1.heap.size; omega)).symm.trans hcr
    go_wp2_with fail
    refine wp_region_noPanic ?_
    refine wp_region_held_drew (S := (fun W => W.cell? ⟨w1.heap.size, 0, none⟩ = some (.slice (some ⟨b, o, none⟩) 8 c1) ∧ W.cell? ⟨w4.heap.size, 0, none⟩ = some (.slice (some ⟨g4, p4, none⟩) 8 c4) ∧ W.cell? ⟨b, o, none⟩ = some (.slice A0 k1 c0))) (by kernel_rfl) ?_ (fun hHeld => ?_)
    focus (first | exact trivial | ((try dsimp only); ((repeat' (first | assumption | with_reducible refine And.intro ?_ ?_)) <;> go_keep))); done
    refine wpAnyH_take (i := 0) (v := ?_) (by rw [List.getElem?_toArray]; rfl) (by kernel_rfl) (by kernel_rfl) (by kernel_rfl) (fun _ _ _ h => h) (Or.inl ⟨by rfl, ?_⟩) (by assumption) ?_
    rotate_left
    focus (intro wS hSw; (try dsimp only at hSw); go_simp; (try with_reducible rfl)); done
    (try simp only [Act.put, List.setIfInBounds_toArray, List.set_cons_zero, List.set_cons_succ])
    refine wpAnyH_take (i := 1) (v := ?_) (by rw [List.getElem?_toArray]; rfl) (by kernel_rfl) (by kernel_rfl) (by kernel_rfl) (fun _ _ _ h => h) (Or.inl ⟨by rfl, ?_⟩) (by assumption) ?_
    rotate_left
    focus (intro wS hSw; (try dsimp only at hSw); go_simp; (try with_reducible rfl)); done
    (try simp only [Act.put, List.setIfInBounds_toArray, List.set_cons_zero, List.set_cons_succ])
    refine wpAnyH_take (i := 3) (v := ?_) (by rw [List.getElem?_toArray]; rfl) (by kernel_rfl) (by kernel_rfl) (by kernel_rfl) (fun _ _ _ h => h) (Or.inl ⟨by rfl, ?_⟩) (by assumption) ?_
    rotate_left
    focus (intro wS hSw; (try dsimp only at hSw); go_simp; (try with_reducible rfl)); done
    (try simp only [Act.put, List.setIfInBounds_toArray, List.set_cons_zero, List.set_cons_succ])
    refine wpAnyH_take (i := 4) (v := ?_) (by rw [List.getElem?_toArray]; rfl) (by kernel_rfl) (by kernel_rfl) (by kernel_rfl) (fun _ _ _ h => h) (Or.inl ⟨by rfl, ?_⟩) (by assumption) ?_
    rotate_left
    focus (intro wS hSw; (try dsimp only at hSw); go_simp; (try with_reducible rfl)); done
    (try simp only [Act.put, List.setIfInBounds_toArray, List.set_cons_zero, List.set_cons_succ])
    refine wpAnyH_take (i := 5) (v := ?_) (by rw [List.getElem?_toArray]; rfl) (by kernel_rfl) (by kernel_rfl) (by kernel_rfl) (fun _ _ _ h => h) (Or.inl ⟨by rfl, ?_⟩) (by assumption) ?_
    rotate_left
    focus (intro wS hSw; (try dsimp only at hSw); go_simp; (try with_reducible rfl)); done
    (try simp only [Act.put, List.setIfInBounds_toArray, List.set_cons_zero, List.set_cons_succ])
    refine wpAnyH_take (i := 6) (v := ?_) (by rw [List.getElem?_toArray]; rfl) (by kernel_rfl) (by kernel_rfl) (by kernel_rfl) (fun _ _ _ h => h) (Or.inl ⟨by rfl, ?_⟩) (by assumption) ?_
    rotate_left
    focus (intro wS hSw; (try dsimp only at hSw); go_simp; (try with_reducible rfl)); done
    (try simp only [Act.put, List.setIfInBounds_toArray, List.set_cons_zero, List.set_cons_succ])
    refine wpAnyH_ready (rs := [2, 8]) (by kernel_rfl) (by simp) ?_
    refine AllReadyH.cons (by rw [List.getElem?_toArray]; rfl) (fun K hK => ?_) (AllReadyH.cons (by rw [List.getElem?_toArray]; rfl) (fun K hK => ?_) AllReadyH.nil)
    · go_simp
      skip
      refine hK.out _ _ ?_ (fun hHeld => ?_)
      focus (first | exact trivial | ((try dsimp only); (exact ⟨Blk.cell (by (repeat (first | (with_reducible assumption) | (with_reducible refine Blk.drew ?_) | (with_reducible refine Blk.other ?_ (by first | (simp; done) | (simp; omega) | omega) _) | (with_reducible refine Blk.alloc ?_ _))) : Blk _ w1.heap.size 24 #[.slice (some ⟨b, o, none⟩) 8 c1]) 0 rfl, Blk.cell (by (repeat (first | (with_reducible assumption) | (with_reducible refine Blk.drew ?_) | (with_reducible refine Blk.other ?_ (by first | (simp; done) | (simp; omega) | omega) _) | (with_reducible refine Blk.alloc ?_ _))) : Blk _ w4.heap.size 24 #[.slice (some ⟨g4, p4, none⟩) 8 c4]) 0 rfl, (Below.cell (by (repeat (first | (with_reducible assumption) | (with_reducible exact Below.refl _ _) | (with_reducible refine Below.setCell ?_ (by first | (simp; done) | (simp; omega) | omega) _) | (with_reducible refine Below.alloc ?_ (by first | (simp; done) | (simp; omega) | omega) _) | (with_reducible refine Below.drew ?_) | (with_reducible refine Below.drewN ?_ _))) : Below w1.heap.size w1 _) (p := ⟨b, o, none⟩) (by show b < w1.heap.size; omega)).trans hcr1⟩))); done
      clear hK K
      (try simp only [Act.put, List.setIfInBounds_toArray, List.set_cons_zero, List.set_cons_succ])
      refine wpAnyH_ready (rs := [7, 8]) (by kernel_rfl) (by simp) ?_
      refine AllReadyH.cons (by rw [List.getElem?_toArray]; rfl) (fun K hK => ?_) (AllReadyH.cons (by rw [List.getElem?_toArray]; rfl) (fun K hK => ?_) AllReadyH.nil)
      · refine step_app _ rfl (.tmp 27) (.tmp 31) 38 rfl 3 i0 (.int .i64 0) 1 8 Try.underlying38 hi0 hz0 hz1 hz2 rfl (by omega) (w4.heap.size + 1) 0 w.heap.size w1.heap.size (some ⟨(w4.heap.size + 1), 0, none⟩) A0 0 0 k1 c0 [] (ints ys) rfl rfl (Own.nil _ _ _ _ _ _) (by (repeat (first | (with_reducible assumption) | (with_reducible refine Rd.drew ?_) | (with_reducible refine Rd.alloc ?_ _) | (with_reducible refine Rd.set ?_ (by first | (simp; done) | (simp; omega) | omega) _)))) (ints_one _) (by unfold maxLen; omega) (by omega) (by (try simp) <;> omega) ?_; intro A5 c5 w5 o5 f5; rw [List.nil_append] at o5; rw [Nat.zero_add] at o5 ⊢; have z5 := f5.size; (try simp at z5); replace TQ := Blk.below (by (repeat (first | (with_reducible assumption) | (with_reducible refine Blk.drew ?_) | (with_reducible refine Blk.other ?_ (by first | (simp; done) | (simp; omega) | omega) _) | (with_reducible refine Blk.alloc ?_ _))) : Blk _ w1.heap.size 24 #[.slice (some ⟨b, o, none⟩) 8 c1]) f5.below0; replace TB := Blk.below (by (repeat (first | (with_reducible assumption) | (with_reducible refine Blk.drew ?_) | (with_reducible refine Blk.other ?_ (by first | (simp; done) | (simp; omega) | omega) _) | (with_reducible refine Blk.alloc ?_ _))) : Blk _ w4.heap.size 24 #[.slice (some ⟨g4, p4, none⟩) 8 c4]) f5.below0; replace hB1 := Below.via (by (repeat (first | (with_reducible assumption) | (with_reducible exact Below.refl _ _) | (with_reducible refine Below.setCell ?_ (by first | (simp; done) | (simp; omega) | omega) _) | (with_reducible refine Below.alloc ?_ (by first | (simp; done) | (simp; omega) | omega) _) | (with_reducible refine Below.drew ?_) | (with_reducible refine Below.drewN ?_ _))) : Below w1.heap.size w1 _) f5.below0; have o4w := Own.below (by (repeat (first | (with_reducible assumption) | (with_reducible refine Own.alloc ?_ _) | (with_reducible refine Own.drew ?_) | (with_reducible refine Own.set ?_ (by first | (simp; done) | (simp; omega) | omega) _))) : Own _ w3.heap.size w4.heap.size 38 1 (some ⟨g4, p4, none⟩) 8 c4 cs) f5.below0; clear q0 b0 lQ lB f5; have q0 := TQ.cell 0 rfl; have b0 := TB.cell 0 rfl; have lQ := TQ.lt; have lB := TB.lt
        refine hK.out _ _ ?_ (fun hHeld => ?_)
        focus (first | exact trivial | ((try dsimp only); (exact ⟨Blk.cell (by (repeat (first | (with_reducible assumption) | (with_reducible refine Blk.drew ?_) | (with_reducible refine Blk.other ?_ (by first | (simp; done) | (simp; omega) | omega) _) | (with_reducible refine Blk.alloc ?_ _))) : Blk _ w1.heap.size 24 #[.slice (some ⟨b, o, none⟩) 8 c1]) 0 rfl, Blk.cell (by (repeat (first | (with_reducible assumption) | (with_reducible refine Blk.drew ?_) | (with_reducible refine Blk.other ?_ (by first | (simp; done) | (simp; omega) | omega) _) | (with_reducible refine Blk.alloc ?_ _))) : Blk _ w4.heap.size 24 #[.slice (some ⟨g4, p4, none⟩) 8 c4]) 0 rfl, (Below.cell (by (repeat (first | (with_reducible assumption) | (with_reducible exact Below.refl _ _) | (with_reducible refine Below.setCell ?_ (by first | (simp; done) | (simp; omega) | omega) _) | (with_reducible refine Below.alloc ?_ (by first | (simp; done) | (simp; omega) | omega) _) | (with_reducible refine Below.drew ?_) | (with_reducible refine Below.drewN ?_ _))) : Below w1.heap.size w1 _) (p := ⟨b, o, none⟩) (by show b < w1.heap.size; omega)).trans hcr1⟩))); done
        clear hK K
        (try simp only [Act.put, List.setIfInBounds_toArray, List.set_cons_zero, List.set_cons_succ])
        refine wpAnyH_ready (rs := [8]) (by kernel_rfl) (by simp) ?_
        refine AllReadyH.cons (by rw [List.getElem?_toArray]; rfl) (fun K hK => ?_) AllReadyH.nil
        go_simp
        skip
        refine hK.out _ _ ?_ (fun hHeld => ?_)
        focus (first | exact trivial | ((try dsimp only); (exact ⟨Blk.cell (by (repeat (first | (with_reducible assumption) | (with_reducible refine Blk.drew ?_) | (with_reducible refine Blk.other ?_ (by first | (simp; done) | (simp; omega) | omega) _) | (with_reducible refine Blk.alloc ?_ _))) : Blk _ w1.heap.size 24 #[.slice (some ⟨b, o, none⟩) 8 c1]) 0 rfl, Blk.cell (by (repeat (first | (with_reducible assumption) | (with_reducible refine Blk.drew ?_) | (with_reducible refine Blk.other ?_ (by first | (simp; done) | (simp; omega) | omega) _) | (with_reducible refine Blk.alloc ?_ _))) : Blk _ w4.heap.size 24 #[.slice (some ⟨g4, p4, none⟩) 8 c4]) 0 rfl, (Below.cell (by (repeat (first | (with_reducible assumption) | (with_reducible exact Below.refl _ _) | (with_reducible refine Below.setCell ?_ (by first | (simp; done) | (simp; omega) | omega) _) | (with_reducible refine Below.alloc ?_ (by first | (simp; done) | (simp; omega) | omega) _) | (with_reducible refine Below.drew ?_) | (with_reducible refine Below.drewN ?_ _))) : Below w1.heap.size w1 _) (p := ⟨b, o, none⟩) (by show b < w1.heap.size; omega)).trans hcr1⟩))); done
        clear hK K
        (try simp only [Act.put, List.setIfInBounds_toArray, List.set_cons_zero, List.set_cons_succ])
        refine wpAnyH_ready (rs := [9]) (by kernel_rfl) (by simp) ?_
        refine AllReadyH.cons (by rw [List.getElem?_toArray]; rfl) (fun K hK => ?_) AllReadyH.nil
        refine step_app _ rfl (.tmp 32) (.tmp 33) 38 rfl 3 i0 (.int .i64 0) 1 8 Try.underlying38 hi0 hz0 hz1 hz2 rfl (by omega) (w4.heap.size + 1) w5.heap.size w5.heap.size (w5.heap.size + 1) A5 (some ⟨w5.heap.size, 0, none⟩) k1 c5 1 1 (ints ys) (ints [16]) rfl rfl (by (repeat (first | (with_reducible assumption) | (with_reducible refine Own.alloc ?_ _) | (with_reducible refine Own.drew ?_) | (with_reducible refine Own.set ?_ (by first | (simp; done) | (simp; omega) | omega) _)))) (lit_rd _ #[.int .i64 16] 3 1 _ (by (try simp) <;> (try omega)) rfl (by unfold maxLen; omega)) (ints_one _) (by unfold maxLen; omega) (by omega) (by (try simp) <;> omega) ?_; intro A6 c6 w6 o6 f6; have z6 := f6.size; (try simp at z6); replace TQ := Blk.fr (by (repeat (first | (with_reducible assumption) | (with_reducible refine Blk.drew ?_) | (with_reducible refine Blk.other ?_ (by first | (simp; done) | (simp; omega) | omega) _) | (with_reducible refine Blk.alloc ?_ _))) : Blk _ w1.heap.size 24 #[.slice (some ⟨b, o, none⟩) 8 c1]) f6 (.inl (by omega)); replace TB := Blk.fr (by (repeat (first | (with_reducible assumption) | (with_reducible refine Blk.drew ?_) | (with_reducible refine Blk.other ?_ (by first | (simp; done) | (simp; omega) | omega) _) | (with_reducible refine Blk.alloc ?_ _))) : Blk _ w4.heap.size 24 #[.slice (some ⟨g4, p4, none⟩) 8 c4]) f6 (.inl (by omega)); replace hB1 := Below.trans (by (repeat (first | (with_reducible assumption) | (with_reducible exact Below.refl _ _) | (with_reducible refine Below.setCell ?_ (by first | (simp; done) | (simp; omega) | omega) _) | (with_reducible refine Below.alloc ?_ (by first | (simp; done) | (simp; omega) | omega) _) | (with_reducible refine Below.drew ?_) | (with_reducible refine Below.drewN ?_ _))) : Below w1.heap.size w1 _) (f6.below (W := w1.heap.size) (by omega) (by (try simp) <;> omega)); have o4z := Own.fr (by (repeat (first | (with_reducible assumption) | (with_reducible refine Own.alloc ?_ _) | (with_reducible refine Own.drew ?_) | (with_reducible refine Own.set ?_ (by first | (simp; done) | (simp; omega) | omega) _))) : Own _ w3.heap.size w4.heap.size 38 1 (some ⟨g4, p4, none⟩) 8 c4 cs) f6 (.inl (by omega)); obtain ⟨g9, p9, e9, -, -, hg9, hcell9, hfr9, hset9⟩ := o4z.at_ (by omega); injection e9 with e9; injection e9 with eg eo; subst eg; subst eo; have c90 := hcell9 0 _ HC.out.1; (try simp only [Nat.add_zero] at c90); have h9 := hset9 0 (.slice A6 (k1 + 1) c6) (by have := o4z.1; omega); (try simp only [Nat.add_zero] at h9); have H9 := Lib.hid h9; clear q0 b0 lQ lB f6 hset9 hcell9 h9; have q0 := TQ.cell 0 rfl; have b0 := TB.cell 0 rfl; have lQ := TQ.lt; have lB := TB.lt
        refine hK.out _ _ ?_ (fun hHeld => ?_)
        focus (first | exact trivial | ((try dsimp only); (exact ⟨Blk.cell (by (repeat (first | (with_reducible assumption) | (with_reducible refine Blk.drew ?_) | (with_reducible refine Blk.other ?_ (by first | (simp; done) | (simp; omega) | omega) _) | (with_reducible refine Blk.alloc ?_ _))) : Blk _ w1.heap.size 24 #[.slice (some ⟨b, o, none⟩) 8 c1]) 0 rfl, Blk.cell (by (repeat (first | (with_reducible assumption) | (with_reducible refine Blk.drew ?_) | (with_reducible refine Blk.other ?_ (by first | (simp; done) | (simp; omega) | omega) _) | (with_reducible refine Blk.alloc ?_ _))) : Blk _ w4.heap.size 24 #[.slice (some ⟨g4, p4, none⟩) 8 c4]) 0 rfl, (Below.cell (by (repeat (first | (with_reducible assumption) | (with_reducible exact Below.refl _ _) | (with_reducible refine Below.setCell ?_ (by first | (simp; done) | (simp; omega) | omega) _) | (with_reducible refine Below.alloc ?_ (by first | (simp; done) | (simp; omega) | omega) _) | (with_reducible refine Below.drew ?_) | (with_reducible refine Below.drewN ?_ _))) : Below w1.heap.size w1 _) (p := ⟨b, o, none⟩) (by show b < w1.heap.size; omega)).trans hcr1⟩))); done
        clear hK K
        (try simp only [Act.put, List.setIfInBounds_toArray, List.set_cons_zero, List.set_cons_succ])
        refine wpAnyH_take (i := 10) (v := ?_) (by rw [List.getElem?_toArray]; rfl) (by kernel_rfl) (by kernel_rfl) (by kernel_rfl) (fun _ _ _ h => h) (Or.inl ⟨by rfl, ?_⟩) (by assumption) ?_
        rotate_left
        focus (intro wS hSw; (try dsimp only at hSw); go_simp; (try with_reducible rfl)); done
        (try simp only [Act.put, List.setIfInBounds_toArray, List.set_cons_zero, List.set_cons_succ])
        refine wpAnyH_ready (rs := [11]) (by kernel_rfl) (by simp) ?_
        refine AllReadyH.cons (by rw [List.getElem?_toArray]; rfl) (fun K hK => ?_) AllReadyH.nil
        go_simp
        skip
        refine hK.out _ _ ?_ (fun hHeld => ?_)
        focus (first | exact trivial | ((try dsimp only); (exact ⟨Blk.cell (by (repeat (first | (with_reducible assumption) | (with_reducible refine Blk.drew ?_) | (with_reducible refine Blk.other ?_ (by first | (simp; done) | (simp; omega) | omega) _) | (with_reducible refine Blk.alloc ?_ _))) : Blk _ w1.heap.size 24 #[.slice (some ⟨b, o, none⟩) 8 c1]) 0 rfl, Blk.cell (by (repeat (first | (with_reducible assumption) | (with_reducible refine Blk.drew ?_) | (with_reducible refine Blk.other ?_ (by first | (simp; done) | (simp; omega) | omega) _) | (with_reducible refine Blk.alloc ?_ _))) : Blk _ w4.heap.size 24 #[.slice (some ⟨g4, p4, none⟩) 8 c4]) 0 rfl, (Below.cell (by (repeat (first | (with_reducible assumption) | (with_reducible exact Below.refl _ _) | (with_reducible refine Below.setCell ?_ (by first | (simp; done) | (simp; omega) | omega) _) | (with_reducible refine Below.alloc ?_ (by first | (simp; done) | (simp; omega) | omega) _) | (with_reducible refine Below.drew ?_) | (with_reducible refine Below.drewN ?_ _))) : Below w1.heap.size w1 _) (p := ⟨b, o, none⟩) (by show b < w1.heap.size; omega)).trans hcr1⟩))); done
        clear hK K
        (try simp only [Act.put, List.setIfInBounds_toArray, List.set_cons_zero, List.set_cons_succ])
        refine wpAnyH_done (by kernel_rfl) ?_ _
        refine NoPanic.normal ?_
        have TQ7 := TQ.other (p := ⟨g4, p4, none⟩) (by show w1.heap.size ≠ g4; omega) (.slice A6 (k1 + 1) c6)
        have TB7 := TB.other (p := ⟨g4, p4, none⟩) (by show w4.heap.size ≠ g4; omega) (.slice A6 (k1 + 1) c6)
        have hB7 : Below w1.heap.size w1 (w6.setCell ⟨g4, p4, none⟩ (.slice A6 (k1 + 1) c6)) := by (repeat (first | (with_reducible assumption) | (with_reducible exact Below.refl _ _) | (with_reducible refine Below.setCell ?_ (by first | (simp; done) | (simp; omega) | omega) _) | (with_reducible refine Below.alloc ?_ (by first | (simp; done) | (simp; omega) | omega) _) | (with_reducible refine Below.drew ?_) | (with_reducible refine Below.drewN ?_ _)))
        clear q0 b0 lQ lB
        have q0 := TQ7.cell 0 rfl
        have b0 := TB7.cell 0 rfl
        obtain ⟨hbad, hless, hsn, hsd⟩ := HBD.out
        obtain ⟨hc0, hl8, hs⟩ := HC.out
        have hR : Rows (w6.setCell ⟨g4, p4, none⟩ (.slice A6 (k1 + 1) c6)) 0 w6.heap.size (some ⟨g4, p4, none⟩) 8 (yss.set 0 (ys ++ [16])) := by
          refine Rows.set0 (cs := cs) (A' := A6) (c' := c6) hl8 (by rw [List.length_append, HK.out]; exact H9.out.rd.mono (Nat.zero_le _) (by omega)) (fun k us hk => ?_) (by rw [List.length_append, HK.out]; exact o6.le) ?_
          · obtain ⟨Ak, ck, x1, x2, x3⟩ := HR.out k us hk
            exact ⟨Ak, ck, x1, x2, ((HW.out us Ak x3).belowT hB7).mono (Nat.zero_le _) (by omega)⟩
          · rw [List.length_append, HK.out, ints_append]
            exact (o6.rd.set (p := ⟨g4, p4, none⟩) (.inl (by show g4 < w4.heap.size + 1; omega)) _).mono (Nat.zero_le _) (Nat.le_refl _)
        have r7 := HW2.out.fr (Fr.of_below hB7 w1.heap.size w1.heap.size) (.inl (Nat.le_refl _))
        have hc18 : (1 : Int) ≤ (c1 : Int) := by omega
        have hc88 : (8 : Int) ≤ (c1 : Int) := by omega
        have hsx : sizeOfRows (yss.set 0 (ys ++ [16])) ≤ 1048576 := by rw [hsn]; simp; omega
        go_wp2_with fail
        refine (iQueuesValid_any _ _ _ _ _ _ _ hR hsx).mono ?_
        rintro e w8 ⟨rfl, hb8⟩
        rw [hbad]
        have TQ8 := TQ7.below hb8
        have r8 := r7.below hb8
        have hB8 := Below.via hB7 hb8
        clear q0 b0
        have q0 := TQ8.cell 0 rfl
        have hcut := r8.cut (k := 1) (cap := c1) (by omega) hle
        rw [if_neg (by omega)] at hcut
        replace hcut : Rows w8 w.heap.size w1.heap.size (some ⟨b, o + 1, none⟩) 7 (yss.drop 1) := by simpa [Addr.add_lit] using hcut
        go_wp2_with fail
        refine (iQueuesValid_any _ _ _ _ _ _ _ hcut (by omega)).mono ?_
        rintro e w9 ⟨rfl, hb9⟩
        rw [hless]
        have hB9 := Below.via hB8 hb9
        go_wp2
        go_ret
        exact ⟨rfl, Below.via hBw hB9⟩
      · go_simp
        skip
        refine hK.out _ _ ?_ (fun hHeld => ?_)
        focus (first | exact trivial | ((try dsimp only); (exact ⟨Blk.cell (by (repeat (first | (with_reducible assumption) | (with_reducible refine Blk.drew ?_) | (with_reducible refine Blk.other ?_ (by first | (simp; done) | (simp; omega) | omega) _) | (with_reducible refine Blk.alloc ?_ _))) : Blk _ w1.heap.size 24 #[.slice (some ⟨b, o, none⟩) 8 c1]) 0 rfl, Blk.cell (by (repeat (first | (with_reducible assumption) | (with_reducible refine Blk.drew ?_) | (with_reducible refine Blk.other ?_ (by first | (simp; done) | (simp; omega) | omega) _) | (with_reducible refine Blk.alloc ?_ _))) : Blk _ w4.heap.size 24 #[.slice (some ⟨g4, p4, none⟩) 8 c4]) 0 rfl, (Below.cell (by (repeat (first | (with_reducible assumption) | (with_reducible exact Below.refl _ _) | (with_reducible refine Below.setCell ?_ (by first | (simp; done) | (simp; omega) | omega) _) | (with_reducible refine Below.alloc ?_ (by first | (simp; done) | (simp; omega) | omega) _) | (with_reducible refine Below.drew ?_) | (with_reducible refine Below.drewN ?_ _))) : Below w1.heap.size w1 _) (p := ⟨b, o, none⟩) (by show b < w1.heap.size; omega)).trans hcr1⟩))); done
        clear hK K
        (try simp only [Act.put, List.setIfInBounds_toArray, List.set_cons_zero, List.set_cons_succ])
        refine wpAnyH_ready (rs := [7]) (by kernel_rfl) (by simp) ?_
        refine AllReadyH.cons (by rw [List.getElem?_toArray]; rfl) (fun K hK => ?_) AllReadyH.nil
        refine step_app _ rfl (.tmp 27) (.tmp 31) 38 rfl 3 i0 (.int .i64 0) 1 8 Try.underlying38 hi0 hz0 hz1 hz2 rfl (by omega) (w4.heap.size + 1) 0 w.heap.size w1.heap.size (some ⟨(w4.heap.size + 1), 0, none⟩) A0 0 0 k1 c0 [] (ints ys) rfl rfl (Own.nil _ _ _ _ _ _) (by (repeat (first | (with_reducible assumption) | (with_reducible refine Rd.drew ?_) | (with_reducible refine Rd.alloc ?_ _) | (with_reducible refine Rd.set ?_ (by first | (simp; done) | (simp; omega) | omega) _)))) (ints_one _) (by unfold maxLen; omega) (by omega) (by (try simp) <;> omega) ?_; intro A5 c5 w5 o5 f5; rw [List.nil_append] at o5; rw [Nat.zero_add] at o5 ⊢; have z5 := f5.size; (try simp at z5); have TL := Blk.below (by (repeat (first | (with_reducible assumption) | (with_reducible exact Blk.newAt _ _ (by simp)) | (with_reducible refine Blk.drew ?_) | (with_reducible refine Blk.other ?_ (by first | (simp; done) | (simp; omega) | omega) _) | (with_reducible refine Blk.alloc ?_ _))) : Blk _ (w4.heap.size + 1 + 1) 3 #[.int .i64 16]) f5.below0; replace TQ := Blk.below (by (repeat (first | (with_reducible assumption) | (with_reducible refine Blk.drew ?_) | (with_reducible refine Blk.other ?_ (by first | (simp; done) | (simp; omega) | omega) _) | (with_reducible refine Blk.alloc ?_ _))) : Blk _ w1.heap.size 24 #[.slice (some ⟨b, o, none⟩) 8 c1]) f5.below0; replace TB := Blk.below (by (repeat (first | (with_reducible assumption) | (with_reducible refine Blk.drew ?_) | (with_reducible refine Blk.other ?_ (by first | (simp; done) | (simp; omega) | omega) _) | (with_reducible refine Blk.alloc ?_ _))) : Blk _ w4.heap.size 24 #[.slice (some ⟨g4, p4, none⟩) 8 c4]) f5.below0; replace hB1 := Below.via (by (repeat (first | (with_reducible assumption) | (with_reducible exact Below.refl _ _) | (with_reducible refine Below.setCell ?_ (by first | (simp; done) | (simp; omega) | omega) _) | (with_reducible refine Below.alloc ?_ (by first | (simp; done) | (simp; omega) | omega) _) | (with_reducible refine Below.drew ?_) | (with_reducible refine Below.drewN ?_ _))) : Below w1.heap.size w1 _) f5.below0; have o4w := Own.below (by (repeat (first | (with_reducible assumption) | (with_reducible refine Own.alloc ?_ _) | (with_reducible refine Own.drew ?_) | (with_reducible refine Own.set ?_ (by first | (simp; done) | (simp; omega) | omega) _))) : Own _ w3.heap.size w4.heap.size 38 1 (some ⟨g4, p4, none⟩) 8 c4 cs) f5.below0; clear q0 b0 lQ lB f5; have q0 := TQ.cell 0 rfl; have b0 := TB.cell 0 rfl; have lQ := TQ.lt; have lB := TB.lt
        refine hK.out _ _ ?_ (fun hHeld => ?_)
        focus (first | exact trivial | ((try dsimp only); (exact ⟨Blk.cell (by (repeat (first | (with_reducible assumption) | (with_reducible refine Blk.drew ?_) | (with_reducible refine Blk.other ?_ (by first | (simp; done) | (simp; omega) | omega) _) | (with_reducible refine Blk.alloc ?_ _))) : Blk _ w1.heap.size 24 #[.slice (some ⟨b, o, none⟩) 8 c1]) 0 rfl, Blk.cell (by (repeat (first | (with_reducible assumption) | (with_reducible refine Blk.drew ?_) | (with_reducible refine Blk.other ?_ (by first | (simp; done) | (simp; omega) | omega) _) | (with_reducible refine Blk.alloc ?_ _))) : Blk _ w4.heap.size 24 #[.slice (some ⟨g4, p4, none⟩) 8 c4]) 0 rfl, (Below.cell (by (repeat (first | (with_reducible assumption) | (with_reducible exact Below.refl _ _) | (with_reducible refine Below.setCell ?_ (by first | (simp; done) | (simp; omega) | omega) _) | (with_reducible refine Below.alloc ?_ (by first | (simp; done) | (simp; omega) | omega) _) | (with_reducible refine Below.drew ?_) | (with_reducible refine Below.drewN ?_ _))) : Below w1.heap.size w1 _) (p := ⟨b, o, none⟩) (by show b < w1.heap.size; omega)).trans hcr1⟩))); done
        clear hK K
        (try simp only [Act.put, List.setIfInBounds_toArray, List.set_cons_zero, List.set_cons_succ])
        refine wpAnyH_ready (rs := [9]) (by kernel_rfl) (by simp) ?_
        refine AllReadyH.cons (by rw [List.getElem?_toArray]; rfl) (fun K hK => ?_) AllReadyH.nil
        refine step_app _ rfl (.tmp 32) (.tmp 33) 38 rfl 3 i0 (.int .i64 0) 1 8 Try.underlying38 hi0 hz0 hz1 hz2 rfl (by omega) (w4.heap.size + 1) w5.heap.size (w4.heap.size + 1 + 1) ((w4.heap.size + 1 + 1) + 1) A5 (some ⟨(w4.heap.size + 1 + 1), 0, none⟩) k1 c5 1 1 (ints ys) (ints [16]) rfl rfl (by (repeat (first | (with_reducible assumption) | (with_reducible refine Own.alloc ?_ _) | (with_reducible refine Own.drew ?_) | (with_reducible refine Own.set ?_ (by first | (simp; done) | (simp; omega) | omega) _)))) (blk_rd (by (repeat (first | (with_reducible assumption) | (with_reducible refine Blk.drew ?_) | (with_reducible refine Blk.other ?_ (by first | (simp; done) | (simp; omega) | omega) _) | (with_reducible refine Blk.alloc ?_ _))) : Blk _ (w4.heap.size + 1 + 1) 3 #[.int .i64 16]) rfl) (ints_one _) (by unfold maxLen; omega) (by omega) (by (try simp) <;> omega) ?_; intro A6 c6 w6 o6 f6; have z6 := f6.size; (try simp at z6); replace TQ := Blk.fr (by (repeat (first | (with_reducible assumption) | (with_reducible refine Blk.drew ?_) | (with_reducible refine Blk.other ?_ (by first | (simp; done) | (simp; omega) | omega) _) | (with_reducible refine Blk.alloc ?_ _))) : Blk _ w1.heap.size 24 #[.slice (some ⟨b, o, none⟩) 8 c1]) f6 (.inl (by omega)); replace TB := Blk.fr (by (repeat (first | (with_reducible assumption) | (with_reducible refine Blk.drew ?_) | (with_reducible refine Blk.other ?_ (by first | (simp; done) | (simp; omega) | omega) _) | (with_reducible refine Blk.alloc ?_ _))) : Blk _ w4.heap.size 24 #[.slice (some ⟨g4, p4, none⟩) 8 c4]) f6 (.inl (by omega)); replace hB1 := Below.trans (by (repeat (first | (with_reducible assumption) | (with_reducible exact Below.refl _ _) | (with_reducible refine Below.setCell ?_ (by first | (simp; done) | (simp; omega) | omega) _) | (with_reducible refine Below.alloc ?_ (by first | (simp; done) | (simp; omega) | omega) _) | (with_reducible refine Below.drew ?_) | (with_reducible refine Below.drewN ?_ _))) : Below w1.heap.size w1 _) (f6.below (W := w1.heap.size) (by omega) (by (try simp) <;> omega)); have o4z := Own.fr (by (repeat (first | (with_reducible assumption) | (with_reducible refine Own.alloc ?_ _) | (with_reducible refine Own.drew ?_) | (with_reducible refine Own.set ?_ (by first | (simp; done) | (simp; omega) | omega) _))) : Own _ w3.heap.size w4.heap.size 38 1 (some ⟨g4, p4, none⟩) 8 c4 cs) f6 (.inl (by omega)); obtain ⟨g9, p9, e9, -, -, hg9, hcell9, hfr9, hset9⟩ := o4z.at_ (by omega); injection e9 with e9; injection e9 with eg eo; subst eg; subst eo; have c90 := hcell9 0 _ HC.out.1; (try simp only [Nat.add_zero] at c90); have h9 := hset9 0 (.slice A6 (k1 + 1) c6) (by have := o4z.1; omega); (try simp only [Nat.add_zero] at h9); have H9 := Lib.hid h9; clear q0 b0 lQ lB f6 hset9 hcell9 h9; have q0 := TQ.cell 0 rfl; have b0 := TB.cell 0 rfl; have lQ := TQ.lt; have lB := TB.lt
        refine hK.out _ _ ?_ (fun hHeld => ?_)
        focus (first | exact trivial | ((try dsimp only); (exact ⟨Blk.cell (by (repeat (first | (with_reducible assumption) | (with_reducible refine Blk.drew ?_) | (with_reducible refine Blk.other ?_ (by first | (simp; done) | (simp; omega) | omega) _) | (with_reducible refine Blk.alloc ?_ _))) : Blk _ w1.heap.size 24 #[.slice (some ⟨b, o, none⟩) 8 c1]) 0 rfl, Blk.cell (by (repeat (first | (with_reducible assumption) | (with_reducible refine Blk.drew ?_) | (with_reducible refine Blk.other ?_ (by first | (simp; done) | (simp; omega) | omega) _) | (with_reducible refine Blk.alloc ?_ _))) : Blk _ w4.heap.size 24 #[.slice (some ⟨g4, p4, none⟩) 8 c4]) 0 rfl, (Below.cell (by (repeat (first | (with_reducible assumption) | (with_reducible exact Below.refl _ _) | (with_reducible refine Below.setCell ?_ (by first | (simp; done) | (simp; omega) | omega) _) | (with_reducible refine Below.alloc ?_ (by first | (simp; done) | (simp; omega) | omega) _) | (with_reducible refine Below.drew ?_) | (with_reducible refine Below.drewN ?_ _))) : Below w1.heap.size w1 _) (p := ⟨b, o, none⟩) (by show b < w1.heap.size; omega)).trans hcr1⟩))); done
        clear hK K
        (try simp only [Act.put, List.setIfInBounds_toArray, List.set_cons_zero, List.set_cons_succ])
        refine wpAnyH_take (i := 10) (v := ?_) (by rw [List.getElem?_toArray]; rfl) (by kernel_rfl) (by kernel_rfl) (by kernel_rfl) (fun _ _ _ h => h) (Or.inl ⟨by rfl, ?_⟩) (by assumption) ?_
        rotate_left
        focus (intro wS hSw; (try dsimp only at hSw); go_simp; (try with_reducible rfl)); done
        (try simp only [Act.put, List.setIfInBounds_toArray, List.set_cons_zero, List.set_cons_succ])
        refine wpAnyH_ready (rs := [11]) (by kernel_rfl) (by simp) ?_
        refine AllReadyH.cons (by rw [List.getElem?_toArray]; rfl) (fun K hK => ?_) AllReadyH.nil
        go_simp
        skip
        refine hK.out _ _ ?_ (fun hHeld => ?_)
        focus (first | exact trivial | ((try dsimp only); (exact ⟨Blk.cell (by (repeat (first | (with_reducible assumption) | (with_reducible refine Blk.drew ?_) | (with_reducible refine Blk.other ?_ (by first | (simp; done) | (simp; omega) | omega) _) | (with_reducible refine Blk.alloc ?_ _))) : Blk _ w1.heap.size 24 #[.slice (some ⟨b, o, none⟩) 8 c1]) 0 rfl, Blk.cell (by (repeat (first | (with_reducible assumption) | (with_reducible refine Blk.drew ?_) | (with_reducible refine Blk.other ?_ (by first | (simp; done) | (simp; omega) | omega) _) | (with_reducible refine Blk.alloc ?_ _))) : Blk _ w4.heap.size 24 #[.slice (some ⟨g4, p4, none⟩) 8 c4]) 0 rfl, (Below.cell (by (repeat (first | (with_reducible assumption) | (with_reducible exact Below.refl _ _) | (with_reducible refine Below.setCell ?_ (by first | (simp; done) | (simp; omega) | omega) _) | (with_reducible refine Below.alloc ?_ (by first | (simp; done) | (simp; omega) | omega) _) | (with_reducible refine Below.drew ?_) | (with_reducible refine Below.drewN ?_ _))) : Below w1.heap.size w1 _) (p := ⟨b, o, none⟩) (by show b < w1.heap.size; omega)).trans hcr1⟩))); done
        clear hK K
        (try simp only [Act.put, List.setIfInBounds_toArray, List.set_cons_zero, List.set_cons_succ])
        refine wpAnyH_done (by kernel_rfl) ?_ _
        refine NoPanic.normal ?_
        have TQ7 := TQ.other (p := ⟨g4, p4, none⟩) (by show w1.heap.size ≠ g4; omega) (.slice A6 (k1 + 1) c6)
        have TB7 := TB.other (p := ⟨g4, p4, none⟩) (by show w4.heap.size ≠ g4; omega) (.slice A6 (k1 + 1) c6)
        have hB7 : Below w1.heap.size w1 (w6.setCell ⟨g4, p4, none⟩ (.slice A6 (k1 + 1) c6)) := by (repeat (first | (with_reducible assumption) | (with_reducible exact Below.refl _ _) | (with_reducible refine Below.setCell ?_ (by first | (simp; done) | (simp; omega) | omega) _) | (with_reducible refine Below.alloc ?_ (by first | (simp; done) | (simp; omega) | omega) _) | (with_reducible refine Below.drew ?_) | (with_reducible refine Below.drewN ?_ _)))
        clear q0 b0 lQ lB
        have q0 := TQ7.cell 0 rfl
        have b0 := TB7.cell 0 rfl
        obtain ⟨hbad, hless, hsn, hsd⟩ := HBD.out
        obtain ⟨hc0, hl8, hs⟩ := HC.out
        have hR : Rows (w6.setCell ⟨g4, p4, none⟩ (.slice A6 (k1 + 1) c6)) 0 w6.heap.size (some ⟨g4, p4, none⟩) 8 (yss.set 0 (ys ++ [16])) := by
          refine Rows.set0 (cs := cs) (A' := A6) (c' := c6) hl8 (by rw [List.length_append, HK.out]; exact H9.out.rd.mono (Nat.zero_le _) (by omega)) (fun k us hk => ?_) (by rw [List.length_append, HK.out]; exact o6.le) ?_
          · obtain ⟨Ak, ck, x1, x2, x3⟩ := HR.out k us hk
            exact ⟨Ak, ck, x1, x2, ((HW.out us Ak x3).belowT hB7).mono (Nat.zero_le _) (by omega)⟩
          · rw [List.length_append, HK.out, ints_append]
            exact (o6.rd.set (p := ⟨g4, p4, none⟩) (.inl (by show g4 < w4.heap.size + 1; omega)) _).mono (Nat.zero_le _) (Nat.le_refl _)
        have r7 := HW2.out.fr (Fr.of_below hB7 w1.heap.size w1.heap.size) (.inl (Nat.le_refl _))
        have hc18 : (1 : Int) ≤ (c1 : Int) := by omega
        have hc88 : (8 : Int) ≤ (c1 : Int) := by omega
        have hsx : sizeOfRows (yss.set 0 (ys ++ [16])) ≤ 1048576 := by rw [hsn]; simp; omega
        go_wp2_with fail
        refine (iQueuesValid_any _ _ _ _ _ _ _ hR hsx).mono ?_
        rintro e w8 ⟨rfl, hb8⟩
        rw [hbad]
        have TQ8 := TQ7.below hb8
        have r8 := r7.below hb8
        have hB8 := Below.via hB7 hb8
        clear q0 b0
        have q0 := TQ8.cell 0 rfl
        have hcut := r8.cut (k := 1) (cap := c1) (by omega) hle
        rw [if_neg (by omega)] at hcut
        replace hcut : Rows w8 w.heap.size w1.heap.size (some ⟨b, o + 1, none⟩) 7 (yss.drop 1) := by simpa [Addr.add_lit] using hcut
        go_wp2_with fail
        refine (iQueuesValid_any _ _ _ _ _ _ _ hcut (by omega)).mono ?_
        rintro e w9 ⟨rfl, hb9⟩
        rw [hless]
        have hB9 := Below.via hB8 hb9
        go_wp2
        go_ret
        exact ⟨rfl, Below.via hBw hB9⟩
    · go_simp
      skip
      refine hK.out _ _ ?_ (fun hHeld => ?_)
      focus (first | exact trivial | ((try dsimp only); (exact ⟨Blk.cell (by (repeat (first | (with_reducible assumption) | (with_reducible refine Blk.drew ?_) | (with_reducible refine Blk.other ?_ (by first | (simp; done) | (simp; omega) | omega) _) | (with_reducible refine Blk.alloc ?_ _))) : Blk _ w1.heap.size 24 #[.slice (some ⟨b, o, none⟩) 8 c1]) 0 rfl, Blk.cell (by (repeat (first | (with_reducible assumption) | (with_reducible refine Blk.drew ?_) | (with_reducible refine Blk.other ?_ (by first | (simp; done) | (simp; omega) | omega) _) | (with_reducible refine Blk.alloc ?_ _))) : Blk _ w4.heap.size 24 #[.slice (some ⟨g4, p4, none⟩) 8 c4]) 0 rfl, (Below.cell (by (repeat (first | (with_reducible assumption) | (with_reducible exact Below.refl _ _) | (with_reducible refine Below.setCell ?_ (by first | (simp; done) | (simp; omega) | omega) _) | (with_reducible refine Below.alloc ?_ (by first | (simp; done) | (simp; omega) | omega) _) | (with_reducible refine Below.drew ?_) | (with_reducible refine Below.drewN ?_ _))) : Below w1.heap.size w1 _) (p := ⟨b, o, none⟩) (by show b < w1.heap.size; omega)).trans hcr1⟩))); done
      clear hK K
      (try simp only [Act.put, List.setIfInBounds_toArray, List.set_cons_zero, List.set_cons_succ])
      refine wpAnyH_ready (rs := [2]) (by kernel_rfl) (by simp) ?_
      refine AllReadyH.cons (by rw [List.getElem?_toArray]; rfl) (fun K hK => ?_) AllReadyH.nil
      go_simp
      skip
      refine hK.out _ _ ?_ (fun hHeld => ?_)
      focus (first | exact trivial | ((try dsimp only); (exact ⟨Blk.cell (by (repeat (first | (with_reducible assumption) | (with_reducible refine Blk.drew ?_) | (with_reducible refine Blk.other ?_ (by first | (simp; done) | (simp; omega) | omega) _) | (with_reducible refine Blk.alloc ?_ _))) : Blk _ w1.heap.size 24 #[.slice (some ⟨b, o, none⟩) 8 c1]) 0 rfl, Blk.cell (by (repeat (first | (with_reducible assumption) | (with_reducible refine Blk.drew ?_) | (with_reducible refine Blk.other ?_ (by first | (simp; done) | (simp; omega) | omega) _) | (with_reducible refine Blk.alloc ?_ _))) : Blk _ w4.heap.size 24 #[.slice (some ⟨g4, p4, none⟩) 8 c4]) 0 rfl, (Below.cell (by (repeat (first | (with_reducible assumption) | (with_reducible exact Below.refl _ _) | (with_reducible refine Below.setCell ?_ (by first | (simp; done) | (simp; omega) | omega) _) | (with_reducible refine Below.alloc ?_ (by first | (simp; done) | (simp; omega) | omega) _) | (with_reducible refine Below.drew ?_) | (with_reducible refine Below.drewN ?_ _))) : Below w1.heap.size w1 _) (p := ⟨b, o, none⟩) (by show b < w1.heap.size; omega)).trans hcr1⟩))); done
      clear hK K
      (try simp only [Act.put, List.setIfInBounds_toArray, List.set_cons_zero, List.set_cons_succ])
      refine wpAnyH_ready (rs := [7]) (by kernel_rfl) (by simp) ?_
      refine AllReadyH.cons (by rw [List.getElem?_toArray]; rfl) (fun K hK => ?_) AllReadyH.nil
      refine step_app _ rfl (.tmp 27) (.tmp 31) 38 rfl 3 i0 (.int .i64 0) 1 8 Try.underlying38 hi0 hz0 hz1 hz2 rfl (by omega) (w4.heap.size + 1) 0 w.heap.size w1.heap.size (some ⟨(w4.heap.size + 1 + 1), 0, none⟩) A0 0 0 k1 c0 [] (ints ys) rfl rfl (Own.nil _ _ _ _ _ _) (by (repeat (first | (with_reducible assumption) | (with_reducible refine Rd.drew ?_) | (with_reducible refine Rd.alloc ?_ _) | (with_reducible refine Rd.set ?_ (by first | (simp; done) | (simp; omega) | omega) _)))) (ints_one _) (by unfold maxLen; omega) (by omega) (by (try simp) <;> omega) ?_; intro A5 c5 w5 o5 f5; rw [List.nil_append] at o5; rw [Nat.zero_add] at o5 ⊢; have z5 := f5.size; (try simp at z5); have TL := Blk.below (by (repeat (first | (with_reducible assumption) | (with_reducible exact Blk.newAt _ _ (by simp)) | (with_reducible refine Blk.drew ?_) | (with_reducible refine Blk.other ?_ (by first | (simp; done) | (simp; omega) | omega) _) | (with_reducible refine Blk.alloc ?_ _))) : Blk _ (w4.heap.size + 1) 3 #[.int .i64 16]) f5.below0; replace TQ := Blk.below (by (repeat (first | (with_reducible assumption) | (with_reducible refine Blk.drew ?_) | (with_reducible refine Blk.other ?_ (by first | (simp; done) | (simp; omega) | omega) _) | (with_reducible refine Blk.alloc ?_ _))) : Blk _ w1.heap.size 24 #[.slice (some ⟨b, o, none⟩) 8 c1]) f5.below0; replace TB := Blk.below (by (repeat (first | (with_reducible assumption) | (with_reducible refine Blk.drew ?_) | (with_reducible refine Blk.other ?_ (by first | (simp; done) | (simp; omega) | omega) _) | (with_reducible refine Blk.alloc ?_ _))) : Blk _ w4.heap.size 24 #[.slice (some ⟨g4, p4, none⟩) 8 c4]) f5.below0; replace hB1 := Below.via (by (repeat (first | (with_reducible assumption) | (with_reducible exact Below.refl _ _) | (with_reducible refine Below.setCell ?_ (by first | (simp; done) | (simp; omega) | omega) _) | (with_reducible refine Below.alloc ?_ (by first | (simp; done) | (simp; omega) | omega) _) | (with_reducible refine Below.drew ?_) | (with_reducible refine Below.drewN ?_ _))) : Below w1.heap.size w1 _) f5.below0; have o4w := Own.below (by (repeat (first | (with_reducible assumption) | (with_reducible refine Own.alloc ?_ _) | (with_reducible refine Own.drew ?_) | (with_reducible refine Own.set ?_ (by first | (simp; done) | (simp; omega) | omega) _))) : Own _ w3.heap.size w4.heap.size 38 1 (some ⟨g4, p4, none⟩) 8 c4 cs) f5.below0; clear q0 b0 lQ lB f5; have q0 := TQ.cell 0 rfl; have b0 := TB.cell 0 rfl; have lQ := TQ.lt; have lB := TB.lt
      refine hK.out _ _ ?_ (fun hHeld => ?_)
      focus (first | exact trivial | ((try dsimp only); (exact ⟨Blk.cell (by (repeat (first | (with_reducible assumption) | (with_reducible refine Blk.drew ?_) | (with_reducible refine Blk.other ?_ (by first | (simp; done) | (simp; omega) | omega) _) | (with_reducible refine Blk.alloc ?_ _))) : Blk _ w1.heap.size 24 #[.slice (some ⟨b, o, none⟩) 8 c1]) 0 rfl, Blk.cell (by (repeat (first | (with_reducible assumption) | (with_reducible refine Blk.drew ?_) | (with_reducible refine Blk.other ?_ (by first | (simp; done) | (simp; omega) | omega) _) | (with_reducible refine Blk.alloc ?_ _))) : Blk _ w4.heap.size 24 #[.slice (some ⟨g4, p4, none⟩) 8 c4]) 0 rfl, (Below.cell (by (repeat (first | (with_reducible assumption) | (with_reducible exact Below.refl _ _) | (with_reducible refine Below.setCell ?_ (by first | (simp; done) | (simp; omega) | omega) _) | (with_reducible refine Below.alloc ?_ (by first | (simp; done) | (simp; omega) | omega) _) | (with_reducible refine Below.drew ?_) | (with_reducible refine Below.drewN ?_ _))) : Below w1.heap.size w1 _) (p := ⟨b, o, none⟩) (by show b < w1.heap.size; omega)).trans hcr1⟩))); done
      clear hK K
      (try simp only [Act.put, List.setIfInBounds_toArray, List.set_cons_zero, List.set_cons_succ])
      refine wpAnyH_ready (rs := [9]) (by kernel_rfl) (by simp) ?_
      refine AllReadyH.cons (by rw [List.getElem?_toArray]; rfl) (fun K hK => ?_) AllReadyH.nil
      refine step_app _ rfl (.tmp 32) (.tmp 33) 38 rfl 3 i0 (.int .i64 0) 1 8 Try.underlying38 hi0 hz0 hz1 hz2 rfl (by omega) (w4.heap.size + 1) w5.heap.size (w4.heap.size + 1) ((w4.heap.size + 1) + 1) A5 (some ⟨(w4.heap.size + 1), 0, none⟩) k1 c5 1 1 (ints ys) (ints [16]) rfl rfl (by (repeat (first | (with_reducible assumption) | (with_reducible refine Own.alloc ?_ _) | (with_reducible refine Own.drew ?_) | (with_reducible refine Own.set ?_ (by first | (simp; done) | (simp; omega) | omega) _)))) (blk_rd (by (repeat (first | (with_reducible assumption) | (with_reducible refine Blk.drew ?_) | (with_reducible refine Blk.other ?_ (by first | (simp; done) | (simp; omega) | omega) _) | (with_reducible refine Blk.alloc ?_ _))) : Blk _ (w4.heap.size + 1) 3 #[.int .i64 16]) rfl) (ints_one _) (by unfold maxLen; omega) (by omega) (by (try simp) <;> omega) ?_; intro A6 c6 w6 o6 f6; have z6 := f6.size; (try simp at z6); replace TQ := Blk.fr (by (repeat (first | (with_reducible assumption) | (with_reducible refine Blk.drew ?_) | (with_reducible refine Blk.other ?_ (by first | (simp; done) | (simp; omega) | omega) _) | (with_reducible refine Blk.alloc ?_ _))) : Blk _ w1.heap.size 24 #[.slice (some ⟨b, o, none⟩) 8 c1]) f6 (.inl (by omega)); replace TB := Blk.fr (by (repeat (first | (with_reducible assumption) | (with_reducible refine Blk.drew ?_) | (with_reducible refine Blk.other ?_ (by first | (simp; done) | (simp; omega) | omega) _) | (with_reducible refine Blk.alloc ?_ _))) : Blk _ w4.heap.size 24 #[.slice (some ⟨g4, p4, none⟩) 8 c4]) f6 (.inl (by omega)); replace hB1 := Below.trans (by (repeat (first | (with_reducible assumption) | (with_reducible exact Below.refl _ _) | (with_reducible refine Below.setCell ?_ (by first | (simp; done) | (simp; omega) | omega) _) | (with_reducible refine Below.alloc ?_ (by first | (simp; done) | (simp; omega) | omega) _) | (with_reducible refine Below.drew ?_) | (with_reducible refine Below.drewN ?_ _))) : Below w1.heap.size w1 _) (f6.below (W := w1.heap.size) (by omega) (by (try simp) <;> omega)); have o4z := Own.fr (by (repeat (first | (with_reducible assumption) | (with_reducible refine Own.alloc ?_ _) | (with_reducible refine Own.drew ?_) | (with_reducible refine Own.set ?_ (by first | (simp; done) | (simp; omega) | omega) _))) : Own _ w3.heap.size w4.heap.size 38 1 (some ⟨g4, p4, none⟩) 8 c4 cs) f6 (.inl (by omega)); obtain ⟨g9, p9, e9, -, -, hg9, hcell9, hfr9, hset9⟩ := o4z.at_ (by omega); injection e9 with e9; injection e9 with eg eo; subst eg; subst eo; have c90 := hcell9 0 _ HC.out.1; (try simp only [Nat.add_zero] at c90); have h9 := hset9 0 (.slice A6 (k1 + 1) c6) (by have := o4z.1; omega); (try simp only [Nat.add_zero] at h9); have H9 := Lib.hid h9; clear q0 b0 lQ lB f6 hset9 hcell9 h9; have q0 := TQ.cell 0 rfl; have b0 := TB.cell 0 rfl; have lQ := TQ.lt; have lB := TB.lt
      refine hK.out _ _ ?_ (fun hHeld => ?_)
      focus (first | exact trivial | ((try dsimp only); (exact ⟨Blk.cell (by (repeat (first | (with_reducible assumption) | (with_reducible refine Blk.drew ?_) | (with_reducible refine Blk.other ?_ (by first | (simp; done) | (simp; omega) | omega) _) | (with_reducible refine Blk.alloc ?_ _))) : Blk _ w1.heap.size 24 #[.slice (some ⟨b, o, none⟩) 8 c1]) 0 rfl, Blk.cell (by (repeat (first | (with_reducible assumption) | (with_reducible refine Blk.drew ?_) | (with_reducible refine Blk.other ?_ (by first | (simp; done) | (simp; omega) | omega) _) | (with_reducible refine Blk.alloc ?_ _))) : Blk _ w4.heap.size 24 #[.slice (some ⟨g4, p4, none⟩) 8 c4]) 0 rfl, (Below.cell (by (repeat (first | (with_reducible assumption) | (with_reducible exact Below.refl _ _) | (with_reducible refine Below.setCell ?_ (by first | (simp; done) | (simp; omega) | omega) _) | (with_reducible refine Below.alloc ?_ (by first | (simp; done) | (simp; omega) | omega) _) | (with_reducible refine Below.drew ?_) | (with_reducible refine Below.drewN ?_ _))) : Below w1.heap.size w1 _) (p := ⟨b, o, none⟩) (by show b < w1.heap.size; omega)).trans hcr1⟩))); done
      clear hK K
      (try simp only [Act.put, List.setIfInBounds_toArray, List.set_cons_zero, List.set_cons_succ])
      refine wpAnyH_take (i := 10) (v := ?_) (by rw [List.getElem?_toArray]; rfl) (by kernel_rfl) (by kernel_rfl) (by kernel_rfl) (fun _ _ _ h => h) (Or.inl ⟨by rfl, ?_⟩) (by assumption) ?_
      rotate_left
      focus (intro wS hSw; (try dsimp only at hSw); go_simp; (try with_reducible rfl)); done
      (try simp only [Act.put, List.setIfInBounds_toArray, List.set_cons_zero, List.set_cons_succ])
      refine wpAnyH_ready (rs := [11]) (by kernel_rfl) (by simp) ?_
      refine AllReadyH.cons (by rw [List.getElem?_toArray]; rfl) (fun K hK => ?_) AllReadyH.nil
      go_simp
      skip
      refine hK.out _ _ ?_ (fun hHeld => ?_)
      focus (first | exact trivial | ((try dsimp only); (exact ⟨Blk.cell (by (repeat (first | (with_reducible assumption) | (with_reducible refine Blk.drew ?_) | (with_reducible refine Blk.other ?_ (by first | (simp; done) | (simp; omega) | omega) _) | (with_reducible refine Blk.alloc ?_ _))) : Blk _ w1.heap.size 24 #[.slice (some ⟨b, o, none⟩) 8 c1]) 0 rfl, Blk.cell (by (repeat (first | (with_reducible assumption) | (with_reducible refine Blk.drew ?_) | (with_reducible refine Blk.other ?_ (by first | (simp; done) | (simp; omega) | omega) _) | (with_reducible refine Blk.alloc ?_ _))) : Blk _ w4.heap.size 24 #[.slice (some ⟨g4, p4, none⟩) 8 c4]) 0 rfl, (Below.cell (by (repeat (first | (with_reducible assumption) | (with_reducible exact Below.refl _ _) | (with_reducible refine Below.setCell ?_ (by first | (simp; done) | (simp; omega) | omega) _) | (with_reducible refine Below.alloc ?_ (by first | (simp; done) | (simp; omega) | omega) _) | (with_reducible refine Below.drew ?_) | (with_reducible refine Below.drewN ?_ _))) : Below w1.heap.size w1 _) (p := ⟨b, o, none⟩) (by show b < w1.heap.size; omega)).trans hcr1⟩))); done
      clear hK K
      (try simp only [Act.put, List.setIfInBounds_toArray, List.set_cons_zero, List.set_cons_succ])
      refine wpAnyH_done (by kernel_rfl) ?_ _
      refine NoPanic.normal ?_
      have TQ7 := TQ.other (p := ⟨g4, p4, none⟩) (by show w1.heap.size ≠ g4; omega) (.slice A6 (k1 + 1) c6)
      have TB7 := TB.other (p := ⟨g4, p4, none⟩) (by show w4.heap.size ≠ g4; omega) (.slice A6 (k1 + 1) c6)
      have hB7 : Below w1.heap.size w1 (w6.setCell ⟨g4, p4, none⟩ (.slice A6 (k1 + 1) c6)) := by (repeat (first | (with_reducible assumption) | (with_reducible exact Below.refl _ _) | (with_reducible refine Below.setCell ?_ (by first | (simp; done) | (simp; omega) | omega) _) | (with_reducible refine Below.alloc ?_ (by first | (simp; done) | (simp; omega) | omega) _) | (with_reducible refine Below.drew ?_) | (with_reducible refine Below.drewN ?_ _)))
      clear q0 b0 lQ lB
      have q0 := TQ7.cell 0 rfl
      have b0 := TB7.cell 0 rfl
      obtain ⟨hbad, hless, hsn, hsd⟩ := HBD.out
      obtain ⟨hc0, hl8, hs⟩ := HC.out
      have hR : Rows (w6.setCell ⟨g4, p4, none⟩ (.slice A6 (k1 + 1) c6)) 0 w6.heap.size (some ⟨g4, p4, none⟩) 8 (yss.set 0 (ys ++ [16])) := by
        refine Rows.set0 (cs := cs) (A' := A6) (c' := c6) hl8 (by rw [List.length_append, HK.out]; exact H9.out.rd.mono (Nat.zero_le _) (by omega)) (fun k us hk => ?_) (by rw [List.length_append, HK.out]; exact o6.le) ?_
        · obtain ⟨Ak, ck, x1, x2, x3⟩ := HR.out k us hk
          exact ⟨Ak, ck, x1, x2, ((HW.out us Ak x3).belowT hB7).mono (Nat.zero_le _) (by omega)⟩
        · rw [List.length_append, HK.out, ints_append]
          exact (o6.rd.set (p := ⟨g4, p4, none⟩) (.inl (by show g4 < w4.heap.size + 1; omega)) _).mono (Nat.zero_le _) (Nat.le_refl _)
      have r7 := HW2.out.fr (Fr.of_below hB7 w1.heap.size w1.heap.size) (.inl (Nat.le_refl _))
      have hc18 : (1 : Int) ≤ (c1 : Int) := by omega
      have hc88 : (8 : Int) ≤ (c1 : Int) := by omega
      have hsx : sizeOfRows (yss.set 0 (ys ++ [16])) ≤ 1048576 := by rw [hsn]; simp; omega
      go_wp2_with fail
      refine (iQueuesValid_any _ _ _ _ _ _ _ hR hsx).mono ?_
      rintro e w8 ⟨rfl, hb8⟩
      rw [hbad]
      have TQ8 := TQ7.below hb8
      have r8 := r7.below hb8
      have hB8 := Below.via hB7 hb8
      clear q0 b0
      have q0 := TQ8.cell 0 rfl
      have hcut := r8.cut (k := 1) (cap := c1) (by omega) hle
      rw [if_neg (by omega)] at hcut
      replace hcut : Rows w8 w.heap.size w1.heap.size (some ⟨b, o + 1, none⟩) 7 (yss.drop 1) := by simpa [Addr.add_lit] using hcut
      go_wp2_with fail
      refine (iQueuesValid_any _ _ _ _ _ _ _ hcut (by omega)).mono ?_
      rintro e w9 ⟨rfl, hb9⟩
      rw [hless]
      have hB9 := Below.via hB8 hb9
      go_wp2
      go_ret
      exact ⟨rfl, Below.via hBw hB9⟩
end Go.Proofs.Ytccepnhnmpmkdaa
