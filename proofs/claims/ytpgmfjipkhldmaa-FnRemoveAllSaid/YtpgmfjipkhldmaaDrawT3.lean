/- The draws of trees and numbers: new memory, any values. -/
import Derived.Test.YtpgmfjipkhldmaaDrawT2
namespace Go.Proofs.Ytpgmfjipkhldmaa
set_option linter.unusedVariables false
open Go.RowKit
theorem c4t (x y u v : Int) {q : Nat} (h : q < 4) : ∃ z : Int, (#[.int .i64 x, .int .i64 y, .int .i64 u, .int .i64 v] : Array Value)[q]? = some (.int .i64 z) := by
  match q, h with
  | 0, _ => exact ⟨x, rfl⟩
  | 1, _ => exact ⟨y, rfl⟩
  | 2, _ => exact ⟨u, rfl⟩
  | 3, _ => exact ⟨v, rfl⟩
theorem c7t {q : Nat} (h : q < 7) : ∃ z : Nat, z < 4 ∧ (#[.int .i64 0, .int .i64 0, .int .i64 0, .int .i64 0, .int .i64 1, .int .i64 2, .int .i64 3] : Array Value)[q]? = some (.int .i64 (z : Int)) := by
  match q, h with
  | 0, _ => exact ⟨0, by omega, rfl⟩
  | 1, _ => exact ⟨0, by omega, rfl⟩
  | 2, _ => exact ⟨0, by omega, rfl⟩
  | 3, _ => exact ⟨0, by omega, rfl⟩
  | 4, _ => exact ⟨1, by omega, rfl⟩
  | 5, _ => exact ⟨2, by omega, rfl⟩
  | 6, _ => exact ⟨3, by omega, rfl⟩
/-- A drawn tree and a number, in new memory. -/
def DrawnT2 (w : World) (e : Ending) (w' : World) : Prop :=
  ∃ (A : Option Addr) (n c : Nat) (es : List En) (v1 : Int), e = .returned (.tuple #[.slice A n c, .int .i64 v1]) ∧ Rd w' w.heap.size w'.heap.size 6 A n (ents es) ∧ n ≤ 100 ∧ Below w.heap.size w w'
set_option maxRecDepth 100000 in
set_option maxHeartbeats 8000000 in
theorem DrawDescendants_any (B T n c : Nat) (A : Option Addr) (bs : List Value) (w : World) (hr : Rd w B T 1 A n bs) (hb : Bytes bs) (hn : n ≤ 1048576) (hnc : n ≤ c) :
    Calls Try.prog 40 #[.slice A n c] w (DrawnT2 w) := by
  go_enter Try.func40, Try.ntmps40
  go_wp2_with fail
  refine (l20Open_any B T n c A bs _ hr hb hn hnc).mono ?_
  rintro e w1 ⟨rfl, hr1, hb1⟩
  have lg := hr1.lt
  have z1 := hb1.size
  clear hr hb
  go_wp2_with fail
  refine (l20Tree_any w.heap.size 0 14 _ hr1 (by omega) (by omega)).mono ?_
  rintro e w2 ⟨A2, m, c2, es, rfl, ho, hm, hr2, f2⟩
  have z2 := f2.size
  have hB := hb1.trans (f2.below (Nat.le_refl _) (by omega))
  have hd := ho.rd
  have HB := Lib.hid hB
  clear hr1 hb1 f2 ho hB
  have hF := Fr.refl w.heap.size (w.heap.size + 1) w2
  go_wp2_with fail
  refine wp_region_noPanic ?_
  refine wp_region_held_drew (S := (fun _ => True)) (by kernel_rfl) ?_ (fun hHeld => ?_)
  focus (first | exact trivial | ((try dsimp only); ((repeat' (first | assumption | with_reducible refine And.intro ?_ ?_)) <;> go_keep))); done
  refine wpAnyH_take (i := 0) (v := ?_) (by rw [List.getElem?_toArray]; rfl) (by kernel_rfl) (by kernel_rfl) (by kernel_rfl) (fun _ _ _ h => h) (Or.inl ⟨by rfl, ?_⟩) (by assumption) ?_
  rotate_left
  focus (intro wS hSw; (try dsimp only at hSw); go_simp; (try with_reducible rfl)); done
  (try simp only [Act.put, List.setIfInBounds_toArray, List.set_cons_zero, List.set_cons_succ])
  refine wpAnyH_take (i := 1) (v := ?_) (by rw [List.getElem?_toArray]; rfl) (by kernel_rfl) (by kernel_rfl) (by kernel_rfl) (fun _ _ _ h => h) (Or.inl ⟨by rfl, ?_⟩) (by assumption) ?_
  rotate_left
  focus (intro wS hSw; (try dsimp only at hSw); go_simp; (try with_reducible rfl)); done
  (try simp only [Act.put, List.setIfInBounds_toArray, List.set_cons_zero, List.set_cons_succ])
  refine wpAnyH_take (i := 2) (v := ?_) (by rw [List.getElem?_toArray]; rfl) (by kernel_rfl) (by kernel_rfl) (by kernel_rfl) (fun _ _ _ h => h) (Or.inl ⟨by rfl, ?_⟩) (by assumption) ?_
  rotate_left
  focus (intro wS hSw; (try dsimp only at hSw); go_simp; (try with_reducible rfl)); done
  (try simp only [Act.put, List.setIfInBounds_toArray, List.set_cons_zero, List.set_cons_succ])
  refine wpAnyH_take (i := 5) (v := ?_) (by rw [List.getElem?_toArray]; rfl) (by kernel_rfl) (by kernel_rfl) (by kernel_rfl) (fun _ _ _ h => h) (Or.inl ⟨by rfl, ?_⟩) (by assumption) ?_
  rotate_left
  focus (intro wS hSw; (try dsimp only at hSw); go_simp; (try with_reducible rfl)); done
  (try simp only [Act.put, List.setIfInBounds_toArray, List.set_cons_zero, List.set_cons_succ])
  refine wpAnyH_ready (rs := [3]) (by kernel_rfl) (by simp) ?_
  refine AllReadyH.cons (by rw [List.getElem?_toArray]; rfl) (fun K hK => ?_) AllReadyH.nil
  go_simp
  refine (l20Pick_any w.heap.size (0 + 110) m c2 A2 _ (by (repeat (first | (with_reducible assumption) | (with_reducible refine Rdr.drew ?_) | (with_reducible refine Rdr.set ?_ (by first | (simp; done) | (simp; omega) | omega) _) | (with_reducible refine Rdr.alloc ?_ _)))) (by omega) hm).mono ?_; rintro e wa ⟨va, rfl, hra, fa⟩; have za := fa.size; (try simp at za); replace hd := (by (repeat (first | (with_reducible assumption) | (with_reducible refine Rd.drew ?_) | (with_reducible refine Rd.alloc ?_ _) | (with_reducible refine Rd.set ?_ (by first | (simp; done) | (simp; omega) | omega) _))) : Rd _ w1.heap.size w2.heap.size 6 A2 m (ents es)).fr fa (.inr (by omega)); replace hF := Fr.trans (by (repeat (first | (with_reducible assumption) | (with_reducible refine Fr.drew ?_) | (with_reducible exact Fr.refl _ _ _) | (with_reducible refine Fr.setOut ?_ (by first | (simp; done) | (simp; omega) | omega) _) | (with_reducible refine Fr.alloc ?_ _))) : Fr w.heap.size (w.heap.size + 1) w2 _) fa; have lta := hra.lt; clear fa hr2
  refine hK.out _ _ ?_ (fun hHeld => ?_)
  focus (first | exact trivial | ((try dsimp only); (exact trivial))); done
  clear hK K
  (try simp only [Act.put, List.setIfInBounds_toArray, List.set_cons_zero, List.set_cons_succ])
  refine wpAnyH_ready (rs := [4, 6]) (by kernel_rfl) (by simp) ?_
  refine AllReadyH.cons (by rw [List.getElem?_toArray]; rfl) (fun K hK => ?_) (AllReadyH.cons (by rw [List.getElem?_toArray]; rfl) (fun K hK => ?_) AllReadyH.nil)
  · go_simp
    skip
    refine hK.out _ _ ?_ (fun hHeld => ?_)
    focus (first | exact trivial | ((try dsimp only); (exact trivial))); done
    clear hK K
    (try simp only [Act.put, List.setIfInBounds_toArray, List.set_cons_zero, List.set_cons_succ])
    refine wpAnyH_ready (rs := [6]) (by kernel_rfl) (by simp) ?_
    refine AllReadyH.cons (by rw [List.getElem?_toArray]; rfl) (fun K hK => ?_) AllReadyH.nil
    go_simp
    refine (pick_any w.heap.size (0 + 110 + 2) 2 _ (by (repeat (first | (with_reducible assumption) | (with_reducible refine Rdr.drew ?_) | (with_reducible refine Rdr.set ?_ (by first | (simp; done) | (simp; omega) | omega) _) | (with_reducible refine Rdr.alloc ?_ _)))) (by omega) (by omega)).mono ?_; rintro e wb ⟨vb, rfl, hvb, ulb, -, hrb, fb⟩; replace ulb := ulb (by omega); have zb := fb.size; (try simp at zb); replace hd := (by (repeat (first | (with_reducible assumption) | (with_reducible refine Rd.drew ?_) | (with_reducible refine Rd.alloc ?_ _) | (with_reducible refine Rd.set ?_ (by first | (simp; done) | (simp; omega) | omega) _))) : Rd _ w1.heap.size w2.heap.size 6 A2 m (ents es)).fr fb (.inr (by omega)); have TL4 := Blk.fr (by (repeat (first | (with_reducible assumption) | (with_reducible exact Blk.newAt _ _ (by simp)) | (with_reducible refine Blk.drew ?_) | (with_reducible refine Blk.other ?_ (by first | (simp; done) | (simp; omega) | omega) _) | (with_reducible refine Blk.alloc ?_ _))) : Blk _ wa.heap.size 3 #[.int .i64 0, .int .i64 va]) fb (.inr (by omega)); replace hF := Fr.trans (by (repeat (first | (with_reducible assumption) | (with_reducible refine Fr.drew ?_) | (with_reducible exact Fr.refl _ _ _) | (with_reducible refine Fr.setOut ?_ (by first | (simp; done) | (simp; omega) | omega) _) | (with_reducible refine Fr.alloc ?_ _))) : Fr w.heap.size (w.heap.size + 1) w2 _) fb; have ltb := hrb.lt; clear fb hra
    refine hK.out _ _ ?_ (fun hHeld => ?_)
    focus (first | exact trivial | ((try dsimp only); (exact trivial))); done
    clear hK K
    (try simp only [Act.put, List.setIfInBounds_toArray, List.set_cons_zero, List.set_cons_succ])
    obtain ⟨x1, rfl⟩ := Int.eq_ofNat_of_zero_le hvb
    have hlx1 : x1 < 2 := by omega
    obtain ⟨y1, hy1x⟩ := c2t 0 va hlx1
    refine wpAnyH_to (S' := (fun W => W.cell? ⟨wa.heap.size, x1, none⟩ = some (.int .i64 y1))) (fun _ _ => trivial) ?_ (fun hHeld => ?_)
    focus ((try dsimp only); exact Blk.cell (T := 3) (cs := #[.int .i64 0, .int .i64 va]) (by (repeat (first | (with_reducible assumption) | (with_reducible exact Blk.newAt _ _ (by simp)) | (with_reducible refine Blk.drew ?_) | (with_reducible refine Blk.other ?_ (by first | (simp; done) | (simp; omega) | omega) _) | (with_reducible refine Blk.alloc ?_ _))) : Blk _ wa.heap.size 3 #[.int .i64 0, .int .i64 va]) x1 hy1x); done
    (try dsimp only at hHeld)
    refine wpAnyH_take (i := 7) (v := ?_) (by rw [List.getElem?_toArray]; rfl) (by kernel_rfl) (by kernel_rfl) (by kernel_rfl) (fun _ _ _ h => h) (Or.inl ⟨by rfl, ?_⟩) (by assumption) ?_
    rotate_left
    focus (intro wS hSw; (try dsimp only at hSw); go_simp; (try with_reducible rfl)); done
    (try simp only [Act.put, List.setIfInBounds_toArray, List.set_cons_zero, List.set_cons_succ])
    refine wpAnyH_take (i := 8) (v := ?_) (by rw [List.getElem?_toArray]; rfl) (by kernel_rfl) (by kernel_rfl) (by kernel_rfl) (fun _ _ _ h => h) (Or.inl ⟨by rfl, ?_⟩) (by assumption) ?_
    rotate_left
    focus (intro wS hSw; (try dsimp only at hSw); go_simp; (try with_reducible rfl)); done
    (try simp only [Act.put, List.setIfInBounds_toArray, List.set_cons_zero, List.set_cons_succ])
    refine wpAnyH_take (i := 9) (v := ?_) (by rw [List.getElem?_toArray]; rfl) (by kernel_rfl) (by kernel_rfl) (by kernel_rfl) (fun _ _ _ h => h) (Or.inl ⟨by rfl, ?_⟩) (by assumption) ?_
    rotate_left
    focus (intro wS hSw; (try dsimp only at hSw); go_simp; (try with_reducible rfl)); done
    (try simp only [Act.put, List.setIfInBounds_toArray, List.set_cons_zero, List.set_cons_succ])
    refine wpAnyH_take (i := 10) (v := ?_) (by rw [List.getElem?_toArray]; rfl) (by kernel_rfl) (by kernel_rfl) (by kernel_rfl) (fun _ _ _ h => h) (Or.inl ⟨by rfl, ?_⟩) (by assumption) ?_
    rotate_left
    focus (intro wS hSw; (try dsimp only at hSw); go_simp; (try with_reducible rfl)); done
    (try simp only [Act.put, List.setIfInBounds_toArray, List.set_cons_zero, List.set_cons_succ])
    refine wpAnyH_done (by kernel_rfl) ?_ _
    refine NoPanic.normal ?_
    have HR := Lib.hid hd
    have HF := Lib.hid hF
    clear hd hF
    go_wp2
    have hd := HR.out
    have hF := HF.out
    refine bodyPost_ret (v := .tuple #[.slice A2 m c2, .int .i64 y1]) (by simp [results, Try.results40, go_sem, *]) rfl ⟨A2, m, c2, es, y1, rfl, Rd.mono (by (repeat (first | (with_reducible assumption) | (with_reducible refine Rd.drew ?_) | (with_reducible refine Rd.alloc ?_ _) | (with_reducible refine Rd.set ?_ (by first | (simp; done) | (simp; omega) | omega) _))) : Rd _ w1.heap.size w2.heap.size 6 A2 m (ents es)) (by omega) (by (try simp) <;> omega), by omega, HB.out.trans (Fr.below (by (repeat (first | (with_reducible assumption) | (with_reducible refine Fr.drew ?_) | (with_reducible exact Fr.refl _ _ _) | (with_reducible refine Fr.setOut ?_ (by first | (simp; done) | (simp; omega) | omega) _) | (with_reducible refine Fr.alloc ?_ _))) : Fr w.heap.size (w.heap.size + 1) w2 _) (Nat.le_refl _) (by omega))⟩
  · go_simp
    refine (pick_any w.heap.size (0 + 110 + 2) 2 _ (by (repeat (first | (with_reducible assumption) | (with_reducible refine Rdr.drew ?_) | (with_reducible refine Rdr.set ?_ (by first | (simp; done) | (simp; omega) | omega) _) | (with_reducible refine Rdr.alloc ?_ _)))) (by omega) (by omega)).mono ?_; rintro e wb ⟨vb, rfl, hvb, ulb, -, hrb, fb⟩; replace ulb := ulb (by omega); have zb := fb.size; (try simp at zb); replace hd := (by (repeat (first | (with_reducible assumption) | (with_reducible refine Rd.drew ?_) | (with_reducible refine Rd.alloc ?_ _) | (with_reducible refine Rd.set ?_ (by first | (simp; done) | (simp; omega) | omega) _))) : Rd _ w1.heap.size w2.heap.size 6 A2 m (ents es)).fr fb (.inr (by omega)); replace hF := Fr.trans (by (repeat (first | (with_reducible assumption) | (with_reducible refine Fr.drew ?_) | (with_reducible exact Fr.refl _ _ _) | (with_reducible refine Fr.setOut ?_ (by first | (simp; done) | (simp; omega) | omega) _) | (with_reducible refine Fr.alloc ?_ _))) : Fr w.heap.size (w.heap.size + 1) w2 _) fb; have ltb := hrb.lt; clear fb hra
    refine hK.out _ _ ?_ (fun hHeld => ?_)
    focus (first | exact trivial | ((try dsimp only); (exact trivial))); done
    clear hK K
    (try simp only [Act.put, List.setIfInBounds_toArray, List.set_cons_zero, List.set_cons_succ])
    refine wpAnyH_take (i := 9) (v := ?_) (by rw [List.getElem?_toArray]; rfl) (by kernel_rfl) (by kernel_rfl) (by kernel_rfl) (fun _ _ _ h => h) (Or.inl ⟨by rfl, ?_⟩) (by assumption) ?_
    rotate_left
    focus (intro wS hSw; (try dsimp only at hSw); go_simp; (try with_reducible rfl)); done
    (try simp only [Act.put, List.setIfInBounds_toArray, List.set_cons_zero, List.set_cons_succ])
    refine wpAnyH_ready (rs := [4]) (by kernel_rfl) (by simp) ?_
    refine AllReadyH.cons (by rw [List.getElem?_toArray]; rfl) (fun K hK => ?_) AllReadyH.nil
    go_simp
    skip
    refine hK.out _ _ ?_ (fun hHeld => ?_)
    focus (first | exact trivial | ((try dsimp only); (exact trivial))); done
    clear hK K
    (try simp only [Act.put, List.setIfInBounds_toArray, List.set_cons_zero, List.set_cons_succ])
    obtain ⟨x1, rfl⟩ := Int.eq_ofNat_of_zero_le hvb
    have hlx1 : x1 < 2 := by omega
    obtain ⟨y1, hy1x⟩ := c2t 0 va hlx1
    refine wpAnyH_to (S' := (fun W => W.cell? ⟨wb.heap.size, x1, none⟩ = some (.int .i64 y1))) (fun _ _ => trivial) ?_ (fun hHeld => ?_)
    focus ((try dsimp only); exact Blk.cell (T := 3) (cs := #[.int .i64 0, .int .i64 va]) (by (repeat (first | (with_reducible assumption) | (with_reducible exact Blk.newAt _ _ (by simp)) | (with_reducible refine Blk.drew ?_) | (with_reducible refine Blk.other ?_ (by first | (simp; done) | (simp; omega) | omega) _) | (with_reducible refine Blk.alloc ?_ _))) : Blk _ wb.heap.size 3 #[.int .i64 0, .int .i64 va]) x1 hy1x); done
    (try dsimp only at hHeld)
    refine wpAnyH_take (i := 7) (v := ?_) (by rw [List.getElem?_toArray]; rfl) (by kernel_rfl) (by kernel_rfl) (by kernel_rfl) (fun _ _ _ h => h) (Or.inl ⟨by rfl, ?_⟩) (by assumption) ?_
    rotate_left
    focus (intro wS hSw; (try dsimp only at hSw); go_simp; (try with_reducible rfl)); done
    (try simp only [Act.put, List.setIfInBounds_toArray, List.set_cons_zero, List.set_cons_succ])
    refine wpAnyH_take (i := 8) (v := ?_) (by rw [List.getElem?_toArray]; rfl) (by kernel_rfl) (by kernel_rfl) (by kernel_rfl) (fun _ _ _ h => h) (Or.inl ⟨by rfl, ?_⟩) (by assumption) ?_
    rotate_left
    focus (intro wS hSw; (try dsimp only at hSw); go_simp; (try with_reducible rfl)); done
    (try simp only [Act.put, List.setIfInBounds_toArray, List.set_cons_zero, List.set_cons_succ])
    refine wpAnyH_take (i := 10) (v := ?_) (by rw [List.getElem?_toArray]; rfl) (by kernel_rfl) (by kernel_rfl) (by kernel_rfl) (fun _ _ _ h => h) (Or.inl ⟨by rfl, ?_⟩) (by assumption) ?_
    rotate_left
    focus (intro wS hSw; (try dsimp only at hSw); go_simp; (try with_reducible rfl)); done
    (try simp only [Act.put, List.setIfInBounds_toArray, List.set_cons_zero, List.set_cons_succ])
    refine wpAnyH_done (by kernel_rfl) ?_ _
    refine NoPanic.normal ?_
    have HR := Lib.hid hd
    have HF := Lib.hid hF
    clear hd hF
    go_wp2
    have hd := HR.out
    have hF := HF.out
    refine bodyPost_ret (v := .tuple #[.slice A2 m c2, .int .i64 y1]) (by simp [results, Try.results40, go_sem, *]) rfl ⟨A2, m, c2, es, y1, rfl, Rd.mono (by (repeat (first | (with_reducible assumption) | (with_reducible refine Rd.drew ?_) | (with_reducible refine Rd.alloc ?_ _) | (with_reducible refine Rd.set ?_ (by first | (simp; done) | (simp; omega) | omega) _))) : Rd _ w1.heap.size w2.heap.size 6 A2 m (ents es)) (by omega) (by (try simp) <;> omega), by omega, HB.out.trans (Fr.below (by (repeat (first | (with_reducible assumption) | (with_reducible refine Fr.drew ?_) | (with_reducible exact Fr.refl _ _ _) | (with_reducible refine Fr.setOut ?_ (by first | (simp; done) | (simp; omega) | omega) _) | (with_reducible refine Fr.alloc ?_ _))) : Fr w.heap.size (w.heap.size + 1) w2 _) (Nat.le_refl _) (by omega))⟩
set_option maxRecDepth 100000 in
set_option maxHeartbeats 8000000 in
theorem DrawRevokeSome_any : DrawsT 15 := by
  intro B T n c A bs w hr hb hn hnc
  go_enter Try.func15, Try.ntmps15
  go_wp2_with fail
  refine (l20Open_any B T n c A bs _ hr hb hn hnc).mono ?_
  rintro e w1 ⟨rfl, hr1, hb1⟩
  have lg := hr1.lt
  have z1 := hb1.size
  replace hr := hr.below hb1
  go_wp2_with fail
  refine (DrawDescendants_any B T n c A bs _ hr hb hn hnc).mono ?_
  rintro e w2 ⟨A2, m, c2, es, v1, rfl, hd, hm, hb2⟩
  have z2 := hb2.size
  have hr2 := hr1.below hb2
  have hB := Below.via hb1 hb2
  have HB := Lib.hid hB
  clear hr1 hb1 hb2 hr hb hB
  have hF := Fr.refl w.heap.size (w.heap.size + 1) w2
  go_wp2_with fail
  refine wp_region_noPanic ?_
  refine wp_region_held_drew (S := (fun _ => True)) (by kernel_rfl) ?_ (fun hHeld => ?_)
  focus (first | exact trivial | ((try dsimp only); ((repeat' (first | assumption | with_reducible refine And.intro ?_ ?_)) <;> go_keep))); done
  refine wpAnyH_take (i := 0) (v := ?_) (by rw [List.getElem?_toArray]; rfl) (by kernel_rfl) (by kernel_rfl) (by kernel_rfl) (fun _ _ _ h => h) (Or.inl ⟨by rfl, ?_⟩) (by assumption) ?_
  rotate_left
  focus (intro wS hSw; (try dsimp only at hSw); go_simp; (try with_reducible rfl)); done
  (try simp only [Act.put, List.setIfInBounds_toArray, List.set_cons_zero, List.set_cons_succ])
  refine wpAnyH_take (i := 1) (v := ?_) (by rw [List.getElem?_toArray]; rfl) (by kernel_rfl) (by kernel_rfl) (by kernel_rfl) (fun _ _ _ h => h) (Or.inl ⟨by rfl, ?_⟩) (by assumption) ?_
  rotate_left
  focus (intro wS hSw; (try dsimp only at hSw); go_simp; (try with_reducible rfl)); done
  (try simp only [Act.put, List.setIfInBounds_toArray, List.set_cons_zero, List.set_cons_succ])
  refine wpAnyH_take (i := 2) (v := ?_) (by rw [List.getElem?_toArray]; rfl) (by kernel_rfl) (by kernel_rfl) (by kernel_rfl) (fun _ _ _ h => h) (Or.inl ⟨by rfl, ?_⟩) (by assumption) ?_
  rotate_left
  focus (intro wS hSw; (try dsimp only at hSw); go_simp; (try with_reducible rfl)); done
  (try simp only [Act.put, List.setIfInBounds_toArray, List.set_cons_zero, List.set_cons_succ])
  refine wpAnyH_take (i := 6) (v := ?_) (by rw [List.getElem?_toArray]; rfl) (by kernel_rfl) (by kernel_rfl) (by kernel_rfl) (fun _ _ _ h => h) (Or.inl ⟨by rfl, ?_⟩) (by assumption) ?_
  rotate_left
  focus (intro wS hSw; (try dsimp only at hSw); go_simp; (try with_reducible rfl)); done
  (try simp only [Act.put, List.setIfInBounds_toArray, List.set_cons_zero, List.set_cons_succ])
  refine wpAnyH_ready (rs := [3, 5]) (by kernel_rfl) (by simp) ?_
  refine AllReadyH.cons (by rw [List.getElem?_toArray]; rfl) (fun K hK => ?_) (AllReadyH.cons (by rw [List.getElem?_toArray]; rfl) (fun K hK => ?_) AllReadyH.nil)
  · go_simp
    refine (pick_any w.heap.size (0) 4 _ (by (repeat (first | (with_reducible assumption) | (with_reducible refine Rdr.drew ?_) | (with_reducible refine Rdr.set ?_ (by first | (simp; done) | (simp; omega) | omega) _) | (with_reducible refine Rdr.alloc ?_ _)))) (by omega) (by omega)).mono ?_; rintro e wa ⟨va, rfl, hva, ula, -, hra, fa⟩; replace ula := ula (by omega); have za := fa.size; (try simp at za); replace hd := (by (repeat (first | (with_reducible assumption) | (with_reducible refine Rd.drew ?_) | (with_reducible refine Rd.alloc ?_ _) | (with_reducible refine Rd.set ?_ (by first | (simp; done) | (simp; omega) | omega) _))) : Rd _ w1.heap.size w2.heap.size 6 A2 m (ents es)).fr fa (.inr (by omega)); replace hF := Fr.trans (by (repeat (first | (with_reducible assumption) | (with_reducible refine Fr.drew ?_) | (with_reducible exact Fr.refl _ _ _) | (with_reducible refine Fr.setOut ?_ (by first | (simp; done) | (simp; omega) | omega) _) | (with_reducible refine Fr.alloc ?_ _))) : Fr w.heap.size (w.heap.size + 1) w2 _) fa; have lta := hra.lt; clear fa hr2
    refine hK.out _ _ ?_ (fun hHeld => ?_)
    focus (first | exact trivial | ((try dsimp only); (exact trivial))); done
    clear hK K
    (try simp only [Act.put, List.setIfInBounds_toArray, List.set_cons_zero, List.set_cons_succ])
    refine wpAnyH_ready (rs := [4, 5, 7]) (by kernel_rfl) (by simp) ?_
    refine AllReadyH.cons (by rw [List.getElem?_toArray]; rfl) (fun K hK => ?_) (AllReadyH.cons (by rw [List.getElem?_toArray]; rfl) (fun K hK => ?_) (AllReadyH.cons (by rw [List.getElem?_toArray]; rfl) (fun K hK => ?_) AllReadyH.nil))
    · go_simp
      skip
      refine hK.out _ _ ?_ (fun hHeld => ?_)
      focus (first | exact trivial | ((try dsimp only); (exact trivial))); done
      clear hK K
      (try simp only [Act.put, List.setIfInBounds_toArray, List.set_cons_zero, List.set_cons_succ])
      refine wpAnyH_ready (rs := [5, 7]) (by kernel_rfl) (by simp) ?_
      refine AllReadyH.cons (by rw [List.getElem?_toArray]; rfl) (fun K hK => ?_) (AllReadyH.cons (by rw [List.getElem?_toArray]; rfl) (fun K hK => ?_) AllReadyH.nil)
      · go_simp
        skip
        refine hK.out _ _ ?_ (fun hHeld => ?_)
        focus (first | exact trivial | ((try dsimp only); (exact trivial))); done
        clear hK K
        (try simp only [Act.put, List.setIfInBounds_toArray, List.set_cons_zero, List.set_cons_succ])
        refine wpAnyH_ready (rs := [7]) (by kernel_rfl) (by simp) ?_
        refine AllReadyH.cons (by rw [List.getElem?_toArray]; rfl) (fun K hK => ?_) AllReadyH.nil
        go_simp
        refine (pick_any w.heap.size (0 + 1) 7 _ (by (repeat (first | (with_reducible assumption) | (with_reducible refine Rdr.drew ?_) | (with_reducible refine Rdr.set ?_ (by first | (simp; done) | (simp; omega) | omega) _) | (with_reducible refine Rdr.alloc ?_ _)))) (by omega) (by omega)).mono ?_; rintro e wb ⟨vb, rfl, hvb, ulb, -, hrb, fb⟩; replace ulb := ulb (by omega); have zb := fb.size; (try simp at zb); replace hd := (by (repeat (first | (with_reducible assumption) | (with_reducible refine Rd.drew ?_) | (with_reducible refine Rd.alloc ?_ _) | (with_reducible refine Rd.set ?_ (by first | (simp; done) | (simp; omega) | omega) _))) : Rd _ w1.heap.size w2.heap.size 6 A2 m (ents es)).fr fb (.inr (by omega)); have TL5 := Blk.fr (by (repeat (first | (with_reducible assumption) | (with_reducible exact Blk.newAt _ _ (by simp)) | (with_reducible refine Blk.drew ?_) | (with_reducible refine Blk.other ?_ (by first | (simp; done) | (simp; omega) | omega) _) | (with_reducible refine Blk.alloc ?_ _))) : Blk _ (wa.heap.size + 1) 3 #[.int .i64 0, .int .i64 0, .int .i64 0, .int .i64 0, .int .i64 1, .int .i64 2, .int .i64 3]) fb (.inr (by omega)); have TL4 := Blk.fr (by (repeat (first | (with_reducible assumption) | (with_reducible exact Blk.newAt _ _ (by simp)) | (with_reducible refine Blk.drew ?_) | (with_reducible refine Blk.other ?_ (by first | (simp; done) | (simp; omega) | omega) _) | (with_reducible refine Blk.alloc ?_ _))) : Blk _ wa.heap.size 3 #[.int .i64 va, .int .i64 30, .int .i64 (-1), .int .i64 31]) fb (.inr (by omega)); replace hF := Fr.trans (by (repeat (first | (with_reducible assumption) | (with_reducible refine Fr.drew ?_) | (with_reducible exact Fr.refl _ _ _) | (with_reducible refine Fr.setOut ?_ (by first | (simp; done) | (simp; omega) | omega) _) | (with_reducible refine Fr.alloc ?_ _))) : Fr w.heap.size (w.heap.size + 1) w2 _) fb; have ltb := hrb.lt; clear fb hra
        refine hK.out _ _ ?_ (fun hHeld => ?_)
        focus (first | exact trivial | ((try dsimp only); (exact trivial))); done
        clear hK K
        (try simp only [Act.put, List.setIfInBounds_toArray, List.set_cons_zero, List.set_cons_succ])
        obtain ⟨x1, rfl⟩ := Int.eq_ofNat_of_zero_le hvb
        have hlx1 : x1 < 7 := by omega
        obtain ⟨y1, hly1, hy1x⟩ := c7t hlx1
        have hly1i : (y1 : Int) < 4 := by omega
        refine wpAnyH_to (S' := (fun W => W.cell? ⟨(wa.heap.size + 1), x1, none⟩ = some (.int .i64 (y1 : Int)))) (fun _ _ => trivial) ?_ (fun hHeld => ?_)
        focus ((try dsimp only); exact Blk.cell (T := 3) (cs := #[.int .i64 0, .int .i64 0, .int .i64 0, .int .i64 0, .int .i64 1, .int .i64 2, .int .i64 3]) (by (repeat (first | (with_reducible assumption) | (with_reducible exact Blk.newAt _ _ (by simp)) | (with_reducible refine Blk.drew ?_) | (with_reducible refine Blk.other ?_ (by first | (simp; done) | (simp; omega) | omega) _) | (with_reducible refine Blk.alloc ?_ _))) : Blk _ (wa.heap.size + 1) 3 #[.int .i64 0, .int .i64 0, .int .i64 0, .int .i64 0, .int .i64 1, .int .i64 2, .int .i64 3]) x1 hy1x); done
        (try dsimp only at hHeld)
        obtain ⟨y2, hy2x⟩ := c4t va 30 (-1) 31 hly1
        refine wpAnyH_to (S' := (fun W => W.cell? ⟨(wa.heap.size + 1), x1, none⟩ = some (.int .i64 (y1 : Int)) ∧ W.cell? ⟨wa.heap.size, y1, none⟩ = some (.int .i64 y2))) (fun _ h => h.1) ?_ (fun hHeld => ?_)
        focus ((try dsimp only); exact ⟨Blk.cell (T := 3) (cs := #[.int .i64 0, .int .i64 0, .int .i64 0, .int .i64 0, .int .i64 1, .int .i64 2, .int .i64 3]) (by (repeat (first | (with_reducible assumption) | (with_reducible exact Blk.newAt _ _ (by simp)) | (with_reducible refine Blk.drew ?_) | (with_reducible refine Blk.other ?_ (by first | (simp; done) | (simp; omega) | omega) _) | (with_reducible refine Blk.alloc ?_ _))) : Blk _ (wa.heap.size + 1) 3 #[.int .i64 0, .int .i64 0, .int .i64 0, .int .i64 0, .int .i64 1, .int .i64 2, .int .i64 3]) x1 hy1x, Blk.cell (T := 3) (cs := #[.int .i64 va, .int .i64 30, .int .i64 (-1), .int .i64 31]) (by (repeat (first | (with_reducible assumption) | (with_reducible exact Blk.newAt _ _ (by simp)) | (with_reducible refine Blk.drew ?_) | (with_reducible refine Blk.other ?_ (by first | (simp; done) | (simp; omega) | omega) _) | (with_reducible refine Blk.alloc ?_ _))) : Blk _ wa.heap.size 3 #[.int .i64 va, .int .i64 30, .int .i64 (-1), .int .i64 31]) y1 hy2x⟩); done
        (try dsimp only at hHeld)
        refine wpAnyH_take (i := 8) (v := ?_) (by rw [List.getElem?_toArray]; rfl) (by kernel_rfl) (by kernel_rfl) (by kernel_rfl) (fun _ _ _ h => h) (Or.inl ⟨by rfl, ?_⟩) (by assumption) ?_
        rotate_left
        focus (intro wS hSw; (try dsimp only at hSw); go_simp; (try with_reducible rfl)); done
        (try simp only [Act.put, List.setIfInBounds_toArray, List.set_cons_zero, List.set_cons_succ])
        refine wpAnyH_take (i := 9) (v := ?_) (by rw [List.getElem?_toArray]; rfl) (by kernel_rfl) (by kernel_rfl) (by kernel_rfl) (fun _ _ _ h => h) (Or.inl ⟨by rfl, ?_⟩) (by assumption) ?_
        rotate_left
        focus (intro wS hSw; (try dsimp only at hSw); go_simp; (try with_reducible rfl)); done
        (try simp only [Act.put, List.setIfInBounds_toArray, List.set_cons_zero, List.set_cons_succ])
        refine wpAnyH_take (i := 10) (v := ?_) (by rw [List.getElem?_toArray]; rfl) (by kernel_rfl) (by kernel_rfl) (by kernel_rfl) (fun _ _ _ h => h) (Or.inl ⟨by rfl, ?_⟩) (by assumption) ?_
        rotate_left
        focus (intro wS hSw; (try dsimp only at hSw); go_simp; (try with_reducible rfl)); done
        (try simp only [Act.put, List.setIfInBounds_toArray, List.set_cons_zero, List.set_cons_succ])
        refine wpAnyH_take (i := 11) (v := ?_) (by rw [List.getElem?_toArray]; rfl) (by kernel_rfl) (by kernel_rfl) (by kernel_rfl) (fun _ _ _ h => h) (Or.inl ⟨by rfl, ?_⟩) (by assumption) ?_
        rotate_left
        focus (intro wS hSw; (try dsimp only at hSw); go_simp; (try with_reducible rfl)); done
        (try simp only [Act.put, List.setIfInBounds_toArray, List.set_cons_zero, List.set_cons_succ])
        refine wpAnyH_take (i := 12) (v := ?_) (by rw [List.getElem?_toArray]; rfl) (by kernel_rfl) (by kernel_rfl) (by kernel_rfl) (fun _ _ _ h => h) (Or.inl ⟨by rfl, ?_⟩) (by assumption) ?_
        rotate_left
        focus (intro wS hSw; (try dsimp only at hSw); go_simp; (try with_reducible rfl)); done
        (try simp only [Act.put, List.setIfInBounds_toArray, List.set_cons_zero, List.set_cons_succ])
        refine wpAnyH_take (i := 13) (v := ?_) (by rw [List.getElem?_toArray]; rfl) (by kernel_rfl) (by kernel_rfl) (by kernel_rfl) (fun _ _ _ h => h) (Or.inl ⟨by rfl, ?_⟩) (by assumption) ?_
        rotate_left
        focus (intro wS hSw; (try dsimp only at hSw); go_simp; (try with_reducible rfl)); done
        (try simp only [Act.put, List.setIfInBounds_toArray, List.set_cons_zero, List.set_cons_succ])
        refine wpAnyH_take (i := 14) (v := ?_) (by rw [List.getElem?_toArray]; rfl) (by kernel_rfl) (by kernel_rfl) (by kernel_rfl) (fun _ _ _ h => h) (Or.inl ⟨by rfl, ?_⟩) (by assumption) ?_
        rotate_left
        focus (intro wS hSw; (try dsimp only at hSw); go_simp; (try with_reducible rfl)); done
        (try simp only [Act.put, List.setIfInBounds_toArray, List.set_cons_zero, List.set_cons_succ])
        refine wpAnyH_done (by kernel_rfl) ?_ _
        refine NoPanic.normal ?_
        have HR := Lib.hid hd
        have HF := Lib.hid hF
        clear hd hF
        go_wp2
        have hd := HR.out
        have hF := HF.out
        refine bodyPost_ret (v := .tuple #[.slice A2 m c2, .int .i64 v1, .int .i64 y2]) (by simp [results, Try.results15, go_sem, *]) rfl ⟨A2, m, c2, es, v1, y2, rfl, Rd.mono (by (repeat (first | (with_reducible assumption) | (with_reducible refine Rd.drew ?_) | (with_reducible refine Rd.alloc ?_ _) | (with_reducible refine Rd.set ?_ (by first | (simp; done) | (simp; omega) | omega) _))) : Rd _ w1.heap.size w2.heap.size 6 A2 m (ents es)) (by omega) (by (try simp) <;> omega), by omega, HB.out.trans (Fr.below (by (repeat (first | (with_reducible assumption) | (with_reducible refine Fr.drew ?_) | (with_reducible exact Fr.refl _ _ _) | (with_reducible refine Fr.setOut ?_ (by first | (simp; done) | (simp; omega) | omega) _) | (with_reducible refine Fr.alloc ?_ _))) : Fr w.heap.size (w.heap.size + 1) w2 _) (Nat.le_refl _) (by omega))⟩
      · go_simp
        refine (pick_any w.heap.size (0 + 1) 7 _ (by (repeat (first | (with_reducible assumption) | (with_reducible refine Rdr.drew ?_) | (with_reducible refine Rdr.set ?_ (by first | (simp; done) | (simp; omega) | omega) _) | (with_reducible refine Rdr.alloc ?_ _)))) (by omega) (by omega)).mono ?_; rintro e wb ⟨vb, rfl, hvb, ulb, -, hrb, fb⟩; replace ulb := ulb (by omega); have zb := fb.size; (try simp at zb); replace hd := (by (repeat (first | (with_reducible assumption) | (with_reducible refine Rd.drew ?_) | (with_reducible refine Rd.alloc ?_ _) | (with_reducible refine Rd.set ?_ (by first | (simp; done) | (simp; omega) | omega) _))) : Rd _ w1.heap.size w2.heap.size 6 A2 m (ents es)).fr fb (.inr (by omega)); have TL4 := Blk.fr (by (repeat (first | (with_reducible assumption) | (with_reducible exact Blk.newAt _ _ (by simp)) | (with_reducible refine Blk.drew ?_) | (with_reducible refine Blk.other ?_ (by first | (simp; done) | (simp; omega) | omega) _) | (with_reducible refine Blk.alloc ?_ _))) : Blk _ wa.heap.size 3 #[.int .i64 va, .int .i64 30, .int .i64 (-1), .int .i64 31]) fb (.inr (by omega)); replace hF := Fr.trans (by (repeat (first | (with_reducible assumption) | (with_reducible refine Fr.drew ?_) | (with_reducible exact Fr.refl _ _ _) | (with_reducible refine Fr.setOut ?_ (by first | (simp; done) | (simp; omega) | omega) _) | (with_reducible refine Fr.alloc ?_ _))) : Fr w.heap.size (w.heap.size + 1) w2 _) fb; have ltb := hrb.lt; clear fb hra
        refine hK.out _ _ ?_ (fun hHeld => ?_)
        focus (first | exact trivial | ((try dsimp only); (exact trivial))); done
        clear hK K
        (try simp only [Act.put, List.setIfInBounds_toArray, List.set_cons_zero, List.set_cons_succ])
        refine wpAnyH_take (i := 12) (v := ?_) (by rw [List.getElem?_toArray]; rfl) (by kernel_rfl) (by kernel_rfl) (by kernel_rfl) (fun _ _ _ h => h) (Or.inl ⟨by rfl, ?_⟩) (by assumption) ?_
        rotate_left
        focus (intro wS hSw; (try dsimp only at hSw); go_simp; (try with_reducible rfl)); done
        (try simp only [Act.put, List.setIfInBounds_toArray, List.set_cons_zero, List.set_cons_succ])
        refine wpAnyH_take (i := 13) (v := ?_) (by rw [List.getElem?_toArray]; rfl) (by kernel_rfl) (by kernel_rfl) (by kernel_rfl) (fun _ _ _ h => h) (Or.inl ⟨by rfl, ?_⟩) (by assumption) ?_
        rotate_left
        focus (intro wS hSw; (try dsimp only at hSw); go_simp; (try with_reducible rfl)); done
        (try simp only [Act.put, List.setIfInBounds_toArray, List.set_cons_zero, List.set_cons_succ])
        refine wpAnyH_ready (rs := [5]) (by kernel_rfl) (by simp) ?_
        refine AllReadyH.cons (by rw [List.getElem?_toArray]; rfl) (fun K hK => ?_) AllReadyH.nil
        go_simp
        skip
        refine hK.out _ _ ?_ (fun hHeld => ?_)
        focus (first | exact trivial | ((try dsimp only); (exact trivial))); done
        clear hK K
        (try simp only [Act.put, List.setIfInBounds_toArray, List.set_cons_zero, List.set_cons_succ])
        obtain ⟨x1, rfl⟩ := Int.eq_ofNat_of_zero_le hvb
        have hlx1 : x1 < 7 := by omega
        obtain ⟨y1, hly1, hy1x⟩ := c7t hlx1
        have hly1i : (y1 : Int) < 4 := by omega
        refine wpAnyH_to (S' := (fun W => W.cell? ⟨wb.heap.size, x1, none⟩ = some (.int .i64 (y1 : Int)))) (fun _ _ => trivial) ?_ (fun hHeld => ?_)
        focus ((try dsimp only); exact Blk.cell (T := 3) (cs := #[.int .i64 0, .int .i64 0, .int .i64 0, .int .i64 0, .int .i64 1, .int .i64 2, .int .i64 3]) (by (repeat (first | (with_reducible assumption) | (with_reducible exact Blk.newAt _ _ (by simp)) | (with_reducible refine Blk.drew ?_) | (with_reducible refine Blk.other ?_ (by first | (simp; done) | (simp; omega) | omega) _) | (with_reducible refine Blk.alloc ?_ _))) : Blk _ wb.heap.size 3 #[.int .i64 0, .int .i64 0, .int .i64 0, .int .i64 0, .int .i64 1, .int .i64 2, .int .i64 3]) x1 hy1x); done
        (try dsimp only at hHeld)
        obtain ⟨y2, hy2x⟩ := c4t va 30 (-1) 31 hly1
        refine wpAnyH_to (S' := (fun W => W.cell? ⟨wb.heap.size, x1, none⟩ = some (.int .i64 (y1 : Int)) ∧ W.cell? ⟨wa.heap.size, y1, none⟩ = some (.int .i64 y2))) (fun _ h => h.1) ?_ (fun hHeld => ?_)
        focus ((try dsimp only); exact ⟨Blk.cell (T := 3) (cs := #[.int .i64 0, .int .i64 0, .int .i64 0, .int .i64 0, .int .i64 1, .int .i64 2, .int .i64 3]) (by (repeat (first | (with_reducible assumption) | (with_reducible exact Blk.newAt _ _ (by simp)) | (with_reducible refine Blk.drew ?_) | (with_reducible refine Blk.other ?_ (by first | (simp; done) | (simp; omega) | omega) _) | (with_reducible refine Blk.alloc ?_ _))) : Blk _ wb.heap.size 3 #[.int .i64 0, .int .i64 0, .int .i64 0, .int .i64 0, .int .i64 1, .int .i64 2, .int .i64 3]) x1 hy1x, Blk.cell (T := 3) (cs := #[.int .i64 va, .int .i64 30, .int .i64 (-1), .int .i64 31]) (by (repeat (first | (with_reducible assumption) | (with_reducible exact Blk.newAt _ _ (by simp)) | (with_reducible refine Blk.drew ?_) | (with_reducible refine Blk.other ?_ (by first | (simp; done) | (simp; omega) | omega) _) | (with_reducible refine Blk.alloc ?_ _))) : Blk _ wa.heap.size 3 #[.int .i64 va, .int .i64 30, .int .i64 (-1), .int .i64 31]) y1 hy2x⟩); done
        (try dsimp only at hHeld)
        refine wpAnyH_take (i := 8) (v := ?_) (by rw [List.getElem?_toArray]; rfl) (by kernel_rfl) (by kernel_rfl) (by kernel_rfl) (fun _ _ _ h => h) (Or.inl ⟨by rfl, ?_⟩) (by assumption) ?_
        rotate_left
        focus (intro wS hSw; (try dsimp only at hSw); go_simp; (try with_reducible rfl)); done
        (try simp only [Act.put, List.setIfInBounds_toArray, List.set_cons_zero, List.set_cons_succ])
        refine wpAnyH_take (i := 9) (v := ?_) (by rw [List.getElem?_toArray]; rfl) (by kernel_rfl) (by kernel_rfl) (by kernel_rfl) (fun _ _ _ h => h) (Or.inl ⟨by rfl, ?_⟩) (by assumption) ?_
        rotate_left
        focus (intro wS hSw; (try dsimp only at hSw); go_simp; (try with_reducible rfl)); done
        (try simp only [Act.put, List.setIfInBounds_toArray, List.set_cons_zero, List.set_cons_succ])
        refine wpAnyH_take (i := 10) (v := ?_) (by rw [List.getElem?_toArray]; rfl) (by kernel_rfl) (by kernel_rfl) (by kernel_rfl) (fun _ _ _ h => h) (Or.inl ⟨by rfl, ?_⟩) (by assumption) ?_
        rotate_left
        focus (intro wS hSw; (try dsimp only at hSw); go_simp; (try with_reducible rfl)); done
        (try simp only [Act.put, List.setIfInBounds_toArray, List.set_cons_zero, List.set_cons_succ])
        refine wpAnyH_take (i := 11) (v := ?_) (by rw [List.getElem?_toArray]; rfl) (by kernel_rfl) (by kernel_rfl) (by kernel_rfl) (fun _ _ _ h => h) (Or.inl ⟨by rfl, ?_⟩) (by assumption) ?_
        rotate_left
        focus (intro wS hSw; (try dsimp only at hSw); go_simp; (try with_reducible rfl)); done
        (try simp only [Act.put, List.setIfInBounds_toArray, List.set_cons_zero, List.set_cons_succ])
        refine wpAnyH_take (i := 14) (v := ?_) (by rw [List.getElem?_toArray]; rfl) (by kernel_rfl) (by kernel_rfl) (by kernel_rfl) (fun _ _ _ h => h) (Or.inl ⟨by rfl, ?_⟩) (by assumption) ?_
        rotate_left
        focus (intro wS hSw; (try dsimp only at hSw); go_simp; (try with_reducible rfl)); done
        (try simp only [Act.put, List.setIfInBounds_toArray, List.set_cons_zero, List.set_cons_succ])
        refine wpAnyH_done (by kernel_rfl) ?_ _
        refine NoPanic.normal ?_
        have HR := Lib.hid hd
        have HF := Lib.hid hF
        clear hd hF
        go_wp2
        have hd := HR.out
        have hF := HF.out
        refine bodyPost_ret (v := .tuple #[.slice A2 m c2, .int .i64 v1, .int .i64 y2]) (by simp [results, Try.results15, go_sem, *]) rfl ⟨A2, m, c2, es, v1, y2, rfl, Rd.mono (by (repeat (first | (with_reducible assumption) | (with_reducible refine Rd.drew ?_) | (with_reducible refine Rd.alloc ?_ _) | (with_reducible refine Rd.set ?_ (by first | (simp; done) | (simp; omega) | omega) _))) : Rd _ w1.heap.size w2.heap.size 6 A2 m (ents es)) (by omega) (by (try simp) <;> omega), by omega, HB.out.trans (Fr.below (by (repeat (first | (with_reducible assumption) | (with_reducible refine Fr.drew ?_) | (with_reducible exact Fr.refl _ _ _) | (with_reducible refine Fr.setOut ?_ (by first | (simp; done) | (simp; omega) | omega) _) | (with_reducible refine Fr.alloc ?_ _))) : Fr w.heap.size (w.heap.size + 1) w2 _) (Nat.le_refl _) (by omega))⟩
    · go_simp
      skip
      refine hK.out _ _ ?_ (fun hHeld => ?_)
      focus (first | exact trivial | ((try dsimp only); (exact trivial))); done
      clear hK K
      (try simp only [Act.put, List.setIfInBounds_toArray, List.set_cons_zero, List.set_cons_succ])
      refine wpAnyH_ready (rs := [4, 7]) (by kernel_rfl) (by simp) ?_
      refine AllReadyH.cons (by rw [List.getElem?_toArray]; rfl) (fun K hK => ?_) (AllReadyH.cons (by rw [List.getElem?_toArray]; rfl) (fun K hK => ?_) AllReadyH.nil)
      · go_simp
        skip
        refine hK.out _ _ ?_ (fun hHeld => ?_)
        focus (first | exact trivial | ((try dsimp only); (exact trivial))); done
        clear hK K
        (try simp only [Act.put, List.setIfInBounds_toArray, List.set_cons_zero, List.set_cons_succ])
        refine wpAnyH_ready (rs := [7]) (by kernel_rfl) (by simp) ?_
        refine AllReadyH.cons (by rw [List.getElem?_toArray]; rfl) (fun K hK => ?_) AllReadyH.nil
        go_simp
        refine (pick_any w.heap.size (0 + 1) 7 _ (by (repeat (first | (with_reducible assumption) | (with_reducible refine Rdr.drew ?_) | (with_reducible refine Rdr.set ?_ (by first | (simp; done) | (simp; omega) | omega) _) | (with_reducible refine Rdr.alloc ?_ _)))) (by omega) (by omega)).mono ?_; rintro e wb ⟨vb, rfl, hvb, ulb, -, hrb, fb⟩; replace ulb := ulb (by omega); have zb := fb.size; (try simp at zb); replace hd := (by (repeat (first | (with_reducible assumption) | (with_reducible refine Rd.drew ?_) | (with_reducible refine Rd.alloc ?_ _) | (with_reducible refine Rd.set ?_ (by first | (simp; done) | (simp; omega) | omega) _))) : Rd _ w1.heap.size w2.heap.size 6 A2 m (ents es)).fr fb (.inr (by omega)); have TL5 := Blk.fr (by (repeat (first | (with_reducible assumption) | (with_reducible exact Blk.newAt _ _ (by simp)) | (with_reducible refine Blk.drew ?_) | (with_reducible refine Blk.other ?_ (by first | (simp; done) | (simp; omega) | omega) _) | (with_reducible refine Blk.alloc ?_ _))) : Blk _ wa.heap.size 3 #[.int .i64 0, .int .i64 0, .int .i64 0, .int .i64 0, .int .i64 1, .int .i64 2, .int .i64 3]) fb (.inr (by omega)); have TL4 := Blk.fr (by (repeat (first | (with_reducible assumption) | (with_reducible exact Blk.newAt _ _ (by simp)) | (with_reducible refine Blk.drew ?_) | (with_reducible refine Blk.other ?_ (by first | (simp; done) | (simp; omega) | omega) _) | (with_reducible refine Blk.alloc ?_ _))) : Blk _ (wa.heap.size + 1) 3 #[.int .i64 va, .int .i64 30, .int .i64 (-1), .int .i64 31]) fb (.inr (by omega)); replace hF := Fr.trans (by (repeat (first | (with_reducible assumption) | (with_reducible refine Fr.drew ?_) | (with_reducible exact Fr.refl _ _ _) | (with_reducible refine Fr.setOut ?_ (by first | (simp; done) | (simp; omega) | omega) _) | (with_reducible refine Fr.alloc ?_ _))) : Fr w.heap.size (w.heap.size + 1) w2 _) fb; have ltb := hrb.lt; clear fb hra
        refine hK.out _ _ ?_ (fun hHeld => ?_)
        focus (first | exact trivial | ((try dsimp only); (exact trivial))); done
        clear hK K
        (try simp only [Act.put, List.setIfInBounds_toArray, List.set_cons_zero, List.set_cons_succ])
        obtain ⟨x1, rfl⟩ := Int.eq_ofNat_of_zero_le hvb
        have hlx1 : x1 < 7 := by omega
        obtain ⟨y1, hly1, hy1x⟩ := c7t hlx1
        have hly1i : (y1 : Int) < 4 := by omega
        refine wpAnyH_to (S' := (fun W => W.cell? ⟨wa.heap.size, x1, none⟩ = some (.int .i64 (y1 : Int)))) (fun _ _ => trivial) ?_ (fun hHeld => ?_)
        focus ((try dsimp only); exact Blk.cell (T := 3) (cs := #[.int .i64 0, .int .i64 0, .int .i64 0, .int .i64 0, .int .i64 1, .int .i64 2, .int .i64 3]) (by (repeat (first | (with_reducible assumption) | (with_reducible exact Blk.newAt _ _ (by simp)) | (with_reducible refine Blk.drew ?_) | (with_reducible refine Blk.other ?_ (by first | (simp; done) | (simp; omega) | omega) _) | (with_reducible refine Blk.alloc ?_ _))) : Blk _ wa.heap.size 3 #[.int .i64 0, .int .i64 0, .int .i64 0, .int .i64 0, .int .i64 1, .int .i64 2, .int .i64 3]) x1 hy1x); done
        (try dsimp only at hHeld)
        obtain ⟨y2, hy2x⟩ := c4t va 30 (-1) 31 hly1
        refine wpAnyH_to (S' := (fun W => W.cell? ⟨wa.heap.size, x1, none⟩ = some (.int .i64 (y1 : Int)) ∧ W.cell? ⟨(wa.heap.size + 1), y1, none⟩ = some (.int .i64 y2))) (fun _ h => h.1) ?_ (fun hHeld => ?_)
        focus ((try dsimp only); exact ⟨Blk.cell (T := 3) (cs := #[.int .i64 0, .int .i64 0, .int .i64 0, .int .i64 0, .int .i64 1, .int .i64 2, .int .i64 3]) (by (repeat (first | (with_reducible assumption) | (with_reducible exact Blk.newAt _ _ (by simp)) | (with_reducible refine Blk.drew ?_) | (with_reducible refine Blk.other ?_ (by first | (simp; done) | (simp; omega) | omega) _) | (with_reducible refine Blk.alloc ?_ _))) : Blk _ wa.heap.size 3 #[.int .i64 0, .int .i64 0, .int .i64 0, .int .i64 0, .int .i64 1, .int .i64 2, .int .i64 3]) x1 hy1x, Blk.cell (T := 3) (cs := #[.int .i64 va, .int .i64 30, .int .i64 (-1), .int .i64 31]) (by (repeat (first | (with_reducible assumption) | (with_reducible exact Blk.newAt _ _ (by simp)) | (with_reducible refine Blk.drew ?_) | (with_reducible refine Blk.other ?_ (by first | (simp; done) | (simp; omega) | omega) _) | (with_reducible refine Blk.alloc ?_ _))) : Blk _ (wa.heap.size + 1) 3 #[.int .i64 va, .int .i64 30, .int .i64 (-1), .int .i64 31]) y1 hy2x⟩); done
        (try dsimp only at hHeld)
        refine wpAnyH_take (i := 8) (v := ?_) (by rw [List.getElem?_toArray]; rfl) (by kernel_rfl) (by kernel_rfl) (by kernel_rfl) (fun _ _ _ h => h) (Or.inl ⟨by rfl, ?_⟩) (by assumption) ?_
        rotate_left
        focus (intro wS hSw; (try dsimp only at hSw); go_simp; (try with_reducible rfl)); done
        (try simp only [Act.put, List.setIfInBounds_toArray, List.set_cons_zero, List.set_cons_succ])
        refine wpAnyH_take (i := 9) (v := ?_) (by rw [List.getElem?_toArray]; rfl) (by kernel_rfl) (by kernel_rfl) (by kernel_rfl) (fun _ _ _ h => h) (Or.inl ⟨by rfl, ?_⟩) (by assumption) ?_
        rotate_left
        focus (intro wS hSw; (try dsimp only at hSw); go_simp; (try with_reducible rfl)); done
        (try simp only [Act.put, List.setIfInBounds_toArray, List.set_cons_zero, List.set_cons_succ])
        refine wpAnyH_take (i := 10) (v := ?_) (by rw [List.getElem?_toArray]; rfl) (by kernel_rfl) (by kernel_rfl) (by kernel_rfl) (fun _ _ _ h => h) (Or.inl ⟨by rfl, ?_⟩) (by assumption) ?_
        rotate_left
        focus (intro wS hSw; (try dsimp only at hSw); go_simp; (try with_reducible rfl)); done
        (try simp only [Act.put, List.setIfInBounds_toArray, List.set_cons_zero, List.set_cons_succ])
        refine wpAnyH_take (i := 11) (v := ?_) (by rw [List.getElem?_toArray]; rfl) (by kernel_rfl) (by kernel_rfl) (by kernel_rfl) (fun _ _ _ h => h) (Or.inl ⟨by rfl, ?_⟩) (by assumption) ?_
        rotate_left
        focus (intro wS hSw; (try dsimp only at hSw); go_simp; (try with_reducible rfl)); done
        (try simp only [Act.put, List.setIfInBounds_toArray, List.set_cons_zero, List.set_cons_succ])
        refine wpAnyH_take (i := 12) (v := ?_) (by rw [List.getElem?_toArray]; rfl) (by kernel_rfl) (by kernel_rfl) (by kernel_rfl) (fun _ _ _ h => h) (Or.inl ⟨by rfl, ?_⟩) (by assumption) ?_
        rotate_left
        focus (intro wS hSw; (try dsimp only at hSw); go_simp; (try with_reducible rfl)); done
        (try simp only [Act.put, List.setIfInBounds_toArray, List.set_cons_zero, List.set_cons_succ])
        refine wpAnyH_take (i := 13) (v := ?_) (by rw [List.getElem?_toArray]; rfl) (by kernel_rfl) (by kernel_rfl) (by kernel_rfl) (fun _ _ _ h => h) (Or.inl ⟨by rfl, ?_⟩) (by assumption) ?_
        rotate_left
        focus (intro wS hSw; (try dsimp only at hSw); go_simp; (try with_reducible rfl)); done
        (try simp only [Act.put, List.setIfInBounds_toArray, List.set_cons_zero, List.set_cons_succ])
        refine wpAnyH_take (i := 14) (v := ?_) (by rw [List.getElem?_toArray]; rfl) (by kernel_rfl) (by kernel_rfl) (by kernel_rfl) (fun _ _ _ h => h) (Or.inl ⟨by rfl, ?_⟩) (by assumption) ?_
        rotate_left
        focus (intro wS hSw; (try dsimp only at hSw); go_simp; (try with_reducible rfl)); done
        (try simp only [Act.put, List.setIfInBounds_toArray, List.set_cons_zero, List.set_cons_succ])
        refine wpAnyH_done (by kernel_rfl) ?_ _
        refine NoPanic.normal ?_
        have HR := Lib.hid hd
        have HF := Lib.hid hF
        clear hd hF
        go_wp2
        have hd := HR.out
        have hF := HF.out
        refine bodyPost_ret (v := .tuple #[.slice A2 m c2, .int .i64 v1, .int .i64 y2]) (by simp [results, Try.results15, go_sem, *]) rfl ⟨A2, m, c2, es, v1, y2, rfl, Rd.mono (by (repeat (first | (with_reducible assumption) | (with_reducible refine Rd.drew ?_) | (with_reducible refine Rd.alloc ?_ _) | (with_reducible refine Rd.set ?_ (by first | (simp; done) | (simp; omega) | omega) _))) : Rd _ w1.heap.size w2.heap.size 6 A2 m (ents es)) (by omega) (by (try simp) <;> omega), by omega, HB.out.trans (Fr.below (by (repeat (first | (with_reducible assumption) | (with_reducible refine Fr.drew ?_) | (with_reducible exact Fr.refl _ _ _) | (with_reducible refine Fr.setOut ?_ (by first | (simp; done) | (simp; omega) | omega) _) | (with_reducible refine Fr.alloc ?_ _))) : Fr w.heap.size (w.heap.size + 1) w2 _) (Nat.le_refl _) (by omega))⟩
      · go_simp
        refine (pick_any w.heap.size (0 + 1) 7 _ (by (repeat (first | (with_reducible assumption) | (with_reducible refine Rdr.drew ?_) | (with_reducible refine Rdr.set ?_ (by first | (simp; done) | (simp; omega) | omega) _) | (with_reducible refine Rdr.alloc ?_ _)))) (by omega) (by omega)).mono ?_; rintro e wb ⟨vb, rfl, hvb, ulb, -, hrb, fb⟩; replace ulb := ulb (by omega); have zb := fb.size; (try simp at zb); replace hd := (by (repeat (first | (with_reducible assumption) | (with_reducible refine Rd.drew ?_) | (with_reducible refine Rd.alloc ?_ _) | (with_reducible refine Rd.set ?_ (by first | (simp; done) | (simp; omega) | omega) _))) : Rd _ w1.heap.size w2.heap.size 6 A2 m (ents es)).fr fb (.inr (by omega)); have TL5 := Blk.fr (by (repeat (first | (with_reducible assumption) | (with_reducible exact Blk.newAt _ _ (by simp)) | (with_reducible refine Blk.drew ?_) | (with_reducible refine Blk.other ?_ (by first | (simp; done) | (simp; omega) | omega) _) | (with_reducible refine Blk.alloc ?_ _))) : Blk _ wa.heap.size 3 #[.int .i64 0, .int .i64 0, .int .i64 0, .int .i64 0, .int .i64 1, .int .i64 2, .int .i64 3]) fb (.inr (by omega)); replace hF := Fr.trans (by (repeat (first | (with_reducible assumption) | (with_reducible refine Fr.drew ?_) | (with_reducible exact Fr.refl _ _ _) | (with_reducible refine Fr.setOut ?_ (by first | (simp; done) | (simp; omega) | omega) _) | (with_reducible refine Fr.alloc ?_ _))) : Fr w.heap.size (w.heap.size + 1) w2 _) fb; have ltb := hrb.lt; clear fb hra
        refine hK.out _ _ ?_ (fun hHeld => ?_)
        focus (first | exact trivial | ((try dsimp only); (exact trivial))); done
        clear hK K
        (try simp only [Act.put, List.setIfInBounds_toArray, List.set_cons_zero, List.set_cons_succ])
        obtain ⟨x1, rfl⟩ := Int.eq_ofNat_of_zero_le hvb
        have hlx1 : x1 < 7 := by omega
        obtain ⟨y1, hly1, hy1x⟩ := c7t hlx1
        have hly1i : (y1 : Int) < 4 := by omega
        refine wpAnyH_to (S' := (fun W => W.cell? ⟨wa.heap.size, x1, none⟩ = some (.int .i64 (y1 : Int)))) (fun _ _ => trivial) ?_ (fun hHeld => ?_)
        focus ((try dsimp only); exact Blk.cell (T := 3) (cs := #[.int .i64 0, .int .i64 0, .int .i64 0, .int .i64 0, .int .i64 1, .int .i64 2, .int .i64 3]) (by (repeat (first | (with_reducible assumption) | (with_reducible exact Blk.newAt _ _ (by simp)) | (with_reducible refine Blk.drew ?_) | (with_reducible refine Blk.other ?_ (by first | (simp; done) | (simp; omega) | omega) _) | (with_reducible refine Blk.alloc ?_ _))) : Blk _ wa.heap.size 3 #[.int .i64 0, .int .i64 0, .int .i64 0, .int .i64 0, .int .i64 1, .int .i64 2, .int .i64 3]) x1 hy1x); done
        (try dsimp only at hHeld)
        refine wpAnyH_take (i := 8) (v := ?_) (by rw [List.getElem?_toArray]; rfl) (by kernel_rfl) (by kernel_rfl) (by kernel_rfl) (fun _ _ _ h => h) (Or.inl ⟨by rfl, ?_⟩) (by assumption) ?_
        rotate_left
        focus (intro wS hSw; (try dsimp only at hSw); go_simp; (try with_reducible rfl)); done
        (try simp only [Act.put, List.setIfInBounds_toArray, List.set_cons_zero, List.set_cons_succ])
        refine wpAnyH_take (i := 9) (v := ?_) (by rw [List.getElem?_toArray]; rfl) (by kernel_rfl) (by kernel_rfl) (by kernel_rfl) (fun _ _ _ h => h) (Or.inl ⟨by rfl, ?_⟩) (by assumption) ?_
        rotate_left
        focus (intro wS hSw; (try dsimp only at hSw); go_simp; (try with_reducible rfl)); done
        (try simp only [Act.put, List.setIfInBounds_toArray, List.set_cons_zero, List.set_cons_succ])
        refine wpAnyH_take (i := 12) (v := ?_) (by rw [List.getElem?_toArray]; rfl) (by kernel_rfl) (by kernel_rfl) (by kernel_rfl) (fun _ _ _ h => h) (Or.inl ⟨by rfl, ?_⟩) (by assumption) ?_
        rotate_left
        focus (intro wS hSw; (try dsimp only at hSw); go_simp; (try with_reducible rfl)); done
        (try simp only [Act.put, List.setIfInBounds_toArray, List.set_cons_zero, List.set_cons_succ])
        refine wpAnyH_take (i := 13) (v := ?_) (by rw [List.getElem?_toArray]; rfl) (by kernel_rfl) (by kernel_rfl) (by kernel_rfl) (fun _ _ _ h => h) (Or.inl ⟨by rfl, ?_⟩) (by assumption) ?_
        rotate_left
        focus (intro wS hSw; (try dsimp only at hSw); go_simp; (try with_reducible rfl)); done
        (try simp only [Act.put, List.setIfInBounds_toArray, List.set_cons_zero, List.set_cons_succ])
        refine wpAnyH_ready (rs := [4]) (by kernel_rfl) (by simp) ?_
        refine AllReadyH.cons (by rw [List.getElem?_toArray]; rfl) (fun K hK => ?_) AllReadyH.nil
        go_simp
        skip
        refine hK.out _ _ ?_ (fun hHeld => ?_)
        focus (first | exact trivial | ((try dsimp only); (exact Blk.cell (T := 3) (cs := #[.int .i64 0, .int .i64 0, .int .i64 0, .int .i64 0, .int .i64 1, .int .i64 2, .int .i64 3]) (by (repeat (first | (with_reducible assumption) | (with_reducible exact Blk.newAt _ _ (by simp)) | (with_reducible refine Blk.drew ?_) | (with_reducible refine Blk.other ?_ (by first | (simp; done) | (simp; omega) | omega) _) | (with_reducible refine Blk.alloc ?_ _))) : Blk _ wa.heap.size 3 #[.int .i64 0, .int .i64 0, .int .i64 0, .int .i64 0, .int .i64 1, .int .i64 2, .int .i64 3]) x1 hy1x))); done
        clear hK K
        (try simp only [Act.put, List.setIfInBounds_toArray, List.set_cons_zero, List.set_cons_succ])
        obtain ⟨y2, hy2x⟩ := c4t va 30 (-1) 31 hly1
        refine wpAnyH_to (S' := (fun W => W.cell? ⟨wa.heap.size, x1, none⟩ = some (.int .i64 (y1 : Int)) ∧ W.cell? ⟨wb.heap.size, y1, none⟩ = some (.int .i64 y2))) (fun _ h => h.1) ?_ (fun hHeld => ?_)
        focus ((try dsimp only); exact ⟨Blk.cell (T := 3) (cs := #[.int .i64 0, .int .i64 0, .int .i64 0, .int .i64 0, .int .i64 1, .int .i64 2, .int .i64 3]) (by (repeat (first | (with_reducible assumption) | (with_reducible exact Blk.newAt _ _ (by simp)) | (with_reducible refine Blk.drew ?_) | (with_reducible refine Blk.other ?_ (by first | (simp; done) | (simp; omega) | omega) _) | (with_reducible refine Blk.alloc ?_ _))) : Blk _ wa.heap.size 3 #[.int .i64 0, .int .i64 0, .int .i64 0, .int .i64 0, .int .i64 1, .int .i64 2, .int .i64 3]) x1 hy1x, Blk.cell (T := 3) (cs := #[.int .i64 va, .int .i64 30, .int .i64 (-1), .int .i64 31]) (by (repeat (first | (with_reducible assumption) | (with_reducible exact Blk.newAt _ _ (by simp)) | (with_reducible refine Blk.drew ?_) | (with_reducible refine Blk.other ?_ (by first | (simp; done) | (simp; omega) | omega) _) | (with_reducible refine Blk.alloc ?_ _))) : Blk _ wb.heap.size 3 #[.int .i64 va, .int .i64 30, .int .i64 (-1), .int .i64 31]) y1 hy2x⟩); done
        (try dsimp only at hHeld)
        refine wpAnyH_take (i := 10) (v := ?_) (by rw [List.getElem?_toArray]; rfl) (by kernel_rfl) (by kernel_rfl) (by kernel_rfl) (fun _ _ _ h => h) (Or.inl ⟨by rfl, ?_⟩) (by assumption) ?_
        rotate_left
        focus (intro wS hSw; (try dsimp only at hSw); go_simp; (try with_reducible rfl)); done
        (try simp only [Act.put, List.setIfInBounds_toArray, List.set_cons_zero, List.set_cons_succ])
        refine wpAnyH_take (i := 11) (v := ?_) (by rw [List.getElem?_toArray]; rfl) (by kernel_rfl) (by kernel_rfl) (by kernel_rfl) (fun _ _ _ h => h) (Or.inl ⟨by rfl, ?_⟩) (by assumption) ?_
        rotate_left
        focus (intro wS hSw; (try dsimp only at hSw); go_simp; (try with_reducible rfl)); done
        (try simp only [Act.put, List.setIfInBounds_toArray, List.set_cons_zero, List.set_cons_succ])
        refine wpAnyH_take (i := 14) (v := ?_) (by rw [List.getElem?_toArray]; rfl) (by kernel_rfl) (by kernel_rfl) (by kernel_rfl) (fun _ _ _ h => h) (Or.inl ⟨by rfl, ?_⟩) (by assumption) ?_
        rotate_left
        focus (intro wS hSw; (try dsimp only at hSw); go_simp; (try with_reducible rfl)); done
        (try simp only [Act.put, List.setIfInBounds_toArray, List.set_cons_zero, List.set_cons_succ])
        refine wpAnyH_done (by kernel_rfl) ?_ _
        refine NoPanic.normal ?_
        have HR := Lib.hid hd
        have HF := Lib.hid hF
        clear hd hF
        go_wp2
        have hd := HR.out
        have hF := HF.out
        refine bodyPost_ret (v := .tuple #[.slice A2 m c2, .int .i64 v1, .int .i64 y2]) (by simp [results, Try.results15, go_sem, *]) rfl ⟨A2, m, c2, es, v1, y2, rfl, Rd.mono (by (repeat (first | (with_reducible assumption) | (with_reducible refine Rd.drew ?_) | (with_reducible refine Rd.alloc ?_ _) | (with_reducible refine Rd.set ?_ (by first | (simp; done) | (simp; omega) | omega) _))) : Rd _ w1.heap.size w2.heap.size 6 A2 m (ents es)) (by omega) (by (try simp) <;> omega), by omega, HB.out.trans (Fr.below (by (repeat (first | (with_reducible assumption) | (with_reducible refine Fr.drew ?_) | (with_reducible exact Fr.refl _ _ _) | (with_reducible refine Fr.setOut ?_ (by first | (simp; done) | (simp; omega) | omega) _) | (with_reducible refine Fr.alloc ?_ _))) : Fr w.heap.size (w.heap.size + 1) w2 _) (Nat.le_refl _) (by omega))⟩
    · go_simp
      refine (pick_any w.heap.size (0 + 1) 7 _ (by (repeat (first | (with_reducible assumption) | (with_reducible refine Rdr.drew ?_) | (with_reducible refine Rdr.set ?_ (by first | (simp; done) | (simp; omega) | omega) _) | (with_reducible refine Rdr.alloc ?_ _)))) (by omega) (by omega)).mono ?_; rintro e wb ⟨vb, rfl, hvb, ulb, -, hrb, fb⟩; replace ulb := ulb (by omega); have zb := fb.size; (try simp at zb); replace hd := (by (repeat (first | (with_reducible assumption) | (with_reducible refine Rd.drew ?_) | (with_reducible refine Rd.alloc ?_ _) | (with_reducible refine Rd.set ?_ (by first | (simp; done) | (simp; omega) | omega) _))) : Rd _ w1.heap.size w2.heap.size 6 A2 m (ents es)).fr fb (.inr (by omega)); replace hF := Fr.trans (by (repeat (first | (with_reducible assumption) | (with_reducible refine Fr.drew ?_) | (with_reducible exact Fr.refl _ _ _) | (with_reducible refine Fr.setOut ?_ (by first | (simp; done) | (simp; omega) | omega) _) | (with_reducible refine Fr.alloc ?_ _))) : Fr w.heap.size (w.heap.size + 1) w2 _) fb; have ltb := hrb.lt; clear fb hra
      refine hK.out _ _ ?_ (fun hHeld => ?_)
      focus (first | exact trivial | ((try dsimp only); (exact trivial))); done
      clear hK K
      (try simp only [Act.put, List.setIfInBounds_toArray, List.set_cons_zero, List.set_cons_succ])
      refine wpAnyH_take (i := 12) (v := ?_) (by rw [List.getElem?_toArray]; rfl) (by kernel_rfl) (by kernel_rfl) (by kernel_rfl) (fun _ _ _ h => h) (Or.inl ⟨by rfl, ?_⟩) (by assumption) ?_
      rotate_left
      focus (intro wS hSw; (try dsimp only at hSw); go_simp; (try with_reducible rfl)); done
      (try simp only [Act.put, List.setIfInBounds_toArray, List.set_cons_zero, List.set_cons_succ])
      refine wpAnyH_take (i := 13) (v := ?_) (by rw [List.getElem?_toArray]; rfl) (by kernel_rfl) (by kernel_rfl) (by kernel_rfl) (fun _ _ _ h => h) (Or.inl ⟨by rfl, ?_⟩) (by assumption) ?_
      rotate_left
      focus (intro wS hSw; (try dsimp only at hSw); go_simp; (try with_reducible rfl)); done
      (try simp only [Act.put, List.setIfInBounds_toArray, List.set_cons_zero, List.set_cons_succ])
      refine wpAnyH_ready (rs := [4, 5]) (by kernel_rfl) (by simp) ?_
      refine AllReadyH.cons (by rw [List.getElem?_toArray]; rfl) (fun K hK => ?_) (AllReadyH.cons (by rw [List.getElem?_toArray]; rfl) (fun K hK => ?_) AllReadyH.nil)
      · go_simp
        skip
        refine hK.out _ _ ?_ (fun hHeld => ?_)
        focus (first | exact trivial | ((try dsimp only); (exact trivial))); done
        clear hK K
        (try simp only [Act.put, List.setIfInBounds_toArray, List.set_cons_zero, List.set_cons_succ])
        refine wpAnyH_ready (rs := [5]) (by kernel_rfl) (by simp) ?_
        refine AllReadyH.cons (by rw [List.getElem?_toArray]; rfl) (fun K hK => ?_) AllReadyH.nil
        go_simp
        skip
        refine hK.out _ _ ?_ (fun hHeld => ?_)
        focus (first | exact trivial | ((try dsimp only); (exact trivial))); done
        clear hK K
        (try simp only [Act.put, List.setIfInBounds_toArray, List.set_cons_zero, List.set_cons_succ])
        obtain ⟨x1, rfl⟩ := Int.eq_ofNat_of_zero_le hvb
        have hlx1 : x1 < 7 := by omega
        obtain ⟨y1, hly1, hy1x⟩ := c7t hlx1
        have hly1i : (y1 : Int) < 4 := by omega
        refine wpAnyH_to (S' := (fun W => W.cell? ⟨(wb.heap.size + 1), x1, none⟩ = some (.int .i64 (y1 : Int)))) (fun _ _ => trivial) ?_ (fun hHeld => ?_)
        focus ((try dsimp only); exact Blk.cell (T := 3) (cs := #[.int .i64 0, .int .i64 0, .int .i64 0, .int .i64 0, .int .i64 1, .int .i64 2, .int .i64 3]) (by (repeat (first | (with_reducible assumption) | (with_reducible exact Blk.newAt _ _ (by simp)) | (with_reducible refine Blk.drew ?_) | (with_reducible refine Blk.other ?_ (by first | (simp; done) | (simp; omega) | omega) _) | (with_reducible refine Blk.alloc ?_ _))) : Blk _ (wb.heap.size + 1) 3 #[.int .i64 0, .int .i64 0, .int .i64 0, .int .i64 0, .int .i64 1, .int .i64 2, .int .i64 3]) x1 hy1x); done
        (try dsimp only at hHeld)
        obtain ⟨y2, hy2x⟩ := c4t va 30 (-1) 31 hly1
        refine wpAnyH_to (S' := (fun W => W.cell? ⟨(wb.heap.size + 1), x1, none⟩ = some (.int .i64 (y1 : Int)) ∧ W.cell? ⟨wb.heap.size, y1, none⟩ = some (.int .i64 y2))) (fun _ h => h.1) ?_ (fun hHeld => ?_)
        focus ((try dsimp only); exact ⟨Blk.cell (T := 3) (cs := #[.int .i64 0, .int .i64 0, .int .i64 0, .int .i64 0, .int .i64 1, .int .i64 2, .int .i64 3]) (by (repeat (first | (with_reducible assumption) | (with_reducible exact Blk.newAt _ _ (by simp)) | (with_reducible refine Blk.drew ?_) | (with_reducible refine Blk.other ?_ (by first | (simp; done) | (simp; omega) | omega) _) | (with_reducible refine Blk.alloc ?_ _))) : Blk _ (wb.heap.size + 1) 3 #[.int .i64 0, .int .i64 0, .int .i64 0, .int .i64 0, .int .i64 1, .int .i64 2, .int .i64 3]) x1 hy1x, Blk.cell (T := 3) (cs := #[.int .i64 va, .int .i64 30, .int .i64 (-1), .int .i64 31]) (by (repeat (first | (with_reducible assumption) | (with_reducible exact Blk.newAt _ _ (by simp)) | (with_reducible refine Blk.drew ?_) | (with_reducible refine Blk.other ?_ (by first | (simp; done) | (simp; omega) | omega) _) | (with_reducible refine Blk.alloc ?_ _))) : Blk _ wb.heap.size 3 #[.int .i64 va, .int .i64 30, .int .i64 (-1), .int .i64 31]) y1 hy2x⟩); done
        (try dsimp only at hHeld)
        refine wpAnyH_take (i := 8) (v := ?_) (by rw [List.getElem?_toArray]; rfl) (by kernel_rfl) (by kernel_rfl) (by kernel_rfl) (fun _ _ _ h => h) (Or.inl ⟨by rfl, ?_⟩) (by assumption) ?_
        rotate_left
        focus (intro wS hSw; (try dsimp only at hSw); go_simp; (try with_reducible rfl)); done
        (try simp only [Act.put, List.setIfInBounds_toArray, List.set_cons_zero, List.set_cons_succ])
        refine wpAnyH_take (i := 9) (v := ?_) (by rw [List.getElem?_toArray]; rfl) (by kernel_rfl) (by kernel_rfl) (by kernel_rfl) (fun _ _ _ h => h) (Or.inl ⟨by rfl, ?_⟩) (by assumption) ?_
        rotate_left
        focus (intro wS hSw; (try dsimp only at hSw); go_simp; (try with_reducible rfl)); done
        (try simp only [Act.put, List.setIfInBounds_toArray, List.set_cons_zero, List.set_cons_succ])
        refine wpAnyH_take (i := 10) (v := ?_) (by rw [List.getElem?_toArray]; rfl) (by kernel_rfl) (by kernel_rfl) (by kernel_rfl) (fun _ _ _ h => h) (Or.inl ⟨by rfl, ?_⟩) (by assumption) ?_
        rotate_left
        focus (intro wS hSw; (try dsimp only at hSw); go_simp; (try with_reducible rfl)); done
        (try simp only [Act.put, List.setIfInBounds_toArray, List.set_cons_zero, List.set_cons_succ])
        refine wpAnyH_take (i := 11) (v := ?_) (by rw [List.getElem?_toArray]; rfl) (by kernel_rfl) (by kernel_rfl) (by kernel_rfl) (fun _ _ _ h => h) (Or.inl ⟨by rfl, ?_⟩) (by assumption) ?_
        rotate_left
        focus (intro wS hSw; (try dsimp only at hSw); go_simp; (try with_reducible rfl)); done
        (try simp only [Act.put, List.setIfInBounds_toArray, List.set_cons_zero, List.set_cons_succ])
        refine wpAnyH_take (i := 14) (v := ?_) (by rw [List.getElem?_toArray]; rfl) (by kernel_rfl) (by kernel_rfl) (by kernel_rfl) (fun _ _ _ h => h) (Or.inl ⟨by rfl, ?_⟩) (by assumption) ?_
        rotate_left
        focus (intro wS hSw; (try dsimp only at hSw); go_simp; (try with_reducible rfl)); done
        (try simp only [Act.put, List.setIfInBounds_toArray, List.set_cons_zero, List.set_cons_succ])
        refine wpAnyH_done (by kernel_rfl) ?_ _
        refine NoPanic.normal ?_
        have HR := Lib.hid hd
        have HF := Lib.hid hF
        clear hd hF
        go_wp2
        have hd := HR.out
        have hF := HF.out
        refine bodyPost_ret (v := .tuple #[.slice A2 m c2, .int .i64 v1, .int .i64 y2]) (by simp [results, Try.results15, go_sem, *]) rfl ⟨A2, m, c2, es, v1, y2, rfl, Rd.mono (by (repeat (first | (with_reducible assumption) | (with_reducible refine Rd.drew ?_) | (with_reducible refine Rd.alloc ?_ _) | (with_reducible refine Rd.set ?_ (by first | (simp; done) | (simp; omega) | omega) _))) : Rd _ w1.heap.size w2.heap.size 6 A2 m (ents es)) (by omega) (by (try simp) <;> omega), by omega, HB.out.trans (Fr.below (by (repeat (first | (with_reducible assumption) | (with_reducible refine Fr.drew ?_) | (with_reducible exact Fr.refl _ _ _) | (with_reducible refine Fr.setOut ?_ (by first | (simp; done) | (simp; omega) | omega) _) | (with_reducible refine Fr.alloc ?_ _))) : Fr w.heap.size (w.heap.size + 1) w2 _) (Nat.le_refl _) (by omega))⟩
      · go_simp
        skip
        refine hK.out _ _ ?_ (fun hHeld => ?_)
        focus (first | exact trivial | ((try dsimp only); (exact trivial))); done
        clear hK K
        (try simp only [Act.put, List.setIfInBounds_toArray, List.set_cons_zero, List.set_cons_succ])
        obtain ⟨x1, rfl⟩ := Int.eq_ofNat_of_zero_le hvb
        have hlx1 : x1 < 7 := by omega
        obtain ⟨y1, hly1, hy1x⟩ := c7t hlx1
        have hly1i : (y1 : Int) < 4 := by omega
        refine wpAnyH_to (S' := (fun W => W.cell? ⟨wb.heap.size, x1, none⟩ = some (.int .i64 (y1 : Int)))) (fun _ _ => trivial) ?_ (fun hHeld => ?_)
        focus ((try dsimp only); exact Blk.cell (T := 3) (cs := #[.int .i64 0, .int .i64 0, .int .i64 0, .int .i64 0, .int .i64 1, .int .i64 2, .int .i64 3]) (by (repeat (first | (with_reducible assumption) | (with_reducible exact Blk.newAt _ _ (by simp)) | (with_reducible refine Blk.drew ?_) | (with_reducible refine Blk.other ?_ (by first | (simp; done) | (simp; omega) | omega) _) | (with_reducible refine Blk.alloc ?_ _))) : Blk _ wb.heap.size 3 #[.int .i64 0, .int .i64 0, .int .i64 0, .int .i64 0, .int .i64 1, .int .i64 2, .int .i64 3]) x1 hy1x); done
        (try dsimp only at hHeld)
        refine wpAnyH_take (i := 8) (v := ?_) (by rw [List.getElem?_toArray]; rfl) (by kernel_rfl) (by kernel_rfl) (by kernel_rfl) (fun _ _ _ h => h) (Or.inl ⟨by rfl, ?_⟩) (by assumption) ?_
        rotate_left
        focus (intro wS hSw; (try dsimp only at hSw); go_simp; (try with_reducible rfl)); done
        (try simp only [Act.put, List.setIfInBounds_toArray, List.set_cons_zero, List.set_cons_succ])
        refine wpAnyH_take (i := 9) (v := ?_) (by rw [List.getElem?_toArray]; rfl) (by kernel_rfl) (by kernel_rfl) (by kernel_rfl) (fun _ _ _ h => h) (Or.inl ⟨by rfl, ?_⟩) (by assumption) ?_
        rotate_left
        focus (intro wS hSw; (try dsimp only at hSw); go_simp; (try with_reducible rfl)); done
        (try simp only [Act.put, List.setIfInBounds_toArray, List.set_cons_zero, List.set_cons_succ])
        refine wpAnyH_ready (rs := [4]) (by kernel_rfl) (by simp) ?_
        refine AllReadyH.cons (by rw [List.getElem?_toArray]; rfl) (fun K hK => ?_) AllReadyH.nil
        go_simp
        skip
        refine hK.out _ _ ?_ (fun hHeld => ?_)
        focus (first | exact trivial | ((try dsimp only); (exact Blk.cell (T := 3) (cs := #[.int .i64 0, .int .i64 0, .int .i64 0, .int .i64 0, .int .i64 1, .int .i64 2, .int .i64 3]) (by (repeat (first | (with_reducible assumption) | (with_reducible exact Blk.newAt _ _ (by simp)) | (with_reducible refine Blk.drew ?_) | (with_reducible refine Blk.other ?_ (by first | (simp; done) | (simp; omega) | omega) _) | (with_reducible refine Blk.alloc ?_ _))) : Blk _ wb.heap.size 3 #[.int .i64 0, .int .i64 0, .int .i64 0, .int .i64 0, .int .i64 1, .int .i64 2, .int .i64 3]) x1 hy1x))); done
        clear hK K
        (try simp only [Act.put, List.setIfInBounds_toArray, List.set_cons_zero, List.set_cons_succ])
        obtain ⟨y2, hy2x⟩ := c4t va 30 (-1) 31 hly1
        refine wpAnyH_to (S' := (fun W => W.cell? ⟨wb.heap.size, x1, none⟩ = some (.int .i64 (y1 : Int)) ∧ W.cell? ⟨(wb.heap.size + 1), y1, none⟩ = some (.int .i64 y2))) (fun _ h => h.1) ?_ (fun hHeld => ?_)
        focus ((try dsimp only); exact ⟨Blk.cell (T := 3) (cs := #[.int .i64 0, .int .i64 0, .int .i64 0, .int .i64 0, .int .i64 1, .int .i64 2, .int .i64 3]) (by (repeat (first | (with_reducible assumption) | (with_reducible exact Blk.newAt _ _ (by simp)) | (with_reducible refine Blk.drew ?_) | (with_reducible refine Blk.other ?_ (by first | (simp; done) | (simp; omega) | omega) _) | (with_reducible refine Blk.alloc ?_ _))) : Blk _ wb.heap.size 3 #[.int .i64 0, .int .i64 0, .int .i64 0, .int .i64 0, .int .i64 1, .int .i64 2, .int .i64 3]) x1 hy1x, Blk.cell (T := 3) (cs := #[.int .i64 va, .int .i64 30, .int .i64 (-1), .int .i64 31]) (by (repeat (first | (with_reducible assumption) | (with_reducible exact Blk.newAt _ _ (by simp)) | (with_reducible refine Blk.drew ?_) | (with_reducible refine Blk.other ?_ (by first | (simp; done) | (simp; omega) | omega) _) | (with_reducible refine Blk.alloc ?_ _))) : Blk _ (wb.heap.size + 1) 3 #[.int .i64 va, .int .i64 30, .int .i64 (-1), .int .i64 31]) y1 hy2x⟩); done
        (try dsimp only at hHeld)
        refine wpAnyH_take (i := 10) (v := ?_) (by rw [List.getElem?_toArray]; rfl) (by kernel_rfl) (by kernel_rfl) (by kernel_rfl) (fun _ _ _ h => h) (Or.inl ⟨by rfl, ?_⟩) (by assumption) ?_
        rotate_left
        focus (intro wS hSw; (try dsimp only at hSw); go_simp; (try with_reducible rfl)); done
        (try simp only [Act.put, List.setIfInBounds_toArray, List.set_cons_zero, List.set_cons_succ])
        refine wpAnyH_take (i := 11) (v := ?_) (by rw [List.getElem?_toArray]; rfl) (by kernel_rfl) (by kernel_rfl) (by kernel_rfl) (fun _ _ _ h => h) (Or.inl ⟨by rfl, ?_⟩) (by assumption) ?_
        rotate_left
        focus (intro wS hSw; (try dsimp only at hSw); go_simp; (try with_reducible rfl)); done
        (try simp only [Act.put, List.setIfInBounds_toArray, List.set_cons_zero, List.set_cons_succ])
        refine wpAnyH_take (i := 14) (v := ?_) (by rw [List.getElem?_toArray]; rfl) (by kernel_rfl) (by kernel_rfl) (by kernel_rfl) (fun _ _ _ h => h) (Or.inl ⟨by rfl, ?_⟩) (by assumption) ?_
        rotate_left
        focus (intro wS hSw; (try dsimp only at hSw); go_simp; (try with_reducible rfl)); done
        (try simp only [Act.put, List.setIfInBounds_toArray, List.set_cons_zero, List.set_cons_succ])
        refine wpAnyH_done (by kernel_rfl) ?_ _
        refine NoPanic.normal ?_
        have HR := Lib.hid hd
        have HF := Lib.hid hF
        clear hd hF
        go_wp2
        have hd := HR.out
        have hF := HF.out
        refine bodyPost_ret (v := .tuple #[.slice A2 m c2, .int .i64 v1, .int .i64 y2]) (by simp [results, Try.results15, go_sem, *]) rfl ⟨A2, m, c2, es, v1, y2, rfl, Rd.mono (by (repeat (first | (with_reducible assumption) | (with_reducible refine Rd.drew ?_) | (with_reducible refine Rd.alloc ?_ _) | (with_reducible refine Rd.set ?_ (by first | (simp; done) | (simp; omega) | omega) _))) : Rd _ w1.heap.size w2.heap.size 6 A2 m (ents es)) (by omega) (by (try simp) <;> omega), by omega, HB.out.trans (Fr.below (by (repeat (first | (with_reducible assumption) | (with_reducible refine Fr.drew ?_) | (with_reducible exact Fr.refl _ _ _) | (with_reducible refine Fr.setOut ?_ (by first | (simp; done) | (simp; omega) | omega) _) | (with_reducible refine Fr.alloc ?_ _))) : Fr w.heap.size (w.heap.size + 1) w2 _) (Nat.le_refl _) (by omega))⟩
  · go_simp
    skip
    refine hK.out _ _ ?_ (fun hHeld => ?_)
    focus (first | exact trivial | ((try dsimp only); (exact trivial))); done
    clear hK K
    (try simp only [Act.put, List.setIfInBounds_toArray, List.set_cons_zero, List.set_cons_succ])
    refine wpAnyH_ready (rs := [3]) (by kernel_rfl) (by simp) ?_
    refine AllReadyH.cons (by rw [List.getElem?_toArray]; rfl) (fun K hK => ?_) AllReadyH.nil
    go_simp
    refine (pick_any w.heap.size (0) 4 _ (by (repeat (first | (with_reducible assumption) | (with_reducible refine Rdr.drew ?_) | (with_reducible refine Rdr.set ?_ (by first | (simp; done) | (simp; omega) | omega) _) | (with_reducible refine Rdr.alloc ?_ _)))) (by omega) (by omega)).mono ?_; rintro e wa ⟨va, rfl, hva, ula, -, hra, fa⟩; replace ula := ula (by omega); have za := fa.size; (try simp at za); replace hd := (by (repeat (first | (with_reducible assumption) | (with_reducible refine Rd.drew ?_) | (with_reducible refine Rd.alloc ?_ _) | (with_reducible refine Rd.set ?_ (by first | (simp; done) | (simp; omega) | omega) _))) : Rd _ w1.heap.size w2.heap.size 6 A2 m (ents es)).fr fa (.inr (by omega)); have TL5 := Blk.fr (by (repeat (first | (with_reducible assumption) | (with_reducible exact Blk.newAt _ _ (by simp)) | (with_reducible refine Blk.drew ?_) | (with_reducible refine Blk.other ?_ (by first | (simp; done) | (simp; omega) | omega) _) | (with_reducible refine Blk.alloc ?_ _))) : Blk _ w2.heap.size 3 #[.int .i64 0, .int .i64 0, .int .i64 0, .int .i64 0, .int .i64 1, .int .i64 2, .int .i64 3]) fa (.inr (by omega)); replace hF := Fr.trans (by (repeat (first | (with_reducible assumption) | (with_reducible refine Fr.drew ?_) | (with_reducible exact Fr.refl _ _ _) | (with_reducible refine Fr.setOut ?_ (by first | (simp; done) | (simp; omega) | omega) _) | (with_reducible refine Fr.alloc ?_ _))) : Fr w.heap.size (w.heap.size + 1) w2 _) fa; have lta := hra.lt; clear fa hr2
    refine hK.out _ _ ?_ (fun hHeld => ?_)
    focus (first | exact trivial | ((try dsimp only); (exact trivial))); done
    clear hK K
    (try simp only [Act.put, List.setIfInBounds_toArray, List.set_cons_zero, List.set_cons_succ])
    refine wpAnyH_ready (rs := [4, 7]) (by kernel_rfl) (by simp) ?_
    refine AllReadyH.cons (by rw [List.getElem?_toArray]; rfl) (fun K hK => ?_) (AllReadyH.cons (by rw [List.getElem?_toArray]; rfl) (fun K hK => ?_) AllReadyH.nil)
    · go_simp
      skip
      refine hK.out _ _ ?_ (fun hHeld => ?_)
      focus (first | exact trivial | ((try dsimp only); (exact trivial))); done
      clear hK K
      (try simp only [Act.put, List.setIfInBounds_toArray, List.set_cons_zero, List.set_cons_succ])
      refine wpAnyH_ready (rs := [7]) (by kernel_rfl) (by simp) ?_
      refine AllReadyH.cons (by rw [List.getElem?_toArray]; rfl) (fun K hK => ?_) AllReadyH.nil
      go_simp
      refine (pick_any w.heap.size (0 + 1) 7 _ (by (repeat (first | (with_reducible assumption) | (with_reducible refine Rdr.drew ?_) | (with_reducible refine Rdr.set ?_ (by first | (simp; done) | (simp; omega) | omega) _) | (with_reducible refine Rdr.alloc ?_ _)))) (by omega) (by omega)).mono ?_; rintro e wb ⟨vb, rfl, hvb, ulb, -, hrb, fb⟩; replace ulb := ulb (by omega); have zb := fb.size; (try simp at zb); replace hd := (by (repeat (first | (with_reducible assumption) | (with_reducible refine Rd.drew ?_) | (with_reducible refine Rd.alloc ?_ _) | (with_reducible refine Rd.set ?_ (by first | (simp; done) | (simp; omega) | omega) _))) : Rd _ w1.heap.size w2.heap.size 6 A2 m (ents es)).fr fb (.inr (by omega)); have TL5 := Blk.fr (by (repeat (first | (with_reducible assumption) | (with_reducible exact Blk.newAt _ _ (by simp)) | (with_reducible refine Blk.drew ?_) | (with_reducible refine Blk.other ?_ (by first | (simp; done) | (simp; omega) | omega) _) | (with_reducible refine Blk.alloc ?_ _))) : Blk _ w2.heap.size 3 #[.int .i64 0, .int .i64 0, .int .i64 0, .int .i64 0, .int .i64 1, .int .i64 2, .int .i64 3]) fb (.inr (by omega)); have TL4 := Blk.fr (by (repeat (first | (with_reducible assumption) | (with_reducible exact Blk.newAt _ _ (by simp)) | (with_reducible refine Blk.drew ?_) | (with_reducible refine Blk.other ?_ (by first | (simp; done) | (simp; omega) | omega) _) | (with_reducible refine Blk.alloc ?_ _))) : Blk _ wa.heap.size 3 #[.int .i64 va, .int .i64 30, .int .i64 (-1), .int .i64 31]) fb (.inr (by omega)); replace hF := Fr.trans (by (repeat (first | (with_reducible assumption) | (with_reducible refine Fr.drew ?_) | (with_reducible exact Fr.refl _ _ _) | (with_reducible refine Fr.setOut ?_ (by first | (simp; done) | (simp; omega) | omega) _) | (with_reducible refine Fr.alloc ?_ _))) : Fr w.heap.size (w.heap.size + 1) w2 _) fb; have ltb := hrb.lt; clear fb hra
      refine hK.out _ _ ?_ (fun hHeld => ?_)
      focus (first | exact trivial | ((try dsimp only); (exact trivial))); done
      clear hK K
      (try simp only [Act.put, List.setIfInBounds_toArray, List.set_cons_zero, List.set_cons_succ])
      obtain ⟨x1, rfl⟩ := Int.eq_ofNat_of_zero_le hvb
      have hlx1 : x1 < 7 := by omega
      obtain ⟨y1, hly1, hy1x⟩ := c7t hlx1
      have hly1i : (y1 : Int) < 4 := by omega
      refine wpAnyH_to (S' := (fun W => W.cell? ⟨w2.heap.size, x1, none⟩ = some (.int .i64 (y1 : Int)))) (fun _ _ => trivial) ?_ (fun hHeld => ?_)
      focus ((try dsimp only); exact Blk.cell (T := 3) (cs := #[.int .i64 0, .int .i64 0, .int .i64 0, .int .i64 0, .int .i64 1, .int .i64 2, .int .i64 3]) (by (repeat (first | (with_reducible assumption) | (with_reducible exact Blk.newAt _ _ (by simp)) | (with_reducible refine Blk.drew ?_) | (with_reducible refine Blk.other ?_ (by first | (simp; done) | (simp; omega) | omega) _) | (with_reducible refine Blk.alloc ?_ _))) : Blk _ w2.heap.size 3 #[.int .i64 0, .int .i64 0, .int .i64 0, .int .i64 0, .int .i64 1, .int .i64 2, .int .i64 3]) x1 hy1x); done
      (try dsimp only at hHeld)
      obtain ⟨y2, hy2x⟩ := c4t va 30 (-1) 31 hly1
      refine wpAnyH_to (S' := (fun W => W.cell? ⟨w2.heap.size, x1, none⟩ = some (.int .i64 (y1 : Int)) ∧ W.cell? ⟨wa.heap.size, y1, none⟩ = some (.int .i64 y2))) (fun _ h => h.1) ?_ (fun hHeld => ?_)
      focus ((try dsimp only); exact ⟨Blk.cell (T := 3) (cs := #[.int .i64 0, .int .i64 0, .int .i64 0, .int .i64 0, .int .i64 1, .int .i64 2, .int .i64 3]) (by (repeat (first | (with_reducible assumption) | (with_reducible exact Blk.newAt _ _ (by simp)) | (with_reducible refine Blk.drew ?_) | (with_reducible refine Blk.other ?_ (by first | (simp; done) | (simp; omega) | omega) _) | (with_reducible refine Blk.alloc ?_ _))) : Blk _ w2.heap.size 3 #[.int .i64 0, .int .i64 0, .int .i64 0, .int .i64 0, .int .i64 1, .int .i64 2, .int .i64 3]) x1 hy1x, Blk.cell (T := 3) (cs := #[.int .i64 va, .int .i64 30, .int .i64 (-1), .int .i64 31]) (by (repeat (first | (with_reducible assumption) | (with_reducible exact Blk.newAt _ _ (by simp)) | (with_reducible refine Blk.drew ?_) | (with_reducible refine Blk.other ?_ (by first | (simp; done) | (simp; omega) | omega) _) | (with_reducible refine Blk.alloc ?_ _))) : Blk _ wa.heap.size 3 #[.int .i64 va, .int .i64 30, .int .i64 (-1), .int .i64 31]) y1 hy2x⟩); done
      (try dsimp only at hHeld)
      refine wpAnyH_take (i := 8) (v := ?_) (by rw [List.getElem?_toArray]; rfl) (by kernel_rfl) (by kernel_rfl) (by kernel_rfl) (fun _ _ _ h => h) (Or.inl ⟨by rfl, ?_⟩) (by assumption) ?_
      rotate_left
      focus (intro wS hSw; (try dsimp only at hSw); go_simp; (try with_reducible rfl)); done
      (try simp only [Act.put, List.setIfInBounds_toArray, List.set_cons_zero, List.set_cons_succ])
      refine wpAnyH_take (i := 9) (v := ?_) (by rw [List.getElem?_toArray]; rfl) (by kernel_rfl) (by kernel_rfl) (by kernel_rfl) (fun _ _ _ h => h) (Or.inl ⟨by rfl, ?_⟩) (by assumption) ?_
      rotate_left
      focus (intro wS hSw; (try dsimp only at hSw); go_simp; (try with_reducible rfl)); done
      (try simp only [Act.put, List.setIfInBounds_toArray, List.set_cons_zero, List.set_cons_succ])
      refine wpAnyH_take (i := 10) (v := ?_) (by rw [List.getElem?_toArray]; rfl) (by kernel_rfl) (by kernel_rfl) (by kernel_rfl) (fun _ _ _ h => h) (Or.inl ⟨by rfl, ?_⟩) (by assumption) ?_
      rotate_left
      focus (intro wS hSw; (try dsimp only at hSw); go_simp; (try with_reducible rfl)); done
      (try simp only [Act.put, List.setIfInBounds_toArray, List.set_cons_zero, List.set_cons_succ])
      refine wpAnyH_take (i := 11) (v := ?_) (by rw [List.getElem?_toArray]; rfl) (by kernel_rfl) (by kernel_rfl) (by kernel_rfl) (fun _ _ _ h => h) (Or.inl ⟨by rfl, ?_⟩) (by assumption) ?_
      rotate_left
      focus (intro wS hSw; (try dsimp only at hSw); go_simp; (try with_reducible rfl)); done
      (try simp only [Act.put, List.setIfInBounds_toArray, List.set_cons_zero, List.set_cons_succ])
      refine wpAnyH_take (i := 12) (v := ?_) (by rw [List.getElem?_toArray]; rfl) (by kernel_rfl) (by kernel_rfl) (by kernel_rfl) (fun _ _ _ h => h) (Or.inl ⟨by rfl, ?_⟩) (by assumption) ?_
      rotate_left
      focus (intro wS hSw; (try dsimp only at hSw); go_simp; (try with_reducible rfl)); done
      (try simp only [Act.put, List.setIfInBounds_toArray, List.set_cons_zero, List.set_cons_succ])
      refine wpAnyH_take (i := 13) (v := ?_) (by rw [List.getElem?_toArray]; rfl) (by kernel_rfl) (by kernel_rfl) (by kernel_rfl) (fun _ _ _ h => h) (Or.inl ⟨by rfl, ?_⟩) (by assumption) ?_
      rotate_left
      focus (intro wS hSw; (try dsimp only at hSw); go_simp; (try with_reducible rfl)); done
      (try simp only [Act.put, List.setIfInBounds_toArray, List.set_cons_zero, List.set_cons_succ])
      refine wpAnyH_take (i := 14) (v := ?_) (by rw [List.getElem?_toArray]; rfl) (by kernel_rfl) (by kernel_rfl) (by kernel_rfl) (fun _ _ _ h => h) (Or.inl ⟨by rfl, ?_⟩) (by assumption) ?_
      rotate_left
      focus (intro wS hSw; (try dsimp only at hSw); go_simp; (try with_reducible rfl)); done
      (try simp only [Act.put, List.setIfInBounds_toArray, List.set_cons_zero, List.set_cons_succ])
      refine wpAnyH_done (by kernel_rfl) ?_ _
      refine NoPanic.normal ?_
      have HR := Lib.hid hd
      have HF := Lib.hid hF
      clear hd hF
      go_wp2
      have hd := HR.out
      have hF := HF.out
      refine bodyPost_ret (v := .tuple #[.slice A2 m c2, .int .i64 v1, .int .i64 y2]) (by simp [results, Try.results15, go_sem, *]) rfl ⟨A2, m, c2, es, v1, y2, rfl, Rd.mono (by (repeat (first | (with_reducible assumption) | (with_reducible refine Rd.drew ?_) | (with_reducible refine Rd.alloc ?_ _) | (with_reducible refine Rd.set ?_ (by first | (simp; done) | (simp; omega) | omega) _))) : Rd _ w1.heap.size w2.heap.size 6 A2 m (ents es)) (by omega) (by (try simp) <;> omega), by omega, HB.out.trans (Fr.below (by (repeat (first | (with_reducible assumption) | (with_reducible refine Fr.drew ?_) | (with_reducible exact Fr.refl _ _ _) | (with_reducible refine Fr.setOut ?_ (by first | (simp; done) | (simp; omega) | omega) _) | (with_reducible refine Fr.alloc ?_ _))) : Fr w.heap.size (w.heap.size + 1) w2 _) (Nat.le_refl _) (by omega))⟩
    · go_simp
      refine (pick_any w.heap.size (0 + 1) 7 _ (by (repeat (first | (with_reducible assumption) | (with_reducible refine Rdr.drew ?_) | (with_reducible refine Rdr.set ?_ (by first | (simp; done) | (simp; omega) | omega) _) | (with_reducible refine Rdr.alloc ?_ _)))) (by omega) (by omega)).mono ?_; rintro e wb ⟨vb, rfl, hvb, ulb, -, hrb, fb⟩; replace ulb := ulb (by omega); have zb := fb.size; (try simp at zb); replace hd := (by (repeat (first | (with_reducible assumption) | (with_reducible refine Rd.drew ?_) | (with_reducible refine Rd.alloc ?_ _) | (with_reducible refine Rd.set ?_ (by first | (simp; done) | (simp; omega) | omega) _))) : Rd _ w1.heap.size w2.heap.size 6 A2 m (ents es)).fr fb (.inr (by omega)); have TL5 := Blk.fr (by (repeat (first | (with_reducible assumption) | (with_reducible exact Blk.newAt _ _ (by simp)) | (with_reducible refine Blk.drew ?_) | (with_reducible refine Blk.other ?_ (by first | (simp; done) | (simp; omega) | omega) _) | (with_reducible refine Blk.alloc ?_ _))) : Blk _ w2.heap.size 3 #[.int .i64 0, .int .i64 0, .int .i64 0, .int .i64 0, .int .i64 1, .int .i64 2, .int .i64 3]) fb (.inr (by omega)); replace hF := Fr.trans (by (repeat (first | (with_reducible assumption) | (with_reducible refine Fr.drew ?_) | (with_reducible exact Fr.refl _ _ _) | (with_reducible refine Fr.setOut ?_ (by first | (simp; done) | (simp; omega) | omega) _) | (with_reducible refine Fr.alloc ?_ _))) : Fr w.heap.size (w.heap.size + 1) w2 _) fb; have ltb := hrb.lt; clear fb hra
      refine hK.out _ _ ?_ (fun hHeld => ?_)
      focus (first | exact trivial | ((try dsimp only); (exact trivial))); done
      clear hK K
      (try simp only [Act.put, List.setIfInBounds_toArray, List.set_cons_zero, List.set_cons_succ])
      obtain ⟨x1, rfl⟩ := Int.eq_ofNat_of_zero_le hvb
      have hlx1 : x1 < 7 := by omega
      obtain ⟨y1, hly1, hy1x⟩ := c7t hlx1
      have hly1i : (y1 : Int) < 4 := by omega
      refine wpAnyH_to (S' := (fun W => W.cell? ⟨w2.heap.size, x1, none⟩ = some (.int .i64 (y1 : Int)))) (fun _ _ => trivial) ?_ (fun hHeld => ?_)
      focus ((try dsimp only); exact Blk.cell (T := 3) (cs := #[.int .i64 0, .int .i64 0, .int .i64 0, .int .i64 0, .int .i64 1, .int .i64 2, .int .i64 3]) (by (repeat (first | (with_reducible assumption) | (with_reducible exact Blk.newAt _ _ (by simp)) | (with_reducible refine Blk.drew ?_) | (with_reducible refine Blk.other ?_ (by first | (simp; done) | (simp; omega) | omega) _) | (with_reducible refine Blk.alloc ?_ _))) : Blk _ w2.heap.size 3 #[.int .i64 0, .int .i64 0, .int .i64 0, .int .i64 0, .int .i64 1, .int .i64 2, .int .i64 3]) x1 hy1x); done
      (try dsimp only at hHeld)
      refine wpAnyH_take (i := 8) (v := ?_) (by rw [List.getElem?_toArray]; rfl) (by kernel_rfl) (by kernel_rfl) (by kernel_rfl) (fun _ _ _ h => h) (Or.inl ⟨by rfl, ?_⟩) (by assumption) ?_
      rotate_left
      focus (intro wS hSw; (try dsimp only at hSw); go_simp; (try with_reducible rfl)); done
      (try simp only [Act.put, List.setIfInBounds_toArray, List.set_cons_zero, List.set_cons_succ])
      refine wpAnyH_take (i := 9) (v := ?_) (by rw [List.getElem?_toArray]; rfl) (by kernel_rfl) (by kernel_rfl) (by kernel_rfl) (fun _ _ _ h => h) (Or.inl ⟨by rfl, ?_⟩) (by assumption) ?_
      rotate_left
      focus (intro wS hSw; (try dsimp only at hSw); go_simp; (try with_reducible rfl)); done
      (try simp only [Act.put, List.setIfInBounds_toArray, List.set_cons_zero, List.set_cons_succ])
      refine wpAnyH_take (i := 12) (v := ?_) (by rw [List.getElem?_toArray]; rfl) (by kernel_rfl) (by kernel_rfl) (by kernel_rfl) (fun _ _ _ h => h) (Or.inl ⟨by rfl, ?_⟩) (by assumption) ?_
      rotate_left
      focus (intro wS hSw; (try dsimp only at hSw); go_simp; (try with_reducible rfl)); done
      (try simp only [Act.put, List.setIfInBounds_toArray, List.set_cons_zero, List.set_cons_succ])
      refine wpAnyH_take (i := 13) (v := ?_) (by rw [List.getElem?_toArray]; rfl) (by kernel_rfl) (by kernel_rfl) (by kernel_rfl) (fun _ _ _ h => h) (Or.inl ⟨by rfl, ?_⟩) (by assumption) ?_
      rotate_left
      focus (intro wS hSw; (try dsimp only at hSw); go_simp; (try with_reducible rfl)); done
      (try simp only [Act.put, List.setIfInBounds_toArray, List.set_cons_zero, List.set_cons_succ])
      refine wpAnyH_ready (rs := [4]) (by kernel_rfl) (by simp) ?_
      refine AllReadyH.cons (by rw [List.getElem?_toArray]; rfl) (fun K hK => ?_) AllReadyH.nil
      go_simp
      skip
      refine hK.out _ _ ?_ (fun hHeld => ?_)
      focus (first | exact trivial | ((try dsimp only); (exact Blk.cell (T := 3) (cs := #[.int .i64 0, .int .i64 0, .int .i64 0, .int .i64 0, .int .i64 1, .int .i64 2, .int .i64 3]) (by (repeat (first | (with_reducible assumption) | (with_reducible exact Blk.newAt _ _ (by simp)) | (with_reducible refine Blk.drew ?_) | (with_reducible refine Blk.other ?_ (by first | (simp; done) | (simp; omega) | omega) _) | (with_reducible refine Blk.alloc ?_ _))) : Blk _ w2.heap.size 3 #[.int .i64 0, .int .i64 0, .int .i64 0, .int .i64 0, .int .i64 1, .int .i64 2, .int .i64 3]) x1 hy1x))); done
      clear hK K
      (try simp only [Act.put, List.setIfInBounds_toArray, List.set_cons_zero, List.set_cons_succ])
      obtain ⟨y2, hy2x⟩ := c4t va 30 (-1) 31 hly1
      refine wpAnyH_to (S' := (fun W => W.cell? ⟨w2.heap.size, x1, none⟩ = some (.int .i64 (y1 : Int)) ∧ W.cell? ⟨wb.heap.size, y1, none⟩ = some (.int .i64 y2))) (fun _ h => h.1) ?_ (fun hHeld => ?_)
      focus ((try dsimp only); exact ⟨Blk.cell (T := 3) (cs := #[.int .i64 0, .int .i64 0, .int .i64 0, .int .i64 0, .int .i64 1, .int .i64 2, .int .i64 3]) (by (repeat (first | (with_reducible assumption) | (with_reducible exact Blk.newAt _ _ (by simp)) | (with_reducible refine Blk.drew ?_) | (with_reducible refine Blk.other ?_ (by first | (simp; done) | (simp; omega) | omega) _) | (with_reducible refine Blk.alloc ?_ _))) : Blk _ w2.heap.size 3 #[.int .i64 0, .int .i64 0, .int .i64 0, .int .i64 0, .int .i64 1, .int .i64 2, .int .i64 3]) x1 hy1x, Blk.cell (T := 3) (cs := #[.int .i64 va, .int .i64 30, .int .i64 (-1), .int .i64 31]) (by (repeat (first | (with_reducible assumption) | (with_reducible exact Blk.newAt _ _ (by simp)) | (with_reducible refine Blk.drew ?_) | (with_reducible refine Blk.other ?_ (by first | (simp; done) | (simp; omega) | omega) _) | (with_reducible refine Blk.alloc ?_ _))) : Blk _ wb.heap.size 3 #[.int .i64 va, .int .i64 30, .int .i64 (-1), .int .i64 31]) y1 hy2x⟩); done
      (try dsimp only at hHeld)
      refine wpAnyH_take (i := 10) (v := ?_) (by rw [List.getElem?_toArray]; rfl) (by kernel_rfl) (by kernel_rfl) (by kernel_rfl) (fun _ _ _ h => h) (Or.inl ⟨by rfl, ?_⟩) (by assumption) ?_
      rotate_left
      focus (intro wS hSw; (try dsimp only at hSw); go_simp; (try with_reducible rfl)); done
      (try simp only [Act.put, List.setIfInBounds_toArray, List.set_cons_zero, List.set_cons_succ])
      refine wpAnyH_take (i := 11) (v := ?_) (by rw [List.getElem?_toArray]; rfl) (by kernel_rfl) (by kernel_rfl) (by kernel_rfl) (fun _ _ _ h => h) (Or.inl ⟨by rfl, ?_⟩) (by assumption) ?_
      rotate_left
      focus (intro wS hSw; (try dsimp only at hSw); go_simp; (try with_reducible rfl)); done
      (try simp only [Act.put, List.setIfInBounds_toArray, List.set_cons_zero, List.set_cons_succ])
      refine wpAnyH_take (i := 14) (v := ?_) (by rw [List.getElem?_toArray]; rfl) (by kernel_rfl) (by kernel_rfl) (by kernel_rfl) (fun _ _ _ h => h) (Or.inl ⟨by rfl, ?_⟩) (by assumption) ?_
      rotate_left
      focus (intro wS hSw; (try dsimp only at hSw); go_simp; (try with_reducible rfl)); done
      (try simp only [Act.put, List.setIfInBounds_toArray, List.set_cons_zero, List.set_cons_succ])
      refine wpAnyH_done (by kernel_rfl) ?_ _
      refine NoPanic.normal ?_
      have HR := Lib.hid hd
      have HF := Lib.hid hF
      clear hd hF
      go_wp2
      have hd := HR.out
      have hF := HF.out
      refine bodyPost_ret (v := .tuple #[.slice A2 m c2, .int .i64 v1, .int .i64 y2]) (by simp [results, Try.results15, go_sem, *]) rfl ⟨A2, m, c2, es, v1, y2, rfl, Rd.mono (by (repeat (first | (with_reducible assumption) | (with_reducible refine Rd.drew ?_) | (with_reducible refine Rd.alloc ?_ _) | (with_reducible refine Rd.set ?_ (by first | (simp; done) | (simp; omega) | omega) _))) : Rd _ w1.heap.size w2.heap.size 6 A2 m (ents es)) (by omega) (by (try simp) <;> omega), by omega, HB.out.trans (Fr.below (by (repeat (first | (with_reducible assumption) | (with_reducible refine Fr.drew ?_) | (with_reducible exact Fr.refl _ _ _) | (with_reducible refine Fr.setOut ?_ (by first | (simp; done) | (simp; omega) | omega) _) | (with_reducible refine Fr.alloc ?_ _))) : Fr w.heap.size (w.heap.size + 1) w2 _) (Nat.le_refl _) (by omega))⟩
set_option maxHeartbeats 2000000 in
theorem DrawRevokeSteps_any : DrawsT 8 := by
  intro B T n c A bs w hr hb hn hnc
  go_enter Try.func8, Try.ntmps8
  go_wp2_with fail
  refine (DrawRevokeSome_any B T n c A bs _ hr hb hn hnc).mono ?_
  rintro e w1 ⟨A2, m, c2, es, v1, v2, rfl, hd, hm, hb1⟩
  have HD := Lib.hid (And.intro hd hb1)
  clear hd hb1 hr hb
  go_wp2
  refine bodyPost_ret (v := .tuple #[.slice A2 m c2, .int .i64 v1, .int .i64 v2]) (by simp [results, Try.results8, go_sem, *]) rfl ⟨A2, m, c2, es, v1, v2, rfl, HD.out.1, hm, HD.out.2⟩

set_option maxRecDepth 100000 in
set_option maxHeartbeats 8000000 in
theorem DrawStrongestLeft_any : DrawsT 19 := by
  intro B T n c A bs w hr hb hn hnc
  go_enter Try.func19, Try.ntmps19
  go_wp2_with fail
  refine (l20Open_any B T n c A bs _ hr hb hn hnc).mono ?_
  rintro e w1 ⟨rfl, hr1, hb1⟩
  have lg := hr1.lt
  have z1 := hb1.size
  clear hr hb
  go_wp2_with fail
  refine (l20Tree_any w.heap.size 0 9 _ hr1 (by omega) (by omega)).mono ?_
  rintro e w2 ⟨A2, m, c2, es, rfl, ho, hm, hr2, f2⟩
  have z2 := f2.size
  have hB := hb1.trans (f2.below (Nat.le_refl _) (by omega))
  have hd := ho.rd
  have HB := Lib.hid hB
  clear hr1 hb1 f2 ho hB
  have hF := Fr.refl w.heap.size (w.heap.size + 1) w2
  go_wp2_with fail
  refine wp_region_noPanic ?_
  refine wp_region_held_drew (S := (fun _ => True)) (by kernel_rfl) ?_ (fun hHeld => ?_)
  focus (first | exact trivial | ((try dsimp only); ((repeat' (first | assumption | with_reducible refine And.intro ?_ ?_)) <;> go_keep))); done
  refine wpAnyH_take (i := 0) (v := ?_) (by rw [List.getElem?_toArray]; rfl) (by kernel_rfl) (by kernel_rfl) (by kernel_rfl) (fun _ _ _ h => h) (Or.inl ⟨by rfl, ?_⟩) (by assumption) ?_
  rotate_left
  focus (intro wS hSw; (try dsimp only at hSw); go_simp; (try with_reducible rfl)); done
  (try simp only [Act.put, List.setIfInBounds_toArray, List.set_cons_zero, List.set_cons_succ])
  refine wpAnyH_take (i := 2) (v := ?_) (by rw [List.getElem?_toArray]; rfl) (by kernel_rfl) (by kernel_rfl) (by kernel_rfl) (fun _ _ _ h => h) (Or.inl ⟨by rfl, ?_⟩) (by assumption) ?_
  rotate_left
  focus (intro wS hSw; (try dsimp only at hSw); go_simp; (try with_reducible rfl)); done
  (try simp only [Act.put, List.setIfInBounds_toArray, List.set_cons_zero, List.set_cons_succ])
  refine wpAnyH_take (i := 6) (v := ?_) (by rw [List.getElem?_toArray]; rfl) (by kernel_rfl) (by kernel_rfl) (by kernel_rfl) (fun _ _ _ h => h) (Or.inl ⟨by rfl, ?_⟩) (by assumption) ?_
  rotate_left
  focus (intro wS hSw; (try dsimp only at hSw); go_simp; (try with_reducible rfl)); done
  (try simp only [Act.put, List.setIfInBounds_toArray, List.set_cons_zero, List.set_cons_succ])
  refine wpAnyH_ready (rs := [1, 3]) (by kernel_rfl) (by simp) ?_
  refine AllReadyH.cons (by rw [List.getElem?_toArray]; rfl) (fun K hK => ?_) (AllReadyH.cons (by rw [List.getElem?_toArray]; rfl) (fun K hK => ?_) AllReadyH.nil)
  · go_simp
    skip
    refine hK.out _ _ ?_ (fun hHeld => ?_)
    focus (first | exact trivial | ((try dsimp only); (exact trivial))); done
    clear hK K
    (try simp only [Act.put, List.setIfInBounds_toArray, List.set_cons_zero, List.set_cons_succ])
    refine wpAnyH_ready (rs := [3]) (by kernel_rfl) (by simp) ?_
    refine AllReadyH.cons (by rw [List.getElem?_toArray]; rfl) (fun K hK => ?_) AllReadyH.nil
    go_simp
    refine (pick_any w.heap.size (0 + 110) 4 _ (by (repeat (first | (with_reducible assumption) | (with_reducible refine Rdr.drew ?_) | (with_reducible refine Rdr.set ?_ (by first | (simp; done) | (simp; omega) | omega) _) | (with_reducible refine Rdr.alloc ?_ _)))) (by omega) (by omega)).mono ?_; rintro e wa ⟨va, rfl, hva, ula, -, hra, fa⟩; replace ula := ula (by omega); have za := fa.size; (try simp at za); replace hd := (by (repeat (first | (with_reducible assumption) | (with_reducible refine Rd.drew ?_) | (with_reducible refine Rd.alloc ?_ _) | (with_reducible refine Rd.set ?_ (by first | (simp; done) | (simp; omega) | omega) _))) : Rd _ w1.heap.size w2.heap.size 6 A2 m (ents es)).fr fa (.inr (by omega)); have TL1 := Blk.fr (by (repeat (first | (with_reducible assumption) | (with_reducible exact Blk.newAt _ _ (by simp)) | (with_reducible refine Blk.drew ?_) | (with_reducible refine Blk.other ?_ (by first | (simp; done) | (simp; omega) | omega) _) | (with_reducible refine Blk.alloc ?_ _))) : Blk _ w2.heap.size 3 #[.int .i64 4, .int .i64 4, .int .i64 4, .int .i64 6]) fa (.inr (by omega)); replace hF := Fr.trans (by (repeat (first | (with_reducible assumption) | (with_reducible refine Fr.drew ?_) | (with_reducible exact Fr.refl _ _ _) | (with_reducible refine Fr.setOut ?_ (by first | (simp; done) | (simp; omega) | omega) _) | (with_reducible refine Fr.alloc ?_ _))) : Fr w.heap.size (w.heap.size + 1) w2 _) fa; have lta := hra.lt; clear fa hr2
    refine hK.out _ _ ?_ (fun hHeld => ?_)
    focus (first | exact trivial | ((try dsimp only); (exact trivial))); done
    clear hK K
    (try simp only [Act.put, List.setIfInBounds_toArray, List.set_cons_zero, List.set_cons_succ])
    obtain ⟨x1, rfl⟩ := Int.eq_ofNat_of_zero_le hva
    have hlx1 : x1 < 4 := by omega
    obtain ⟨y1, hy1x⟩ := c4t 4 4 4 6 hlx1
    refine wpAnyH_to (S' := (fun W => W.cell? ⟨w2.heap.size, x1, none⟩ = some (.int .i64 y1))) (fun _ _ => trivial) ?_ (fun hHeld => ?_)
    focus ((try dsimp only); exact Blk.cell (T := 3) (cs := #[.int .i64 4, .int .i64 4, .int .i64 4, .int .i64 6]) (by (repeat (first | (with_reducible assumption) | (with_reducible exact Blk.newAt _ _ (by simp)) | (with_reducible refine Blk.drew ?_) | (with_reducible refine Blk.other ?_ (by first | (simp; done) | (simp; omega) | omega) _) | (with_reducible refine Blk.alloc ?_ _))) : Blk _ w2.heap.size 3 #[.int .i64 4, .int .i64 4, .int .i64 4, .int .i64 6]) x1 hy1x); done
    (try dsimp only at hHeld)
    refine wpAnyH_take (i := 4) (v := ?_) (by rw [List.getElem?_toArray]; rfl) (by kernel_rfl) (by kernel_rfl) (by kernel_rfl) (fun _ _ _ h => h) (Or.inl ⟨by rfl, ?_⟩) (by assumption) ?_
    rotate_left
    focus (intro wS hSw; (try dsimp only at hSw); go_simp; (try with_reducible rfl)); done
    (try simp only [Act.put, List.setIfInBounds_toArray, List.set_cons_zero, List.set_cons_succ])
    refine wpAnyH_take (i := 5) (v := ?_) (by rw [List.getElem?_toArray]; rfl) (by kernel_rfl) (by kernel_rfl) (by kernel_rfl) (fun _ _ _ h => h) (Or.inl ⟨by rfl, ?_⟩) (by assumption) ?_
    rotate_left
    focus (intro wS hSw; (try dsimp only at hSw); go_simp; (try with_reducible rfl)); done
    (try simp only [Act.put, List.setIfInBounds_toArray, List.set_cons_zero, List.set_cons_succ])
    refine wpAnyH_ready (rs := [7]) (by kernel_rfl) (by simp) ?_
    refine AllReadyH.cons (by rw [List.getElem?_toArray]; rfl) (fun K hK => ?_) AllReadyH.nil
    go_simp
    refine (pick_any w.heap.size (0 + 110 + 1) 5 _ (by (repeat (first | (with_reducible assumption) | (with_reducible refine Rdr.drew ?_) | (with_reducible refine Rdr.set ?_ (by first | (simp; done) | (simp; omega) | omega) _) | (with_reducible refine Rdr.alloc ?_ _)))) (by omega) (by omega)).mono ?_; rintro e wb ⟨vb, rfl, hvb, ulb, -, hrb, fb⟩; replace ulb := ulb (by omega); have zb := fb.size; (try simp at zb); replace hd := (by (repeat (first | (with_reducible assumption) | (with_reducible refine Rd.drew ?_) | (with_reducible refine Rd.alloc ?_ _) | (with_reducible refine Rd.set ?_ (by first | (simp; done) | (simp; omega) | omega) _))) : Rd _ w1.heap.size w2.heap.size 6 A2 m (ents es)).fr fb (.inr (by omega)); have TL1 := Blk.fr (by (repeat (first | (with_reducible assumption) | (with_reducible exact Blk.newAt _ _ (by simp)) | (with_reducible refine Blk.drew ?_) | (with_reducible refine Blk.other ?_ (by first | (simp; done) | (simp; omega) | omega) _) | (with_reducible refine Blk.alloc ?_ _))) : Blk _ w2.heap.size 3 #[.int .i64 4, .int .i64 4, .int .i64 4, .int .i64 6]) fb (.inr (by omega)); replace hF := Fr.trans (by (repeat (first | (with_reducible assumption) | (with_reducible refine Fr.drew ?_) | (with_reducible exact Fr.refl _ _ _) | (with_reducible refine Fr.setOut ?_ (by first | (simp; done) | (simp; omega) | omega) _) | (with_reducible refine Fr.alloc ?_ _))) : Fr w.heap.size (w.heap.size + 1) w2 _) fb; have ltb := hrb.lt; clear fb hra
    refine hK.out _ _ ?_ (fun hHeld => ?_)
    focus (first | exact trivial | ((try dsimp only); (exact Blk.cell (T := 3) (cs := #[.int .i64 4, .int .i64 4, .int .i64 4, .int .i64 6]) (by (repeat (first | (with_reducible assumption) | (with_reducible exact Blk.newAt _ _ (by simp)) | (with_reducible refine Blk.drew ?_) | (with_reducible refine Blk.other ?_ (by first | (simp; done) | (simp; omega) | omega) _) | (with_reducible refine Blk.alloc ?_ _))) : Blk _ w2.heap.size 3 #[.int .i64 4, .int .i64 4, .int .i64 4, .int .i64 6]) x1 hy1x))); done
    clear hK K
    (try simp only [Act.put, List.setIfInBounds_toArray, List.set_cons_zero, List.set_cons_succ])
    refine wpAnyH_take (i := 8) (v := ?_) (by rw [List.getElem?_toArray]; rfl) (by kernel_rfl) (by kernel_rfl) (by kernel_rfl) (fun _ _ _ h => h) (Or.inl ⟨by rfl, ?_⟩) (by assumption) ?_
    rotate_left
    focus (intro wS hSw; (try dsimp only at hSw); go_simp; (try with_reducible rfl)); done
    (try simp only [Act.put, List.setIfInBounds_toArray, List.set_cons_zero, List.set_cons_succ])
    refine wpAnyH_take (i := 9) (v := ?_) (by rw [List.getElem?_toArray]; rfl) (by kernel_rfl) (by kernel_rfl) (by kernel_rfl) (fun _ _ _ h => h) (Or.inl ⟨by rfl, ?_⟩) (by assumption) ?_
    rotate_left
    focus (intro wS hSw; (try dsimp only at hSw); go_simp; (try with_reducible rfl)); done
    (try simp only [Act.put, List.setIfInBounds_toArray, List.set_cons_zero, List.set_cons_succ])
    refine wpAnyH_take (i := 10) (v := ?_) (by rw [List.getElem?_toArray]; rfl) (by kernel_rfl) (by kernel_rfl) (by kernel_rfl) (fun _ _ _ h => h) (Or.inl ⟨by rfl, ?_⟩) (by assumption) ?_
    rotate_left
    focus (intro wS hSw; (try dsimp only at hSw); go_simp; (try with_reducible rfl)); done
    (try simp only [Act.put, List.setIfInBounds_toArray, List.set_cons_zero, List.set_cons_succ])
    refine wpAnyH_done (by kernel_rfl) ?_ _
    refine NoPanic.normal ?_
    have HR := Lib.hid hd
    have HF := Lib.hid hF
    clear hd hF
    go_wp2
    have hd := HR.out
    have hF := HF.out
    refine bodyPost_ret (v := .tuple #[.slice A2 m c2, .int .i64 y1, .int .i64 vb]) (by simp [results, Try.results19, go_sem, *]) rfl ⟨A2, m, c2, es, y1, vb, rfl, Rd.mono (by (repeat (first | (with_reducible assumption) | (with_reducible refine Rd.drew ?_) | (with_reducible refine Rd.alloc ?_ _) | (with_reducible refine Rd.set ?_ (by first | (simp; done) | (simp; omega) | omega) _))) : Rd _ w1.heap.size w2.heap.size 6 A2 m (ents es)) (by omega) (by (try simp) <;> omega), by omega, HB.out.trans (Fr.below (by (repeat (first | (with_reducible assumption) | (with_reducible refine Fr.drew ?_) | (with_reducible exact Fr.refl _ _ _) | (with_reducible refine Fr.setOut ?_ (by first | (simp; done) | (simp; omega) | omega) _) | (with_reducible refine Fr.alloc ?_ _))) : Fr w.heap.size (w.heap.size + 1) w2 _) (Nat.le_refl _) (by omega))⟩
  · go_simp
    refine (pick_any w.heap.size (0 + 110) 4 _ (by (repeat (first | (with_reducible assumption) | (with_reducible refine Rdr.drew ?_) | (with_reducible refine Rdr.set ?_ (by first | (simp; done) | (simp; omega) | omega) _) | (with_reducible refine Rdr.alloc ?_ _)))) (by omega) (by omega)).mono ?_; rintro e wa ⟨va, rfl, hva, ula, -, hra, fa⟩; replace ula := ula (by omega); have za := fa.size; (try simp at za); replace hd := (by (repeat (first | (with_reducible assumption) | (with_reducible refine Rd.drew ?_) | (with_reducible refine Rd.alloc ?_ _) | (with_reducible refine Rd.set ?_ (by first | (simp; done) | (simp; omega) | omega) _))) : Rd _ w1.heap.size w2.heap.size 6 A2 m (ents es)).fr fa (.inr (by omega)); replace hF := Fr.trans (by (repeat (first | (with_reducible assumption) | (with_reducible refine Fr.drew ?_) | (with_reducible exact Fr.refl _ _ _) | (with_reducible refine Fr.setOut ?_ (by first | (simp; done) | (simp; omega) | omega) _) | (with_reducible refine Fr.alloc ?_ _))) : Fr w.heap.size (w.heap.size + 1) w2 _) fa; have lta := hra.lt; clear fa hr2
    refine hK.out _ _ ?_ (fun hHeld => ?_)
    focus (first | exact trivial | ((try dsimp only); (exact trivial))); done
    clear hK K
    (try simp only [Act.put, List.setIfInBounds_toArray, List.set_cons_zero, List.set_cons_succ])
    refine wpAnyH_ready (rs := [1, 7]) (by kernel_rfl) (by simp) ?_
    refine AllReadyH.cons (by rw [List.getElem?_toArray]; rfl) (fun K hK => ?_) (AllReadyH.cons (by rw [List.getElem?_toArray]; rfl) (fun K hK => ?_) AllReadyH.nil)
    · go_simp
      skip
      refine hK.out _ _ ?_ (fun hHeld => ?_)
      focus (first | exact trivial | ((try dsimp only); (exact trivial))); done
      clear hK K
      (try simp only [Act.put, List.setIfInBounds_toArray, List.set_cons_zero, List.set_cons_succ])
      obtain ⟨x1, rfl⟩ := Int.eq_ofNat_of_zero_le hva
      have hlx1 : x1 < 4 := by omega
      obtain ⟨y1, hy1x⟩ := c4t 4 4 4 6 hlx1
      refine wpAnyH_to (S' := (fun W => W.cell? ⟨wa.heap.size, x1, none⟩ = some (.int .i64 y1))) (fun _ _ => trivial) ?_ (fun hHeld => ?_)
      focus ((try dsimp only); exact Blk.cell (T := 3) (cs := #[.int .i64 4, .int .i64 4, .int .i64 4, .int .i64 6]) (by (repeat (first | (with_reducible assumption) | (with_reducible exact Blk.newAt _ _ (by simp)) | (with_reducible refine Blk.drew ?_) | (with_reducible refine Blk.other ?_ (by first | (simp; done) | (simp; omega) | omega) _) | (with_reducible refine Blk.alloc ?_ _))) : Blk _ wa.heap.size 3 #[.int .i64 4, .int .i64 4, .int .i64 4, .int .i64 6]) x1 hy1x); done
      (try dsimp only at hHeld)
      refine wpAnyH_take (i := 4) (v := ?_) (by rw [List.getElem?_toArray]; rfl) (by kernel_rfl) (by kernel_rfl) (by kernel_rfl) (fun _ _ _ h => h) (Or.inl ⟨by rfl, ?_⟩) (by assumption) ?_
      rotate_left
      focus (intro wS hSw; (try dsimp only at hSw); go_simp; (try with_reducible rfl)); done
      (try simp only [Act.put, List.setIfInBounds_toArray, List.set_cons_zero, List.set_cons_succ])
      refine wpAnyH_take (i := 5) (v := ?_) (by rw [List.getElem?_toArray]; rfl) (by kernel_rfl) (by kernel_rfl) (by kernel_rfl) (fun _ _ _ h => h) (Or.inl ⟨by rfl, ?_⟩) (by assumption) ?_
      rotate_left
      focus (intro wS hSw; (try dsimp only at hSw); go_simp; (try with_reducible rfl)); done
      (try simp only [Act.put, List.setIfInBounds_toArray, List.set_cons_zero, List.set_cons_succ])
      refine wpAnyH_ready (rs := [7]) (by kernel_rfl) (by simp) ?_
      refine AllReadyH.cons (by rw [List.getElem?_toArray]; rfl) (fun K hK => ?_) AllReadyH.nil
      go_simp
      refine (pick_any w.heap.size (0 + 110 + 1) 5 _ (by (repeat (first | (with_reducible assumption) | (with_reducible refine Rdr.drew ?_) | (with_reducible refine Rdr.set ?_ (by first | (simp; done) | (simp; omega) | omega) _) | (with_reducible refine Rdr.alloc ?_ _)))) (by omega) (by omega)).mono ?_; rintro e wb ⟨vb, rfl, hvb, ulb, -, hrb, fb⟩; replace ulb := ulb (by omega); have zb := fb.size; (try simp at zb); replace hd := (by (repeat (first | (with_reducible assumption) | (with_reducible refine Rd.drew ?_) | (with_reducible refine Rd.alloc ?_ _) | (with_reducible refine Rd.set ?_ (by first | (simp; done) | (simp; omega) | omega) _))) : Rd _ w1.heap.size w2.heap.size 6 A2 m (ents es)).fr fb (.inr (by omega)); have TL1 := Blk.fr (by (repeat (first | (with_reducible assumption) | (with_reducible exact Blk.newAt _ _ (by simp)) | (with_reducible refine Blk.drew ?_) | (with_reducible refine Blk.other ?_ (by first | (simp; done) | (simp; omega) | omega) _) | (with_reducible refine Blk.alloc ?_ _))) : Blk _ wa.heap.size 3 #[.int .i64 4, .int .i64 4, .int .i64 4, .int .i64 6]) fb (.inr (by omega)); replace hF := Fr.trans (by (repeat (first | (with_reducible assumption) | (with_reducible refine Fr.drew ?_) | (with_reducible exact Fr.refl _ _ _) | (with_reducible refine Fr.setOut ?_ (by first | (simp; done) | (simp; omega) | omega) _) | (with_reducible refine Fr.alloc ?_ _))) : Fr w.heap.size (w.heap.size + 1) w2 _) fb; have ltb := hrb.lt; clear fb hra
      refine hK.out _ _ ?_ (fun hHeld => ?_)
      focus (first | exact trivial | ((try dsimp only); (exact Blk.cell (T := 3) (cs := #[.int .i64 4, .int .i64 4, .int .i64 4, .int .i64 6]) (by (repeat (first | (with_reducible assumption) | (with_reducible exact Blk.newAt _ _ (by simp)) | (with_reducible refine Blk.drew ?_) | (with_reducible refine Blk.other ?_ (by first | (simp; done) | (simp; omega) | omega) _) | (with_reducible refine Blk.alloc ?_ _))) : Blk _ wa.heap.size 3 #[.int .i64 4, .int .i64 4, .int .i64 4, .int .i64 6]) x1 hy1x))); done
      clear hK K
      (try simp only [Act.put, List.setIfInBounds_toArray, List.set_cons_zero, List.set_cons_succ])
      refine wpAnyH_take (i := 8) (v := ?_) (by rw [List.getElem?_toArray]; rfl) (by kernel_rfl) (by kernel_rfl) (by kernel_rfl) (fun _ _ _ h => h) (Or.inl ⟨by rfl, ?_⟩) (by assumption) ?_
      rotate_left
      focus (intro wS hSw; (try dsimp only at hSw); go_simp; (try with_reducible rfl)); done
      (try simp only [Act.put, List.setIfInBounds_toArray, List.set_cons_zero, List.set_cons_succ])
      refine wpAnyH_take (i := 9) (v := ?_) (by rw [List.getElem?_toArray]; rfl) (by kernel_rfl) (by kernel_rfl) (by kernel_rfl) (fun _ _ _ h => h) (Or.inl ⟨by rfl, ?_⟩) (by assumption) ?_
      rotate_left
      focus (intro wS hSw; (try dsimp only at hSw); go_simp; (try with_reducible rfl)); done
      (try simp only [Act.put, List.setIfInBounds_toArray, List.set_cons_zero, List.set_cons_succ])
      refine wpAnyH_take (i := 10) (v := ?_) (by rw [List.getElem?_toArray]; rfl) (by kernel_rfl) (by kernel_rfl) (by kernel_rfl) (fun _ _ _ h => h) (Or.inl ⟨by rfl, ?_⟩) (by assumption) ?_
      rotate_left
      focus (intro wS hSw; (try dsimp only at hSw); go_simp; (try with_reducible rfl)); done
      (try simp only [Act.put, List.setIfInBounds_toArray, List.set_cons_zero, List.set_cons_succ])
      refine wpAnyH_done (by kernel_rfl) ?_ _
      refine NoPanic.normal ?_
      have HR := Lib.hid hd
      have HF := Lib.hid hF
      clear hd hF
      go_wp2
      have hd := HR.out
      have hF := HF.out
      refine bodyPost_ret (v := .tuple #[.slice A2 m c2, .int .i64 y1, .int .i64 vb]) (by simp [results, Try.results19, go_sem, *]) rfl ⟨A2, m, c2, es, y1, vb, rfl, Rd.mono (by (repeat (first | (with_reducible assumption) | (with_reducible refine Rd.drew ?_) | (with_reducible refine Rd.alloc ?_ _) | (with_reducible refine Rd.set ?_ (by first | (simp; done) | (simp; omega) | omega) _))) : Rd _ w1.heap.size w2.heap.size 6 A2 m (ents es)) (by omega) (by (try simp) <;> omega), by omega, HB.out.trans (Fr.below (by (repeat (first | (with_reducible assumption) | (with_reducible refine Fr.drew ?_) | (with_reducible exact Fr.refl _ _ _) | (with_reducible refine Fr.setOut ?_ (by first | (simp; done) | (simp; omega) | omega) _) | (with_reducible refine Fr.alloc ?_ _))) : Fr w.heap.size (w.heap.size + 1) w2 _) (Nat.le_refl _) (by omega))⟩
    · go_simp
      refine (pick_any w.heap.size (0 + 110 + 1) 5 _ (by (repeat (first | (with_reducible assumption) | (with_reducible refine Rdr.drew ?_) | (with_reducible refine Rdr.set ?_ (by first | (simp; done) | (simp; omega) | omega) _) | (with_reducible refine Rdr.alloc ?_ _)))) (by omega) (by omega)).mono ?_; rintro e wb ⟨vb, rfl, hvb, ulb, -, hrb, fb⟩; replace ulb := ulb (by omega); have zb := fb.size; (try simp at zb); replace hd := (by (repeat (first | (with_reducible assumption) | (with_reducible refine Rd.drew ?_) | (with_reducible refine Rd.alloc ?_ _) | (with_reducible refine Rd.set ?_ (by first | (simp; done) | (simp; omega) | omega) _))) : Rd _ w1.heap.size w2.heap.size 6 A2 m (ents es)).fr fb (.inr (by omega)); replace hF := Fr.trans (by (repeat (first | (with_reducible assumption) | (with_reducible refine Fr.drew ?_) | (with_reducible exact Fr.refl _ _ _) | (with_reducible refine Fr.setOut ?_ (by first | (simp; done) | (simp; omega) | omega) _) | (with_reducible refine Fr.alloc ?_ _))) : Fr w.heap.size (w.heap.size + 1) w2 _) fb; have ltb := hrb.lt; clear fb hra
      refine hK.out _ _ ?_ (fun hHeld => ?_)
      focus (first | exact trivial | ((try dsimp only); (exact trivial))); done
      clear hK K
      (try simp only [Act.put, List.setIfInBounds_toArray, List.set_cons_zero, List.set_cons_succ])
      refine wpAnyH_take (i := 8) (v := ?_) (by rw [List.getElem?_toArray]; rfl) (by kernel_rfl) (by kernel_rfl) (by kernel_rfl) (fun _ _ _ h => h) (Or.inl ⟨by rfl, ?_⟩) (by assumption) ?_
      rotate_left
      focus (intro wS hSw; (try dsimp only at hSw); go_simp; (try with_reducible rfl)); done
      (try simp only [Act.put, List.setIfInBounds_toArray, List.set_cons_zero, List.set_cons_succ])
      refine wpAnyH_ready (rs := [1]) (by kernel_rfl) (by simp) ?_
      refine AllReadyH.cons (by rw [List.getElem?_toArray]; rfl) (fun K hK => ?_) AllReadyH.nil
      go_simp
      skip
      refine hK.out _ _ ?_ (fun hHeld => ?_)
      focus (first | exact trivial | ((try dsimp only); (exact trivial))); done
      clear hK K
      (try simp only [Act.put, List.setIfInBounds_toArray, List.set_cons_zero, List.set_cons_succ])
      obtain ⟨x1, rfl⟩ := Int.eq_ofNat_of_zero_le hva
      have hlx1 : x1 < 4 := by omega
      obtain ⟨y1, hy1x⟩ := c4t 4 4 4 6 hlx1
      refine wpAnyH_to (S' := (fun W => W.cell? ⟨wb.heap.size, x1, none⟩ = some (.int .i64 y1))) (fun _ _ => trivial) ?_ (fun hHeld => ?_)
      focus ((try dsimp only); exact Blk.cell (T := 3) (cs := #[.int .i64 4, .int .i64 4, .int .i64 4, .int .i64 6]) (by (repeat (first | (with_reducible assumption) | (with_reducible exact Blk.newAt _ _ (by simp)) | (with_reducible refine Blk.drew ?_) | (with_reducible refine Blk.other ?_ (by first | (simp; done) | (simp; omega) | omega) _) | (with_reducible refine Blk.alloc ?_ _))) : Blk _ wb.heap.size 3 #[.int .i64 4, .int .i64 4, .int .i64 4, .int .i64 6]) x1 hy1x); done
      (try dsimp only at hHeld)
      refine wpAnyH_take (i := 4) (v := ?_) (by rw [List.getElem?_toArray]; rfl) (by kernel_rfl) (by kernel_rfl) (by kernel_rfl) (fun _ _ _ h => h) (Or.inl ⟨by rfl, ?_⟩) (by assumption) ?_
      rotate_left
      focus (intro wS hSw; (try dsimp only at hSw); go_simp; (try with_reducible rfl)); done
      (try simp only [Act.put, List.setIfInBounds_toArray, List.set_cons_zero, List.set_cons_succ])
      refine wpAnyH_take (i := 5) (v := ?_) (by rw [List.getElem?_toArray]; rfl) (by kernel_rfl) (by kernel_rfl) (by kernel_rfl) (fun _ _ _ h => h) (Or.inl ⟨by rfl, ?_⟩) (by assumption) ?_
      rotate_left
      focus (intro wS hSw; (try dsimp only at hSw); go_simp; (try with_reducible rfl)); done
      (try simp only [Act.put, List.setIfInBounds_toArray, List.set_cons_zero, List.set_cons_succ])
      refine wpAnyH_take (i := 9) (v := ?_) (by rw [List.getElem?_toArray]; rfl) (by kernel_rfl) (by kernel_rfl) (by kernel_rfl) (fun _ _ _ h => h) (Or.inl ⟨by rfl, ?_⟩) (by assumption) ?_
      rotate_left
      focus (intro wS hSw; (try dsimp only at hSw); go_simp; (try with_reducible rfl)); done
      (try simp only [Act.put, List.setIfInBounds_toArray, List.set_cons_zero, List.set_cons_succ])
      refine wpAnyH_take (i := 10) (v := ?_) (by rw [List.getElem?_toArray]; rfl) (by kernel_rfl) (by kernel_rfl) (by kernel_rfl) (fun _ _ _ h => h) (Or.inl ⟨by rfl, ?_⟩) (by assumption) ?_
      rotate_left
      focus (intro wS hSw; (try dsimp only at hSw); go_simp; (try with_reducible rfl)); done
      (try simp only [Act.put, List.setIfInBounds_toArray, List.set_cons_zero, List.set_cons_succ])
      refine wpAnyH_done (by kernel_rfl) ?_ _
      refine NoPanic.normal ?_
      have HR := Lib.hid hd
      have HF := Lib.hid hF
      clear hd hF
      go_wp2
      have hd := HR.out
      have hF := HF.out
      refine bodyPost_ret (v := .tuple #[.slice A2 m c2, .int .i64 y1, .int .i64 vb]) (by simp [results, Try.results19, go_sem, *]) rfl ⟨A2, m, c2, es, y1, vb, rfl, Rd.mono (by (repeat (first | (with_reducible assumption) | (with_reducible refine Rd.drew ?_) | (with_reducible refine Rd.alloc ?_ _) | (with_reducible refine Rd.set ?_ (by first | (simp; done) | (simp; omega) | omega) _))) : Rd _ w1.heap.size w2.heap.size 6 A2 m (ents es)) (by omega) (by (try simp) <;> omega), by omega, HB.out.trans (Fr.below (by (repeat (first | (with_reducible assumption) | (with_reducible refine Fr.drew ?_) | (with_reducible exact Fr.refl _ _ _) | (with_reducible refine Fr.setOut ?_ (by first | (simp; done) | (simp; omega) | omega) _) | (with_reducible refine Fr.alloc ?_ _))) : Fr w.heap.size (w.heap.size + 1) w2 _) (Nat.le_refl _) (by omega))⟩
end Go.Proofs.Ytpgmfjipkhldmaa
