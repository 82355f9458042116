/- Contracts of NewQueues (impl and spec) and of the laws' markers at empty rows. -/
import Derived.Test.YtccepnhnmpmkdaaQueues1
namespace Go.Proofs.Ytccepnhnmpmkdaa
set_option linter.unusedVariables false
open Go.RowKit
def nils (n : Nat) : List Value := List.replicate n (.slice none 0 0)
theorem rows_nils {w : World} {B T n : Nat} {A : Option Addr} (h : Rd w B T 1 A n (nils n)) : Rows w B T A n (List.replicate n []) := by
  refine ⟨by simp, nils n, h, fun k ys hk => ?_⟩
  have hkn : k < n := by have := (List.getElem?_eq_some_iff.1 hk).1; simpa using this
  rw [List.getElem?_replicate, if_pos hkn] at hk
  injection hk with hk
  subst hk
  exact ⟨none, 0, by unfold nils; rw [List.getElem?_replicate, if_pos hkn]; rfl, Nat.le_refl _, Rd.nil _ _ _ _ _⟩
def NewNils (w : World) (e : Ending) (w' : World) : Prop :=
  ∃ A, e = .returned (queues A 8 8) ∧ Own w' w.heap.size w'.heap.size 38 1 A 8 8 (nils 8) ∧ Below w.heap.size w w'
set_option maxHeartbeats 1000000 in
theorem iNewQueues_any (w : World) : Calls Try.prog 12 #[] w (NewNils w) := by
  obtain ⟨i0, hi0, hz0, hz1, hz2⟩ := info_parts Try.infoRow
  go_enter Try.func12, Try.ntmps12
  go_wp2_with (at_make; refine wpList_mk _ rfl _ _ 22 rfl 38 i0 (.slice none 0 0) 1 Try.underlying22 hi0 hz0 hz1 _ _ _ _ 8 rfl rfl rfl rfl (by rw [hz2]; omega) (by unfold maxLen; omega) ?_; intro w1 hown hb1 hs1; rw [Nat.mul_one, show (Value.slice none 0 0).cells = #[.slice none 0 0] from rfl, toList_madeCells_one] at hown; change Own _ _ _ _ _ _ _ _ (nils 8) at hown; rw [show (w.alloc (.cells #[.slice none 0 0] 24)).heap.size = w.heap.size + 1 from by simp] at hown; have TR := (Blk.new w 24 #[.slice none 0 0]).below hb1; have r0 := TR.cell 0 rfl; have rf := TR.free; have lR := TR.lt; have hB := Below.via (by (repeat (first | (with_reducible assumption) | (with_reducible exact Below.refl _ _) | (with_reducible refine Below.setCell ?_ (by first | (simp; done) | (simp; omega) | omega) _) | (with_reducible refine Below.alloc ?_ (by first | (simp; done) | (simp; omega) | omega) _) | (with_reducible refine Below.drew ?_) | (with_reducible refine Below.drewN ?_ _))) : Below w.heap.size w _) hb1; have z1 := hb1.size; (try simp at z1); replace hown := hown.mono (B' := w.heap.size + 1) (T' := w1.heap.size) (by omega) (by simp at hs1; omega); clear hs1 hb1)
  refine bodyPost_ret (v := queues (some ⟨w.heap.size + 1, 0, none⟩) 8 8) (by simp [results, Try.results12, go_sem, *]) rfl ⟨_, rfl, Own.mono (B := w.heap.size + 1) (T := w1.heap.size) (by (repeat (first | (with_reducible assumption) | (with_reducible refine Own.alloc ?_ _) | (with_reducible refine Own.drew ?_) | (with_reducible refine Own.set ?_ (by first | (simp; done) | (simp; omega) | omega) _)))) (by omega) (by simp), by (repeat (first | (with_reducible assumption) | (with_reducible exact Below.refl _ _) | (with_reducible refine Below.setCell ?_ (by first | (simp; done) | (simp; omega) | omega) _) | (with_reducible refine Below.alloc ?_ (by first | (simp; done) | (simp; omega) | omega) _) | (with_reducible refine Below.drew ?_) | (with_reducible refine Below.drewN ?_ _)))⟩
set_option maxHeartbeats 1000000 in
theorem sNewQueues_any (w : World) : Calls Try.prog 11 #[] w (NewNils w) := by
  obtain ⟨i0, hi0, hz0, hz1, hz2⟩ := info_parts Try.infoRow
  go_enter Try.func11, Try.ntmps11
  go_wp2_with (at_make; refine wpList_mk _ rfl _ _ 22 rfl 38 i0 (.slice none 0 0) 1 Try.underlying22 hi0 hz0 hz1 _ _ _ _ 8 rfl rfl rfl rfl (by rw [hz2]; omega) (by unfold maxLen; omega) ?_; intro w1 hown hb1 hs1; rw [Nat.mul_one, show (Value.slice none 0 0).cells = #[.slice none 0 0] from rfl, toList_madeCells_one] at hown; change Own _ _ _ _ _ _ _ _ (nils 8) at hown; rw [show (w.alloc (.cells #[.slice none 0 0] 24)).heap.size = w.heap.size + 1 from by simp] at hown; have TR := (Blk.new w 24 #[.slice none 0 0]).below hb1; have r0 := TR.cell 0 rfl; have rf := TR.free; have lR := TR.lt; have hB := Below.via (by (repeat (first | (with_reducible assumption) | (with_reducible exact Below.refl _ _) | (with_reducible refine Below.setCell ?_ (by first | (simp; done) | (simp; omega) | omega) _) | (with_reducible refine Below.alloc ?_ (by first | (simp; done) | (simp; omega) | omega) _) | (with_reducible refine Below.drew ?_) | (with_reducible refine Below.drewN ?_ _))) : Below w.heap.size w _) hb1; have z1 := hb1.size; (try simp at z1); replace hown := hown.mono (B' := w.heap.size + 1) (T' := w1.heap.size) (by omega) (by simp at hs1; omega); clear hs1 hb1)
  refine bodyPost_ret (v := queues (some ⟨w.heap.size + 1, 0, none⟩) 8 8) (by simp [results, Try.results11, go_sem, *]) rfl ⟨_, rfl, Own.mono (B := w.heap.size + 1) (T := w1.heap.size) (by (repeat (first | (with_reducible assumption) | (with_reducible refine Own.alloc ?_ _) | (with_reducible refine Own.drew ?_) | (with_reducible refine Own.set ?_ (by first | (simp; done) | (simp; omega) | omega) _)))) (by omega) (by simp), by (repeat (first | (with_reducible assumption) | (with_reducible exact Below.refl _ _) | (with_reducible refine Below.setCell ?_ (by first | (simp; done) | (simp; omega) | omega) _) | (with_reducible refine Below.alloc ?_ (by first | (simp; done) | (simp; omega) | omega) _) | (with_reducible refine Below.drew ?_) | (with_reducible refine Below.drewN ?_ _)))⟩
theorem nils_at {w : World} {B T n k : Nat} {A : Option Addr} (h : Rd w B T 1 A n (nils n)) (hk : k < n) : ∃ b o, A = some ⟨b, o, none⟩ ∧ b < w.heap.size ∧ w.cell? ⟨b, o + k, none⟩ = some (.slice none 0 0) := by
  obtain ⟨b, o, h1, _, _, h4⟩ := h.2 (by omega)
  have hc := h4 k (.slice none 0 0) (by unfold nils; rw [List.getElem?_replicate, if_pos hk])
  exact ⟨b, o, h1, World.block_lt_of_cell? w _ hc, hc⟩
set_option maxHeartbeats 1000000 in
theorem markIntSS_nils (B T n c : Nat) (A : Option Addr) (w : World) (hr : Rd w B T 1 A n (nils n)) (hn : n ≤ 1048576) :
    Calls Try.prog 31 #[.slice A n c, .int .i64 1] w fun e w' => e = .returned (.int .i64 1) ∧ Below w.heap.size w w' := by
  go_enter Try.func31, Try.ntmps31
  go_wp2
  go_loopw [1, 5] (fun l i wr => ∃ k : Nat, k ≤ n ∧ i = .int .i64 k ∧ l = .int .i64 1 ∧ Below w.heap.size w wr) (fun _ i _ => n - (intOf i).toNat)
  case atStart => exact ⟨0, by omega, rfl, rfl, Below.refl _ _⟩
  case round =>
    obtain ⟨k, hk, rfl, rfl, hb⟩ := hrel
    by_cases hlt : k < n
    · obtain ⟨b, o, rfl, hbl, hc⟩ := nils_at (hr.below hb) hlt
      have hkk : (k : Int) < (n : Int) := by omega
      have hk0 : (0 : Int) ≤ (k : Int) := by omega
      clear hr
      go_wp2_with fail
      refine (markIntS_any 0 0 0 0 none [] 1 _ (Own.nil _ _ _ _ _ _) (by omega) (by omega) (by omega)).mono ?_
      rintro e w1 ⟨rfl, -, f1⟩
      have hb1 := f1.below0
      go_wp2
      go_roundw
      case rel => exact ⟨k + 1, by omega, by go_num, by go_num, Below.via hb hb1⟩
      case measure => simp [intOf]; omega
    · have hkn : k = n := by omega
      subst hkn
      clear hr
      go_wp2
      go_ret
      exact ⟨rfl, hb⟩
set_option maxHeartbeats 1000000 in
theorem heldIntSS_nils (B T n c : Nat) (A : Option Addr) (w : World) (hr : Rd w B T 1 A n (nils n)) (hn : n ≤ 1048576) :
    Calls Try.prog 32 #[.slice A n c, .int .i64 1] w fun e w' => e = .returned (.int .i64 1) ∧ Below w.heap.size w w' := by
  go_enter Try.func32, Try.ntmps32
  go_wp2
  go_loopw [1, 5] (fun l i wr => ∃ k : Nat, k ≤ n ∧ i = .int .i64 k ∧ l = .int .i64 1 ∧ Below w.heap.size w wr) (fun _ i _ => n - (intOf i).toNat)
  case atStart => exact ⟨0, by omega, rfl, rfl, Below.refl _ _⟩
  case round =>
    obtain ⟨k, hk, rfl, rfl, hb⟩ := hrel
    by_cases hlt : k < n
    · obtain ⟨b, o, rfl, hbl, hc⟩ := nils_at (hr.below hb) hlt
      have hkk : (k : Int) < (n : Int) := by omega
      have hk0 : (0 : Int) ≤ (k : Int) := by omega
      clear hr
      go_wp2_with fail
      refine (heldIntS_any 0 0 0 0 none 1 _ (Rd.nil _ _ _ _ _) (by omega) (by omega) (by omega)).mono ?_
      rintro e w1 ⟨rfl, hb1⟩
      go_wp2
      go_roundw
      case rel => exact ⟨k + 1, by omega, by go_num, by go_num, Below.via hb hb1⟩
      case measure => simp [intOf]; omega
    · have hkn : k = n := by omega
      subst hkn
      clear hr
      go_wp2
      go_ret
      exact ⟨rfl, hb⟩
set_option maxHeartbeats 400000 in
theorem markQueues_nils (B T n c : Nat) (A : Option Addr) (w : World) (hr : Rd w B T 1 A n (nils n)) (hn : n ≤ 1048576) :
    Calls Try.prog 14 #[queues A n c, .int .i64 1] w fun e w' => e = .returned (.int .i64 1) ∧ Below w.heap.size w w' := by
  go_enter Try.func14, Try.ntmps14
  go_wp2_with fail
  refine (markIntSS_nils _ _ _ _ _ _ (hr.alloc _) hn).mono ?_
  rintro e w1 ⟨rfl, hb1⟩
  go_wp2
  go_ret
  exact ⟨rfl, Below.via (by (repeat (first | (with_reducible assumption) | (with_reducible exact Below.refl _ _) | (with_reducible refine Below.setCell ?_ (by first | (simp; done) | (simp; omega) | omega) _) | (with_reducible refine Below.alloc ?_ (by first | (simp; done) | (simp; omega) | omega) _) | (with_reducible refine Below.drew ?_) | (with_reducible refine Below.drewN ?_ _))) : Below w.heap.size w _) hb1⟩
set_option maxHeartbeats 400000 in
theorem heldQueues_nils (B T n c : Nat) (A : Option Addr) (w : World) (hr : Rd w B T 1 A n (nils n)) (hn : n ≤ 1048576) :
    Calls Try.prog 15 #[queues A n c, .int .i64 1] w fun e w' => e = .returned (.int .i64 1) ∧ Below w.heap.size w w' := by
  go_enter Try.func15, Try.ntmps15
  go_wp2_with fail
  refine (heldIntSS_nils _ _ _ _ _ _ (hr.alloc _) hn).mono ?_
  rintro e w1 ⟨rfl, hb1⟩
  go_wp2
  go_ret
  exact ⟨rfl, Below.via (by (repeat (first | (with_reducible assumption) | (with_reducible exact Below.refl _ _) | (with_reducible refine Below.setCell ?_ (by first | (simp; done) | (simp; omega) | omega) _) | (with_reducible refine Below.alloc ?_ (by first | (simp; done) | (simp; omega) | omega) _) | (with_reducible refine Below.drew ?_) | (with_reducible refine Below.drewN ?_ _))) : Below w.heap.size w _) hb1⟩
end Go.Proofs.Ytccepnhnmpmkdaa
