/- Contracts of l8Copy and ReadyAdd: queues whose memory is the call's own. -/
import Derived.Test.YtccepnhnmpmkdaaQueues5
import Derived.Test.YtccepnhnmpmkdaaQPlain
import Derived.Test.YtccepnhnmpmkdaaQOwn
namespace Go.Proofs.Ytccepnhnmpmkdaa
set_option linter.unusedVariables false
open Go.RowKit
theorem Own.setT {w : World} {B T size n c b : Nat} {e e' : TypeId} {A : Option Addr} {xs : List Value} {cs : Array Value} (h : Own w B T e size A n c xs) (hb : Blk w b e' cs) (he : e' ≠ e) (i : Nat) (u : Value) : Own (w.setCell ⟨b, i, none⟩ u) B T e size A n c xs := by
  refine ⟨h.1, h.2.imp id fun ⟨g, o, cur, h1, h2, h3, h4, hr⟩ => ⟨g, o, cur, h1, h2, h3, ?_, hr⟩⟩
  have hne : g ≠ b := by
    intro hgb
    subst hgb
    unfold Blk at hb
    rw [h4] at hb
    injection hb with hb
    injection hb with _ hb
    exact he hb.symm
  rw [← h4]
  exact Below.heap_setCell _ ⟨b, i, none⟩ _ _ hne
theorem QOwn.setT {w : World} {B n c b : Nat} {A : Option Addr} {yss : List (List Int)} {e' : TypeId} {cs : Array Value} (h : QOwn w B A n c yss) (hb : Blk w b e' cs) (h1' : e' ≠ 38) (h2' : e' ≠ 3) (i : Nat) (u : Value) : QOwn (w.setCell ⟨b, i, none⟩ u) B A n c yss := by
  obtain ⟨h0, cs, L, H, lo, hi, h1, h2, h3, h4, h5, h6⟩ := h
  refine ⟨h0, cs, L, H, lo, hi, h1.setT hb h1' i u, h2, by simpa using h3, fun k ys hk => ?_, fun k hk => ?_, h6⟩
  · obtain ⟨A', c', x1, x2⟩ := h4 k ys hk
    exact ⟨A', c', x1, x2.setT hb h2' i u⟩
  · have := h5 k hk
    simpa using this
theorem slice_one {v : Value} (h : v.oneCell' = true) : ∀ u ∈ [v], u.oneCell' = true := by
  intro u hu
  rw [List.mem_singleton] at hu
  subst hu
  exact h
/-- A literal that has just been laid. -/
theorem lit_rd (w : World) (cs : Array Value) (e : TypeId) (n b : Nat) (hb : b = w.heap.size) (hs : cs.size = n) (hn : n ≤ maxLen) : Rd (w.alloc (.cells cs e)) b (b + 1) 1 (some ⟨b, 0, none⟩) n cs.toList := by
  subst hb
  exact (Own.new (e := e) (size := 1) w cs n hn (by omega)).rd
/-- Queues of the call's own. -/
def NewQ (w : World) (n : Nat) (yss : List (List Int)) (e : Ending) (w' : World) : Prop :=
  ∃ A c, e = .returned (queues A n c) ∧ QOwn w' w.heap.size A n c yss ∧ Below w.heap.size w w'
set_option maxHeartbeats 4000000 in
theorem l8Copy_any (B T n c : Nat) (A : Option Addr) (yss : List (List Int)) (w : World) (hr : Rows w B T A n yss) (hs : sizeOfRows yss ≤ 1048576) :
    Calls Try.prog 62 #[queues A n c] w (NewQ w n yss) := by
  obtain ⟨i0, hi0, hz0, hz1, hz2⟩ := info_parts Try.infoInt
  obtain ⟨j0, hj0, hy0, hy1, hy2⟩ := info_parts Try.infoRow
  have hl := hr.len
  have HL := Lib.hid hl
  have hn : n ≤ 1048576 := by unfold sizeOfRows at hs; omega
  clear hl
  replace hr := hr.here
  have TQ := ((Blk.new w 24 #[.slice A n c]).alloc (.cells #[.slice none 0 0] 24)).alloc (.cells #[.slice none 0 0] 24)
  have TR := (Blk.newAt (w := w.alloc (.cells #[.slice A n c] 24)) (n := w.heap.size + 1) 24 #[.slice none 0 0] (by simp)).alloc (.cells #[.slice none 0 0] 24)
  have TX := Blk.newAt (w := (w.alloc (.cells #[.slice A n c] 24)).alloc (.cells #[.slice none 0 0] 24)) (n := w.heap.size + 1 + 1) 24 #[.slice none 0 0] (by simp)
  have hB : Below w.heap.size w (((w.alloc (.cells #[.slice A n c] 24)).alloc (.cells #[.slice none 0 0] 24)).alloc (.cells #[.slice none 0 0] 24)) := by (repeat (first | (with_reducible assumption) | (with_reducible exact Below.refl _ _) | (with_reducible refine Below.setCell ?_ (by first | (simp; done) | (simp; omega) | omega) _) | (with_reducible refine Below.alloc ?_ (by first | (simp; done) | (simp; omega) | omega) _) | (with_reducible refine Below.drew ?_) | (with_reducible refine Below.drewN ?_ _)))
  go_enter Try.func62, Try.ntmps62
  go_wp2
  go_loopw [4] (fun i wr => ∃ p : Nat, p ≤ n ∧ i = .int .i64 p ∧ ∃ (A2 : Option Addr) (c2 : Nat), Blk wr w.heap.size 24 #[.slice A n c] ∧ Blk wr (w.heap.size + 1) 24 #[.slice none 0 0] ∧ Blk wr (w.heap.size + 1 + 1) 24 #[.slice A2 p c2] ∧ QOwn wr (w.heap.size + 1 + 1 + 1) A2 p c2 (yss.take p) ∧ Below w.heap.size w wr) (fun i _ => n - (intOf i).toNat)
  case atStart => exact ⟨0, by omega, rfl, none, 0, TQ, TR, TX, by rw [List.take_zero]; exact QOwn.nil (by simp), hB⟩
  case round =>
    clear TQ TR TX hB
    obtain ⟨p, hp, rfl, A2, c2, TQ, TR, TX, hq, hB⟩ := hrel
    have lQ := TQ.lt
    have lR := TR.lt
    have lX := TX.lt
    have q0 := TQ.cell 0 rfl
    have x0 := TX.cell 0 rfl
    by_cases hlt : p < n
    · obtain ⟨b, o, ys, A', c', rfl, hbl, hy, hc0, hle, hrow⟩ := hr.at_ hlt
      have hsm := row_small hs hy
      obtain ⟨k1, hk1⟩ : ∃ k1, ys.length = k1 := ⟨_, rfl⟩
      rw [hk1] at hc0 hle hrow hsm
      replace hrow := hrow.below hB
      have hwr := lX
      have hcw := (hB.cell (p := ⟨b, o + p, none⟩) hbl).trans hc0
      have HK := Lib.hid hk1
      have hpp : (p : Int) < (n : Int) := by omega
      have hp0 : (0 : Int) ≤ (p : Int) := by omega
      obtain ⟨cs, L, H, oO, hL, hH, push⟩ := hq.push (by omega)
      have HY := Lib.hid hy
      have HP := Lib.hid push
      clear hy hr hq hk1 push
      go_wp2_with fail
      refine wp_region_noPanic ?_
      refine wp_region_held_drew (S := (fun W => W.cell? ⟨w.heap.size, 0, none⟩ = some (.slice (some ⟨b, o, none⟩) n c) ∧ W.cell? ⟨b, o + p, none⟩ = some (.slice A' k1 c'))) (by kernel_rfl) ?_ (fun hHeld => ?_)
      focus (first | exact trivial | ((try dsimp only); ((repeat' (first | assumption | with_reducible refine And.intro ?_ ?_)) <;> go_keep))); done
      refine wpAnyH_take (i := 0) (v := ?_) (by rw [List.getElem?_toArray]; rfl) (by kernel_rfl) (by kernel_rfl) (by kernel_rfl) (fun _ _ _ h => h) (Or.inl ⟨by rfl, ?_⟩) (by assumption) ?_
      rotate_left
      focus (intro wS hSw; (try dsimp only at hSw); go_simp; (try with_reducible rfl)); done
      (try simp only [Act.put, List.setIfInBounds_toArray, List.set_cons_zero, List.set_cons_succ])
      refine wpAnyH_take (i := 3) (v := ?_) (by rw [List.getElem?_toArray]; rfl) (by kernel_rfl) (by kernel_rfl) (by kernel_rfl) (fun _ _ _ h => h) (Or.inl ⟨by rfl, ?_⟩) (by assumption) ?_
      rotate_left
      focus (intro wS hSw; (try dsimp only at hSw); go_simp; (try with_reducible rfl)); done
      (try simp only [Act.put, List.setIfInBounds_toArray, List.set_cons_zero, List.set_cons_succ])
      refine wpAnyH_take (i := 4) (v := ?_) (by rw [List.getElem?_toArray]; rfl) (by kernel_rfl) (by kernel_rfl) (by kernel_rfl) (fun _ _ _ h => h) (Or.inl ⟨by rfl, ?_⟩) (by assumption) ?_
      rotate_left
      focus (intro wS hSw; (try dsimp only at hSw); go_simp; (try with_reducible rfl)); done
      (try simp only [Act.put, List.setIfInBounds_toArray, List.set_cons_zero, List.set_cons_succ])
      refine wpAnyH_take (i := 5) (v := ?_) (by rw [List.getElem?_toArray]; rfl) (by kernel_rfl) (by kernel_rfl) (by kernel_rfl) (fun _ _ _ h => h) (Or.inl ⟨by rfl, ?_⟩) (by assumption) ?_
      rotate_left
      focus (intro wS hSw; (try dsimp only at hSw); go_simp; (try with_reducible rfl)); done
      (try simp only [Act.put, List.setIfInBounds_toArray, List.set_cons_zero, List.set_cons_succ])
      refine wpAnyH_take (i := 6) (v := ?_) (by rw [List.getElem?_toArray]; rfl) (by kernel_rfl) (by kernel_rfl) (by kernel_rfl) (fun _ _ _ h => h) (Or.inl ⟨by rfl, ?_⟩) (by assumption) ?_
      rotate_left
      focus (intro wS hSw; (try dsimp only at hSw); go_simp; (try with_reducible rfl)); done
      (try simp only [Act.put, List.setIfInBounds_toArray, List.set_cons_zero, List.set_cons_succ])
      refine wpAnyH_take (i := 7) (v := ?_) (by rw [List.getElem?_toArray]; rfl) (by kernel_rfl) (by kernel_rfl) (by kernel_rfl) (fun _ _ _ h => h) (Or.inl ⟨by rfl, ?_⟩) (by assumption) ?_
      rotate_left
      focus (intro wS hSw; (try dsimp only at hSw); go_simp; (try with_reducible rfl)); done
      (try simp only [Act.put, List.setIfInBounds_toArray, List.set_cons_zero, List.set_cons_succ])
      refine wpAnyH_ready (rs := [1, 2]) (by kernel_rfl) (by simp) ?_
      refine AllReadyH.cons (by rw [List.getElem?_toArray]; rfl) (fun K hK => ?_) (AllReadyH.cons (by rw [List.getElem?_toArray]; rfl) (fun K hK => ?_) AllReadyH.nil)
      · go_simp
        skip
        refine hK.out _ _ ?_ (fun hHeld => ?_)
        focus (first | exact trivial | ((try dsimp only); (exact ⟨Blk.cell (by (repeat (first | (with_reducible assumption) | (with_reducible refine Blk.drew ?_) | (with_reducible refine Blk.other ?_ (by first | (simp; done) | (simp; omega) | omega) _) | (with_reducible refine Blk.alloc ?_ _))) : Blk _ w.heap.size 24 #[.slice (some ⟨b, o, none⟩) n c]) 0 rfl, (Below.cell (by (repeat (first | (with_reducible assumption) | (with_reducible exact Below.refl _ _) | (with_reducible refine Below.setCell ?_ (by first | (simp; done) | (simp; omega) | omega) _) | (with_reducible refine Below.alloc ?_ (by first | (simp; done) | (simp; omega) | omega) _) | (with_reducible refine Below.drew ?_) | (with_reducible refine Below.drewN ?_ _))) : Below w.heap.size w _) (p := ⟨b, o + p, none⟩) hbl).trans hc0⟩))); done
        clear hK K
        (try simp only [Act.put, List.setIfInBounds_toArray, List.set_cons_zero, List.set_cons_succ])
        refine wpAnyH_ready (rs := [2]) (by kernel_rfl) (by simp) ?_
        refine AllReadyH.cons (by rw [List.getElem?_toArray]; rfl) (fun K hK => ?_) AllReadyH.nil
        go_simp
        skip
        refine hK.out _ _ ?_ (fun hHeld => ?_)
        focus (first | exact trivial | ((try dsimp only); (exact ⟨Blk.cell (by (repeat (first | (with_reducible assumption) | (with_reducible refine Blk.drew ?_) | (with_reducible refine Blk.other ?_ (by first | (simp; done) | (simp; omega) | omega) _) | (with_reducible refine Blk.alloc ?_ _))) : Blk _ w.heap.size 24 #[.slice (some ⟨b, o, none⟩) n c]) 0 rfl, (Below.cell (by (repeat (first | (with_reducible assumption) | (with_reducible exact Below.refl _ _) | (with_reducible refine Below.setCell ?_ (by first | (simp; done) | (simp; omega) | omega) _) | (with_reducible refine Below.alloc ?_ (by first | (simp; done) | (simp; omega) | omega) _) | (with_reducible refine Below.drew ?_) | (with_reducible refine Below.drewN ?_ _))) : Below w.heap.size w _) (p := ⟨b, o + p, none⟩) hbl).trans hc0⟩))); done
        clear hK K
        (try simp only [Act.put, List.setIfInBounds_toArray, List.set_cons_zero, List.set_cons_succ])
        refine wpAnyH_ready (rs := [8]) (by kernel_rfl) (by simp) ?_
        refine AllReadyH.cons (by rw [List.getElem?_toArray]; rfl) (fun K hK => ?_) AllReadyH.nil
        refine step_app _ rfl (.tmp 15) (.tmp 20) 38 rfl 3 i0 (.int .i64 0) 1 8 Try.underlying38 hi0 hz0 hz1 hz2 rfl (by omega) wr.heap.size 0 0 w.heap.size (some ⟨wr.heap.size, 0, none⟩) A' 0 0 k1 c' [] (ints ys) rfl rfl (Own.nil _ _ _ _ _ _) (by (repeat (first | (with_reducible assumption) | (with_reducible refine Rd.drew ?_) | (with_reducible refine Rd.alloc ?_ _) | (with_reducible refine Rd.set ?_ (by first | (simp; done) | (simp; omega) | omega) _)))) (ints_one _) (by unfold maxLen; omega) (by omega) (by (try simp) <;> omega) ?_; intro A1 c1 w1 o1 f1; rw [Nat.zero_add, List.nil_append] at o1; rw [Nat.zero_add]; have TX1 := Blk.fr (by (repeat (first | (with_reducible assumption) | (with_reducible refine Blk.drew ?_) | (with_reducible refine Blk.other ?_ (by first | (simp; done) | (simp; omega) | omega) _) | (with_reducible refine Blk.alloc ?_ _))) : Blk _ (w.heap.size + 1 + 1) 24 #[.slice A2 p c2]) f1 (.inr (Nat.zero_le _)); have TR1 := Blk.fr (by (repeat (first | (with_reducible assumption) | (with_reducible refine Blk.drew ?_) | (with_reducible refine Blk.other ?_ (by first | (simp; done) | (simp; omega) | omega) _) | (with_reducible refine Blk.alloc ?_ _))) : Blk _ (w.heap.size + 1) 24 #[.slice none 0 0]) f1 (.inr (Nat.zero_le _)); have TQ1 := Blk.fr (by (repeat (first | (with_reducible assumption) | (with_reducible refine Blk.drew ?_) | (with_reducible refine Blk.other ?_ (by first | (simp; done) | (simp; omega) | omega) _) | (with_reducible refine Blk.alloc ?_ _))) : Blk _ w.heap.size 24 #[.slice (some ⟨b, o, none⟩) n c]) f1 (.inr (Nat.zero_le _)); have hB1 := Below.via (by (repeat (first | (with_reducible assumption) | (with_reducible exact Below.refl _ _) | (with_reducible refine Below.setCell ?_ (by first | (simp; done) | (simp; omega) | omega) _) | (with_reducible refine Below.alloc ?_ (by first | (simp; done) | (simp; omega) | omega) _) | (with_reducible refine Below.drew ?_) | (with_reducible refine Below.drewN ?_ _))) : Below w.heap.size w _) f1.below0; have hq1 := Below.via (by (repeat (first | (with_reducible assumption) | (with_reducible exact Below.refl _ _) | (with_reducible refine Below.setCell ?_ (by first | (simp; done) | (simp; omega) | omega) _) | (with_reducible refine Below.alloc ?_ (by first | (simp; done) | (simp; omega) | omega) _) | (with_reducible refine Below.drew ?_) | (with_reducible refine Below.drewN ?_ _))) : Below wr.heap.size wr _) f1.below0; have oO1 := Own.below (by (repeat (first | (with_reducible assumption) | (with_reducible refine Own.alloc ?_ _) | (with_reducible refine Own.drew ?_) | (with_reducible refine Own.set ?_ (by first | (simp; done) | (simp; omega) | omega) _))) : Own _ L H 38 1 A2 p c2 cs) f1.below0; have z1 := f1.size; (try simp at z1); clear lX lR lQ x0; have lX := TX1.lt; have lR := TR1.lt; have lQ := TQ1.lt; have x0 := TX1.cell 0 rfl
        refine hK.out _ _ ?_ (fun hHeld => ?_)
        focus (first | exact trivial | ((try dsimp only); (exact ⟨Blk.cell (by (repeat (first | (with_reducible assumption) | (with_reducible refine Blk.drew ?_) | (with_reducible refine Blk.other ?_ (by first | (simp; done) | (simp; omega) | omega) _) | (with_reducible refine Blk.alloc ?_ _))) : Blk _ w.heap.size 24 #[.slice (some ⟨b, o, none⟩) n c]) 0 rfl, (Below.cell (by (repeat (first | (with_reducible assumption) | (with_reducible exact Below.refl _ _) | (with_reducible refine Below.setCell ?_ (by first | (simp; done) | (simp; omega) | omega) _) | (with_reducible refine Below.alloc ?_ (by first | (simp; done) | (simp; omega) | omega) _) | (with_reducible refine Below.drew ?_) | (with_reducible refine Below.drewN ?_ _))) : Below w.heap.size w _) (p := ⟨b, o + p, none⟩) hbl).trans hc0⟩))); done
        clear hK K
        (try simp only [Act.put, List.setIfInBounds_toArray, List.set_cons_zero, List.set_cons_succ])
        refine wpAnyH_ready (rs := [9]) (by kernel_rfl) (by simp) ?_
        refine AllReadyH.cons (by rw [List.getElem?_toArray]; rfl) (fun K hK => ?_) AllReadyH.nil
        go_simp
        skip
        refine hK.out _ _ ?_ (fun hHeld => ?_)
        focus (first | exact trivial | ((try dsimp only); (exact ⟨Blk.cell (by (repeat (first | (with_reducible assumption) | (with_reducible refine Blk.drew ?_) | (with_reducible refine Blk.other ?_ (by first | (simp; done) | (simp; omega) | omega) _) | (with_reducible refine Blk.alloc ?_ _))) : Blk _ w.heap.size 24 #[.slice (some ⟨b, o, none⟩) n c]) 0 rfl, (Below.cell (by (repeat (first | (with_reducible assumption) | (with_reducible exact Below.refl _ _) | (with_reducible refine Below.setCell ?_ (by first | (simp; done) | (simp; omega) | omega) _) | (with_reducible refine Below.alloc ?_ (by first | (simp; done) | (simp; omega) | omega) _) | (with_reducible refine Below.drew ?_) | (with_reducible refine Below.drewN ?_ _))) : Below w.heap.size w _) (p := ⟨b, o + p, none⟩) hbl).trans hc0⟩))); done
        clear hK K
        (try simp only [Act.put, List.setIfInBounds_toArray, List.set_cons_zero, List.set_cons_succ])
        refine wpAnyH_ready (rs := [10]) (by kernel_rfl) (by simp) ?_
        refine AllReadyH.cons (by rw [List.getElem?_toArray]; rfl) (fun K hK => ?_) AllReadyH.nil
        refine step_app2 _ rfl (.tmp 14) (.tmp 22) 22 rfl 38 j0 (.slice none 0 0) 1 24 Try.underlying22 hj0 hy0 hy1 hy2 rfl (by omega) L H w1.heap.size (w1.heap.size + 1) A2 (some ⟨w1.heap.size, 0, none⟩) p c2 1 1 cs [.slice A1 k1 c1] rfl rfl (by (repeat (first | (with_reducible assumption) | (with_reducible refine Own.alloc ?_ _) | (with_reducible refine Own.drew ?_) | (with_reducible refine Own.set ?_ (by first | (simp; done) | (simp; omega) | omega) _)))) (Own.new (e := 38) (size := 1) _ #[.slice A1 k1 c1] 1 (by unfold maxLen; omega) rfl).rd (slice_one rfl) (by unfold maxLen; omega) (by omega) (by (try simp) <;> omega) ?_; intro A3 c3 w3 L3 H3 o3 f3 d3; have TX3 := Blk.fr (by (repeat (first | (with_reducible assumption) | (with_reducible refine Blk.drew ?_) | (with_reducible refine Blk.other ?_ (by first | (simp; done) | (simp; omega) | omega) _) | (with_reducible refine Blk.alloc ?_ _))) : Blk _ (w.heap.size + 1 + 1) 24 #[.slice A2 p c2]) f3 (.inl (by omega)); have TR3 := Blk.fr (by (repeat (first | (with_reducible assumption) | (with_reducible refine Blk.drew ?_) | (with_reducible refine Blk.other ?_ (by first | (simp; done) | (simp; omega) | omega) _) | (with_reducible refine Blk.alloc ?_ _))) : Blk _ (w.heap.size + 1) 24 #[.slice none 0 0]) f3 (.inl (by omega)); have TQ3 := Blk.fr (by (repeat (first | (with_reducible assumption) | (with_reducible refine Blk.drew ?_) | (with_reducible refine Blk.other ?_ (by first | (simp; done) | (simp; omega) | omega) _) | (with_reducible refine Blk.alloc ?_ _))) : Blk _ w.heap.size 24 #[.slice (some ⟨b, o, none⟩) n c]) f3 (.inl (by omega)); have hB3 := Below.trans (by (repeat (first | (with_reducible assumption) | (with_reducible exact Below.refl _ _) | (with_reducible refine Below.setCell ?_ (by first | (simp; done) | (simp; omega) | omega) _) | (with_reducible refine Below.alloc ?_ (by first | (simp; done) | (simp; omega) | omega) _) | (with_reducible refine Below.drew ?_) | (with_reducible refine Below.drewN ?_ _))) : Below w.heap.size w _) (f3.below (W := w.heap.size) (by omega) (by (try simp) <;> omega)); have hq3 := Lib.hid (HP.out w1 _ w3 A1 A3 c1 c3 wr.heap.size w1.heap.size L3 H3 ys hq1 (by rw [HK.out]; exact o1) (Nat.le_refl _) (by omega) (Nat.le_refl _) (by (repeat (first | (with_reducible assumption) | (with_reducible exact Below.refl _ _) | (with_reducible refine Below.setCell ?_ (by first | (simp; done) | (simp; omega) | omega) _) | (with_reducible refine Below.alloc ?_ (by first | (simp; done) | (simp; omega) | omega) _) | (with_reducible refine Below.drew ?_) | (with_reducible refine Below.drewN ?_ _)))) (by rw [HK.out]; exact o3) f3 d3); have z3 := f3.size; (try simp at z3); clear lX lR lQ x0 d3; have lX := TX3.lt; have lR := TR3.lt; have lQ := TQ3.lt; have x0 := TX3.cell 0 rfl; have xf := TX3.free
        refine hK.out _ _ ?_ (fun hHeld => ?_)
        focus (first | exact trivial | ((try dsimp only); (exact ⟨Blk.cell (by (repeat (first | (with_reducible assumption) | (with_reducible refine Blk.drew ?_) | (with_reducible refine Blk.other ?_ (by first | (simp; done) | (simp; omega) | omega) _) | (with_reducible refine Blk.alloc ?_ _))) : Blk _ w.heap.size 24 #[.slice (some ⟨b, o, none⟩) n c]) 0 rfl, (Below.cell (by (repeat (first | (with_reducible assumption) | (with_reducible exact Below.refl _ _) | (with_reducible refine Below.setCell ?_ (by first | (simp; done) | (simp; omega) | omega) _) | (with_reducible refine Below.alloc ?_ (by first | (simp; done) | (simp; omega) | omega) _) | (with_reducible refine Below.drew ?_) | (with_reducible refine Below.drewN ?_ _))) : Below w.heap.size w _) (p := ⟨b, o + p, none⟩) hbl).trans hc0⟩))); done
        clear hK K
        (try simp only [Act.put, List.setIfInBounds_toArray, List.set_cons_zero, List.set_cons_succ])
        refine wpAnyH_take (i := 11) (v := ?_) (by rw [List.getElem?_toArray]; rfl) (by kernel_rfl) (by kernel_rfl) (by kernel_rfl) (fun _ _ _ h => h) (Or.inl ⟨by rfl, ?_⟩) (by assumption) ?_
        rotate_left
        focus (intro wS hSw; (try dsimp only at hSw); go_simp; (try with_reducible rfl)); done
        (try simp only [Act.put, List.setIfInBounds_toArray, List.set_cons_zero, List.set_cons_succ])
        refine wpAnyH_ready (rs := [12]) (by kernel_rfl) (by simp) ?_
        refine AllReadyH.cons (by rw [List.getElem?_toArray]; rfl) (fun K hK => ?_) AllReadyH.nil
        go_simp
        skip
        refine hK.out _ _ ?_ (fun hHeld => ?_)
        focus (first | exact trivial | ((try dsimp only); (exact ⟨Blk.cell (by (repeat (first | (with_reducible assumption) | (with_reducible refine Blk.drew ?_) | (with_reducible refine Blk.other ?_ (by first | (simp; done) | (simp; omega) | omega) _) | (with_reducible refine Blk.alloc ?_ _))) : Blk _ w.heap.size 24 #[.slice (some ⟨b, o, none⟩) n c]) 0 rfl, (Below.cell (by (repeat (first | (with_reducible assumption) | (with_reducible exact Below.refl _ _) | (with_reducible refine Below.setCell ?_ (by first | (simp; done) | (simp; omega) | omega) _) | (with_reducible refine Below.alloc ?_ (by first | (simp; done) | (simp; omega) | omega) _) | (with_reducible refine Below.drew ?_) | (with_reducible refine Below.drewN ?_ _))) : Below w.heap.size w _) (p := ⟨b, o + p, none⟩) hbl).trans hc0⟩))); done
        clear hK K
        (try simp only [Act.put, List.setIfInBounds_toArray, List.set_cons_zero, List.set_cons_succ])
        refine wpAnyH_done (by kernel_rfl) ?_ _
        refine NoPanic.normal ?_
        go_wp2
        go_roundw
        case rel =>
          refine ⟨p + 1, by omega, by go_num, A3, c3, by (repeat (first | (with_reducible assumption) | (with_reducible refine Blk.drew ?_) | (with_reducible refine Blk.other ?_ (by first | (simp; done) | (simp; omega) | omega) _) | (with_reducible refine Blk.alloc ?_ _))), by (repeat (first | (with_reducible assumption) | (with_reducible refine Blk.drew ?_) | (with_reducible refine Blk.other ?_ (by first | (simp; done) | (simp; omega) | omega) _) | (with_reducible refine Blk.alloc ?_ _))), TX3.set 0 _, ?_, by (repeat (first | (with_reducible assumption) | (with_reducible exact Below.refl _ _) | (with_reducible refine Below.setCell ?_ (by first | (simp; done) | (simp; omega) | omega) _) | (with_reducible refine Below.alloc ?_ (by first | (simp; done) | (simp; omega) | omega) _) | (with_reducible refine Below.drew ?_) | (with_reducible refine Below.drewN ?_ _)))⟩
          rw [List.take_add_one, HY.out]
          exact hq3.out.set (Nat.lt_succ_self _) _
        case measure => simp [intOf]; omega
      · go_simp
        skip
        refine hK.out _ _ ?_ (fun hHeld => ?_)
        focus (first | exact trivial | ((try dsimp only); (exact ⟨Blk.cell (by (repeat (first | (with_reducible assumption) | (with_reducible refine Blk.drew ?_) | (with_reducible refine Blk.other ?_ (by first | (simp; done) | (simp; omega) | omega) _) | (with_reducible refine Blk.alloc ?_ _))) : Blk _ w.heap.size 24 #[.slice (some ⟨b, o, none⟩) n c]) 0 rfl, (Below.cell (by (repeat (first | (with_reducible assumption) | (with_reducible exact Below.refl _ _) | (with_reducible refine Below.setCell ?_ (by first | (simp; done) | (simp; omega) | omega) _) | (with_reducible refine Below.alloc ?_ (by first | (simp; done) | (simp; omega) | omega) _) | (with_reducible refine Below.drew ?_) | (with_reducible refine Below.drewN ?_ _))) : Below w.heap.size w _) (p := ⟨b, o + p, none⟩) hbl).trans hc0⟩))); done
        clear hK K
        (try simp only [Act.put, List.setIfInBounds_toArray, List.set_cons_zero, List.set_cons_succ])
        refine wpAnyH_ready (rs := [1, 8]) (by kernel_rfl) (by simp) ?_
        refine AllReadyH.cons (by rw [List.getElem?_toArray]; rfl) (fun K hK => ?_) (AllReadyH.cons (by rw [List.getElem?_toArray]; rfl) (fun K hK => ?_) AllReadyH.nil)
        · go_simp
          skip
          refine hK.out _ _ ?_ (fun hHeld => ?_)
          focus (first | exact trivial | ((try dsimp only); (exact ⟨Blk.cell (by (repeat (first | (with_reducible assumption) | (with_reducible refine Blk.drew ?_) | (with_reducible refine Blk.other ?_ (by first | (simp; done) | (simp; omega) | omega) _) | (with_reducible refine Blk.alloc ?_ _))) : Blk _ w.heap.size 24 #[.slice (some ⟨b, o, none⟩) n c]) 0 rfl, (Below.cell (by (repeat (first | (with_reducible assumption) | (with_reducible exact Below.refl _ _) | (with_reducible refine Below.setCell ?_ (by first | (simp; done) | (simp; omega) | omega) _) | (with_reducible refine Below.alloc ?_ (by first | (simp; done) | (simp; omega) | omega) _) | (with_reducible refine Below.drew ?_) | (with_reducible refine Below.drewN ?_ _))) : Below w.heap.size w _) (p := ⟨b, o + p, none⟩) hbl).trans hc0⟩))); done
          clear hK K
          (try simp only [Act.put, List.setIfInBounds_toArray, List.set_cons_zero, List.set_cons_succ])
          refine wpAnyH_ready (rs := [8]) (by kernel_rfl) (by simp) ?_
          refine AllReadyH.cons (by rw [List.getElem?_toArray]; rfl) (fun K hK => ?_) AllReadyH.nil
          refine step_app _ rfl (.tmp 15) (.tmp 20) 38 rfl 3 i0 (.int .i64 0) 1 8 Try.underlying38 hi0 hz0 hz1 hz2 rfl (by omega) wr.heap.size 0 0 w.heap.size (some ⟨wr.heap.size, 0, none⟩) A' 0 0 k1 c' [] (ints ys) rfl rfl (Own.nil _ _ _ _ _ _) (by (repeat (first | (with_reducible assumption) | (with_reducible refine Rd.drew ?_) | (with_reducible refine Rd.alloc ?_ _) | (with_reducible refine Rd.set ?_ (by first | (simp; done) | (simp; omega) | omega) _)))) (ints_one _) (by unfold maxLen; omega) (by omega) (by (try simp) <;> omega) ?_; intro A1 c1 w1 o1 f1; rw [Nat.zero_add, List.nil_append] at o1; rw [Nat.zero_add]; have TX1 := Blk.fr (by (repeat (first | (with_reducible assumption) | (with_reducible refine Blk.drew ?_) | (with_reducible refine Blk.other ?_ (by first | (simp; done) | (simp; omega) | omega) _) | (with_reducible refine Blk.alloc ?_ _))) : Blk _ (w.heap.size + 1 + 1) 24 #[.slice A2 p c2]) f1 (.inr (Nat.zero_le _)); have TR1 := Blk.fr (by (repeat (first | (with_reducible assumption) | (with_reducible refine Blk.drew ?_) | (with_reducible refine Blk.other ?_ (by first | (simp; done) | (simp; omega) | omega) _) | (with_reducible refine Blk.alloc ?_ _))) : Blk _ (w.heap.size + 1) 24 #[.slice none 0 0]) f1 (.inr (Nat.zero_le _)); have TQ1 := Blk.fr (by (repeat (first | (with_reducible assumption) | (with_reducible refine Blk.drew ?_) | (with_reducible refine Blk.other ?_ (by first | (simp; done) | (simp; omega) | omega) _) | (with_reducible refine Blk.alloc ?_ _))) : Blk _ w.heap.size 24 #[.slice (some ⟨b, o, none⟩) n c]) f1 (.inr (Nat.zero_le _)); have hB1 := Below.via (by (repeat (first | (with_reducible assumption) | (with_reducible exact Below.refl _ _) | (with_reducible refine Below.setCell ?_ (by first | (simp; done) | (simp; omega) | omega) _) | (with_reducible refine Below.alloc ?_ (by first | (simp; done) | (simp; omega) | omega) _) | (with_reducible refine Below.drew ?_) | (with_reducible refine Below.drewN ?_ _))) : Below w.heap.size w _) f1.below0; have hq1 := Below.via (by (repeat (first | (with_reducible assumption) | (with_reducible exact Below.refl _ _) | (with_reducible refine Below.setCell ?_ (by first | (simp; done) | (simp; omega) | omega) _) | (with_reducible refine Below.alloc ?_ (by first | (simp; done) | (simp; omega) | omega) _) | (with_reducible refine Below.drew ?_) | (with_reducible refine Below.drewN ?_ _))) : Below wr.heap.size wr _) f1.below0; have oO1 := Own.below (by (repeat (first | (with_reducible assumption) | (with_reducible refine Own.alloc ?_ _) | (with_reducible refine Own.drew ?_) | (with_reducible refine Own.set ?_ (by first | (simp; done) | (simp; omega) | omega) _))) : Own _ L H 38 1 A2 p c2 cs) f1.below0; have z1 := f1.size; (try simp at z1); clear lX lR lQ x0; have lX := TX1.lt; have lR := TR1.lt; have lQ := TQ1.lt; have x0 := TX1.cell 0 rfl
          refine hK.out _ _ ?_ (fun hHeld => ?_)
          focus (first | exact trivial | ((try dsimp only); (exact ⟨Blk.cell (by (repeat (first | (with_reducible assumption) | (with_reducible refine Blk.drew ?_) | (with_reducible refine Blk.other ?_ (by first | (simp; done) | (simp; omega) | omega) _) | (with_reducible refine Blk.alloc ?_ _))) : Blk _ w.heap.size 24 #[.slice (some ⟨b, o, none⟩) n c]) 0 rfl, (Below.cell (by (repeat (first | (with_reducible assumption) | (with_reducible exact Below.refl _ _) | (with_reducible refine Below.setCell ?_ (by first | (simp; done) | (simp; omega) | omega) _) | (with_reducible refine Below.alloc ?_ (by first | (simp; done) | (simp; omega) | omega) _) | (with_reducible refine Below.drew ?_) | (with_reducible refine Below.drewN ?_ _))) : Below w.heap.size w _) (p := ⟨b, o + p, none⟩) hbl).trans hc0⟩))); done
          clear hK K
          (try simp only [Act.put, List.setIfInBounds_toArray, List.set_cons_zero, List.set_cons_succ])
          refine wpAnyH_ready (rs := [9]) (by kernel_rfl) (by simp) ?_
          refine AllReadyH.cons (by rw [List.getElem?_toArray]; rfl) (fun K hK => ?_) AllReadyH.nil
          go_simp
          skip
          refine hK.out _ _ ?_ (fun hHeld => ?_)
          focus (first | exact trivial | ((try dsimp only); (exact ⟨Blk.cell (by (repeat (first | (with_reducible assumption) | (with_reducible refine Blk.drew ?_) | (with_reducible refine Blk.other ?_ (by first | (simp; done) | (simp; omega) | omega) _) | (with_reducible refine Blk.alloc ?_ _))) : Blk _ w.heap.size 24 #[.slice (some ⟨b, o, none⟩) n c]) 0 rfl, (Below.cell (by (repeat (first | (with_reducible assumption) | (with_reducible exact Below.refl _ _) | (with_reducible refine Below.setCell ?_ (by first | (simp; done) | (simp; omega) | omega) _) | (with_reducible refine Below.alloc ?_ (by first | (simp; done) | (simp; omega) | omega) _) | (with_reducible refine Below.drew ?_) | (with_reducible refine Below.drewN ?_ _))) : Below w.heap.size w _) (p := ⟨b, o + p, none⟩) hbl).trans hc0⟩))); done
          clear hK K
          (try simp only [Act.put, List.setIfInBounds_toArray, List.set_cons_zero, List.set_cons_succ])
          refine wpAnyH_ready (rs := [10]) (by kernel_rfl) (by simp) ?_
          refine AllReadyH.cons (by rw [List.getElem?_toArray]; rfl) (fun K hK => ?_) AllReadyH.nil
          refine step_app2 _ rfl (.tmp 14) (.tmp 22) 22 rfl 38 j0 (.slice none 0 0) 1 24 Try.underlying22 hj0 hy0 hy1 hy2 rfl (by omega) L H w1.heap.size (w1.heap.size + 1) A2 (some ⟨w1.heap.size, 0, none⟩) p c2 1 1 cs [.slice A1 k1 c1] rfl rfl (by (repeat (first | (with_reducible assumption) | (with_reducible refine Own.alloc ?_ _) | (with_reducible refine Own.drew ?_) | (with_reducible refine Own.set ?_ (by first | (simp; done) | (simp; omega) | omega) _)))) (Own.new (e := 38) (size := 1) _ #[.slice A1 k1 c1] 1 (by unfold maxLen; omega) rfl).rd (slice_one rfl) (by unfold maxLen; omega) (by omega) (by (try simp) <;> omega) ?_; intro A3 c3 w3 L3 H3 o3 f3 d3; have TX3 := Blk.fr (by (repeat (first | (with_reducible assumption) | (with_reducible refine Blk.drew ?_) | (with_reducible refine Blk.other ?_ (by first | (simp; done) | (simp; omega) | omega) _) | (with_reducible refine Blk.alloc ?_ _))) : Blk _ (w.heap.size + 1 + 1) 24 #[.slice A2 p c2]) f3 (.inl (by omega)); have TR3 := Blk.fr (by (repeat (first | (with_reducible assumption) | (with_reducible refine Blk.drew ?_) | (with_reducible refine Blk.other ?_ (by first | (simp; done) | (simp; omega) | omega) _) | (with_reducible refine Blk.alloc ?_ _))) : Blk _ (w.heap.size + 1) 24 #[.slice none 0 0]) f3 (.inl (by omega)); have TQ3 := Blk.fr (by (repeat (first | (with_reducible assumption) | (with_reducible refine Blk.drew ?_) | (with_reducible refine Blk.other ?_ (by first | (simp; done) | (simp; omega) | omega) _) | (with_reducible refine Blk.alloc ?_ _))) : Blk _ w.heap.size 24 #[.slice (some ⟨b, o, none⟩) n c]) f3 (.inl (by omega)); have hB3 := Below.trans (by (repeat (first | (with_reducible assumption) | (with_reducible exact Below.refl _ _) | (with_reducible refine Below.setCell ?_ (by first | (simp; done) | (simp; omega) | omega) _) | (with_reducible refine Below.alloc ?_ (by first | (simp; done) | (simp; omega) | omega) _) | (with_reducible refine Below.drew ?_) | (with_reducible refine Below.drewN ?_ _))) : Below w.heap.size w _) (f3.below (W := w.heap.size) (by omega) (by (try simp) <;> omega)); have hq3 := Lib.hid (HP.out w1 _ w3 A1 A3 c1 c3 wr.heap.size w1.heap.size L3 H3 ys hq1 (by rw [HK.out]; exact o1) (Nat.le_refl _) (by omega) (Nat.le_refl _) (by (repeat (first | (with_reducible assumption) | (with_reducible exact Below.refl _ _) | (with_reducible refine Below.setCell ?_ (by first | (simp; done) | (simp; omega) | omega) _) | (with_reducible refine Below.alloc ?_ (by first | (simp; done) | (simp; omega) | omega) _) | (with_reducible refine Below.drew ?_) | (with_reducible refine Below.drewN ?_ _)))) (by rw [HK.out]; exact o3) f3 d3); have z3 := f3.size; (try simp at z3); clear lX lR lQ x0 d3; have lX := TX3.lt; have lR := TR3.lt; have lQ := TQ3.lt; have x0 := TX3.cell 0 rfl; have xf := TX3.free
          refine hK.out _ _ ?_ (fun hHeld => ?_)
          focus (first | exact trivial | ((try dsimp only); (exact ⟨Blk.cell (by (repeat (first | (with_reducible assumption) | (with_reducible refine Blk.drew ?_) | (with_reducible refine Blk.other ?_ (by first | (simp; done) | (simp; omega) | omega) _) | (with_reducible refine Blk.alloc ?_ _))) : Blk _ w.heap.size 24 #[.slice (some ⟨b, o, none⟩) n c]) 0 rfl, (Below.cell (by (repeat (first | (with_reducible assumption) | (with_reducible exact Below.refl _ _) | (with_reducible refine Below.setCell ?_ (by first | (simp; done) | (simp; omega) | omega) _) | (with_reducible refine Below.alloc ?_ (by first | (simp; done) | (simp; omega) | omega) _) | (with_reducible refine Below.drew ?_) | (with_reducible refine Below.drewN ?_ _))) : Below w.heap.size w _) (p := ⟨b, o + p, none⟩) hbl).trans hc0⟩))); done
          clear hK K
          (try simp only [Act.put, List.setIfInBounds_toArray, List.set_cons_zero, List.set_cons_succ])
          refine wpAnyH_take (i := 11) (v := ?_) (by rw [List.getElem?_toArray]; rfl) (by kernel_rfl) (by kernel_rfl) (by kernel_rfl) (fun _ _ _ h => h) (Or.inl ⟨by rfl, ?_⟩) (by assumption) ?_
          rotate_left
          focus (intro wS hSw; (try dsimp only at hSw); go_simp; (try with_reducible rfl)); done
          (try simp only [Act.put, List.setIfInBounds_toArray, List.set_cons_zero, List.set_cons_succ])
          refine wpAnyH_ready (rs := [12]) (by kernel_rfl) (by simp) ?_
          refine AllReadyH.cons (by rw [List.getElem?_toArray]; rfl) (fun K hK => ?_) AllReadyH.nil
          go_simp
          skip
          refine hK.out _ _ ?_ (fun hHeld => ?_)
          focus (first | exact trivial | ((try dsimp only); (exact ⟨Blk.cell (by (repeat (first | (with_reducible assumption) | (with_reducible refine Blk.drew ?_) | (with_reducible refine Blk.other ?_ (by first | (simp; done) | (simp; omega) | omega) _) | (with_reducible refine Blk.alloc ?_ _))) : Blk _ w.heap.size 24 #[.slice (some ⟨b, o, none⟩) n c]) 0 rfl, (Below.cell (by (repeat (first | (with_reducible assumption) | (with_reducible exact Below.refl _ _) | (with_reducible refine Below.setCell ?_ (by first | (simp; done) | (simp; omega) | omega) _) | (with_reducible refine Below.alloc ?_ (by first | (simp; done) | (simp; omega) | omega) _) | (with_reducible refine Below.drew ?_) | (with_reducible refine Below.drewN ?_ _))) : Below w.heap.size w _) (p := ⟨b, o + p, none⟩) hbl).trans hc0⟩))); done
          clear hK K
          (try simp only [Act.put, List.setIfInBounds_toArray, List.set_cons_zero, List.set_cons_succ])
          refine wpAnyH_done (by kernel_rfl) ?_ _
          refine NoPanic.normal ?_
          go_wp2
          go_roundw
          case rel =>
            refine ⟨p + 1, by omega, by go_num, A3, c3, by (repeat (first | (with_reducible assumption) | (with_reducible refine Blk.drew ?_) | (with_reducible refine Blk.other ?_ (by first | (simp; done) | (simp; omega) | omega) _) | (with_reducible refine Blk.alloc ?_ _))), by (repeat (first | (with_reducible assumption) | (with_reducible refine Blk.drew ?_) | (with_reducible refine Blk.other ?_ (by first | (simp; done) | (simp; omega) | omega) _) | (with_reducible refine Blk.alloc ?_ _))), TX3.set 0 _, ?_, by (repeat (first | (with_reducible assumption) | (with_reducible exact Below.refl _ _) | (with_reducible refine Below.setCell ?_ (by first | (simp; done) | (simp; omega) | omega) _) | (with_reducible refine Below.alloc ?_ (by first | (simp; done) | (simp; omega) | omega) _) | (with_reducible refine Below.drew ?_) | (with_reducible refine Below.drewN ?_ _)))⟩
            rw [List.take_add_one, HY.out]
            exact hq3.out.set (Nat.lt_succ_self _) _
          case measure => simp [intOf]; omega
        · refine step_app _ rfl (.tmp 15) (.tmp 20) 38 rfl 3 i0 (.int .i64 0) 1 8 Try.underlying38 hi0 hz0 hz1 hz2 rfl (by omega) wr.heap.size 0 0 w.heap.size (some ⟨wr.heap.size, 0, none⟩) A' 0 0 k1 c' [] (ints ys) rfl rfl (Own.nil _ _ _ _ _ _) (by (repeat (first | (with_reducible assumption) | (with_reducible refine Rd.drew ?_) | (with_reducible refine Rd.alloc ?_ _) | (with_reducible refine Rd.set ?_ (by first | (simp; done) | (simp; omega) | omega) _)))) (ints_one _) (by unfold maxLen; omega) (by omega) (by (try simp) <;> omega) ?_; intro A1 c1 w1 o1 f1; rw [Nat.zero_add, List.nil_append] at o1; rw [Nat.zero_add]; have TX1 := Blk.fr (by (repeat (first | (with_reducible assumption) | (with_reducible refine Blk.drew ?_) | (with_reducible refine Blk.other ?_ (by first | (simp; done) | (simp; omega) | omega) _) | (with_reducible refine Blk.alloc ?_ _))) : Blk _ (w.heap.size + 1 + 1) 24 #[.slice A2 p c2]) f1 (.inr (Nat.zero_le _)); have TR1 := Blk.fr (by (repeat (first | (with_reducible assumption) | (with_reducible refine Blk.drew ?_) | (with_reducible refine Blk.other ?_ (by first | (simp; done) | (simp; omega) | omega) _) | (with_reducible refine Blk.alloc ?_ _))) : Blk _ (w.heap.size + 1) 24 #[.slice none 0 0]) f1 (.inr (Nat.zero_le _)); have TQ1 := Blk.fr (by (repeat (first | (with_reducible assumption) | (with_reducible refine Blk.drew ?_) | (with_reducible refine Blk.other ?_ (by first | (simp; done) | (simp; omega) | omega) _) | (with_reducible refine Blk.alloc ?_ _))) : Blk _ w.heap.size 24 #[.slice (some ⟨b, o, none⟩) n c]) f1 (.inr (Nat.zero_le _)); have hB1 := Below.via (by (repeat (first | (with_reducible assumption) | (with_reducible exact Below.refl _ _) | (with_reducible refine Below.setCell ?_ (by first | (simp; done) | (simp; omega) | omega) _) | (with_reducible refine Below.alloc ?_ (by first | (simp; done) | (simp; omega) | omega) _) | (with_reducible refine Below.drew ?_) | (with_reducible refine Below.drewN ?_ _))) : Below w.heap.size w _) f1.below0; have hq1 := Below.via (by (repeat (first | (with_reducible assumption) | (with_reducible exact Below.refl _ _) | (with_reducible refine Below.setCell ?_ (by first | (simp; done) | (simp; omega) | omega) _) | (with_reducible refine Below.alloc ?_ (by first | (simp; done) | (simp; omega) | omega) _) | (with_reducible refine Below.drew ?_) | (with_reducible refine Below.drewN ?_ _))) : Below wr.heap.size wr _) f1.below0; have oO1 := Own.below (by (repeat (first | (with_reducible assumption) | (with_reducible refine Own.alloc ?_ _) | (with_reducible refine Own.drew ?_) | (with_reducible refine Own.set ?_ (by first | (simp; done) | (simp; omega) | omega) _))) : Own _ L H 38 1 A2 p c2 cs) f1.below0; have z1 := f1.size; (try simp at z1); clear lX lR lQ x0; have lX := TX1.lt; have lR := TR1.lt; have lQ := TQ1.lt; have x0 := TX1.cell 0 rfl
          refine hK.out _ _ ?_ (fun hHeld => ?_)
          focus (first | exact trivial | ((try dsimp only); (exact ⟨Blk.cell (by (repeat (first | (with_reducible assumption) | (with_reducible refine Blk.drew ?_) | (with_reducible refine Blk.other ?_ (by first | (simp; done) | (simp; omega) | omega) _) | (with_reducible refine Blk.alloc ?_ _))) : Blk _ w.heap.size 24 #[.slice (some ⟨b, o, none⟩) n c]) 0 rfl, (Below.cell (by (repeat (first | (with_reducible assumption) | (with_reducible exact Below.refl _ _) | (with_reducible refine Below.setCell ?_ (by first | (simp; done) | (simp; omega) | omega) _) | (with_reducible refine Below.alloc ?_ (by first | (simp; done) | (simp; omega) | omega) _) | (with_reducible refine Below.drew ?_) | (with_reducible refine Below.drewN ?_ _))) : Below w.heap.size w _) (p := ⟨b, o + p, none⟩) hbl).trans hc0⟩))); done
          clear hK K
          (try simp only [Act.put, List.setIfInBounds_toArray, List.set_cons_zero, List.set_cons_succ])
          refine wpAnyH_ready (rs := [1, 9]) (by kernel_rfl) (by simp) ?_
          refine AllReadyH.cons (by rw [List.getElem?_toArray]; rfl) (fun K hK => ?_) (AllReadyH.cons (by rw [List.getElem?_toArray]; rfl) (fun K hK => ?_) AllReadyH.nil)
          · go_simp
            skip
            refine hK.out _ _ ?_ (fun hHeld => ?_)
            focus (first | exact trivial | ((try dsimp only); (exact ⟨Blk.cell (by (repeat (first | (with_reducible assumption) | (with_reducible refine Blk.drew ?_) | (with_reducible refine Blk.other ?_ (by first | (simp; done) | (simp; omega) | omega) _) | (with_reducible refine Blk.alloc ?_ _))) : Blk _ w.heap.size 24 #[.slice (some ⟨b, o, none⟩) n c]) 0 rfl, (Below.cell (by (repeat (first | (with_reducible assumption) | (with_reducible exact Below.refl _ _) | (with_reducible refine Below.setCell ?_ (by first | (simp; done) | (simp; omega) | omega) _) | (with_reducible refine Below.alloc ?_ (by first | (simp; done) | (simp; omega) | omega) _) | (with_reducible refine Below.drew ?_) | (with_reducible refine Below.drewN ?_ _))) : Below w.heap.size w _) (p := ⟨b, o + p, none⟩) hbl).trans hc0⟩))); done
            clear hK K
            (try simp only [Act.put, List.setIfInBounds_toArray, List.set_cons_zero, List.set_cons_succ])
            refine wpAnyH_ready (rs := [9]) (by kernel_rfl) (by simp) ?_
            refine AllReadyH.cons (by rw [List.getElem?_toArray]; rfl) (fun K hK => ?_) AllReadyH.nil
            go_simp
            skip
            refine hK.out _ _ ?_ (fun hHeld => ?_)
            focus (first | exact trivial | ((try dsimp only); (exact ⟨Blk.cell (by (repeat (first | (with_reducible assumption) | (with_reducible refine Blk.drew ?_) | (with_reducible refine Blk.other ?_ (by first | (simp; done) | (simp; omega) | omega) _) | (with_reducible refine Blk.alloc ?_ _))) : Blk _ w.heap.size 24 #[.slice (some ⟨b, o, none⟩) n c]) 0 rfl, (Below.cell (by (repeat (first | (with_reducible assumption) | (with_reducible exact Below.refl _ _) | (with_reducible refine Below.setCell ?_ (by first | (simp; done) | (simp; omega) | omega) _) | (with_reducible refine Below.alloc ?_ (by first | (simp; done) | (simp; omega) | omega) _) | (with_reducible refine Below.drew ?_) | (with_reducible refine Below.drewN ?_ _))) : Below w.heap.size w _) (p := ⟨b, o + p, none⟩) hbl).trans hc0⟩))); done
            clear hK K
            (try simp only [Act.put, List.setIfInBounds_toArray, List.set_cons_zero, List.set_cons_succ])
            refine wpAnyH_ready (rs := [10]) (by kernel_rfl) (by simp) ?_
            refine AllReadyH.cons (by rw [List.getElem?_toArray]; rfl) (fun K hK => ?_) AllReadyH.nil
            refine step_app2 _ rfl (.tmp 14) (.tmp 22) 22 rfl 38 j0 (.slice none 0 0) 1 24 Try.underlying22 hj0 hy0 hy1 hy2 rfl (by omega) L H w1.heap.size (w1.heap.size + 1) A2 (some ⟨w1.heap.size, 0, none⟩) p c2 1 1 cs [.slice A1 k1 c1] rfl rfl (by (repeat (first | (with_reducible assumption) | (with_reducible refine Own.alloc ?_ _) | (with_reducible refine Own.drew ?_) | (with_reducible refine Own.set ?_ (by first | (simp; done) | (simp; omega) | omega) _)))) (Own.new (e := 38) (size := 1) _ #[.slice A1 k1 c1] 1 (by unfold maxLen; omega) rfl).rd (slice_one rfl) (by unfold maxLen; omega) (by omega) (by (try simp) <;> omega) ?_; intro A3 c3 w3 L3 H3 o3 f3 d3; have TX3 := Blk.fr (by (repeat (first | (with_reducible assumption) | (with_reducible refine Blk.drew ?_) | (with_reducible refine Blk.other ?_ (by first | (simp; done) | (simp; omega) | omega) _) | (with_reducible refine Blk.alloc ?_ _))) : Blk _ (w.heap.size + 1 + 1) 24 #[.slice A2 p c2]) f3 (.inl (by omega)); have TR3 := Blk.fr (by (repeat (first | (with_reducible assumption) | (with_reducible refine Blk.drew ?_) | (with_reducible refine Blk.other ?_ (by first | (simp; done) | (simp; omega) | omega) _) | (with_reducible refine Blk.alloc ?_ _))) : Blk _ (w.heap.size + 1) 24 #[.slice none 0 0]) f3 (.inl (by omega)); have TQ3 := Blk.fr (by (repeat (first | (with_reducible assumption) | (with_reducible refine Blk.drew ?_) | (with_reducible refine Blk.other ?_ (by first | (simp; done) | (simp; omega) | omega) _) | (with_reducible refine Blk.alloc ?_ _))) : Blk _ w.heap.size 24 #[.slice (some ⟨b, o, none⟩) n c]) f3 (.inl (by omega)); have hB3 := Below.trans (by (repeat (first | (with_reducible assumption) | (with_reducible exact Below.refl _ _) | (with_reducible refine Below.setCell ?_ (by first | (simp; done) | (simp; omega) | omega) _) | (with_reducible refine Below.alloc ?_ (by first | (simp; done) | (simp; omega) | omega) _) | (with_reducible refine Below.drew ?_) | (with_reducible refine Below.drewN ?_ _))) : Below w.heap.size w _) (f3.below (W := w.heap.size) (by omega) (by (try simp) <;> omega)); have hq3 := Lib.hid (HP.out w1 _ w3 A1 A3 c1 c3 wr.heap.size w1.heap.size L3 H3 ys hq1 (by rw [HK.out]; exact o1) (Nat.le_refl _) (by omega) (Nat.le_refl _) (by (repeat (first | (with_reducible assumption) | (with_reducible exact Below.refl _ _) | (with_reducible refine Below.setCell ?_ (by first | (simp; done) | (simp; omega) | omega) _) | (with_reducible refine Below.alloc ?_ (by first | (simp; done) | (simp; omega) | omega) _) | (with_reducible refine Below.drew ?_) | (with_reducible refine Below.drewN ?_ _)))) (by rw [HK.out]; exact o3) f3 d3); have z3 := f3.size; (try simp at z3); clear lX lR lQ x0 d3; have lX := TX3.lt; have lR := TR3.lt; have lQ := TQ3.lt; have x0 := TX3.cell 0 rfl; have xf := TX3.free
            refine hK.out _ _ ?_ (fun hHeld => ?_)
            focus (first | exact trivial | ((try dsimp only); (exact ⟨Blk.cell (by (repeat (first | (with_reducible assumption) | (with_reducible refine Blk.drew ?_) | (with_reducible refine Blk.other ?_ (by first | (simp; done) | (simp; omega) | omega) _) | (with_reducible refine Blk.alloc ?_ _))) : Blk _ w.heap.size 24 #[.slice (some ⟨b, o, none⟩) n c]) 0 rfl, (Below.cell (by (repeat (first | (with_reducible assumption) | (with_reducible exact Below.refl _ _) | (with_reducible refine Below.setCell ?_ (by first | (simp; done) | (simp; omega) | omega) _) | (with_reducible refine Below.alloc ?_ (by first | (simp; done) | (simp; omega) | omega) _) | (with_reducible refine Below.drew ?_) | (with_reducible refine Below.drewN ?_ _))) : Below w.heap.size w _) (p := ⟨b, o + p, none⟩) hbl).trans hc0⟩))); done
            clear hK K
            (try simp only [Act.put, List.setIfInBounds_toArray, List.set_cons_zero, List.set_cons_succ])
            refine wpAnyH_take (i := 11) (v := ?_) (by rw [List.getElem?_toArray]; rfl) (by kernel_rfl) (by kernel_rfl) (by kernel_rfl) (fun _ _ _ h => h) (Or.inl ⟨by rfl, ?_⟩) (by assumption) ?_
            rotate_left
            focus (intro wS hSw; (try dsimp only at hSw); go_simp; (try with_reducible rfl)); done
            (try simp only [Act.put, List.setIfInBounds_toArray, List.set_cons_zero, List.set_cons_succ])
            refine wpAnyH_ready (rs := [12]) (by kernel_rfl) (by simp) ?_
            refine AllReadyH.cons (by rw [List.getElem?_toArray]; rfl) (fun K hK => ?_) AllReadyH.nil
            go_simp
            skip
            refine hK.out _ _ ?_ (fun hHeld => ?_)
            focus (first | exact trivial | ((try dsimp only); (exact ⟨Blk.cell (by (repeat (first | (with_reducible assumption) | (with_reducible refine Blk.drew ?_) | (with_reducible refine Blk.other ?_ (by first | (simp; done) | (simp; omega) | omega) _) | (with_reducible refine Blk.alloc ?_ _))) : Blk _ w.heap.size 24 #[.slice (some ⟨b, o, none⟩) n c]) 0 rfl, (Below.cell (by (repeat (first | (with_reducible assumption) | (with_reducible exact Below.refl _ _) | (with_reducible refine Below.setCell ?_ (by first | (simp; done) | (simp; omega) | omega) _) | (with_reducible refine Below.alloc ?_ (by first | (simp; done) | (simp; omega) | omega) _) | (with_reducible refine Below.drew ?_) | (with_reducible refine Below.drewN ?_ _))) : Below w.heap.size w _) (p := ⟨b, o + p, none⟩) hbl).trans hc0⟩))); done
            clear hK K
            (try simp only [Act.put, List.setIfInBounds_toArray, List.set_cons_zero, List.set_cons_succ])
            refine wpAnyH_done (by kernel_rfl) ?_ _
            refine NoPanic.normal ?_
            go_wp2
            go_roundw
            case rel =>
              refine ⟨p + 1, by omega, by go_num, A3, c3, by (repeat (first | (with_reducible assumption) | (with_reducible refine Blk.drew ?_) | (with_reducible refine Blk.other ?_ (by first | (simp; done) | (simp; omega) | omega) _) | (with_reducible refine Blk.alloc ?_ _))), by (repeat (first | (with_reducible assumption) | (with_reducible refine Blk.drew ?_) | (with_reducible refine Blk.other ?_ (by first | (simp; done) | (simp; omega) | omega) _) | (with_reducible refine Blk.alloc ?_ _))), TX3.set 0 _, ?_, by (repeat (first | (with_reducible assumption) | (with_reducible exact Below.refl _ _) | (with_reducible refine Below.setCell ?_ (by first | (simp; done) | (simp; omega) | omega) _) | (with_reducible refine Below.alloc ?_ (by first | (simp; done) | (simp; omega) | omega) _) | (with_reducible refine Below.drew ?_) | (with_reducible refine Below.drewN ?_ _)))⟩
              rw [List.take_add_one, HY.out]
              exact hq3.out.set (Nat.lt_succ_self _) _
            case measure => simp [intOf]; omega
          · go_simp
            skip
            refine hK.out _ _ ?_ (fun hHeld => ?_)
            focus (first | exact trivial | ((try dsimp only); (exact ⟨Blk.cell (by (repeat (first | (with_reducible assumption) | (with_reducible refine Blk.drew ?_) | (with_reducible refine Blk.other ?_ (by first | (simp; done) | (simp; omega) | omega) _) | (with_reducible refine Blk.alloc ?_ _))) : Blk _ w.heap.size 24 #[.slice (some ⟨b, o, none⟩) n c]) 0 rfl, (Below.cell (by (repeat (first | (with_reducible assumption) | (with_reducible exact Below.refl _ _) | (with_reducible refine Below.setCell ?_ (by first | (simp; done) | (simp; omega) | omega) _) | (with_reducible refine Below.alloc ?_ (by first | (simp; done) | (simp; omega) | omega) _) | (with_reducible refine Below.drew ?_) | (with_reducible refine Below.drewN ?_ _))) : Below w.heap.size w _) (p := ⟨b, o + p, none⟩) hbl).trans hc0⟩))); done
            clear hK K
            (try simp only [Act.put, List.setIfInBounds_toArray, List.set_cons_zero, List.set_cons_succ])
            refine wpAnyH_ready (rs := [1]) (by kernel_rfl) (by simp) ?_
            refine AllReadyH.cons (by rw [List.getElem?_toArray]; rfl) (fun K hK => ?_) AllReadyH.nil
            go_simp
            skip
            refine hK.out _ _ ?_ (fun hHeld => ?_)
            focus (first | exact trivial | ((try dsimp only); (exact ⟨Blk.cell (by (repeat (first | (with_reducible assumption) | (with_reducible refine Blk.drew ?_) | (with_reducible refine Blk.other ?_ (by first | (simp; done) | (simp; omega) | omega) _) | (with_reducible refine Blk.alloc ?_ _))) : Blk _ w.heap.size 24 #[.slice (some ⟨b, o, none⟩) n c]) 0 rfl, (Below.cell (by (repeat (first | (with_reducible assumption) | (with_reducible exact Below.refl _ _) | (with_reducible refine Below.setCell ?_ (by first | (simp; done) | (simp; omega) | omega) _) | (with_reducible refine Below.alloc ?_ (by first | (simp; done) | (simp; omega) | omega) _) | (with_reducible refine Below.drew ?_) | (with_reducible refine Below.drewN ?_ _))) : Below w.heap.size w _) (p := ⟨b, o + p, none⟩) hbl).trans hc0⟩))); done
            clear hK K
            (try simp only [Act.put, List.setIfInBounds_toArray, List.set_cons_zero, List.set_cons_succ])
            refine wpAnyH_ready (rs := [10]) (by kernel_rfl) (by simp) ?_
            refine AllReadyH.cons (by rw [List.getElem?_toArray]; rfl) (fun K hK => ?_) AllReadyH.nil
            refine step_app2 _ rfl (.tmp 14) (.tmp 22) 22 rfl 38 j0 (.slice none 0 0) 1 24 Try.underlying22 hj0 hy0 hy1 hy2 rfl (by omega) L H w1.heap.size (w1.heap.size + 1) A2 (some ⟨w1.heap.size, 0, none⟩) p c2 1 1 cs [.slice A1 k1 c1] rfl rfl (by (repeat (first | (with_reducible assumption) | (with_reducible refine Own.alloc ?_ _) | (with_reducible refine Own.drew ?_) | (with_reducible refine Own.set ?_ (by first | (simp; done) | (simp; omega) | omega) _)))) (Own.new (e := 38) (size := 1) _ #[.slice A1 k1 c1] 1 (by unfold maxLen; omega) rfl).rd (slice_one rfl) (by unfold maxLen; omega) (by omega) (by (try simp) <;> omega) ?_; intro A3 c3 w3 L3 H3 o3 f3 d3; have TX3 := Blk.fr (by (repeat (first | (with_reducible assumption) | (with_reducible refine Blk.drew ?_) | (with_reducible refine Blk.other ?_ (by first | (simp; done) | (simp; omega) | omega) _) | (with_reducible refine Blk.alloc ?_ _))) : Blk _ (w.heap.size + 1 + 1) 24 #[.slice A2 p c2]) f3 (.inl (by omega)); have TR3 := Blk.fr (by (repeat (first | (with_reducible assumption) | (with_reducible refine Blk.drew ?_) | (with_reducible refine Blk.other ?_ (by first | (simp; done) | (simp; omega) | omega) _) | (with_reducible refine Blk.alloc ?_ _))) : Blk _ (w.heap.size + 1) 24 #[.slice none 0 0]) f3 (.inl (by omega)); have TQ3 := Blk.fr (by (repeat (first | (with_reducible assumption) | (with_reducible refine Blk.drew ?_) | (with_reducible refine Blk.other ?_ (by first | (simp; done) | (simp; omega) | omega) _) | (with_reducible refine Blk.alloc ?_ _))) : Blk _ w.heap.size 24 #[.slice (some ⟨b, o, none⟩) n c]) f3 (.inl (by omega)); have hB3 := Below.trans (by (repeat (first | (with_reducible assumption) | (with_reducible exact Below.refl _ _) | (with_reducible refine Below.setCell ?_ (by first | (simp; done) | (simp; omega) | omega) _) | (with_reducible refine Below.alloc ?_ (by first | (simp; done) | (simp; omega) | omega) _) | (with_reducible refine Below.drew ?_) | (with_reducible refine Below.drewN ?_ _))) : Below w.heap.size w _) (f3.below (W := w.heap.size) (by omega) (by (try simp) <;> omega)); have hq3 := Lib.hid (HP.out w1 _ w3 A1 A3 c1 c3 wr.heap.size w1.heap.size L3 H3 ys hq1 (by rw [HK.out]; exact o1) (Nat.le_refl _) (by omega) (Nat.le_refl _) (by (repeat (first | (with_reducible assumption) | (with_reducible exact Below.refl _ _) | (with_reducible refine Below.setCell ?_ (by first | (simp; done) | (simp; omega) | omega) _) | (with_reducible refine Below.alloc ?_ (by first | (simp; done) | (simp; omega) | omega) _) | (with_reducible refine Below.drew ?_) | (with_reducible refine Below.drewN ?_ _)))) (by rw [HK.out]; exact o3) f3 d3); have z3 := f3.size; (try simp at z3); clear lX lR lQ x0 d3; have lX := TX3.lt; have lR := TR3.lt; have lQ := TQ3.lt; have x0 := TX3.cell 0 rfl; have xf := TX3.free
            refine hK.out _ _ ?_ (fun hHeld => ?_)
            focus (first | exact trivial | ((try dsimp only); (exact ⟨Blk.cell (by (repeat (first | (with_reducible assumption) | (with_reducible refine Blk.drew ?_) | (with_reducible refine Blk.other ?_ (by first | (simp; done) | (simp; omega) | omega) _) | (with_reducible refine Blk.alloc ?_ _))) : Blk _ w.heap.size 24 #[.slice (some ⟨b, o, none⟩) n c]) 0 rfl, (Below.cell (by (repeat (first | (with_reducible assumption) | (with_reducible exact Below.refl _ _) | (with_reducible refine Below.setCell ?_ (by first | (simp; done) | (simp; omega) | omega) _) | (with_reducible refine Below.alloc ?_ (by first | (simp; done) | (simp; omega) | omega) _) | (with_reducible refine Below.drew ?_) | (with_reducible refine Below.drewN ?_ _))) : Below w.heap.size w _) (p := ⟨b, o + p, none⟩) hbl).trans hc0⟩))); done
            clear hK K
            (try simp only [Act.put, List.setIfInBounds_toArray, List.set_cons_zero, List.set_cons_succ])
            refine wpAnyH_take (i := 11) (v := ?_) (by rw [List.getElem?_toArray]; rfl) (by kernel_rfl) (by kernel_rfl) (by kernel_rfl) (fun _ _ _ h => h) (Or.inl ⟨by rfl, ?_⟩) (by assumption) ?_
            rotate_left
            focus (intro wS hSw; (try dsimp only at hSw); go_simp; (try with_reducible rfl)); done
            (try simp only [Act.put, List.setIfInBounds_toArray, List.set_cons_zero, List.set_cons_succ])
            refine wpAnyH_ready (rs := [12]) (by kernel_rfl) (by simp) ?_
            refine AllReadyH.cons (by rw [List.getElem?_toArray]; rfl) (fun K hK => ?_) AllReadyH.nil
            go_simp
            skip
            refine hK.out _ _ ?_ (fun hHeld => ?_)
            focus (first | exact trivial | ((try dsimp only); (exact ⟨Blk.cell (by (repeat (first | (with_reducible assumption) | (with_reducible refine Blk.drew ?_) | (with_reducible refine Blk.other ?_ (by first | (simp; done) | (simp; omega) | omega) _) | (with_reducible refine Blk.alloc ?_ _))) : Blk _ w.heap.size 24 #[.slice (some ⟨b, o, none⟩) n c]) 0 rfl, (Below.cell (by (repeat (first | (with_reducible assumption) | (with_reducible exact Below.refl _ _) | (with_reducible refine Below.setCell ?_ (by first | (simp; done) | (simp; omega) | omega) _) | (with_reducible refine Below.alloc ?_ (by first | (simp; done) | (simp; omega) | omega) _) | (with_reducible refine Below.drew ?_) | (with_reducible refine Below.drewN ?_ _))) : Below w.heap.size w _) (p := ⟨b, o + p, none⟩) hbl).trans hc0⟩))); done
            clear hK K
            (try simp only [Act.put, List.setIfInBounds_toArray, List.set_cons_zero, List.set_cons_succ])
            refine wpAnyH_done (by kernel_rfl) ?_ _
            refine NoPanic.normal ?_
            go_wp2
            go_roundw
            case rel =>
              refine ⟨p + 1, by omega, by go_num, A3, c3, by (repeat (first | (with_reducible assumption) | (with_reducible refine Blk.drew ?_) | (with_reducible refine Blk.other ?_ (by first | (simp; done) | (simp; omega) | omega) _) | (with_reducible refine Blk.alloc ?_ _))), by (repeat (first | (with_reducible assumption) | (with_reducible refine Blk.drew ?_) | (with_reducible refine Blk.other ?_ (by first | (simp; done) | (simp; omega) | omega) _) | (with_reducible refine Blk.alloc ?_ _))), TX3.set 0 _, ?_, by (repeat (first | (with_reducible assumption) | (with_reducible exact Below.refl _ _) | (with_reducible refine Below.setCell ?_ (by first | (simp; done) | (simp; omega) | omega) _) | (with_reducible refine Below.alloc ?_ (by first | (simp; done) | (simp; omega) | omega) _) | (with_reducible refine Below.drew ?_) | (with_reducible refine Below.drewN ?_ _)))⟩
              rw [List.take_add_one, HY.out]
              exact hq3.out.set (Nat.lt_succ_self _) _
            case measure => simp [intOf]; omega
    · have hpn : p = n := by omega
      subst hpn
      have rf := TR.free
      have r0 := TR.cell 0 rfl
      have hq' : QOwn wr (w.heap.size + 1 + 1 + 1) A2 p c2 yss := by
        have h := hq
        rwa [List.take_of_length_le (by rw [HL.out]; exact Nat.le_refl _)] at h
      have HQ := Lib.hid hq'
      clear hr hq hq'
      go_wp2
      refine bodyPost_ret (v := queues A2 p c2) (by simp [results, Try.results62, go_sem, *]) rfl ⟨A2, c2, rfl, (HQ.out.set (by show w.heap.size + 1 < _; omega) _).mono (by omega), by (repeat (first | (with_reducible assumption) | (with_reducible exact Below.refl _ _) | (with_reducible refine Below.setCell ?_ (by first | (simp; done) | (simp; omega) | omega) _) | (with_reducible refine Below.alloc ?_ (by first | (simp; done) | (simp; omega) | omega) _) | (with_reducible refine Below.drew ?_) | (with_reducible refine Below.drewN ?_ _)))⟩
set_option maxHeartbeats 4000000 in
/-- For a thread and a priority that may be. -/
theorem ReadyAdd_any (B T c : Nat) (A : Option Addr) (yss : List (List Int)) (v : Int) (p : Nat) (w : World) (hr : Rows w B T A 8 yss) (hs : sizeOfRows yss ≤ 1000) (hv : queuesV yss = true) (h0 : 0 ≤ v) (h1 : v ≤ 15) (hp : p ≤ 7) :
    Calls Try.prog 55 #[queues A 8 c, .int .i64 v, .int .i64 p] w fun e w' => ∃ (A' : Option Addr) (c' : Nat) (yss' : List (List Int)) (ok : Bool), e = .returned (.tuple #[queues A' 8 c', .bool ok]) ∧ QOwn w' w.heap.size A' 8 c' yss' ∧ queuesV yss' = true ∧ sizeOfRows yss' ≤ sizeOfRows yss + 1 ∧ Below w.heap.size w w' := by
  obtain ⟨i0, hi0, hz0, hz1, hz2⟩ := info_parts Try.infoInt
  have hl := hr.len
  have hin : inB v 0 15 = true := inB_true.2 ⟨h0, h1⟩
  have hip : inB (p : Int) 0 7 = true := inB_true.2 ⟨by omega, by omega⟩
  replace hr := hr.here
  have TQ := (Blk.new w 24 #[.slice A 8 c]).alloc (.cells #[.slice none 0 0] 24)
  have TR := Blk.newAt (w := w.alloc (.cells #[.slice A 8 c] 24)) (n := w.heap.size + 1) 24 #[.slice none 0 0] (by simp)
  go_enter Try.func55, Try.ntmps55
  go_wp2_with fail
  refine (sQueuesValid_any 0 w.heap.size 8 c A yss _ ((hr.alloc _).alloc _) (by omega)).mono ?_
  rintro e w1 ⟨rfl, hb1⟩
  rw [hv]
  have z1 := hb1.size
  simp at z1
  replace TQ := TQ.below hb1
  replace TR := TR.below hb1
  have hB := Below.via (by (repeat (first | (with_reducible assumption) | (with_reducible exact Below.refl _ _) | (with_reducible refine Below.setCell ?_ (by first | (simp; done) | (simp; omega) | omega) _) | (with_reducible refine Below.alloc ?_ (by first | (simp; done) | (simp; omega) | omega) _) | (with_reducible refine Below.drew ?_) | (with_reducible refine Below.drewN ?_ _))) : Below w.heap.size w _) hb1
  clear hb1
  go_wp2_with fail
  refine (l1In_any _ _ _ _).mono ?_
  rintro e w2 ⟨rfl, rfl⟩
  rw [hin]
  go_wp2_with fail
  refine (l1In_any _ _ _ _).mono ?_
  rintro e w3 ⟨rfl, rfl⟩
  rw [hip]
  have q0 := TQ.cell 0 rfl
  have lQ := TQ.lt
  go_wp2_with fail
  refine (l8Copy_any 0 w.heap.size 8 c A yss _ (hr.below hB) (by omega)).mono ?_
  rintro e w4 ⟨A4, c4, rfl, hq, hb4⟩
  have z4 := hb4.size
  replace TQ := TQ.below hb4
  replace TR := TR.below hb4
  replace hB := Below.via hB hb4
  have TX := Blk.new w4 24 #[.slice A4 8 c4]
  replace TQ := TQ.alloc (.cells #[.slice A4 8 c4] 24)
  replace TR := TR.alloc (.cells #[.slice A4 8 c4] 24)
  have hW := (Below.refl w4.heap.size w4).alloc (Nat.le_refl _) (.cells #[.slice A4 8 c4] 24)
  clear q0 lQ hb4
  have q0 := TQ.cell 0 rfl
  have lQ := TQ.lt
  (try simp at lQ)
  go_wp2_with fail
  refine (sReadyPrio_any 0 w.heap.size 8 c A yss v _ ((hr.below hB).alloc _) (by omega)).mono ?_
  rintro e w5 ⟨rfl, hb5⟩
  have z5 := hb5.size
  simp at z5
  replace TQ := TQ.below hb5
  replace TR := TR.below hb5
  replace TX := TX.below hb5
  replace hW := Below.via hW hb5
  replace hB := Below.via (by (repeat (first | (with_reducible assumption) | (with_reducible exact Below.refl _ _) | (with_reducible refine Below.setCell ?_ (by first | (simp; done) | (simp; omega) | omega) _) | (with_reducible refine Below.alloc ?_ (by first | (simp; done) | (simp; omega) | omega) _) | (with_reducible refine Below.drew ?_) | (with_reducible refine Below.drewN ?_ _))) : Below w.heap.size w _) hb5
  clear hb5 q0 lQ hr TQ
  rw [rprio_ok hv]
  have x0 := TX.cell 0 rfl
  have r0 := TR.cell 0 rfl
  have rf := TR.free
  have lX := TX.lt
  have lR := TR.lt
  by_cases hpr : 0 ≤ prioF yss v
  · have HV := Lib.hid hv
    have HQ := Lib.hid hq
    clear hv hq
    go_wp2
    refine bodyPost_ret (v := .tuple #[queues A4 8 c4, .bool false]) (by simp [results, Try.results55, go_sem, *]) rfl ⟨A4, c4, yss, false, rfl, ?_, HV.out, by omega, by (repeat (first | (with_reducible assumption) | (with_reducible exact Below.refl _ _) | (with_reducible refine Below.setCell ?_ (by first | (simp; done) | (simp; omega) | omega) _) | (with_reducible refine Below.alloc ?_ (by first | (simp; done) | (simp; omega) | omega) _) | (with_reducible refine Below.drew ?_) | (with_reducible refine Below.drewN ?_ _)))⟩
    exact ((HQ.out.below hW).setT TR (by decide) (by decide) 0 _).mono (by omega)
  · obtain ⟨ys, hy⟩ : ∃ ys, yss[p]? = some ys := ⟨_, List.getElem?_eq_getElem (by omega)⟩
    have hvn := Lib.hid (add_valid hv hy hin (by omega))
    have hsn := Lib.hid (add_size (zs := [v]) hy)
    have hsz := row_small hs hy
    have hpi : (p : Int) < 8 := by omega
    have hp0 : (0 : Int) ≤ (p : Int) := by omega
    have hprn : prioF yss v < 0 := by omega
    obtain ⟨g, o, A', c', lo, hi, rfl, hg1, hg2, hc4, hown, hlo, hhi, -, -, hgrow⟩ := hq.grow hy
    have hc5 := (hW.cell (p := ⟨g, o + p, none⟩) hg2).trans hc4
    replace hown := hown.below hW
    have hg5 : g < w5.heap.size := by have := hW.size; omega
    obtain ⟨k1, hk1⟩ : ∃ k1, ys.length = k1 := ⟨_, rfl⟩
    rw [hk1] at hc5 hown hsz
    have HK := Lib.hid hk1
    have HG := Lib.hid hgrow
    clear hv hq hc4 hgrow hk1 hy
    go_wp2_with fail
    refine wp_region_noPanic ?_
    refine wp_region_held_drew (S := (fun W => W.cell? ⟨w4.heap.size, 0, none⟩ = some (.slice (some ⟨g, o, none⟩) 8 c4))) (by kernel_rfl) ?_ (fun hHeld => ?_)
    focus (first | exact trivial | ((try dsimp only); ((repeat' (first | assumption | with_reducible refine And.intro ?_ ?_)) <;> go_keep))); done
    refine wpAnyH_take (i := 0) (v := ?_) (by rw [List.getElem?_toArray]; rfl) (by kernel_rfl) (by kernel_rfl) (by kernel_rfl) (fun _ _ _ h => h) (Or.inl ⟨by rfl, ?_⟩) (by assumption) ?_
    rotate_left
    focus (intro wS hSw; (try dsimp only at hSw); go_simp; (try with_reducible rfl)); done
    (try simp only [Act.put, List.setIfInBounds_toArray, List.set_cons_zero, List.set_cons_succ])
    refine wpAnyH_take (i := 1) (v := ?_) (by rw [List.getElem?_toArray]; rfl) (by kernel_rfl) (by kernel_rfl) (by kernel_rfl) (fun _ _ _ h => h) (Or.inl ⟨by rfl, ?_⟩) (by assumption) ?_
    rotate_left
    focus (intro wS hSw; (try dsimp only at hSw); go_simp; (try with_reducible rfl)); done
    (try simp only [Act.put, List.setIfInBounds_toArray, List.set_cons_zero, List.set_cons_succ])
    refine wpAnyH_take (i := 2) (v := ?_) (by rw [List.getElem?_toArray]; rfl) (by kernel_rfl) (by kernel_rfl) (by kernel_rfl) (fun _ _ _ h => h) (Or.inl ⟨by rfl, ?_⟩) (by assumption) ?_
    rotate_left
    focus (intro wS hSw; (try dsimp only at hSw); go_simp; (try with_reducible rfl)); done
    (try simp only [Act.put, List.setIfInBounds_toArray, List.set_cons_zero, List.set_cons_succ])
    refine wpAnyH_take (i := 3) (v := ?_) (by rw [List.getElem?_toArray]; rfl) (by kernel_rfl) (by kernel_rfl) (by kernel_rfl) (fun _ _ _ h => h) (Or.inl ⟨by rfl, ?_⟩) (by assumption) ?_
    rotate_left
    focus (intro wS hSw; (try dsimp only at hSw); go_simp; (try with_reducible rfl)); done
    (try simp only [Act.put, List.setIfInBounds_toArray, List.set_cons_zero, List.set_cons_succ])
    refine wpAnyH_take (i := 4) (v := ?_) (by rw [List.getElem?_toArray]; rfl) (by kernel_rfl) (by kernel_rfl) (by kernel_rfl) (fun _ _ _ h => h) (Or.inl ⟨by rfl, ?_⟩) (by assumption) ?_
    rotate_left
    focus (intro wS hSw; (try dsimp only at hSw); go_simp; (try with_reducible rfl)); done
    (try simp only [Act.put, List.setIfInBounds_toArray, List.set_cons_zero, List.set_cons_succ])
    refine wpAnyH_take (i := 5) (v := ?_) (by rw [List.getElem?_toArray]; rfl) (by kernel_rfl) (by kernel_rfl) (by kernel_rfl) (fun _ _ _ h => h) (Or.inl ⟨by rfl, ?_⟩) (by assumption) ?_
    rotate_left
    focus (intro wS hSw; (try dsimp only at hSw); go_simp; (try with_reducible rfl)); done
    (try simp only [Act.put, List.setIfInBounds_toArray, List.set_cons_zero, List.set_cons_succ])
    refine wpAnyH_take (i := 6) (v := ?_) (by rw [List.getElem?_toArray]; rfl) (by kernel_rfl) (by kernel_rfl) (by kernel_rfl) (fun _ _ _ h => h) (Or.inl ⟨by rfl, ?_⟩) (by assumption) ?_
    rotate_left
    focus (intro wS hSw; (try dsimp only at hSw); go_simp; (try with_reducible rfl)); done
    (try simp only [Act.put, List.setIfInBounds_toArray, List.set_cons_zero, List.set_cons_succ])
    refine wpAnyH_take (i := 8) (v := ?_) (by rw [List.getElem?_toArray]; rfl) (by kernel_rfl) (by kernel_rfl) (by kernel_rfl) (fun _ _ _ h => h) (Or.inl ⟨by rfl, ?_⟩) (by assumption) ?_
    rotate_left
    focus (intro wS hSw; (try dsimp only at hSw); go_simp; (try with_reducible rfl)); done
    (try simp only [Act.put, List.setIfInBounds_toArray, List.set_cons_zero, List.set_cons_succ])
    refine wpAnyH_ready (rs := [7, 9]) (by kernel_rfl) (by simp) ?_
    refine AllReadyH.cons (by rw [List.getElem?_toArray]; rfl) (fun K hK => ?_) (AllReadyH.cons (by rw [List.getElem?_toArray]; rfl) (fun K hK => ?_) AllReadyH.nil)
    · go_simp
      skip
      refine hK.out _ _ ?_ (fun hHeld => ?_)
      focus (first | exact trivial | ((try dsimp only); (exact Blk.cell (by (repeat (first | (with_reducible assumption) | (with_reducible refine Blk.drew ?_) | (with_reducible refine Blk.other ?_ (by first | (simp; done) | (simp; omega) | omega) _) | (with_reducible refine Blk.alloc ?_ _))) : Blk _ w4.heap.size 24 #[.slice (some ⟨g, o, none⟩) 8 c4]) 0 rfl))); done
      clear hK K
      (try simp only [Act.put, List.setIfInBounds_toArray, List.set_cons_zero, List.set_cons_succ])
      refine wpAnyH_ready (rs := [9]) (by kernel_rfl) (by simp) ?_
      refine AllReadyH.cons (by rw [List.getElem?_toArray]; rfl) (fun K hK => ?_) AllReadyH.nil
      go_simp
      skip
      refine hK.out _ _ ?_ (fun hHeld => ?_)
      focus (first | exact trivial | ((try dsimp only); (exact Blk.cell (by (repeat (first | (with_reducible assumption) | (with_reducible refine Blk.drew ?_) | (with_reducible refine Blk.other ?_ (by first | (simp; done) | (simp; omega) | omega) _) | (with_reducible refine Blk.alloc ?_ _))) : Blk _ w4.heap.size 24 #[.slice (some ⟨g, o, none⟩) 8 c4]) 0 rfl))); done
      clear hK K
      (try simp only [Act.put, List.setIfInBounds_toArray, List.set_cons_zero, List.set_cons_succ])
      refine wpAnyH_ready (rs := [10]) (by kernel_rfl) (by simp) ?_
      refine AllReadyH.cons (by rw [List.getElem?_toArray]; rfl) (fun K hK => ?_) AllReadyH.nil
      refine step_app2 _ rfl (.tmp 37) (.tmp 39) 38 rfl 3 i0 (.int .i64 0) 1 8 Try.underlying38 hi0 hz0 hz1 hz2 rfl (by omega) lo hi w5.heap.size (w5.heap.size + 1) A' (some ⟨w5.heap.size, 0, none⟩) k1 c' 1 1 (ints ys) (ints [v]) rfl rfl (by (repeat (first | (with_reducible assumption) | (with_reducible refine Own.alloc ?_ _) | (with_reducible refine Own.drew ?_) | (with_reducible refine Own.set ?_ (by first | (simp; done) | (simp; omega) | omega) _)))) (lit_rd _ #[.int .i64 (v)] 3 1 _ (by (try simp) <;> (try omega)) rfl (by unfold maxLen; omega)) (ints_one _) (by unfold maxLen; omega) (by omega) (by (try simp) <;> omega) ?_; intro A6 c6 w6 L6 H6 o6 f6 d6; have h6 := HG.out w6 A6 c6 L6 H6 (ys ++ [v]) (Kept.of_fr (Fr.trans (Fr.of_below (by (repeat (first | (with_reducible assumption) | (with_reducible exact Below.refl _ _) | (with_reducible refine Below.setCell ?_ (by first | (simp; done) | (simp; omega) | omega) _) | (with_reducible refine Below.alloc ?_ (by first | (simp; done) | (simp; omega) | omega) _) | (with_reducible refine Below.drew ?_) | (with_reducible refine Below.drewN ?_ _))) : Below w4.heap.size w4 _) lo hi) f6)) (by rw [List.length_append, HK.out, ints_append]; exact o6) (d6.imp id (fun h => ⟨by rw [h.1]; (try simp) <;> omega, Nat.le_of_eq h.2⟩)); simp only [List.length_append, List.length_cons, List.length_nil, HK.out] at h6; obtain ⟨k6, kf6, hq6⟩ := h6; have HQ6 := Lib.hid hq6; clear hq6 d6; have z6 := f6.size; (try simp at z6); have TX6 := Blk.fr (by (repeat (first | (with_reducible assumption) | (with_reducible refine Blk.drew ?_) | (with_reducible refine Blk.other ?_ (by first | (simp; done) | (simp; omega) | omega) _) | (with_reducible refine Blk.alloc ?_ _))) : Blk _ w4.heap.size 24 #[.slice (some ⟨g, o, none⟩) 8 c4]) f6 (.inr hhi); have TR6 := Blk.fr (by (repeat (first | (with_reducible assumption) | (with_reducible refine Blk.drew ?_) | (with_reducible refine Blk.other ?_ (by first | (simp; done) | (simp; omega) | omega) _) | (with_reducible refine Blk.alloc ?_ _))) : Blk _ (w.heap.size + 1) 24 #[.slice none 0 0]) f6 (.inl (by omega)); have hB6 := Below.trans (by (repeat (first | (with_reducible assumption) | (with_reducible exact Below.refl _ _) | (with_reducible refine Below.setCell ?_ (by first | (simp; done) | (simp; omega) | omega) _) | (with_reducible refine Below.alloc ?_ (by first | (simp; done) | (simp; omega) | omega) _) | (with_reducible refine Below.drew ?_) | (with_reducible refine Below.drewN ?_ _))) : Below w.heap.size w _) (f6.below (W := w.heap.size) (by omega) (by (try simp) <;> omega)); clear x0 r0 rf lX lR hc5; have x0 := TX6.cell 0 rfl; have r0 := TR6.cell 0 rfl; have rf := TR6.free; have lX := TX6.lt; have lR := TR6.lt
      refine hK.out _ _ ?_ (fun hHeld => ?_)
      focus (first | exact trivial | ((try dsimp only); (exact Blk.cell (by (repeat (first | (with_reducible assumption) | (with_reducible refine Blk.drew ?_) | (with_reducible refine Blk.other ?_ (by first | (simp; done) | (simp; omega) | omega) _) | (with_reducible refine Blk.alloc ?_ _))) : Blk _ w4.heap.size 24 #[.slice (some ⟨g, o, none⟩) 8 c4]) 0 rfl))); done
      clear hK K
      (try simp only [Act.put, List.setIfInBounds_toArray, List.set_cons_zero, List.set_cons_succ])
      refine wpAnyH_take (i := 11) (v := ?_) (by rw [List.getElem?_toArray]; rfl) (by kernel_rfl) (by kernel_rfl) (by kernel_rfl) (fun _ _ _ h => h) (Or.inl ⟨by rfl, ?_⟩) (by assumption) ?_
      rotate_left
      focus (intro wS hSw; (try dsimp only at hSw); go_simp; (try with_reducible rfl)); done
      (try simp only [Act.put, List.setIfInBounds_toArray, List.set_cons_zero, List.set_cons_succ])
      refine wpAnyH_ready (rs := [12]) (by kernel_rfl) (by simp) ?_
      refine AllReadyH.cons (by rw [List.getElem?_toArray]; rfl) (fun K hK => ?_) AllReadyH.nil
      go_simp
      skip
      refine hK.out _ _ ?_ (fun hHeld => ?_)
      focus (first | exact trivial | ((try dsimp only); (exact Blk.cell (by (repeat (first | (with_reducible assumption) | (with_reducible refine Blk.drew ?_) | (with_reducible refine Blk.other ?_ (by first | (simp; done) | (simp; omega) | omega) _) | (with_reducible refine Blk.alloc ?_ _))) : Blk _ w4.heap.size 24 #[.slice (some ⟨g, o, none⟩) 8 c4]) 0 rfl))); done
      clear hK K
      (try simp only [Act.put, List.setIfInBounds_toArray, List.set_cons_zero, List.set_cons_succ])
      refine wpAnyH_done (by kernel_rfl) ?_ _
      refine NoPanic.normal ?_
      have TX7 : Blk _ w4.heap.size 24 #[.slice (some ⟨g, o, none⟩) 8 c4] := TX6.other (p := ⟨g, o + p, none⟩) (by show w4.heap.size ≠ g; omega) (.slice A6 (k1 + 1) c6)
      have TR7 := TR6.other (p := ⟨g, o + p, none⟩) (by show w.heap.size + 1 ≠ g; omega) (.slice A6 (k1 + 1) c6)
      clear x0 r0 rf
      have x0 := TX7.cell 0 rfl
      have r0 := TR7.cell 0 rfl
      have rf := TR7.free
      have HQ7 := Lib.hid (HQ6.out.setT TR7 (by decide) (by decide) 0 (.slice (some ⟨g, o, none⟩) 8 c4))
      go_wp2
      refine bodyPost_ret (v := .tuple #[queues (some ⟨g, o, none⟩) 8 c4, .bool true]) (by simp [results, Try.results55, go_sem, *]) rfl ⟨_, c4, yss.set p (ys ++ [v]), true, rfl, HQ7.out.mono (by omega), hvn.out, by rw [hsn.out]; simp, by (repeat (first | (with_reducible assumption) | (with_reducible exact Below.refl _ _) | (with_reducible refine Below.setCell ?_ (by first | (simp; done) | (simp; omega) | omega) _) | (with_reducible refine Below.alloc ?_ (by first | (simp; done) | (simp; omega) | omega) _) | (with_reducible refine Below.drew ?_) | (with_reducible refine Below.drewN ?_ _)))⟩
    · go_simp
      skip
      refine hK.out _ _ ?_ (fun hHeld => ?_)
      focus (first | exact trivial | ((try dsimp only); (exact Blk.cell (by (repeat (first | (with_reducible assumption) | (with_reducible refine Blk.drew ?_) | (with_reducible refine Blk.other ?_ (by first | (simp; done) | (simp; omega) | omega) _) | (with_reducible refine Blk.alloc ?_ _))) : Blk _ w4.heap.size 24 #[.slice (some ⟨g, o, none⟩) 8 c4]) 0 rfl))); done
      clear hK K
      (try simp only [Act.put, List.setIfInBounds_toArray, List.set_cons_zero, List.set_cons_succ])
      refine wpAnyH_ready (rs := [7]) (by kernel_rfl) (by simp) ?_
      refine AllReadyH.cons (by rw [List.getElem?_toArray]; rfl) (fun K hK => ?_) AllReadyH.nil
      go_simp
      skip
      refine hK.out _ _ ?_ (fun hHeld => ?_)
      focus (first | exact trivial | ((try dsimp only); (exact Blk.cell (by (repeat (first | (with_reducible assumption) | (with_reducible refine Blk.drew ?_) | (with_reducible refine Blk.other ?_ (by first | (simp; done) | (simp; omega) | omega) _) | (with_reducible refine Blk.alloc ?_ _))) : Blk _ w4.heap.size 24 #[.slice (some ⟨g, o, none⟩) 8 c4]) 0 rfl))); done
      clear hK K
      (try simp only [Act.put, List.setIfInBounds_toArray, List.set_cons_zero, List.set_cons_succ])
      refine wpAnyH_ready (rs := [10]) (by kernel_rfl) (by simp) ?_
      refine AllReadyH.cons (by rw [List.getElem?_toArray]; rfl) (fun K hK => ?_) AllReadyH.nil
      refine step_app2 _ rfl (.tmp 37) (.tmp 39) 38 rfl 3 i0 (.int .i64 0) 1 8 Try.underlying38 hi0 hz0 hz1 hz2 rfl (by omega) lo hi w5.heap.size (w5.heap.size + 1) A' (some ⟨w5.heap.size, 0, none⟩) k1 c' 1 1 (ints ys) (ints [v]) rfl rfl (by (repeat (first | (with_reducible assumption) | (with_reducible refine Own.alloc ?_ _) | (with_reducible refine Own.drew ?_) | (with_reducible refine Own.set ?_ (by first | (simp; done) | (simp; omega) | omega) _)))) (lit_rd _ #[.int .i64 (v)] 3 1 _ (by (try simp) <;> (try omega)) rfl (by unfold maxLen; omega)) (ints_one _) (by unfold maxLen; omega) (by omega) (by (try simp) <;> omega) ?_; intro A6 c6 w6 L6 H6 o6 f6 d6; have h6 := HG.out w6 A6 c6 L6 H6 (ys ++ [v]) (Kept.of_fr (Fr.trans (Fr.of_below (by (repeat (first | (with_reducible assumption) | (with_reducible exact Below.refl _ _) | (with_reducible refine Below.setCell ?_ (by first | (simp; done) | (simp; omega) | omega) _) | (with_reducible refine Below.alloc ?_ (by first | (simp; done) | (simp; omega) | omega) _) | (with_reducible refine Below.drew ?_) | (with_reducible refine Below.drewN ?_ _))) : Below w4.heap.size w4 _) lo hi) f6)) (by rw [List.length_append, HK.out, ints_append]; exact o6) (d6.imp id (fun h => ⟨by rw [h.1]; (try simp) <;> omega, Nat.le_of_eq h.2⟩)); simp only [List.length_append, List.length_cons, List.length_nil, HK.out] at h6; obtain ⟨k6, kf6, hq6⟩ := h6; have HQ6 := Lib.hid hq6; clear hq6 d6; have z6 := f6.size; (try simp at z6); have TX6 := Blk.fr (by (repeat (first | (with_reducible assumption) | (with_reducible refine Blk.drew ?_) | (with_reducible refine Blk.other ?_ (by first | (simp; done) | (simp; omega) | omega) _) | (with_reducible refine Blk.alloc ?_ _))) : Blk _ w4.heap.size 24 #[.slice (some ⟨g, o, none⟩) 8 c4]) f6 (.inr hhi); have TR6 := Blk.fr (by (repeat (first | (with_reducible assumption) | (with_reducible refine Blk.drew ?_) | (with_reducible refine Blk.other ?_ (by first | (simp; done) | (simp; omega) | omega) _) | (with_reducible refine Blk.alloc ?_ _))) : Blk _ (w.heap.size + 1) 24 #[.slice none 0 0]) f6 (.inl (by omega)); have hB6 := Below.trans (by (repeat (first | (with_reducible assumption) | (with_reducible exact Below.refl _ _) | (with_reducible refine Below.setCell ?_ (by first | (simp; done) | (simp; omega) | omega) _) | (with_reducible refine Below.alloc ?_ (by first | (simp; done) | (simp; omega) | omega) _) | (with_reducible refine Below.drew ?_) | (with_reducible refine Below.drewN ?_ _))) : Below w.heap.size w _) (f6.below (W := w.heap.size) (by omega) (by (try simp) <;> omega)); clear x0 r0 rf lX lR hc5; have x0 := TX6.cell 0 rfl; have r0 := TR6.cell 0 rfl; have rf := TR6.free; have lX := TX6.lt; have lR := TR6.lt
      refine hK.out _ _ ?_ (fun hHeld => ?_)
      focus (first | exact trivial | ((try dsimp only); (exact Blk.cell (by (repeat (first | (with_reducible assumption) | (with_reducible refine Blk.drew ?_) | (with_reducible refine Blk.other ?_ (by first | (simp; done) | (simp; omega) | omega) _) | (with_reducible refine Blk.alloc ?_ _))) : Blk _ w4.heap.size 24 #[.slice (some ⟨g, o, none⟩) 8 c4]) 0 rfl))); done
      clear hK K
      (try simp only [Act.put, List.setIfInBounds_toArray, List.set_cons_zero, List.set_cons_succ])
      refine wpAnyH_take (i := 11) (v := ?_) (by rw [List.getElem?_toArray]; rfl) (by kernel_rfl) (by kernel_rfl) (by kernel_rfl) (fun _ _ _ h => h) (Or.inl ⟨by rfl, ?_⟩) (by assumption) ?_
      rotate_left
      focus (intro wS hSw; (try dsimp only at hSw); go_simp; (try with_reducible rfl)); done
      (try simp only [Act.put, List.setIfInBounds_toArray, List.set_cons_zero, List.set_cons_succ])
      refine wpAnyH_ready (rs := [12]) (by kernel_rfl) (by simp) ?_
      refine AllReadyH.cons (by rw [List.getElem?_toArray]; rfl) (fun K hK => ?_) AllReadyH.nil
      go_simp
      skip
      refine hK.out _ _ ?_ (fun hHeld => ?_)
      focus (first | exact trivial | ((try dsimp only); (exact Blk.cell (by (repeat (first | (with_reducible assumption) | (with_reducible refine Blk.drew ?_) | (with_reducible refine Blk.other ?_ (by first | (simp; done) | (simp; omega) | omega) _) | (with_reducible refine Blk.alloc ?_ _))) : Blk _ w4.heap.size 24 #[.slice (some ⟨g, o, none⟩) 8 c4]) 0 rfl))); done
      clear hK K
      (try simp only [Act.put, List.setIfInBounds_toArray, List.set_cons_zero, List.set_cons_succ])
      refine wpAnyH_done (by kernel_rfl) ?_ _
      refine NoPanic.normal ?_
      have TX7 : Blk _ w4.heap.size 24 #[.slice (some ⟨g, o, none⟩) 8 c4] := TX6.other (p := ⟨g, o + p, none⟩) (by show w4.heap.size ≠ g; omega) (.slice A6 (k1 + 1) c6)
      have TR7 := TR6.other (p := ⟨g, o + p, none⟩) (by show w.heap.size + 1 ≠ g; omega) (.slice A6 (k1 + 1) c6)
      clear x0 r0 rf
      have x0 := TX7.cell 0 rfl
      have r0 := TR7.cell 0 rfl
      have rf := TR7.free
      have HQ7 := Lib.hid (HQ6.out.setT TR7 (by decide) (by decide) 0 (.slice (some ⟨g, o, none⟩) 8 c4))
      go_wp2
      refine bodyPost_ret (v := .tuple #[queues (some ⟨g, o, none⟩) 8 c4, .bool true]) (by simp [results, Try.results55, go_sem, *]) rfl ⟨_, c4, yss.set p (ys ++ [v]), true, rfl, HQ7.out.mono (by omega), hvn.out, by rw [hsn.out]; simp, by (repeat (first | (with_reducible assumption) | (with_reducible exact Below.refl _ _) | (with_reducible refine Below.setCell ?_ (by first | (simp; done) | (simp; omega) | omega) _) | (with_reducible refine Below.alloc ?_ (by first | (simp; done) | (simp; omega) | omega) _) | (with_reducible refine Below.drew ?_) | (with_reducible refine Below.drewN ?_ _)))⟩
end Go.Proofs.Ytccepnhnmpmkdaa
