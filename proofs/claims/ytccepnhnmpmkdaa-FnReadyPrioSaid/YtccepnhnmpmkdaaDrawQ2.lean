/- The draws of queues. -/
import Derived.Test.YtccepnhnmpmkdaaDrawQ1
import Derived.Test.YtccepnhnmpmkdaaDraw1
namespace Go.Proofs.Ytccepnhnmpmkdaa
set_option linter.unusedVariables false
open Go.RowKit
theorem wr64 {x : Int} (h0 : 0 ≤ x) (h1 : x ≤ 9223372036854775807) : IntKind.i64.wrap x = x := by
  rw [IntKind.wrap_i64]
  omega
theorem mul3 {b : Int} (h0 : 0 ≤ b) (h : b ≤ 2) : IntKind.i64.wrap (b * 3) = b * 3 := wr64 (by omega) (by omega)
/-- Drawn queues, in new memory; the reader in block g has gone on. -/
def DrawnQR (w : World) (g M : Nat) (e : Ending) (w' : World) : Prop :=
  ∃ (A : Option Addr) (n c : Nat) (yss : List (List Int)), e = .returned (queues A n c) ∧ Rows w' w.heap.size w'.heap.size A n yss ∧ n ≤ c ∧ sizeOfRows yss ≤ 100 ∧ Rdr w' g M ∧ Fr g (g + 1) w w'
/-- Drawn queues, in new memory. -/
def DrawnQ (w : World) (e : Ending) (w' : World) : Prop :=
  ∃ (A : Option Addr) (n c : Nat) (yss : List (List Int)), e = .returned (queues A n c) ∧ Rows w' w.heap.size w'.heap.size A n yss ∧ n ≤ c ∧ sizeOfRows yss ≤ 100 ∧ Below w.heap.size w w'
/-- .. and a number. -/
def DrawnQN (w : World) (e : Ending) (w' : World) : Prop :=
  ∃ (A : Option Addr) (n c : Nat) (yss : List (List Int)) (v : Int), e = .returned (.tuple #[queues A n c, .int .i64 v]) ∧ Rows w' w.heap.size w'.heap.size A n yss ∧ n ≤ c ∧ sizeOfRows yss ≤ 100 ∧ Below w.heap.size w w'
theorem ReadyAdd_at {B T c : Nat} {A : Option Addr} {yss : List (List Int)} {v p : Int} {w : World} (hr : Rows w B T A 8 yss) (hs : sizeOfRows yss ≤ 1000) (hv : queuesV yss = true) (h0 : 0 ≤ v) (h1 : v ≤ 15) (hp0 : 0 ≤ p) (hp : p ≤ 7) :
    Calls Try.prog 55 #[queues A 8 c, .int .i64 v, .int .i64 p] w fun e w' => ∃ (A' : Option Addr) (c' : Nat) (yss' : List (List Int)) (ok : Bool), e = .returned (.tuple #[queues A' 8 c', .bool ok]) ∧ QOwn w' w.heap.size A' 8 c' yss' ∧ queuesV yss' = true ∧ sizeOfRows yss' ≤ sizeOfRows yss + 1 ∧ Below w.heap.size w w' := by
  obtain ⟨q, rfl⟩ := Int.eq_ofNat_of_zero_le hp0
  exact ReadyAdd_any B T c A yss v q w hr hs hv h0 h1 (by omega)
set_option maxRecDepth 100000 in
set_option maxHeartbeats 20000000 in
theorem l20Queues_any (g N : Nat) (n : Int) (w : World) (hr : Rdr w g N) (hN : N ≤ 10000) (hn : n ≤ 4611686018427387904) :
    Calls Try.prog 41 #[.pointer (some ⟨g, 0, none⟩), .int .i64 n] w (DrawnQR w g (N + 30)) := by
  obtain ⟨i0, hi0, hz0, hz1, hz2⟩ := info_parts Try.infoInt
  have hgl := hr.lt
  go_enter Try.func41, Try.ntmps41
  go_wp2_with fail
  refine (sNewQueues_any _).mono ?_
  rintro e w1 ⟨A1, rfl, o1, hb1⟩
  have z1 := hb1.size
  simp at z1
  have TR := (Blk.new w 24 #[.slice none 0 0]).below hb1
  have hr1 := (hr.alloc (.cells #[.slice none 0 0] 24)).below hb1
  have F1 : Fr g (g + 1) w w1 := Fr.of_below (Below.via ((Below.refl _ _).alloc (Nat.le_refl _) _) hb1) g (g + 1)
  have hq := QOwn.made (o1.mono (B' := w.heap.size + 1) (T' := w1.heap.size) (by simp) (Nat.le_refl _)) (by omega)
  have hqn : queuesV (List.replicate 8 []) = true := nils_valid
  have hqs : sizeOfRows (List.replicate 8 []) ≤ 8 := by rw [size_nils]; exact Nat.le_refl _
  generalize (List.replicate 8 [] : List (List Int)) = yss0 at hq hqn hqs
  clear o1 hb1 hr
  go_wp2_with fail
  refine (pick_any _ _ (3) _ (hr1.alloc _) (by omega) (by omega)).mono ?_
  rintro e w2 ⟨v2, rfl, hv2, ul2, -, hr2, f2⟩
  replace ul2 := ul2 (by omega)
  have z2 := f2.size
  have lt2 := hr2.lt
  simp at z2
  have TQ := (Blk.new w1 24 #[.slice A1 8 8]).fr f2 (.inr (by omega))
  replace TR := (TR.alloc (.cells #[.slice A1 8 8] 24)).fr f2 (.inr (by omega))
  replace hq := (hq.alloc (.cells #[.slice A1 8 8] 24)).fr f2 (.inr (by omega))
  have F2 := Fr.trans (F1.alloc (.cells #[.slice A1 8 8] 24)) f2
  have e2 : IntKind.i64.wrap (1 + v2) = 1 + v2 := wr64 (by omega) (by omega)
  clear hr1 f2 F1
  go_wp2_with fail
  refine (pick_any _ _ (10) _ hr2 (by omega) (by omega)).mono ?_
  rintro e w3 ⟨v3, rfl, hv3, ul3, -, hr3, f3⟩
  replace ul3 := ul3 (by omega)
  have z3 := f3.size
  have lt3 := hr3.lt
  replace TQ := TQ.fr f3 (.inr (by omega))
  replace TR := TR.fr f3 (.inr (by omega))
  replace hq := hq.fr f3 (.inr (by omega))
  have F3 := F2.trans f3
  obtain ⟨k0, rfl⟩ := Int.eq_ofNat_of_zero_le hv3
  have hk0 : k0 ≤ 9 := by omega
  clear hr2 f3 F2 hv3 ul3
  go_wp2
  go_loopw [7] (fun i wr => ∃ (k c : Nat) (A : Option Addr) (yss : List (List Int)), k ≤ 9 ∧ i = .int .i64 k ∧ Blk wr w1.heap.size 24 #[.slice A 8 c] ∧ Blk wr w.heap.size 24 #[.slice none 0 0] ∧ QOwn wr (w.heap.size + 1) A 8 c yss ∧ Hid (queuesV yss = true) ∧ sizeOfRows yss + k ≤ 18 ∧ Rdr wr g (N + 22 - 2 * k) ∧ Fr g (g + 1) w wr) (fun i _ => (intOf i).toNat)
  case atStart => exact ⟨k0, 8, A1, yss0, hk0, rfl, TQ, TR, hq, Lib.hid hqn, by omega, hr3.mono (by omega), F3⟩
  case round =>
    clear TQ TR hq hqn hqs F3 hr3 hk0
    obtain ⟨k, c, A, yss, hk, rfl, TQ, TR, hq, hv, hs, hrd, hF⟩ := hrel
    have lQ := TQ.lt
    have lR := TR.lt
    have lg := hrd.lt
    have hwr := lR
    have q0 := TQ.cell 0 rfl
    have qf := TQ.free
    cases k with
    | succ q =>
      have hkq : (0 : Int) < ((q + 1 : Nat) : Int) := by omega
      go_wp2_with fail
      refine wp_region_noPanic ?_
      refine wp_region_held_drew (S := (fun _ => True)) (by kernel_rfl) ?_ (fun hHeld => ?_)
      focus (first | exact trivial | ((try dsimp only); ((repeat' (first | assumption | with_reducible refine And.intro ?_ ?_)) <;> go_keep))); done
      refine wpAnyH_take (i := 1) (v := ?_) (by rw [List.getElem?_toArray]; rfl) (by kernel_rfl) (by kernel_rfl) (by kernel_rfl) (fun _ _ _ h => h) (Or.inl ⟨by rfl, ?_⟩) (by assumption) ?_
      rotate_left
      focus (intro wS hSw; (try dsimp only at hSw); go_simp; (try with_reducible rfl)); done
      (try simp only [Act.put, List.setIfInBounds_toArray, List.set_cons_zero, List.set_cons_succ])
      refine wpAnyH_take (i := 3) (v := ?_) (by rw [List.getElem?_toArray]; rfl) (by kernel_rfl) (by kernel_rfl) (by kernel_rfl) (fun _ _ _ h => h) (Or.inl ⟨by rfl, ?_⟩) (by assumption) ?_
      rotate_left
      focus (intro wS hSw; (try dsimp only at hSw); go_simp; (try with_reducible rfl)); done
      (try simp only [Act.put, List.setIfInBounds_toArray, List.set_cons_zero, List.set_cons_succ])
      refine wpAnyH_take (i := 4) (v := ?_) (by rw [List.getElem?_toArray]; rfl) (by kernel_rfl) (by kernel_rfl) (by kernel_rfl) (fun _ _ _ h => h) (Or.inl ⟨by rfl, ?_⟩) (by assumption) ?_
      rotate_left
      focus (intro wS hSw; (try dsimp only at hSw); go_simp; (try with_reducible rfl)); done
      (try simp only [Act.put, List.setIfInBounds_toArray, List.set_cons_zero, List.set_cons_succ])
      refine wpAnyH_ready (rs := [0, 2]) (by kernel_rfl) (by simp) ?_
      refine AllReadyH.cons (by rw [List.getElem?_toArray]; rfl) (fun K hK => ?_) (AllReadyH.cons (by rw [List.getElem?_toArray]; rfl) (fun K hK => ?_) AllReadyH.nil)
      · go_simp
        skip
        refine hK.out _ _ ?_ (fun hHeld => ?_)
        focus (first | exact trivial | ((try dsimp only); (exact trivial))); done
        clear hK K
        (try simp only [Act.put, List.setIfInBounds_toArray, List.set_cons_zero, List.set_cons_succ])
        refine wpAnyH_ready (rs := [2]) (by kernel_rfl) (by simp) ?_
        refine AllReadyH.cons (by rw [List.getElem?_toArray]; rfl) (fun K hK => ?_) AllReadyH.nil
        go_simp
        refine (pick_any g (N + 22 - 2 * (q + 1)) 16 _ (by (repeat (first | (with_reducible assumption) | (with_reducible refine Rdr.drew ?_) | (with_reducible refine Rdr.set ?_ (by first | (simp; done) | (simp; omega) | omega) _) | (with_reducible refine Rdr.alloc ?_ _)))) (by omega) (by omega)).mono ?_; rintro e wa ⟨va, rfl, hva, ula, -, hra, fa⟩; replace ula := ula (by omega); have za := fa.size; (try simp at za); replace TQ := Blk.fr (by (repeat (first | (with_reducible assumption) | (with_reducible refine Blk.drew ?_) | (with_reducible refine Blk.other ?_ (by first | (simp; done) | (simp; omega) | omega) _) | (with_reducible refine Blk.alloc ?_ _))) : Blk _ w1.heap.size 24 #[.slice A 8 c]) fa (.inr (by omega)); replace TR := Blk.fr (by (repeat (first | (with_reducible assumption) | (with_reducible refine Blk.drew ?_) | (with_reducible refine Blk.other ?_ (by first | (simp; done) | (simp; omega) | omega) _) | (with_reducible refine Blk.alloc ?_ _))) : Blk _ w.heap.size 24 #[.slice none 0 0]) fa (.inr (by omega)); replace hq := QOwn.fr (by (repeat (first | (with_reducible assumption) | (with_reducible refine QOwn.drew ?_) | (with_reducible refine QOwn.alloc ?_ _))) : QOwn _ (w.heap.size + 1) A 8 c yss) fa (.inr (by omega)); replace hF := Fr.trans (by (repeat (first | (with_reducible assumption) | (with_reducible refine Fr.drew ?_) | (with_reducible exact Fr.refl _ _ _) | (with_reducible refine Fr.setOut ?_ (by first | (simp; done) | (simp; omega) | omega) _) | (with_reducible refine Fr.alloc ?_ _))) : Fr g (g + 1) w _) fa; clear fa q0 qf lQ lR lg hrd; have q0 := TQ.cell 0 rfl; have qf := TQ.free; have lQ := TQ.lt; have lR := TR.lt; have lg := hra.lt
        refine hK.out _ _ ?_ (fun hHeld => ?_)
        focus (first | exact trivial | ((try dsimp only); (exact trivial))); done
        clear hK K
        (try simp only [Act.put, List.setIfInBounds_toArray, List.set_cons_zero, List.set_cons_succ])
        refine wpAnyH_ready (rs := [5]) (by kernel_rfl) (by simp) ?_
        refine AllReadyH.cons (by rw [List.getElem?_toArray]; rfl) (fun K hK => ?_) AllReadyH.nil
        go_simp
        refine (pick_any g (N + 22 - 2 * (q + 1) + 1) (1 + v2) _ (by (repeat (first | (with_reducible assumption) | (with_reducible refine Rdr.drew ?_) | (with_reducible refine Rdr.set ?_ (by first | (simp; done) | (simp; omega) | omega) _) | (with_reducible refine Rdr.alloc ?_ _)))) (by omega) (by omega)).mono ?_; rintro e wb ⟨vb, rfl, hvb, ulb, -, hrb, fb⟩; replace ulb := ulb (by omega); have zb := fb.size; (try simp at zb); replace TQ := Blk.fr (by (repeat (first | (with_reducible assumption) | (with_reducible refine Blk.drew ?_) | (with_reducible refine Blk.other ?_ (by first | (simp; done) | (simp; omega) | omega) _) | (with_reducible refine Blk.alloc ?_ _))) : Blk _ w1.heap.size 24 #[.slice A 8 c]) fb (.inr (by omega)); replace TR := Blk.fr (by (repeat (first | (with_reducible assumption) | (with_reducible refine Blk.drew ?_) | (with_reducible refine Blk.other ?_ (by first | (simp; done) | (simp; omega) | omega) _) | (with_reducible refine Blk.alloc ?_ _))) : Blk _ w.heap.size 24 #[.slice none 0 0]) fb (.inr (by omega)); replace hq := QOwn.fr (by (repeat (first | (with_reducible assumption) | (with_reducible refine QOwn.drew ?_) | (with_reducible refine QOwn.alloc ?_ _))) : QOwn _ (w.heap.size + 1) A 8 c yss) fb (.inr (by omega)); replace hF := Fr.trans (by (repeat (first | (with_reducible assumption) | (with_reducible refine Fr.drew ?_) | (with_reducible exact Fr.refl _ _ _) | (with_reducible refine Fr.setOut ?_ (by first | (simp; done) | (simp; omega) | omega) _) | (with_reducible refine Fr.alloc ?_ _))) : Fr g (g + 1) w _) fb; clear fb q0 qf lQ lR lg hra; have q0 := TQ.cell 0 rfl; have qf := TQ.free; have lQ := TQ.lt; have lR := TR.lt; have lg := hrb.lt; have e3 := mul3 hvb (by omega)
        refine hK.out _ _ ?_ (fun hHeld => ?_)
        focus (first | exact trivial | ((try dsimp only); (exact trivial))); done
        clear hK K
        (try simp only [Act.put, List.setIfInBounds_toArray, List.set_cons_zero, List.set_cons_succ])
        refine wpAnyH_take (i := 6) (v := ?_) (by rw [List.getElem?_toArray]; rfl) (by kernel_rfl) (by kernel_rfl) (by kernel_rfl) (fun _ _ _ h => h) (Or.inl ⟨by rfl, ?_⟩) (by assumption) ?_
        rotate_left
        focus (intro wS hSw; (try dsimp only at hSw); go_simp; (try with_reducible rfl)); done
        (try simp only [Act.put, List.setIfInBounds_toArray, List.set_cons_zero, List.set_cons_succ])
        refine wpAnyH_ready (rs := [7]) (by kernel_rfl) (by simp) ?_
        refine AllReadyH.cons (by rw [List.getElem?_toArray]; rfl) (fun K hK => ?_) AllReadyH.nil
        go_simp
        refine (ReadyAdd_at (by (repeat (first | (with_reducible assumption) | (with_reducible refine QOwn.drew ?_) | (with_reducible refine QOwn.alloc ?_ _))) : QOwn _ (w.heap.size + 1) A 8 c yss).rows (by omega) hv.out hva (by omega) (by omega) (by omega)).mono ?_; rintro e w7 ⟨A7, c7, yss7, ok7, rfl, hq7, hv7, hs7, hb7⟩; have z7 := hb7.size; (try simp at z7); replace TQ := Blk.below (by (repeat (first | (with_reducible assumption) | (with_reducible refine Blk.drew ?_) | (with_reducible refine Blk.other ?_ (by first | (simp; done) | (simp; omega) | omega) _) | (with_reducible refine Blk.alloc ?_ _))) : Blk _ w1.heap.size 24 #[.slice A 8 c]) hb7; replace TR := Blk.below (by (repeat (first | (with_reducible assumption) | (with_reducible refine Blk.drew ?_) | (with_reducible refine Blk.other ?_ (by first | (simp; done) | (simp; omega) | omega) _) | (with_reducible refine Blk.alloc ?_ _))) : Blk _ w.heap.size 24 #[.slice none 0 0]) hb7; have hr7 := Rdr.below (by (repeat (first | (with_reducible assumption) | (with_reducible refine Rdr.drew ?_) | (with_reducible refine Rdr.set ?_ (by first | (simp; done) | (simp; omega) | omega) _) | (with_reducible refine Rdr.alloc ?_ _))) : Rdr _ g (N + 22 - 2 * (q + 1) + 1 + 1)) hb7; replace hF := Fr.trans (by (repeat (first | (with_reducible assumption) | (with_reducible refine Fr.drew ?_) | (with_reducible exact Fr.refl _ _ _) | (with_reducible refine Fr.setOut ?_ (by first | (simp; done) | (simp; omega) | omega) _) | (with_reducible refine Fr.alloc ?_ _))) : Fr g (g + 1) w _) (Fr.of_below hb7 g (g + 1)); have hqb := Below.size hb7; replace hq7 := Lib.hid hq7; replace hv7 := Lib.hid hv7; clear hb7 q0 qf lQ lR lg hrb hq; have q0 := TQ.cell 0 rfl; have qf := TQ.free; have lQ := TQ.lt; have lR := TR.lt; have lg := hr7.lt
        refine hK.out _ _ ?_ (fun hHeld => ?_)
        focus (first | exact trivial | ((try dsimp only); (exact trivial))); done
        clear hK K
        (try simp only [Act.put, List.setIfInBounds_toArray, List.set_cons_zero, List.set_cons_succ])
        refine wpAnyH_take (i := 8) (v := ?_) (by rw [List.getElem?_toArray]; rfl) (by kernel_rfl) (by kernel_rfl) (by kernel_rfl) (fun _ _ _ h => h) (Or.inl ⟨by rfl, ?_⟩) (by assumption) ?_
        rotate_left
        focus (intro wS hSw; (try dsimp only at hSw); go_simp; (try with_reducible rfl)); done
        (try simp only [Act.put, List.setIfInBounds_toArray, List.set_cons_zero, List.set_cons_succ])
        refine wpAnyH_take (i := 9) (v := ?_) (by rw [List.getElem?_toArray]; rfl) (by kernel_rfl) (by kernel_rfl) (by kernel_rfl) (fun _ _ _ h => h) (Or.inl ⟨by rfl, ?_⟩) (by assumption) ?_
        rotate_left
        focus (intro wS hSw; (try dsimp only at hSw); go_simp; (try with_reducible rfl)); done
        (try simp only [Act.put, List.setIfInBounds_toArray, List.set_cons_zero, List.set_cons_succ])
        refine wpAnyH_take (i := 10) (v := ?_) (by rw [List.getElem?_toArray]; rfl) (by kernel_rfl) (by kernel_rfl) (by kernel_rfl) (fun _ _ _ h => h) (Or.inl ⟨by rfl, ?_⟩) (by assumption) ?_
        rotate_left
        focus (intro wS hSw; (try dsimp only at hSw); go_simp; (try with_reducible rfl)); done
        (try simp only [Act.put, List.setIfInBounds_toArray, List.set_cons_zero, List.set_cons_succ])
        refine wpAnyH_ready (rs := [11]) (by kernel_rfl) (by simp) ?_
        refine AllReadyH.cons (by rw [List.getElem?_toArray]; rfl) (fun K hK => ?_) AllReadyH.nil
        go_simp
        skip
        refine hK.out _ _ ?_ (fun hHeld => ?_)
        focus (first | exact trivial | ((try dsimp only); (exact trivial))); done
        clear hK K
        (try simp only [Act.put, List.setIfInBounds_toArray, List.set_cons_zero, List.set_cons_succ])
        refine wpAnyH_done (by kernel_rfl) ?_ _
        refine NoPanic.normal ?_
        go_wp2
        go_roundw
        case rel =>
          refine ⟨q, c7, A7, yss7, by omega, by go_num, TQ.set 0 _, by (repeat (first | (with_reducible assumption) | (with_reducible refine Blk.drew ?_) | (with_reducible refine Blk.other ?_ (by first | (simp; done) | (simp; omega) | omega) _) | (with_reducible refine Blk.alloc ?_ _))), ?_, hv7, by omega, (by (repeat (first | (with_reducible assumption) | (with_reducible refine Rdr.drew ?_) | (with_reducible refine Rdr.set ?_ (by first | (simp; done) | (simp; omega) | omega) _) | (with_reducible refine Rdr.alloc ?_ _))) : Rdr _ g (N + 22 - 2 * (q + 1) + 1 + 1)).mono (by omega), by (repeat (first | (with_reducible assumption) | (with_reducible refine Fr.drew ?_) | (with_reducible exact Fr.refl _ _ _) | (with_reducible refine Fr.setOut ?_ (by first | (simp; done) | (simp; omega) | omega) _) | (with_reducible refine Fr.alloc ?_ _)))⟩
          exact (hq7.out.setT TQ (by decide) (by decide) 0 _).mono (by (try simp) <;> omega)
        case measure => simp [intOf]
      · go_simp
        refine (pick_any g (N + 22 - 2 * (q + 1)) 16 _ (by (repeat (first | (with_reducible assumption) | (with_reducible refine Rdr.drew ?_) | (with_reducible refine Rdr.set ?_ (by first | (simp; done) | (simp; omega) | omega) _) | (with_reducible refine Rdr.alloc ?_ _)))) (by omega) (by omega)).mono ?_; rintro e wa ⟨va, rfl, hva, ula, -, hra, fa⟩; replace ula := ula (by omega); have za := fa.size; (try simp at za); replace TQ := Blk.fr (by (repeat (first | (with_reducible assumption) | (with_reducible refine Blk.drew ?_) | (with_reducible refine Blk.other ?_ (by first | (simp; done) | (simp; omega) | omega) _) | (with_reducible refine Blk.alloc ?_ _))) : Blk _ w1.heap.size 24 #[.slice A 8 c]) fa (.inr (by omega)); replace TR := Blk.fr (by (repeat (first | (with_reducible assumption) | (with_reducible refine Blk.drew ?_) | (with_reducible refine Blk.other ?_ (by first | (simp; done) | (simp; omega) | omega) _) | (with_reducible refine Blk.alloc ?_ _))) : Blk _ w.heap.size 24 #[.slice none 0 0]) fa (.inr (by omega)); replace hq := QOwn.fr (by (repeat (first | (with_reducible assumption) | (with_reducible refine QOwn.drew ?_) | (with_reducible refine QOwn.alloc ?_ _))) : QOwn _ (w.heap.size + 1) A 8 c yss) fa (.inr (by omega)); replace hF := Fr.trans (by (repeat (first | (with_reducible assumption) | (with_reducible refine Fr.drew ?_) | (with_reducible exact Fr.refl _ _ _) | (with_reducible refine Fr.setOut ?_ (by first | (simp; done) | (simp; omega) | omega) _) | (with_reducible refine Fr.alloc ?_ _))) : Fr g (g + 1) w _) fa; clear fa q0 qf lQ lR lg hrd; have q0 := TQ.cell 0 rfl; have qf := TQ.free; have lQ := TQ.lt; have lR := TR.lt; have lg := hra.lt
        refine hK.out _ _ ?_ (fun hHeld => ?_)
        focus (first | exact trivial | ((try dsimp only); (exact trivial))); done
        clear hK K
        (try simp only [Act.put, List.setIfInBounds_toArray, List.set_cons_zero, List.set_cons_succ])
        refine wpAnyH_ready (rs := [0, 5]) (by kernel_rfl) (by simp) ?_
        refine AllReadyH.cons (by rw [List.getElem?_toArray]; rfl) (fun K hK => ?_) (AllReadyH.cons (by rw [List.getElem?_toArray]; rfl) (fun K hK => ?_) AllReadyH.nil)
        · go_simp
          skip
          refine hK.out _ _ ?_ (fun hHeld => ?_)
          focus (first | exact trivial | ((try dsimp only); (exact trivial))); done
          clear hK K
          (try simp only [Act.put, List.setIfInBounds_toArray, List.set_cons_zero, List.set_cons_succ])
          refine wpAnyH_ready (rs := [5]) (by kernel_rfl) (by simp) ?_
          refine AllReadyH.cons (by rw [List.getElem?_toArray]; rfl) (fun K hK => ?_) AllReadyH.nil
          go_simp
          refine (pick_any g (N + 22 - 2 * (q + 1) + 1) (1 + v2) _ (by (repeat (first | (with_reducible assumption) | (with_reducible refine Rdr.drew ?_) | (with_reducible refine Rdr.set ?_ (by first | (simp; done) | (simp; omega) | omega) _) | (with_reducible refine Rdr.alloc ?_ _)))) (by omega) (by omega)).mono ?_; rintro e wb ⟨vb, rfl, hvb, ulb, -, hrb, fb⟩; replace ulb := ulb (by omega); have zb := fb.size; (try simp at zb); replace TQ := Blk.fr (by (repeat (first | (with_reducible assumption) | (with_reducible refine Blk.drew ?_) | (with_reducible refine Blk.other ?_ (by first | (simp; done) | (simp; omega) | omega) _) | (with_reducible refine Blk.alloc ?_ _))) : Blk _ w1.heap.size 24 #[.slice A 8 c]) fb (.inr (by omega)); replace TR := Blk.fr (by (repeat (first | (with_reducible assumption) | (with_reducible refine Blk.drew ?_) | (with_reducible refine Blk.other ?_ (by first | (simp; done) | (simp; omega) | omega) _) | (with_reducible refine Blk.alloc ?_ _))) : Blk _ w.heap.size 24 #[.slice none 0 0]) fb (.inr (by omega)); replace hq := QOwn.fr (by (repeat (first | (with_reducible assumption) | (with_reducible refine QOwn.drew ?_) | (with_reducible refine QOwn.alloc ?_ _))) : QOwn _ (w.heap.size + 1) A 8 c yss) fb (.inr (by omega)); replace hF := Fr.trans (by (repeat (first | (with_reducible assumption) | (with_reducible refine Fr.drew ?_) | (with_reducible exact Fr.refl _ _ _) | (with_reducible refine Fr.setOut ?_ (by first | (simp; done) | (simp; omega) | omega) _) | (with_reducible refine Fr.alloc ?_ _))) : Fr g (g + 1) w _) fb; clear fb q0 qf lQ lR lg hra; have q0 := TQ.cell 0 rfl; have qf := TQ.free; have lQ := TQ.lt; have lR := TR.lt; have lg := hrb.lt; have e3 := mul3 hvb (by omega)
          refine hK.out _ _ ?_ (fun hHeld => ?_)
          focus (first | exact trivial | ((try dsimp only); (exact trivial))); done
          clear hK K
          (try simp only [Act.put, List.setIfInBounds_toArray, List.set_cons_zero, List.set_cons_succ])
          refine wpAnyH_take (i := 6) (v := ?_) (by rw [List.getElem?_toArray]; rfl) (by kernel_rfl) (by kernel_rfl) (by kernel_rfl) (fun _ _ _ h => h) (Or.inl ⟨by rfl, ?_⟩) (by assumption) ?_
          rotate_left
          focus (intro wS hSw; (try dsimp only at hSw); go_simp; (try with_reducible rfl)); done
          (try simp only [Act.put, List.setIfInBounds_toArray, List.set_cons_zero, List.set_cons_succ])
          refine wpAnyH_ready (rs := [7]) (by kernel_rfl) (by simp) ?_
          refine AllReadyH.cons (by rw [List.getElem?_toArray]; rfl) (fun K hK => ?_) AllReadyH.nil
          go_simp
          refine (ReadyAdd_at (by (repeat (first | (with_reducible assumption) | (with_reducible refine QOwn.drew ?_) | (with_reducible refine QOwn.alloc ?_ _))) : QOwn _ (w.heap.size + 1) A 8 c yss).rows (by omega) hv.out hva (by omega) (by omega) (by omega)).mono ?_; rintro e w7 ⟨A7, c7, yss7, ok7, rfl, hq7, hv7, hs7, hb7⟩; have z7 := hb7.size; (try simp at z7); replace TQ := Blk.below (by (repeat (first | (with_reducible assumption) | (with_reducible refine Blk.drew ?_) | (with_reducible refine Blk.other ?_ (by first | (simp; done) | (simp; omega) | omega) _) | (with_reducible refine Blk.alloc ?_ _))) : Blk _ w1.heap.size 24 #[.slice A 8 c]) hb7; replace TR := Blk.below (by (repeat (first | (with_reducible assumption) | (with_reducible refine Blk.drew ?_) | (with_reducible refine Blk.other ?_ (by first | (simp; done) | (simp; omega) | omega) _) | (with_reducible refine Blk.alloc ?_ _))) : Blk _ w.heap.size 24 #[.slice none 0 0]) hb7; have hr7 := Rdr.below (by (repeat (first | (with_reducible assumption) | (with_reducible refine Rdr.drew ?_) | (with_reducible refine Rdr.set ?_ (by first | (simp; done) | (simp; omega) | omega) _) | (with_reducible refine Rdr.alloc ?_ _))) : Rdr _ g (N + 22 - 2 * (q + 1) + 1 + 1)) hb7; replace hF := Fr.trans (by (repeat (first | (with_reducible assumption) | (with_reducible refine Fr.drew ?_) | (with_reducible exact Fr.refl _ _ _) | (with_reducible refine Fr.setOut ?_ (by first | (simp; done) | (simp; omega) | omega) _) | (with_reducible refine Fr.alloc ?_ _))) : Fr g (g + 1) w _) (Fr.of_below hb7 g (g + 1)); have hqb := Below.size hb7; replace hq7 := Lib.hid hq7; replace hv7 := Lib.hid hv7; clear hb7 q0 qf lQ lR lg hrb hq; have q0 := TQ.cell 0 rfl; have qf := TQ.free; have lQ := TQ.lt; have lR := TR.lt; have lg := hr7.lt
          refine hK.out _ _ ?_ (fun hHeld => ?_)
          focus (first | exact trivial | ((try dsimp only); (exact trivial))); done
          clear hK K
          (try simp only [Act.put, List.setIfInBounds_toArray, List.set_cons_zero, List.set_cons_succ])
          refine wpAnyH_take (i := 8) (v := ?_) (by rw [List.getElem?_toArray]; rfl) (by kernel_rfl) (by kernel_rfl) (by kernel_rfl) (fun _ _ _ h => h) (Or.inl ⟨by rfl, ?_⟩) (by assumption) ?_
          rotate_left
          focus (intro wS hSw; (try dsimp only at hSw); go_simp; (try with_reducible rfl)); done
          (try simp only [Act.put, List.setIfInBounds_toArray, List.set_cons_zero, List.set_cons_succ])
          refine wpAnyH_take (i := 9) (v := ?_) (by rw [List.getElem?_toArray]; rfl) (by kernel_rfl) (by kernel_rfl) (by kernel_rfl) (fun _ _ _ h => h) (Or.inl ⟨by rfl, ?_⟩) (by assumption) ?_
          rotate_left
          focus (intro wS hSw; (try dsimp only at hSw); go_simp; (try with_reducible rfl)); done
          (try simp only [Act.put, List.setIfInBounds_toArray, List.set_cons_zero, List.set_cons_succ])
          refine wpAnyH_take (i := 10) (v := ?_) (by rw [List.getElem?_toArray]; rfl) (by kernel_rfl) (by kernel_rfl) (by kernel_rfl) (fun _ _ _ h => h) (Or.inl ⟨by rfl, ?_⟩) (by assumption) ?_
          rotate_left
          focus (intro wS hSw; (try dsimp only at hSw); go_simp; (try with_reducible rfl)); done
          (try simp only [Act.put, List.setIfInBounds_toArray, List.set_cons_zero, List.set_cons_succ])
          refine wpAnyH_ready (rs := [11]) (by kernel_rfl) (by simp) ?_
          refine AllReadyH.cons (by rw [List.getElem?_toArray]; rfl) (fun K hK => ?_) AllReadyH.nil
          go_simp
          skip
          refine hK.out _ _ ?_ (fun hHeld => ?_)
          focus (first | exact trivial | ((try dsimp only); (exact trivial))); done
          clear hK K
          (try simp only [Act.put, List.setIfInBounds_toArray, List.set_cons_zero, List.set_cons_succ])
          refine wpAnyH_done (by kernel_rfl) ?_ _
          refine NoPanic.normal ?_
          go_wp2
          go_roundw
          case rel =>
            refine ⟨q, c7, A7, yss7, by omega, by go_num, TQ.set 0 _, by (repeat (first | (with_reducible assumption) | (with_reducible refine Blk.drew ?_) | (with_reducible refine Blk.other ?_ (by first | (simp; done) | (simp; omega) | omega) _) | (with_reducible refine Blk.alloc ?_ _))), ?_, hv7, by omega, (by (repeat (first | (with_reducible assumption) | (with_reducible refine Rdr.drew ?_) | (with_reducible refine Rdr.set ?_ (by first | (simp; done) | (simp; omega) | omega) _) | (with_reducible refine Rdr.alloc ?_ _))) : Rdr _ g (N + 22 - 2 * (q + 1) + 1 + 1)).mono (by omega), by (repeat (first | (with_reducible assumption) | (with_reducible refine Fr.drew ?_) | (with_reducible exact Fr.refl _ _ _) | (with_reducible refine Fr.setOut ?_ (by first | (simp; done) | (simp; omega) | omega) _) | (with_reducible refine Fr.alloc ?_ _)))⟩
            exact (hq7.out.setT TQ (by decide) (by decide) 0 _).mono (by (try simp) <;> omega)
          case measure => simp [intOf]
        · go_simp
          refine (pick_any g (N + 22 - 2 * (q + 1) + 1) (1 + v2) _ (by (repeat (first | (with_reducible assumption) | (with_reducible refine Rdr.drew ?_) | (with_reducible refine Rdr.set ?_ (by first | (simp; done) | (simp; omega) | omega) _) | (with_reducible refine Rdr.alloc ?_ _)))) (by omega) (by omega)).mono ?_; rintro e wb ⟨vb, rfl, hvb, ulb, -, hrb, fb⟩; replace ulb := ulb (by omega); have zb := fb.size; (try simp at zb); replace TQ := Blk.fr (by (repeat (first | (with_reducible assumption) | (with_reducible refine Blk.drew ?_) | (with_reducible refine Blk.other ?_ (by first | (simp; done) | (simp; omega) | omega) _) | (with_reducible refine Blk.alloc ?_ _))) : Blk _ w1.heap.size 24 #[.slice A 8 c]) fb (.inr (by omega)); replace TR := Blk.fr (by (repeat (first | (with_reducible assumption) | (with_reducible refine Blk.drew ?_) | (with_reducible refine Blk.other ?_ (by first | (simp; done) | (simp; omega) | omega) _) | (with_reducible refine Blk.alloc ?_ _))) : Blk _ w.heap.size 24 #[.slice none 0 0]) fb (.inr (by omega)); replace hq := QOwn.fr (by (repeat (first | (with_reducible assumption) | (with_reducible refine QOwn.drew ?_) | (with_reducible refine QOwn.alloc ?_ _))) : QOwn _ (w.heap.size + 1) A 8 c yss) fb (.inr (by omega)); replace hF := Fr.trans (by (repeat (first | (with_reducible assumption) | (with_reducible refine Fr.drew ?_) | (with_reducible exact Fr.refl _ _ _) | (with_reducible refine Fr.setOut ?_ (by first | (simp; done) | (simp; omega) | omega) _) | (with_reducible refine Fr.alloc ?_ _))) : Fr g (g + 1) w _) fb; clear fb q0 qf lQ lR lg hra; have q0 := TQ.cell 0 rfl; have qf := TQ.free; have lQ := TQ.lt; have lR := TR.lt; have lg := hrb.lt; have e3 := mul3 hvb (by omega)
          refine hK.out _ _ ?_ (fun hHeld => ?_)
          focus (first | exact trivial | ((try dsimp only); (exact trivial))); done
          clear hK K
          (try simp only [Act.put, List.setIfInBounds_toArray, List.set_cons_zero, List.set_cons_succ])
          refine wpAnyH_take (i := 6) (v := ?_) (by rw [List.getElem?_toArray]; rfl) (by kernel_rfl) (by kernel_rfl) (by kernel_rfl) (fun _ _ _ h => h) (Or.inl ⟨by rfl, ?_⟩) (by assumption) ?_
          rotate_left
          focus (intro wS hSw; (try dsimp only at hSw); go_simp; (try with_reducible rfl)); done
          (try simp only [Act.put, List.setIfInBounds_toArray, List.set_cons_zero, List.set_cons_succ])
          refine wpAnyH_ready (rs := [0]) (by kernel_rfl) (by simp) ?_
          refine AllReadyH.cons (by rw [List.getElem?_toArray]; rfl) (fun K hK => ?_) AllReadyH.nil
          go_simp
          skip
          refine hK.out _ _ ?_ (fun hHeld => ?_)
          focus (first | exact trivial | ((try dsimp only); (exact trivial))); done
          clear hK K
          (try simp only [Act.put, List.setIfInBounds_toArray, List.set_cons_zero, List.set_cons_succ])
          refine wpAnyH_ready (rs := [7]) (by kernel_rfl) (by simp) ?_
          refine AllReadyH.cons (by rw [List.getElem?_toArray]; rfl) (fun K hK => ?_) AllReadyH.nil
          go_simp
          refine (ReadyAdd_at (by (repeat (first | (with_reducible assumption) | (with_reducible refine QOwn.drew ?_) | (with_reducible refine QOwn.alloc ?_ _))) : QOwn _ (w.heap.size + 1) A 8 c yss).rows (by omega) hv.out hva (by omega) (by omega) (by omega)).mono ?_; rintro e w7 ⟨A7, c7, yss7, ok7, rfl, hq7, hv7, hs7, hb7⟩; have z7 := hb7.size; (try simp at z7); replace TQ := Blk.below (by (repeat (first | (with_reducible assumption) | (with_reducible refine Blk.drew ?_) | (with_reducible refine Blk.other ?_ (by first | (simp; done) | (simp; omega) | omega) _) | (with_reducible refine Blk.alloc ?_ _))) : Blk _ w1.heap.size 24 #[.slice A 8 c]) hb7; replace TR := Blk.below (by (repeat (first | (with_reducible assumption) | (with_reducible refine Blk.drew ?_) | (with_reducible refine Blk.other ?_ (by first | (simp; done) | (simp; omega) | omega) _) | (with_reducible refine Blk.alloc ?_ _))) : Blk _ w.heap.size 24 #[.slice none 0 0]) hb7; have hr7 := Rdr.below (by (repeat (first | (with_reducible assumption) | (with_reducible refine Rdr.drew ?_) | (with_reducible refine Rdr.set ?_ (by first | (simp; done) | (simp; omega) | omega) _) | (with_reducible refine Rdr.alloc ?_ _))) : Rdr _ g (N + 22 - 2 * (q + 1) + 1 + 1)) hb7; replace hF := Fr.trans (by (repeat (first | (with_reducible assumption) | (with_reducible refine Fr.drew ?_) | (with_reducible exact Fr.refl _ _ _) | (with_reducible refine Fr.setOut ?_ (by first | (simp; done) | (simp; omega) | omega) _) | (with_reducible refine Fr.alloc ?_ _))) : Fr g (g + 1) w _) (Fr.of_below hb7 g (g + 1)); have hqb := Below.size hb7; replace hq7 := Lib.hid hq7; replace hv7 := Lib.hid hv7; clear hb7 q0 qf lQ lR lg hrb hq; have q0 := TQ.cell 0 rfl; have qf := TQ.free; have lQ := TQ.lt; have lR := TR.lt; have lg := hr7.lt
          refine hK.out _ _ ?_ (fun hHeld => ?_)
          focus (first | exact trivial | ((try dsimp only); (exact trivial))); done
          clear hK K
          (try simp only [Act.put, List.setIfInBounds_toArray, List.set_cons_zero, List.set_cons_succ])
          refine wpAnyH_take (i := 8) (v := ?_) (by rw [List.getElem?_toArray]; rfl) (by kernel_rfl) (by kernel_rfl) (by kernel_rfl) (fun _ _ _ h => h) (Or.inl ⟨by rfl, ?_⟩) (by assumption) ?_
          rotate_left
          focus (intro wS hSw; (try dsimp only at hSw); go_simp; (try with_reducible rfl)); done
          (try simp only [Act.put, List.setIfInBounds_toArray, List.set_cons_zero, List.set_cons_succ])
          refine wpAnyH_take (i := 9) (v := ?_) (by rw [List.getElem?_toArray]; rfl) (by kernel_rfl) (by kernel_rfl) (by kernel_rfl) (fun _ _ _ h => h) (Or.inl ⟨by rfl, ?_⟩) (by assumption) ?_
          rotate_left
          focus (intro wS hSw; (try dsimp only at hSw); go_simp; (try with_reducible rfl)); done
          (try simp only [Act.put, List.setIfInBounds_toArray, List.set_cons_zero, List.set_cons_succ])
          refine wpAnyH_take (i := 10) (v := ?_) (by rw [List.getElem?_toArray]; rfl) (by kernel_rfl) (by kernel_rfl) (by kernel_rfl) (fun _ _ _ h => h) (Or.inl ⟨by rfl, ?_⟩) (by assumption) ?_
          rotate_left
          focus (intro wS hSw; (try dsimp only at hSw); go_simp; (try with_reducible rfl)); done
          (try simp only [Act.put, List.setIfInBounds_toArray, List.set_cons_zero, List.set_cons_succ])
          refine wpAnyH_ready (rs := [11]) (by kernel_rfl) (by simp) ?_
          refine AllReadyH.cons (by rw [List.getElem?_toArray]; rfl) (fun K hK => ?_) AllReadyH.nil
          go_simp
          skip
          refine hK.out _ _ ?_ (fun hHeld => ?_)
          focus (first | exact trivial | ((try dsimp only); (exact trivial))); done
          clear hK K
          (try simp only [Act.put, List.setIfInBounds_toArray, List.set_cons_zero, List.set_cons_succ])
          refine wpAnyH_done (by kernel_rfl) ?_ _
          refine NoPanic.normal ?_
          go_wp2
          go_roundw
          case rel =>
            refine ⟨q, c7, A7, yss7, by omega, by go_num, TQ.set 0 _, by (repeat (first | (with_reducible assumption) | (with_reducible refine Blk.drew ?_) | (with_reducible refine Blk.other ?_ (by first | (simp; done) | (simp; omega) | omega) _) | (with_reducible refine Blk.alloc ?_ _))), ?_, hv7, by omega, (by (repeat (first | (with_reducible assumption) | (with_reducible refine Rdr.drew ?_) | (with_reducible refine Rdr.set ?_ (by first | (simp; done) | (simp; omega) | omega) _) | (with_reducible refine Rdr.alloc ?_ _))) : Rdr _ g (N + 22 - 2 * (q + 1) + 1 + 1)).mono (by omega), by (repeat (first | (with_reducible assumption) | (with_reducible refine Fr.drew ?_) | (with_reducible exact Fr.refl _ _ _) | (with_reducible refine Fr.setOut ?_ (by first | (simp; done) | (simp; omega) | omega) _) | (with_reducible refine Fr.alloc ?_ _)))⟩
            exact (hq7.out.setT TQ (by decide) (by decide) 0 _).mono (by (try simp) <;> omega)
          case measure => simp [intOf]
    | zero =>
      have hz : ¬ (0 : Int) < ((0 : Nat) : Int) := by omega
      go_wp2_with fail
      refine (odd_any _ _ (n) _ hrd (by omega) (by omega)).mono ?_
      rintro e w8 ⟨b8, rfl, hr8, f8⟩
      have z8 := f8.size
      have lt8 := hr8.lt
      replace TQ := TQ.fr f8 (.inr (by omega))
      replace TR := TR.fr f8 (.inr (by omega))
      replace hq := hq.fr f8 (.inr (by omega))
      replace hF := hF.trans f8
      clear f8 q0 qf lQ lR lg hrd
      cases b8
      · have q0 := TQ.cell 0 rfl
        have r0 := TR.cell 0 rfl
        have rf := TR.free
        have lR := TR.lt
        have lQ := TQ.lt
        have hle := hq.le
        have HQ := Lib.hid hq
        clear hq
        go_wp2
        refine bodyPost_ret (v := queues A 8 c) (by simp [results, Try.results41, go_sem, *]) rfl ⟨A, 8, c, yss, rfl, ?_, hle, by omega, (by (repeat (first | (with_reducible assumption) | (with_reducible refine Rdr.drew ?_) | (with_reducible refine Rdr.set ?_ (by first | (simp; done) | (simp; omega) | omega) _) | (with_reducible refine Rdr.alloc ?_ _))) : Rdr _ g (N + 22 - 2 * 0 + 1)).mono (by omega), by (repeat (first | (with_reducible assumption) | (with_reducible refine Fr.drew ?_) | (with_reducible exact Fr.refl _ _ _) | (with_reducible refine Fr.setOut ?_ (by first | (simp; done) | (simp; omega) | omega) _) | (with_reducible refine Fr.alloc ?_ _)))⟩
        exact (HQ.out.setT TR (by decide) (by decide) 0 _).rows.mono (by omega) (by simp)
      · skip
        go_wp2_with fail
        refine (pick_any _ _ (3) _ hr8 (by omega) (by omega)).mono ?_
        rintro e w9 ⟨v9, rfl, hv9, ul9, -, hr9, f9⟩
        replace ul9 := ul9 (by omega)
        have z9 := f9.size
        have lt9 := hr9.lt
        replace TQ := TQ.fr f9 (.inr (by omega))
        replace TR := TR.fr f9 (.inr (by omega))
        replace hq := hq.fr f9 (.inr (by omega))
        replace hF := hF.trans f9
        have hle := hq.le
        have hlen := hq.len
        clear f9 hr8
        have lQ := TQ.lt
        have lR := TR.lt
        rcases (by omega : v9 = 0 ∨ v9 = 1 ∨ v9 = 2) with rfl | rfl | rfl
        · obtain ⟨ys, hy⟩ : ∃ ys, yss[0]? = some ys := ⟨_, List.getElem?_eq_getElem (by omega)⟩
          obtain ⟨ga, oa, A', c', lo, hi, rfl, hg1, hg2, -, -, -, -, -, -, -⟩ := hq.grow hy
          have q0 := TQ.cell 0 rfl
          have qf := TQ.free
          have hc1 : (1 : Int) ≤ (c : Int) := by omega
          have hc8 : (8 : Int) ≤ (c : Int) := by omega
          have hce : ¬ c = 1 := by omega
          have HQ := Lib.hid (hq.setT TQ (by decide) (by decide) 0 (.slice (some ⟨ga, oa + 1, none⟩) 7 (c - 1)))
          have TR2 := TR.other (p := ⟨w1.heap.size, 0, none⟩) (by show w.heap.size ≠ w1.heap.size; omega) (.slice (some ⟨ga, oa + 1, none⟩) 7 (c - 1))
          have r0 := TR2.cell 0 rfl
          have rf := TR2.free
          clear hq hy
          go_wp2
          refine bodyPost_ret (v := queues (some ⟨ga, oa + 1, none⟩) 7 (c - 1)) (by simp [results, Try.results41, go_sem, *]) rfl ⟨_, 7, c - 1, yss.drop 1, rfl, ?_, by omega, by have := size_drop (yss := yss); omega, (by (repeat (first | (with_reducible assumption) | (with_reducible refine Rdr.drew ?_) | (with_reducible refine Rdr.set ?_ (by first | (simp; done) | (simp; omega) | omega) _) | (with_reducible refine Rdr.alloc ?_ _))) : Rdr _ g (N + 22 - 2 * 0 + 1 + 1)).mono (by omega), by (repeat (first | (with_reducible assumption) | (with_reducible refine Fr.drew ?_) | (with_reducible exact Fr.refl _ _ _) | (with_reducible refine Fr.setOut ?_ (by first | (simp; done) | (simp; omega) | omega) _) | (with_reducible refine Fr.alloc ?_ _)))⟩
          have h := (HQ.out.setT TR2 (by decide) (by decide) 0 (.slice (some ⟨ga, oa + 1, none⟩) 7 (c - 1))).rows.cut (k := 1) (cap := c) (by omega) hle
          rw [if_neg hce] at h
          exact (by simpa [Addr.add_lit] using h : Rows _ _ _ (some ⟨ga, oa + 1, none⟩) 7 (yss.drop 1)).mono (by omega) (by simp)
        · skip
          obtain ⟨ys, hy⟩ : ∃ ys, yss[2]? = some ys := ⟨_, List.getElem?_eq_getElem (by omega)⟩
          have hsz := row_small (N := 18) (by omega) hy
          obtain ⟨ga, oa, A', c', lo, hi, rfl, hg1, hg2, hc, hown, hlo, hhi, hside, hout, hgrow⟩ := hq.grow hy
          have hne : w1.heap.size ≠ ga := hout _ _ _ TQ (by decide)
          have q0 := TQ.cell 0 rfl
          have qf := TQ.free
          obtain ⟨k1, hk1⟩ : ∃ k1, ys.length = k1 := ⟨_, rfl⟩
          rw [hk1] at hc hown hsz
          have HK := Lib.hid hk1
          have HG := Lib.hid hgrow
          have hQs := hside _ _ _ TQ (by decide)
          clear hq hgrow hk1 hside hout
          go_wp2_with fail
          refine wp_region_noPanic ?_
          refine wp_region_held_drew (S := (fun W => W.cell? ⟨w1.heap.size, 0, none⟩ = some (.slice (some ⟨ga, oa, none⟩) 8 c))) (by kernel_rfl) ?_ (fun hHeld => ?_)
          focus (first | exact trivial | ((try dsimp only); ((repeat' (first | assumption | with_reducible refine And.intro ?_ ?_)) <;> go_keep))); done
          refine wpAnyH_take (i := 0) (v := ?_) (by rw [List.getElem?_toArray]; rfl) (by kernel_rfl) (by kernel_rfl) (by kernel_rfl) (fun _ _ _ h => h) (Or.inl ⟨by rfl, ?_⟩) (by assumption) ?_
          rotate_left
          focus (intro wS hSw; (try dsimp only at hSw); go_simp; (try with_reducible rfl)); done
          (try simp only [Act.put, List.setIfInBounds_toArray, List.set_cons_zero, List.set_cons_succ])
          refine wpAnyH_take (i := 1) (v := ?_) (by rw [List.getElem?_toArray]; rfl) (by kernel_rfl) (by kernel_rfl) (by kernel_rfl) (fun _ _ _ h => h) (Or.inl ⟨by rfl, ?_⟩) (by assumption) ?_
          rotate_left
          focus (intro wS hSw; (try dsimp only at hSw); go_simp; (try with_reducible rfl)); done
          (try simp only [Act.put, List.setIfInBounds_toArray, List.set_cons_zero, List.set_cons_succ])
          refine wpAnyH_take (i := 2) (v := ?_) (by rw [List.getElem?_toArray]; rfl) (by kernel_rfl) (by kernel_rfl) (by kernel_rfl) (fun _ _ _ h => h) (Or.inl ⟨by rfl, ?_⟩) (by assumption) ?_
          rotate_left
          focus (intro wS hSw; (try dsimp only at hSw); go_simp; (try with_reducible rfl)); done
          (try simp only [Act.put, List.setIfInBounds_toArray, List.set_cons_zero, List.set_cons_succ])
          refine wpAnyH_take (i := 3) (v := ?_) (by rw [List.getElem?_toArray]; rfl) (by kernel_rfl) (by kernel_rfl) (by kernel_rfl) (fun _ _ _ h => h) (Or.inl ⟨by rfl, ?_⟩) (by assumption) ?_
          rotate_left
          focus (intro wS hSw; (try dsimp only at hSw); go_simp; (try with_reducible rfl)); done
          (try simp only [Act.put, List.setIfInBounds_toArray, List.set_cons_zero, List.set_cons_succ])
          refine wpAnyH_take (i := 4) (v := ?_) (by rw [List.getElem?_toArray]; rfl) (by kernel_rfl) (by kernel_rfl) (by kernel_rfl) (fun _ _ _ h => h) (Or.inl ⟨by rfl, ?_⟩) (by assumption) ?_
          rotate_left
          focus (intro wS hSw; (try dsimp only at hSw); go_simp; (try with_reducible rfl)); done
          (try simp only [Act.put, List.setIfInBounds_toArray, List.set_cons_zero, List.set_cons_succ])
          refine wpAnyH_ready (rs := [5, 6]) (by kernel_rfl) (by simp) ?_
          refine AllReadyH.cons (by rw [List.getElem?_toArray]; rfl) (fun K hK => ?_) (AllReadyH.cons (by rw [List.getElem?_toArray]; rfl) (fun K hK => ?_) AllReadyH.nil)
          · go_simp
            skip
            refine hK.out _ _ ?_ (fun hHeld => ?_)
            focus (first | exact trivial | ((try dsimp only); (exact Blk.cell (by (repeat (first | (with_reducible assumption) | (with_reducible refine Blk.drew ?_) | (with_reducible refine Blk.other ?_ (by first | (simp; done) | (simp; omega) | omega) _) | (with_reducible refine Blk.alloc ?_ _))) : Blk _ w1.heap.size 24 #[.slice (some ⟨ga, oa, none⟩) 8 c]) 0 rfl))); done
            clear hK K
            (try simp only [Act.put, List.setIfInBounds_toArray, List.set_cons_zero, List.set_cons_succ])
            refine wpAnyH_ready (rs := [6]) (by kernel_rfl) (by simp) ?_
            refine AllReadyH.cons (by rw [List.getElem?_toArray]; rfl) (fun K hK => ?_) AllReadyH.nil
            go_simp
            skip
            refine hK.out _ _ ?_ (fun hHeld => ?_)
            focus (first | exact trivial | ((try dsimp only); (exact Blk.cell (by (repeat (first | (with_reducible assumption) | (with_reducible refine Blk.drew ?_) | (with_reducible refine Blk.other ?_ (by first | (simp; done) | (simp; omega) | omega) _) | (with_reducible refine Blk.alloc ?_ _))) : Blk _ w1.heap.size 24 #[.slice (some ⟨ga, oa, none⟩) 8 c]) 0 rfl))); done
            clear hK K
            (try simp only [Act.put, List.setIfInBounds_toArray, List.set_cons_zero, List.set_cons_succ])
            refine wpAnyH_ready (rs := [7]) (by kernel_rfl) (by simp) ?_
            refine AllReadyH.cons (by rw [List.getElem?_toArray]; rfl) (fun K hK => ?_) AllReadyH.nil
            refine step_app2 _ rfl (.tmp 61) (.tmp 62) 38 rfl 3 i0 (.int .i64 0) 1 8 Try.underlying38 hi0 hz0 hz1 hz2 rfl (by omega) lo hi w9.heap.size (w9.heap.size + 1) A' (some ⟨w9.heap.size, 0, none⟩) k1 c' 2 2 (ints ys) (ints [5, 5]) rfl rfl (by (repeat (first | (with_reducible assumption) | (with_reducible refine Own.alloc ?_ _) | (with_reducible refine Own.drew ?_) | (with_reducible refine Own.set ?_ (by first | (simp; done) | (simp; omega) | omega) _)))) (lit_rd _ #[.int .i64 (5), .int .i64 (5)] 3 2 _ (by (try simp) <;> (try omega)) rfl (by unfold maxLen; omega)) (ints_one _) (by unfold maxLen; omega) (by omega) (by (try simp) <;> omega) ?_; intro A6 c6 w6 L6 H6 o6 f6 d6; have h6 := HG.out w6 A6 c6 L6 H6 (ys ++ [5, 5]) (Kept.of_fr (Fr.trans (Fr.of_below (by (repeat (first | (with_reducible assumption) | (with_reducible exact Below.refl _ _) | (with_reducible refine Below.setCell ?_ (by first | (simp; done) | (simp; omega) | omega) _) | (with_reducible refine Below.alloc ?_ (by first | (simp; done) | (simp; omega) | omega) _) | (with_reducible refine Below.drew ?_) | (with_reducible refine Below.drewN ?_ _))) : Below w9.heap.size w9 _) lo hi) f6)) (by rw [List.length_append, HK.out, ints_append]; exact o6) (d6.imp id (fun h => ⟨by rw [h.1]; (try simp) <;> omega, Nat.le_of_eq h.2⟩)); simp only [List.length_append, List.length_cons, List.length_nil, HK.out] at h6; obtain ⟨k6, kf6, hq6⟩ := h6; have HQ6 := Lib.hid hq6; clear hq6 d6; have z6 := f6.size; (try simp at z6); replace TQ := Blk.fr (by (repeat (first | (with_reducible assumption) | (with_reducible refine Blk.drew ?_) | (with_reducible refine Blk.other ?_ (by first | (simp; done) | (simp; omega) | omega) _) | (with_reducible refine Blk.alloc ?_ _))) : Blk _ w1.heap.size 24 #[.slice (some ⟨ga, oa, none⟩) 8 c]) f6 hQs; replace TR := Blk.fr (by (repeat (first | (with_reducible assumption) | (with_reducible refine Blk.drew ?_) | (with_reducible refine Blk.other ?_ (by first | (simp; done) | (simp; omega) | omega) _) | (with_reducible refine Blk.alloc ?_ _))) : Blk _ w.heap.size 24 #[.slice none 0 0]) f6 (.inl (by omega)); have hrz := Rdr.fr (g := g) (by (repeat (first | (with_reducible assumption) | (with_reducible refine Rdr.drew ?_) | (with_reducible refine Rdr.set ?_ (by first | (simp; done) | (simp; omega) | omega) _) | (with_reducible refine Rdr.alloc ?_ _))) : Rdr _ g (N + 22 - 2 * 0 + 1 + 1)) f6 (.inl (by omega)) (by omega); replace hF := Fr.own (by (repeat (first | (with_reducible assumption) | (with_reducible refine Fr.drew ?_) | (with_reducible exact Fr.refl _ _ _) | (with_reducible refine Fr.setOut ?_ (by first | (simp; done) | (simp; omega) | omega) _) | (with_reducible refine Fr.alloc ?_ _))) : Fr g (g + 1) w _) (f6.wide (B' := w.heap.size) (by omega) (Nat.le_refl _)); clear q0 qf hc lQ lR f6; have q0 := TQ.cell 0 rfl; have qf := TQ.free; have lQ := TQ.lt; have lR := TR.lt
            refine hK.out _ _ ?_ (fun hHeld => ?_)
            focus (first | exact trivial | ((try dsimp only); (exact Blk.cell (by (repeat (first | (with_reducible assumption) | (with_reducible refine Blk.drew ?_) | (with_reducible refine Blk.other ?_ (by first | (simp; done) | (simp; omega) | omega) _) | (with_reducible refine Blk.alloc ?_ _))) : Blk _ w1.heap.size 24 #[.slice (some ⟨ga, oa, none⟩) 8 c]) 0 rfl))); done
            clear hK K
            (try simp only [Act.put, List.setIfInBounds_toArray, List.set_cons_zero, List.set_cons_succ])
            refine wpAnyH_take (i := 8) (v := ?_) (by rw [List.getElem?_toArray]; rfl) (by kernel_rfl) (by kernel_rfl) (by kernel_rfl) (fun _ _ _ h => h) (Or.inl ⟨by rfl, ?_⟩) (by assumption) ?_
            rotate_left
            focus (intro wS hSw; (try dsimp only at hSw); go_simp; (try with_reducible rfl)); done
            (try simp only [Act.put, List.setIfInBounds_toArray, List.set_cons_zero, List.set_cons_succ])
            refine wpAnyH_ready (rs := [9]) (by kernel_rfl) (by simp) ?_
            refine AllReadyH.cons (by rw [List.getElem?_toArray]; rfl) (fun K hK => ?_) AllReadyH.nil
            go_simp
            skip
            refine hK.out _ _ ?_ (fun hHeld => ?_)
            focus (first | exact trivial | ((try dsimp only); (exact Blk.cell (by (repeat (first | (with_reducible assumption) | (with_reducible refine Blk.drew ?_) | (with_reducible refine Blk.other ?_ (by first | (simp; done) | (simp; omega) | omega) _) | (with_reducible refine Blk.alloc ?_ _))) : Blk _ w1.heap.size 24 #[.slice (some ⟨ga, oa, none⟩) 8 c]) 0 rfl))); done
            clear hK K
            (try simp only [Act.put, List.setIfInBounds_toArray, List.set_cons_zero, List.set_cons_succ])
            refine wpAnyH_done (by kernel_rfl) ?_ _
            refine NoPanic.normal ?_
            have TQ7 := TQ.other (p := ⟨ga, oa + 2, none⟩) (by show w1.heap.size ≠ ga; omega) (.slice A6 (k1 + 2) c6)
            have TR7 := TR.other (p := ⟨ga, oa + 2, none⟩) (by show w.heap.size ≠ ga; omega) (.slice A6 (k1 + 2) c6)
            clear q0 qf
            have q0 := TQ7.cell 0 rfl
            have r0 := TR7.cell 0 rfl
            have rf := TR7.free
            have HQ7 := Lib.hid (HQ6.out.setT TR7 (by decide) (by decide) 0 (.slice (some ⟨ga, oa, none⟩) 8 c))
            have hsn := add_size (zs := [5, 5]) hy
            have HSN := Lib.hid hsn
            clear hy hsn
            go_wp2
            refine bodyPost_ret (v := queues (some ⟨ga, oa, none⟩) 8 c) (by simp [results, Try.results41, go_sem, *]) rfl ⟨_, 8, c, yss.set 2 (ys ++ [5, 5]), rfl, HQ7.out.rows.mono (by omega) (by simp), hle, by rw [HSN.out]; simp; omega, (by (repeat (first | (with_reducible assumption) | (with_reducible refine Rdr.drew ?_) | (with_reducible refine Rdr.set ?_ (by first | (simp; done) | (simp; omega) | omega) _) | (with_reducible refine Rdr.alloc ?_ _))) : Rdr _ g (N + 22 - 2 * 0 + 1 + 1)).mono (by omega), by (repeat (first | (with_reducible assumption) | (with_reducible refine Fr.drew ?_) | (with_reducible exact Fr.refl _ _ _) | (with_reducible refine Fr.setOut ?_ (by first | (simp; done) | (simp; omega) | omega) _) | (with_reducible refine Fr.alloc ?_ _)))⟩
          · go_simp
            skip
            refine hK.out _ _ ?_ (fun hHeld => ?_)
            focus (first | exact trivial | ((try dsimp only); (exact Blk.cell (by (repeat (first | (with_reducible assumption) | (with_reducible refine Blk.drew ?_) | (with_reducible refine Blk.other ?_ (by first | (simp; done) | (simp; omega) | omega) _) | (with_reducible refine Blk.alloc ?_ _))) : Blk _ w1.heap.size 24 #[.slice (some ⟨ga, oa, none⟩) 8 c]) 0 rfl))); done
            clear hK K
            (try simp only [Act.put, List.setIfInBounds_toArray, List.set_cons_zero, List.set_cons_succ])
            refine wpAnyH_ready (rs := [5]) (by kernel_rfl) (by simp) ?_
            refine AllReadyH.cons (by rw [List.getElem?_toArray]; rfl) (fun K hK => ?_) AllReadyH.nil
            go_simp
            skip
            refine hK.out _ _ ?_ (fun hHeld => ?_)
            focus (first | exact trivial | ((try dsimp only); (exact Blk.cell (by (repeat (first | (with_reducible assumption) | (with_reducible refine Blk.drew ?_) | (with_reducible refine Blk.other ?_ (by first | (simp; done) | (simp; omega) | omega) _) | (with_reducible refine Blk.alloc ?_ _))) : Blk _ w1.heap.size 24 #[.slice (some ⟨ga, oa, none⟩) 8 c]) 0 rfl))); done
            clear hK K
            (try simp only [Act.put, List.setIfInBounds_toArray, List.set_cons_zero, List.set_cons_succ])
            refine wpAnyH_ready (rs := [7]) (by kernel_rfl) (by simp) ?_
            refine AllReadyH.cons (by rw [List.getElem?_toArray]; rfl) (fun K hK => ?_) AllReadyH.nil
            refine step_app2 _ rfl (.tmp 61) (.tmp 62) 38 rfl 3 i0 (.int .i64 0) 1 8 Try.underlying38 hi0 hz0 hz1 hz2 rfl (by omega) lo hi w9.heap.size (w9.heap.size + 1) A' (some ⟨w9.heap.size, 0, none⟩) k1 c' 2 2 (ints ys) (ints [5, 5]) rfl rfl (by (repeat (first | (with_reducible assumption) | (with_reducible refine Own.alloc ?_ _) | (with_reducible refine Own.drew ?_) | (with_reducible refine Own.set ?_ (by first | (simp; done) | (simp; omega) | omega) _)))) (lit_rd _ #[.int .i64 (5), .int .i64 (5)] 3 2 _ (by (try simp) <;> (try omega)) rfl (by unfold maxLen; omega)) (ints_one _) (by unfold maxLen; omega) (by omega) (by (try simp) <;> omega) ?_; intro A6 c6 w6 L6 H6 o6 f6 d6; have h6 := HG.out w6 A6 c6 L6 H6 (ys ++ [5, 5]) (Kept.of_fr (Fr.trans (Fr.of_below (by (repeat (first | (with_reducible assumption) | (with_reducible exact Below.refl _ _) | (with_reducible refine Below.setCell ?_ (by first | (simp; done) | (simp; omega) | omega) _) | (with_reducible refine Below.alloc ?_ (by first | (simp; done) | (simp; omega) | omega) _) | (with_reducible refine Below.drew ?_) | (with_reducible refine Below.drewN ?_ _))) : Below w9.heap.size w9 _) lo hi) f6)) (by rw [List.length_append, HK.out, ints_append]; exact o6) (d6.imp id (fun h => ⟨by rw [h.1]; (try simp) <;> omega, Nat.le_of_eq h.2⟩)); simp only [List.length_append, List.length_cons, List.length_nil, HK.out] at h6; obtain ⟨k6, kf6, hq6⟩ := h6; have HQ6 := Lib.hid hq6; clear hq6 d6; have z6 := f6.size; (try simp at z6); replace TQ := Blk.fr (by (repeat (first | (with_reducible assumption) | (with_reducible refine Blk.drew ?_) | (with_reducible refine Blk.other ?_ (by first | (simp; done) | (simp; omega) | omega) _) | (with_reducible refine Blk.alloc ?_ _))) : Blk _ w1.heap.size 24 #[.slice (some ⟨ga, oa, none⟩) 8 c]) f6 hQs; replace TR := Blk.fr (by (repeat (first | (with_reducible assumption) | (with_reducible refine Blk.drew ?_) | (with_reducible refine Blk.other ?_ (by first | (simp; done) | (simp; omega) | omega) _) | (with_reducible refine Blk.alloc ?_ _))) : Blk _ w.heap.size 24 #[.slice none 0 0]) f6 (.inl (by omega)); have hrz := Rdr.fr (g := g) (by (repeat (first | (with_reducible assumption) | (with_reducible refine Rdr.drew ?_) | (with_reducible refine Rdr.set ?_ (by first | (simp; done) | (simp; omega) | omega) _) | (with_reducible refine Rdr.alloc ?_ _))) : Rdr _ g (N + 22 - 2 * 0 + 1 + 1)) f6 (.inl (by omega)) (by omega); replace hF := Fr.own (by (repeat (first | (with_reducible assumption) | (with_reducible refine Fr.drew ?_) | (with_reducible exact Fr.refl _ _ _) | (with_reducible refine Fr.setOut ?_ (by first | (simp; done) | (simp; omega) | omega) _) | (with_reducible refine Fr.alloc ?_ _))) : Fr g (g + 1) w _) (f6.wide (B' := w.heap.size) (by omega) (Nat.le_refl _)); clear q0 qf hc lQ lR f6; have q0 := TQ.cell 0 rfl; have qf := TQ.free; have lQ := TQ.lt; have lR := TR.lt
            refine hK.out _ _ ?_ (fun hHeld => ?_)
            focus (first | exact trivial | ((try dsimp only); (exact Blk.cell (by (repeat (first | (with_reducible assumption) | (with_reducible refine Blk.drew ?_) | (with_reducible refine Blk.other ?_ (by first | (simp; done) | (simp; omega) | omega) _) | (with_reducible refine Blk.alloc ?_ _))) : Blk _ w1.heap.size 24 #[.slice (some ⟨ga, oa, none⟩) 8 c]) 0 rfl))); done
            clear hK K
            (try simp only [Act.put, List.setIfInBounds_toArray, List.set_cons_zero, List.set_cons_succ])
            refine wpAnyH_take (i := 8) (v := ?_) (by rw [List.getElem?_toArray]; rfl) (by kernel_rfl) (by kernel_rfl) (by kernel_rfl) (fun _ _ _ h => h) (Or.inl ⟨by rfl, ?_⟩) (by assumption) ?_
            rotate_left
            focus (intro wS hSw; (try dsimp only at hSw); go_simp; (try with_reducible rfl)); done
            (try simp only [Act.put, List.setIfInBounds_toArray, List.set_cons_zero, List.set_cons_succ])
            refine wpAnyH_ready (rs := [9]) (by kernel_rfl) (by simp) ?_
            refine AllReadyH.cons (by rw [List.getElem?_toArray]; rfl) (fun K hK => ?_) AllReadyH.nil
            go_simp
            skip
            refine hK.out _ _ ?_ (fun hHeld => ?_)
            focus (first | exact trivial | ((try dsimp only); (exact Blk.cell (by (repeat (first | (with_reducible assumption) | (with_reducible refine Blk.drew ?_) | (with_reducible refine Blk.other ?_ (by first | (simp; done) | (simp; omega) | omega) _) | (with_reducible refine Blk.alloc ?_ _))) : Blk _ w1.heap.size 24 #[.slice (some ⟨ga, oa, none⟩) 8 c]) 0 rfl))); done
            clear hK K
            (try simp only [Act.put, List.setIfInBounds_toArray, List.set_cons_zero, List.set_cons_succ])
            refine wpAnyH_done (by kernel_rfl) ?_ _
            refine NoPanic.normal ?_
            have TQ7 := TQ.other (p := ⟨ga, oa + 2, none⟩) (by show w1.heap.size ≠ ga; omega) (.slice A6 (k1 + 2) c6)
            have TR7 := TR.other (p := ⟨ga, oa + 2, none⟩) (by show w.heap.size ≠ ga; omega) (.slice A6 (k1 + 2) c6)
            clear q0 qf
            have q0 := TQ7.cell 0 rfl
            have r0 := TR7.cell 0 rfl
            have rf := TR7.free
            have HQ7 := Lib.hid (HQ6.out.setT TR7 (by decide) (by decide) 0 (.slice (some ⟨ga, oa, none⟩) 8 c))
            have hsn := add_size (zs := [5, 5]) hy
            have HSN := Lib.hid hsn
            clear hy hsn
            go_wp2
            refine bodyPost_ret (v := queues (some ⟨ga, oa, none⟩) 8 c) (by simp [results, Try.results41, go_sem, *]) rfl ⟨_, 8, c, yss.set 2 (ys ++ [5, 5]), rfl, HQ7.out.rows.mono (by omega) (by simp), hle, by rw [HSN.out]; simp; omega, (by (repeat (first | (with_reducible assumption) | (with_reducible refine Rdr.drew ?_) | (with_reducible refine Rdr.set ?_ (by first | (simp; done) | (simp; omega) | omega) _) | (with_reducible refine Rdr.alloc ?_ _))) : Rdr _ g (N + 22 - 2 * 0 + 1 + 1)).mono (by omega), by (repeat (first | (with_reducible assumption) | (with_reducible refine Fr.drew ?_) | (with_reducible exact Fr.refl _ _ _) | (with_reducible refine Fr.setOut ?_ (by first | (simp; done) | (simp; omega) | omega) _) | (with_reducible refine Fr.alloc ?_ _)))⟩
        · skip
          obtain ⟨ys, hy⟩ : ∃ ys, yss[1]? = some ys := ⟨_, List.getElem?_eq_getElem (by omega)⟩
          have hsz := row_small (N := 18) (by omega) hy
          obtain ⟨ga, oa, A', c', lo, hi, rfl, hg1, hg2, hc, hown, hlo, hhi, hside, hout, hgrow⟩ := hq.grow hy
          have hne : w1.heap.size ≠ ga := hout _ _ _ TQ (by decide)
          have q0 := TQ.cell 0 rfl
          have qf := TQ.free
          obtain ⟨k1, hk1⟩ : ∃ k1, ys.length = k1 := ⟨_, rfl⟩
          rw [hk1] at hc hown hsz
          have HK := Lib.hid hk1
          have HG := Lib.hid hgrow
          have hQs := hside _ _ _ TQ (by decide)
          clear hq hgrow hk1 hside hout
          go_wp2_with fail
          refine wp_region_noPanic ?_
          refine wp_region_held_drew (S := (fun W => W.cell? ⟨w1.heap.size, 0, none⟩ = some (.slice (some ⟨ga, oa, none⟩) 8 c))) (by kernel_rfl) ?_ (fun hHeld => ?_)
          focus (first | exact trivial | ((try dsimp only); ((repeat' (first | assumption | with_reducible refine And.intro ?_ ?_)) <;> go_keep))); done
          refine wpAnyH_take (i := 0) (v := ?_) (by rw [List.getElem?_toArray]; rfl) (by kernel_rfl) (by kernel_rfl) (by kernel_rfl) (fun _ _ _ h => h) (Or.inl ⟨by rfl, ?_⟩) (by assumption) ?_
          rotate_left
          focus (intro wS hSw; (try dsimp only at hSw); go_simp; (try with_reducible rfl)); done
          (try simp only [Act.put, List.setIfInBounds_toArray, List.set_cons_zero, List.set_cons_succ])
          refine wpAnyH_take (i := 1) (v := ?_) (by rw [List.getElem?_toArray]; rfl) (by kernel_rfl) (by kernel_rfl) (by kernel_rfl) (fun _ _ _ h => h) (Or.inl ⟨by rfl, ?_⟩) (by assumption) ?_
          rotate_left
          focus (intro wS hSw; (try dsimp only at hSw); go_simp; (try with_reducible rfl)); done
          (try simp only [Act.put, List.setIfInBounds_toArray, List.set_cons_zero, List.set_cons_succ])
          refine wpAnyH_take (i := 2) (v := ?_) (by rw [List.getElem?_toArray]; rfl) (by kernel_rfl) (by kernel_rfl) (by kernel_rfl) (fun _ _ _ h => h) (Or.inl ⟨by rfl, ?_⟩) (by assumption) ?_
          rotate_left
          focus (intro wS hSw; (try dsimp only at hSw); go_simp; (try with_reducible rfl)); done
          (try simp only [Act.put, List.setIfInBounds_toArray, List.set_cons_zero, List.set_cons_succ])
          refine wpAnyH_take (i := 3) (v := ?_) (by rw [List.getElem?_toArray]; rfl) (by kernel_rfl) (by kernel_rfl) (by kernel_rfl) (fun _ _ _ h => h) (Or.inl ⟨by rfl, ?_⟩) (by assumption) ?_
          rotate_left
          focus (intro wS hSw; (try dsimp only at hSw); go_simp; (try with_reducible rfl)); done
          (try simp only [Act.put, List.setIfInBounds_toArray, List.set_cons_zero, List.set_cons_succ])
          refine wpAnyH_take (i := 4) (v := ?_) (by rw [List.getElem?_toArray]; rfl) (by kernel_rfl) (by kernel_rfl) (by kernel_rfl) (fun _ _ _ h => h) (Or.inl ⟨by rfl, ?_⟩) (by assumption) ?_
          rotate_left
          focus (intro wS hSw; (try dsimp only at hSw); go_simp; (try with_reducible rfl)); done
          (try simp only [Act.put, List.setIfInBounds_toArray, List.set_cons_zero, List.set_cons_succ])
          refine wpAnyH_take (i := 7) (v := ?_) (by rw [List.getElem?_toArray]; rfl) (by kernel_rfl) (by kernel_rfl) (by kernel_rfl) (fun _ _ _ h => h) (Or.inl ⟨by rfl, ?_⟩) (by assumption) ?_
          rotate_left
          focus (intro wS hSw; (try dsimp only at hSw); go_simp; (try with_reducible rfl)); done
          (try simp only [Act.put, List.setIfInBounds_toArray, List.set_cons_zero, List.set_cons_succ])
          refine wpAnyH_ready (rs := [5, 6, 8]) (by kernel_rfl) (by simp) ?_
          refine AllReadyH.cons (by rw [List.getElem?_toArray]; rfl) (fun K hK => ?_) (AllReadyH.cons (by rw [List.getElem?_toArray]; rfl) (fun K hK => ?_) (AllReadyH.cons (by rw [List.getElem?_toArray]; rfl) (fun K hK => ?_) AllReadyH.nil))
          · go_simp
            skip
            refine hK.out _ _ ?_ (fun hHeld => ?_)
            focus (first | exact trivial | ((try dsimp only); (exact Blk.cell (by (repeat (first | (with_reducible assumption) | (with_reducible refine Blk.drew ?_) | (with_reducible refine Blk.other ?_ (by first | (simp; done) | (simp; omega) | omega) _) | (with_reducible refine Blk.alloc ?_ _))) : Blk _ w1.heap.size 24 #[.slice (some ⟨ga, oa, none⟩) 8 c]) 0 rfl))); done
            clear hK K
            (try simp only [Act.put, List.setIfInBounds_toArray, List.set_cons_zero, List.set_cons_succ])
            refine wpAnyH_ready (rs := [6, 8]) (by kernel_rfl) (by simp) ?_
            refine AllReadyH.cons (by rw [List.getElem?_toArray]; rfl) (fun K hK => ?_) (AllReadyH.cons (by rw [List.getElem?_toArray]; rfl) (fun K hK => ?_) AllReadyH.nil)
            · go_simp
              skip
              refine hK.out _ _ ?_ (fun hHeld => ?_)
              focus (first | exact trivial | ((try dsimp only); (exact Blk.cell (by (repeat (first | (with_reducible assumption) | (with_reducible refine Blk.drew ?_) | (with_reducible refine Blk.other ?_ (by first | (simp; done) | (simp; omega) | omega) _) | (with_reducible refine Blk.alloc ?_ _))) : Blk _ w1.heap.size 24 #[.slice (some ⟨ga, oa, none⟩) 8 c]) 0 rfl))); done
              clear hK K
              (try simp only [Act.put, List.setIfInBounds_toArray, List.set_cons_zero, List.set_cons_succ])
              refine wpAnyH_ready (rs := [8]) (by kernel_rfl) (by simp) ?_
              refine AllReadyH.cons (by rw [List.getElem?_toArray]; rfl) (fun K hK => ?_) AllReadyH.nil
              go_simp
              refine (pick_any g (N + 22 - 2 * 0 + 1 + 1) 2 _ (by (repeat (first | (with_reducible assumption) | (with_reducible refine Rdr.drew ?_) | (with_reducible refine Rdr.set ?_ (by first | (simp; done) | (simp; omega) | omega) _) | (with_reducible refine Rdr.alloc ?_ _)))) (by omega) (by omega)).mono ?_; rintro e wa ⟨va, rfl, hva, ula, -, hra, fa⟩; replace ula := ula (by omega); have za := fa.size; (try simp at za); have hM : Kept (w.heap.size + 1) lo hi w9 wa := Kept.trans (Kept.below (by (repeat (first | (with_reducible assumption) | (with_reducible exact Below.refl _ _) | (with_reducible refine Below.setCell ?_ (by first | (simp; done) | (simp; omega) | omega) _) | (with_reducible refine Below.alloc ?_ (by first | (simp; done) | (simp; omega) | omega) _) | (with_reducible refine Below.drew ?_) | (with_reducible refine Below.drewN ?_ _))) : Below w9.heap.size w9 _)) (Kept.low fa (by omega)); have TL := Blk.fr (by (repeat (first | (with_reducible assumption) | (with_reducible exact Blk.newAt _ _ (by simp)) | (with_reducible refine Blk.drew ?_) | (with_reducible refine Blk.other ?_ (by first | (simp; done) | (simp; omega) | omega) _) | (with_reducible refine Blk.alloc ?_ _))) : Blk _ w9.heap.size 3 #[.int .i64 (-1), .int .i64 16]) fa (.inr (by omega)); replace TQ := Blk.fr (by (repeat (first | (with_reducible assumption) | (with_reducible refine Blk.drew ?_) | (with_reducible refine Blk.other ?_ (by first | (simp; done) | (simp; omega) | omega) _) | (with_reducible refine Blk.alloc ?_ _))) : Blk _ w1.heap.size 24 #[.slice (some ⟨ga, oa, none⟩) 8 c]) fa (.inr (by omega)); replace TR := Blk.fr (by (repeat (first | (with_reducible assumption) | (with_reducible refine Blk.drew ?_) | (with_reducible refine Blk.other ?_ (by first | (simp; done) | (simp; omega) | omega) _) | (with_reducible refine Blk.alloc ?_ _))) : Blk _ w.heap.size 24 #[.slice none 0 0]) fa (.inr (by omega)); replace hown := Own.fr (by (repeat (first | (with_reducible assumption) | (with_reducible refine Own.alloc ?_ _) | (with_reducible refine Own.drew ?_) | (with_reducible refine Own.set ?_ (by first | (simp; done) | (simp; omega) | omega) _))) : Own _ lo hi 3 1 A' k1 c' (ints ys)) fa (.inr (by omega)); replace hc := (Fr.cell fa (p := ⟨ga, oa + 1, none⟩) (by (try simp) <;> omega) (.inr (by show g + 1 ≤ ga; omega))).trans ((Below.cell (by (repeat (first | (with_reducible assumption) | (with_reducible exact Below.refl _ _) | (with_reducible refine Below.setCell ?_ (by first | (simp; done) | (simp; omega) | omega) _) | (with_reducible refine Below.alloc ?_ (by first | (simp; done) | (simp; omega) | omega) _) | (with_reducible refine Below.drew ?_) | (with_reducible refine Below.drewN ?_ _))) : Below w9.heap.size w9 _) (p := ⟨ga, oa + 1, none⟩) hg2).trans hc); replace hF := Fr.trans (by (repeat (first | (with_reducible assumption) | (with_reducible refine Fr.drew ?_) | (with_reducible exact Fr.refl _ _ _) | (with_reducible refine Fr.setOut ?_ (by first | (simp; done) | (simp; omega) | omega) _) | (with_reducible refine Fr.alloc ?_ _))) : Fr g (g + 1) w _) fa; clear fa q0 qf lQ lR hr9; have q0 := TQ.cell 0 rfl; have qf := TQ.free; have lQ := TQ.lt; have lR := TR.lt; have lg := hra.lt; have hg3 : ga < wa.heap.size := (by omega); have hhi3 : hi ≤ wa.heap.size := (by omega); have l0 := TL.cell 0 rfl; have l1 := TL.cell 1 rfl; have lL := TL.lt
              refine hK.out _ _ ?_ (fun hHeld => ?_)
              focus (first | exact trivial | ((try dsimp only); (exact Blk.cell (by (repeat (first | (with_reducible assumption) | (with_reducible refine Blk.drew ?_) | (with_reducible refine Blk.other ?_ (by first | (simp; done) | (simp; omega) | omega) _) | (with_reducible refine Blk.alloc ?_ _))) : Blk _ w1.heap.size 24 #[.slice (some ⟨ga, oa, none⟩) 8 c]) 0 rfl))); done
              clear hK K
              (try simp only [Act.put, List.setIfInBounds_toArray, List.set_cons_zero, List.set_cons_succ])
              rcases (by omega : va = 0 ∨ va = 1) with rfl | rfl
              · skip
                refine wpAnyH_take (i := 9) (v := ?_) (by rw [List.getElem?_toArray]; rfl) (by kernel_rfl) (by kernel_rfl) (by kernel_rfl) (fun _ _ _ h => h) (Or.inl ⟨by rfl, ?_⟩) (by assumption) ?_
                rotate_left
                focus (intro wS hSw; (try dsimp only at hSw); go_simp; (try with_reducible rfl)); done
                (try simp only [Act.put, List.setIfInBounds_toArray, List.set_cons_zero, List.set_cons_succ])
                refine wpAnyH_ready (rs := [10]) (by kernel_rfl) (by simp) ?_
                refine AllReadyH.cons (by rw [List.getElem?_toArray]; rfl) (fun K hK => ?_) AllReadyH.nil
                go_simp
                skip
                refine hK.out _ _ ?_ (fun hHeld => ?_)
                focus (first | exact trivial | ((try dsimp only); (exact Blk.cell (by (repeat (first | (with_reducible assumption) | (with_reducible refine Blk.drew ?_) | (with_reducible refine Blk.other ?_ (by first | (simp; done) | (simp; omega) | omega) _) | (with_reducible refine Blk.alloc ?_ _))) : Blk _ w1.heap.size 24 #[.slice (some ⟨ga, oa, none⟩) 8 c]) 0 rfl))); done
                clear hK K
                (try simp only [Act.put, List.setIfInBounds_toArray, List.set_cons_zero, List.set_cons_succ])
                refine wpAnyH_ready (rs := [11]) (by kernel_rfl) (by simp) ?_
                refine AllReadyH.cons (by rw [List.getElem?_toArray]; rfl) (fun K hK => ?_) AllReadyH.nil
                go_simp
                skip
                refine hK.out _ _ ?_ (fun hHeld => ?_)
                focus (first | exact trivial | ((try dsimp only); (exact Blk.cell (by (repeat (first | (with_reducible assumption) | (with_reducible refine Blk.drew ?_) | (with_reducible refine Blk.other ?_ (by first | (simp; done) | (simp; omega) | omega) _) | (with_reducible refine Blk.alloc ?_ _))) : Blk _ w1.heap.size 24 #[.slice (some ⟨ga, oa, none⟩) 8 c]) 0 rfl))); done
                clear hK K
                (try simp only [Act.put, List.setIfInBounds_toArray, List.set_cons_zero, List.set_cons_succ])
                refine wpAnyH_ready (rs := [12]) (by kernel_rfl) (by simp) ?_
                refine AllReadyH.cons (by rw [List.getElem?_toArray]; rfl) (fun K hK => ?_) AllReadyH.nil
                refine step_app2 _ rfl (.tmp 39) (.tmp 45) 38 rfl 3 i0 (.int .i64 0) 1 8 Try.underlying38 hi0 hz0 hz1 hz2 rfl (by omega) lo hi wa.heap.size (wa.heap.size + 1) A' (some ⟨wa.heap.size, 0, none⟩) k1 c' 1 1 (ints ys) (ints [-1]) rfl rfl (by (repeat (first | (with_reducible assumption) | (with_reducible refine Own.alloc ?_ _) | (with_reducible refine Own.drew ?_) | (with_reducible refine Own.set ?_ (by first | (simp; done) | (simp; omega) | omega) _)))) (lit_rd _ #[.int .i64 (-1)] 3 1 _ (by (try simp) <;> (try omega)) rfl (by unfold maxLen; omega)) (ints_one _) (by unfold maxLen; omega) (by omega) (by (try simp) <;> omega) ?_; intro A6 c6 w6 L6 H6 o6 f6 d6; have h6 := HG.out w6 A6 c6 L6 H6 (ys ++ [-1]) (Kept.trans hM (Kept.of_fr (Fr.trans (Fr.of_below (by (repeat (first | (with_reducible assumption) | (with_reducible exact Below.refl _ _) | (with_reducible refine Below.setCell ?_ (by first | (simp; done) | (simp; omega) | omega) _) | (with_reducible refine Below.alloc ?_ (by first | (simp; done) | (simp; omega) | omega) _) | (with_reducible refine Below.drew ?_) | (with_reducible refine Below.drewN ?_ _))) : Below wa.heap.size wa _) lo hi) f6))) (by rw [List.length_append, HK.out, ints_append]; exact o6) (d6.imp id (fun h => ⟨by rw [h.1]; (try simp) <;> omega, Nat.le_of_eq h.2⟩)); simp only [List.length_append, List.length_cons, List.length_nil, HK.out] at h6; obtain ⟨k6, kf6, hq6⟩ := h6; have HQ6 := Lib.hid hq6; clear hq6 d6; have z6 := f6.size; (try simp at z6); replace TQ := Blk.fr (by (repeat (first | (with_reducible assumption) | (with_reducible refine Blk.drew ?_) | (with_reducible refine Blk.other ?_ (by first | (simp; done) | (simp; omega) | omega) _) | (with_reducible refine Blk.alloc ?_ _))) : Blk _ w1.heap.size 24 #[.slice (some ⟨ga, oa, none⟩) 8 c]) f6 hQs; replace TR := Blk.fr (by (repeat (first | (with_reducible assumption) | (with_reducible refine Blk.drew ?_) | (with_reducible refine Blk.other ?_ (by first | (simp; done) | (simp; omega) | omega) _) | (with_reducible refine Blk.alloc ?_ _))) : Blk _ w.heap.size 24 #[.slice none 0 0]) f6 (.inl (by omega)); have hrz := Rdr.fr (g := g) (by (repeat (first | (with_reducible assumption) | (with_reducible refine Rdr.drew ?_) | (with_reducible refine Rdr.set ?_ (by first | (simp; done) | (simp; omega) | omega) _) | (with_reducible refine Rdr.alloc ?_ _))) : Rdr _ g (N + 22 - 2 * 0 + 1 + 1 + 1)) f6 (.inl (by omega)) (by omega); replace hF := Fr.own (by (repeat (first | (with_reducible assumption) | (with_reducible refine Fr.drew ?_) | (with_reducible exact Fr.refl _ _ _) | (with_reducible refine Fr.setOut ?_ (by first | (simp; done) | (simp; omega) | omega) _) | (with_reducible refine Fr.alloc ?_ _))) : Fr g (g + 1) w _) (f6.wide (B' := w.heap.size) (by omega) (Nat.le_refl _)); clear q0 qf hc lQ lR f6; have q0 := TQ.cell 0 rfl; have qf := TQ.free; have lQ := TQ.lt; have lR := TR.lt
                refine hK.out _ _ ?_ (fun hHeld => ?_)
                focus (first | exact trivial | ((try dsimp only); (exact Blk.cell (by (repeat (first | (with_reducible assumption) | (with_reducible refine Blk.drew ?_) | (with_reducible refine Blk.other ?_ (by first | (simp; done) | (simp; omega) | omega) _) | (with_reducible refine Blk.alloc ?_ _))) : Blk _ w1.heap.size 24 #[.slice (some ⟨ga, oa, none⟩) 8 c]) 0 rfl))); done
                clear hK K
                (try simp only [Act.put, List.setIfInBounds_toArray, List.set_cons_zero, List.set_cons_succ])
                refine wpAnyH_take (i := 13) (v := ?_) (by rw [List.getElem?_toArray]; rfl) (by kernel_rfl) (by kernel_rfl) (by kernel_rfl) (fun _ _ _ h => h) (Or.inl ⟨by rfl, ?_⟩) (by assumption) ?_
                rotate_left
                focus (intro wS hSw; (try dsimp only at hSw); go_simp; (try with_reducible rfl)); done
                (try simp only [Act.put, List.setIfInBounds_toArray, List.set_cons_zero, List.set_cons_succ])
                refine wpAnyH_ready (rs := [14]) (by kernel_rfl) (by simp) ?_
                refine AllReadyH.cons (by rw [List.getElem?_toArray]; rfl) (fun K hK => ?_) AllReadyH.nil
                go_simp
                skip
                refine hK.out _ _ ?_ (fun hHeld => ?_)
                focus (first | exact trivial | ((try dsimp only); (exact Blk.cell (by (repeat (first | (with_reducible assumption) | (with_reducible refine Blk.drew ?_) | (with_reducible refine Blk.other ?_ (by first | (simp; done) | (simp; omega) | omega) _) | (with_reducible refine Blk.alloc ?_ _))) : Blk _ w1.heap.size 24 #[.slice (some ⟨ga, oa, none⟩) 8 c]) 0 rfl))); done
                clear hK K
                (try simp only [Act.put, List.setIfInBounds_toArray, List.set_cons_zero, List.set_cons_succ])
                refine wpAnyH_done (by kernel_rfl) ?_ _
                refine NoPanic.normal ?_
                have TQ7 := TQ.other (p := ⟨ga, oa + 1, none⟩) (by show w1.heap.size ≠ ga; omega) (.slice A6 (k1 + 1) c6)
                have TR7 := TR.other (p := ⟨ga, oa + 1, none⟩) (by show w.heap.size ≠ ga; omega) (.slice A6 (k1 + 1) c6)
                clear q0 qf
                have q0 := TQ7.cell 0 rfl
                have r0 := TR7.cell 0 rfl
                have rf := TR7.free
                have HQ7 := Lib.hid (HQ6.out.setT TR7 (by decide) (by decide) 0 (.slice (some ⟨ga, oa, none⟩) 8 c))
                have hsn := add_size (zs := [-1]) hy
                have HSN := Lib.hid hsn
                clear hy hsn
                go_wp2
                refine bodyPost_ret (v := queues (some ⟨ga, oa, none⟩) 8 c) (by simp [results, Try.results41, go_sem, *]) rfl ⟨_, 8, c, yss.set 1 (ys ++ [-1]), rfl, HQ7.out.rows.mono (by omega) (by simp), hle, by rw [HSN.out]; simp; omega, (by (repeat (first | (with_reducible assumption) | (with_reducible refine Rdr.drew ?_) | (with_reducible refine Rdr.set ?_ (by first | (simp; done) | (simp; omega) | omega) _) | (with_reducible refine Rdr.alloc ?_ _))) : Rdr _ g (N + 22 - 2 * 0 + 1 + 1 + 1)).mono (by omega), by (repeat (first | (with_reducible assumption) | (with_reducible refine Fr.drew ?_) | (with_reducible exact Fr.refl _ _ _) | (with_reducible refine Fr.setOut ?_ (by first | (simp; done) | (simp; omega) | omega) _) | (with_reducible refine Fr.alloc ?_ _)))⟩
              · skip
                refine wpAnyH_take (i := 9) (v := ?_) (by rw [List.getElem?_toArray]; rfl) (by kernel_rfl) (by kernel_rfl) (by kernel_rfl) (fun _ _ _ h => h) (Or.inl ⟨by rfl, ?_⟩) (by assumption) ?_
                rotate_left
                focus (intro wS hSw; (try dsimp only at hSw); go_simp; (try with_reducible rfl)); done
                (try simp only [Act.put, List.setIfInBounds_toArray, List.set_cons_zero, List.set_cons_succ])
                refine wpAnyH_ready (rs := [10]) (by kernel_rfl) (by simp) ?_
                refine AllReadyH.cons (by rw [List.getElem?_toArray]; rfl) (fun K hK => ?_) AllReadyH.nil
                go_simp
                skip
                refine hK.out _ _ ?_ (fun hHeld => ?_)
                focus (first | exact trivial | ((try dsimp only); (exact Blk.cell (by (repeat (first | (with_reducible assumption) | (with_reducible refine Blk.drew ?_) | (with_reducible refine Blk.other ?_ (by first | (simp; done) | (simp; omega) | omega) _) | (with_reducible refine Blk.alloc ?_ _))) : Blk _ w1.heap.size 24 #[.slice (some ⟨ga, oa, none⟩) 8 c]) 0 rfl))); done
                clear hK K
                (try simp only [Act.put, List.setIfInBounds_toArray, List.set_cons_zero, List.set_cons_succ])
                refine wpAnyH_ready (rs := [11]) (by kernel_rfl) (by simp) ?_
                refine AllReadyH.cons (by rw [List.getElem?_toArray]; rfl) (fun K hK => ?_) AllReadyH.nil
                go_simp
                skip
                refine hK.out _ _ ?_ (fun hHeld => ?_)
                focus (first | exact trivial | ((try dsimp only); (exact Blk.cell (by (repeat (first | (with_reducible assumption) | (with_reducible refine Blk.drew ?_) | (with_reducible refine Blk.other ?_ (by first | (simp; done) | (simp; omega) | omega) _) | (with_reducible refine Blk.alloc ?_ _))) : Blk _ w1.heap.size 24 #[.slice (some ⟨ga, oa, none⟩) 8 c]) 0 rfl))); done
                clear hK K
                (try simp only [Act.put, List.setIfInBounds_toArray, List.set_cons_zero, List.set_cons_succ])
                refine wpAnyH_ready (rs := [12]) (by kernel_rfl) (by simp) ?_
                refine AllReadyH.cons (by rw [List.getElem?_toArray]; rfl) (fun K hK => ?_) AllReadyH.nil
                refine step_app2 _ rfl (.tmp 39) (.tmp 45) 38 rfl 3 i0 (.int .i64 0) 1 8 Try.underlying38 hi0 hz0 hz1 hz2 rfl (by omega) lo hi wa.heap.size (wa.heap.size + 1) A' (some ⟨wa.heap.size, 0, none⟩) k1 c' 1 1 (ints ys) (ints [16]) rfl rfl (by (repeat (first | (with_reducible assumption) | (with_reducible refine Own.alloc ?_ _) | (with_reducible refine Own.drew ?_) | (with_reducible refine Own.set ?_ (by first | (simp; done) | (simp; omega) | omega) _)))) (lit_rd _ #[.int .i64 (16)] 3 1 _ (by (try simp) <;> (try omega)) rfl (by unfold maxLen; omega)) (ints_one _) (by unfold maxLen; omega) (by omega) (by (try simp) <;> omega) ?_; intro A6 c6 w6 L6 H6 o6 f6 d6; have h6 := HG.out w6 A6 c6 L6 H6 (ys ++ [16]) (Kept.trans hM (Kept.of_fr (Fr.trans (Fr.of_below (by (repeat (first | (with_reducible assumption) | (with_reducible exact Below.refl _ _) | (with_reducible refine Below.setCell ?_ (by first | (simp; done) | (simp; omega) | omega) _) | (with_reducible refine Below.alloc ?_ (by first | (simp; done) | (simp; omega) | omega) _) | (with_reducible refine Below.drew ?_) | (with_reducible refine Below.drewN ?_ _))) : Below wa.heap.size wa _) lo hi) f6))) (by rw [List.length_append, HK.out, ints_append]; exact o6) (d6.imp id (fun h => ⟨by rw [h.1]; (try simp) <;> omega, Nat.le_of_eq h.2⟩)); simp only [List.length_append, List.length_cons, List.length_nil, HK.out] at h6; obtain ⟨k6, kf6, hq6⟩ := h6; have HQ6 := Lib.hid hq6; clear hq6 d6; have z6 := f6.size; (try simp at z6); replace TQ := Blk.fr (by (repeat (first | (with_reducible assumption) | (with_reducible refine Blk.drew ?_) | (with_reducible refine Blk.other ?_ (by first | (simp; done) | (simp; omega) | omega) _) | (with_reducible refine Blk.alloc ?_ _))) : Blk _ w1.heap.size 24 #[.slice (some ⟨ga, oa, none⟩) 8 c]) f6 hQs; replace TR := Blk.fr (by (repeat (first | (with_reducible assumption) | (with_reducible refine Blk.drew ?_) | (with_reducible refine Blk.other ?_ (by first | (simp; done) | (simp; omega) | omega) _) | (with_reducible refine Blk.alloc ?_ _))) : Blk _ w.heap.size 24 #[.slice none 0 0]) f6 (.inl (by omega)); have hrz := Rdr.fr (g := g) (by (repeat (first | (with_reducible assumption) | (with_reducible refine Rdr.drew ?_) | (with_reducible refine Rdr.set ?_ (by first | (simp; done) | (simp; omega) | omega) _) | (with_reducible refine Rdr.alloc ?_ _))) : Rdr _ g (N + 22 - 2 * 0 + 1 + 1 + 1)) f6 (.inl (by omega)) (by omega); replace hF := Fr.own (by (repeat (first | (with_reducible assumption) | (with_reducible refine Fr.drew ?_) | (with_reducible exact Fr.refl _ _ _) | (with_reducible refine Fr.setOut ?_ (by first | (simp; done) | (simp; omega) | omega) _) | (with_reducible refine Fr.alloc ?_ _))) : Fr g (g + 1) w _) (f6.wide (B' := w.heap.size) (by omega) (Nat.le_refl _)); clear q0 qf hc lQ lR f6; have q0 := TQ.cell 0 rfl; have qf := TQ.free; have lQ := TQ.lt; have lR := TR.lt
                refine hK.out _ _ ?_ (fun hHeld => ?_)
                focus (first | exact trivial | ((try dsimp only); (exact Blk.cell (by (repeat (first | (with_reducible assumption) | (with_reducible refine Blk.drew ?_) | (with_reducible refine Blk.other ?_ (by first | (simp; done) | (simp; omega) | omega) _) | (with_reducible refine Blk.alloc ?_ _))) : Blk _ w1.heap.size 24 #[.slice (some ⟨ga, oa, none⟩) 8 c]) 0 rfl))); done
                clear hK K
                (try simp only [Act.put, List.setIfInBounds_toArray, List.set_cons_zero, List.set_cons_succ])
                refine wpAnyH_take (i := 13) (v := ?_) (by rw [List.getElem?_toArray]; rfl) (by kernel_rfl) (by kernel_rfl) (by kernel_rfl) (fun _ _ _ h => h) (Or.inl ⟨by rfl, ?_⟩) (by assumption) ?_
                rotate_left
                focus (intro wS hSw; (try dsimp only at hSw); go_simp; (try with_reducible rfl)); done
                (try simp only [Act.put, List.setIfInBounds_toArray, List.set_cons_zero, List.set_cons_succ])
                refine wpAnyH_ready (rs := [14]) (by kernel_rfl) (by simp) ?_
                refine AllReadyH.cons (by rw [List.getElem?_toArray]; rfl) (fun K hK => ?_) AllReadyH.nil
                go_simp
                skip
                refine hK.out _ _ ?_ (fun hHeld => ?_)
                focus (first | exact trivial | ((try dsimp only); (exact Blk.cell (by (repeat (first | (with_reducible assumption) | (with_reducible refine Blk.drew ?_) | (with_reducible refine Blk.other ?_ (by first | (simp; done) | (simp; omega) | omega) _) | (with_reducible refine Blk.alloc ?_ _))) : Blk _ w1.heap.size 24 #[.slice (some ⟨ga, oa, none⟩) 8 c]) 0 rfl))); done
                clear hK K
                (try simp only [Act.put, List.setIfInBounds_toArray, List.set_cons_zero, List.set_cons_succ])
                refine wpAnyH_done (by kernel_rfl) ?_ _
                refine NoPanic.normal ?_
                have TQ7 := TQ.other (p := ⟨ga, oa + 1, none⟩) (by show w1.heap.size ≠ ga; omega) (.slice A6 (k1 + 1) c6)
                have TR7 := TR.other (p := ⟨ga, oa + 1, none⟩) (by show w.heap.size ≠ ga; omega) (.slice A6 (k1 + 1) c6)
                clear q0 qf
                have q0 := TQ7.cell 0 rfl
                have r0 := TR7.cell 0 rfl
                have rf := TR7.free
                have HQ7 := Lib.hid (HQ6.out.setT TR7 (by decide) (by decide) 0 (.slice (some ⟨ga, oa, none⟩) 8 c))
                have hsn := add_size (zs := [16]) hy
                have HSN := Lib.hid hsn
                clear hy hsn
                go_wp2
                refine bodyPost_ret (v := queues (some ⟨ga, oa, none⟩) 8 c) (by simp [results, Try.results41, go_sem, *]) rfl ⟨_, 8, c, yss.set 1 (ys ++ [16]), rfl, HQ7.out.rows.mono (by omega) (by simp), hle, by rw [HSN.out]; simp; omega, (by (repeat (first | (with_reducible assumption) | (with_reducible refine Rdr.drew ?_) | (with_reducible refine Rdr.set ?_ (by first | (simp; done) | (simp; omega) | omega) _) | (with_reducible refine Rdr.alloc ?_ _))) : Rdr _ g (N + 22 - 2 * 0 + 1 + 1 + 1)).mono (by omega), by (repeat (first | (with_reducible assumption) | (with_reducible refine Fr.drew ?_) | (with_reducible exact Fr.refl _ _ _) | (with_reducible refine Fr.setOut ?_ (by first | (simp; done) | (simp; omega) | omega) _) | (with_reducible refine Fr.alloc ?_ _)))⟩
            · go_simp
              refine (pick_any g (N + 22 - 2 * 0 + 1 + 1) 2 _ (by (repeat (first | (with_reducible assumption) | (with_reducible refine Rdr.drew ?_) | (with_reducible refine Rdr.set ?_ (by first | (simp; done) | (simp; omega) | omega) _) | (with_reducible refine Rdr.alloc ?_ _)))) (by omega) (by omega)).mono ?_; rintro e wa ⟨va, rfl, hva, ula, -, hra, fa⟩; replace ula := ula (by omega); have za := fa.size; (try simp at za); have hM : Kept (w.heap.size + 1) lo hi w9 wa := Kept.trans (Kept.below (by (repeat (first | (with_reducible assumption) | (with_reducible exact Below.refl _ _) | (with_reducible refine Below.setCell ?_ (by first | (simp; done) | (simp; omega) | omega) _) | (with_reducible refine Below.alloc ?_ (by first | (simp; done) | (simp; omega) | omega) _) | (with_reducible refine Below.drew ?_) | (with_reducible refine Below.drewN ?_ _))) : Below w9.heap.size w9 _)) (Kept.low fa (by omega)); replace TQ := Blk.fr (by (repeat (first | (with_reducible assumption) | (with_reducible refine Blk.drew ?_) | (with_reducible refine Blk.other ?_ (by first | (simp; done) | (simp; omega) | omega) _) | (with_reducible refine Blk.alloc ?_ _))) : Blk _ w1.heap.size 24 #[.slice (some ⟨ga, oa, none⟩) 8 c]) fa (.inr (by omega)); replace TR := Blk.fr (by (repeat (first | (with_reducible assumption) | (with_reducible refine Blk.drew ?_) | (with_reducible refine Blk.other ?_ (by first | (simp; done) | (simp; omega) | omega) _) | (with_reducible refine Blk.alloc ?_ _))) : Blk _ w.heap.size 24 #[.slice none 0 0]) fa (.inr (by omega)); replace hown := Own.fr (by (repeat (first | (with_reducible assumption) | (with_reducible refine Own.alloc ?_ _) | (with_reducible refine Own.drew ?_) | (with_reducible refine Own.set ?_ (by first | (simp; done) | (simp; omega) | omega) _))) : Own _ lo hi 3 1 A' k1 c' (ints ys)) fa (.inr (by omega)); replace hc := (Fr.cell fa (p := ⟨ga, oa + 1, none⟩) (by (try simp) <;> omega) (.inr (by show g + 1 ≤ ga; omega))).trans ((Below.cell (by (repeat (first | (with_reducible assumption) | (with_reducible exact Below.refl _ _) | (with_reducible refine Below.setCell ?_ (by first | (simp; done) | (simp; omega) | omega) _) | (with_reducible refine Below.alloc ?_ (by first | (simp; done) | (simp; omega) | omega) _) | (with_reducible refine Below.drew ?_) | (with_reducible refine Below.drewN ?_ _))) : Below w9.heap.size w9 _) (p := ⟨ga, oa + 1, none⟩) hg2).trans hc); replace hF := Fr.trans (by (repeat (first | (with_reducible assumption) | (with_reducible refine Fr.drew ?_) | (with_reducible exact Fr.refl _ _ _) | (with_reducible refine Fr.setOut ?_ (by first | (simp; done) | (simp; omega) | omega) _) | (with_reducible refine Fr.alloc ?_ _))) : Fr g (g + 1) w _) fa; clear fa q0 qf lQ lR hr9; have q0 := TQ.cell 0 rfl; have qf := TQ.free; have lQ := TQ.lt; have lR := TR.lt; have lg := hra.lt; have hg3 : ga < wa.heap.size := (by omega); have hhi3 : hi ≤ wa.heap.size := (by omega)
              refine hK.out _ _ ?_ (fun hHeld => ?_)
              focus (first | exact trivial | ((try dsimp only); (exact Blk.cell (by (repeat (first | (with_reducible assumption) | (with_reducible refine Blk.drew ?_) | (with_reducible refine Blk.other ?_ (by first | (simp; done) | (simp; omega) | omega) _) | (with_reducible refine Blk.alloc ?_ _))) : Blk _ w1.heap.size 24 #[.slice (some ⟨ga, oa, none⟩) 8 c]) 0 rfl))); done
              clear hK K
              (try simp only [Act.put, List.setIfInBounds_toArray, List.set_cons_zero, List.set_cons_succ])
              rcases (by omega : va = 0 ∨ va = 1) with rfl | rfl
              · skip
                refine wpAnyH_ready (rs := [6]) (by kernel_rfl) (by simp) ?_
                refine AllReadyH.cons (by rw [List.getElem?_toArray]; rfl) (fun K hK => ?_) AllReadyH.nil
                go_simp
                skip
                refine hK.out _ _ ?_ (fun hHeld => ?_)
                focus (first | exact trivial | ((try dsimp only); (exact Blk.cell (by (repeat (first | (with_reducible assumption) | (with_reducible refine Blk.drew ?_) | (with_reducible refine Blk.other ?_ (by first | (simp; done) | (simp; omega) | omega) _) | (with_reducible refine Blk.alloc ?_ _))) : Blk _ w1.heap.size 24 #[.slice (some ⟨ga, oa, none⟩) 8 c]) 0 rfl))); done
                clear hK K
                (try simp only [Act.put, List.setIfInBounds_toArray, List.set_cons_zero, List.set_cons_succ])
                refine wpAnyH_take (i := 9) (v := ?_) (by rw [List.getElem?_toArray]; rfl) (by kernel_rfl) (by kernel_rfl) (by kernel_rfl) (fun _ _ _ h => h) (Or.inl ⟨by rfl, ?_⟩) (by assumption) ?_
                rotate_left
                focus (intro wS hSw; (try dsimp only at hSw); go_simp; (try with_reducible rfl)); done
                (try simp only [Act.put, List.setIfInBounds_toArray, List.set_cons_zero, List.set_cons_succ])
                refine wpAnyH_ready (rs := [10]) (by kernel_rfl) (by simp) ?_
                refine AllReadyH.cons (by rw [List.getElem?_toArray]; rfl) (fun K hK => ?_) AllReadyH.nil
                go_simp
                skip
                refine hK.out _ _ ?_ (fun hHeld => ?_)
                focus (first | exact trivial | ((try dsimp only); (exact Blk.cell (by (repeat (first | (with_reducible assumption) | (with_reducible refine Blk.drew ?_) | (with_reducible refine Blk.other ?_ (by first | (simp; done) | (simp; omega) | omega) _) | (with_reducible refine Blk.alloc ?_ _))) : Blk _ w1.heap.size 24 #[.slice (some ⟨ga, oa, none⟩) 8 c]) 0 rfl))); done
                clear hK K
                (try simp only [Act.put, List.setIfInBounds_toArray, List.set_cons_zero, List.set_cons_succ])
                refine wpAnyH_ready (rs := [11]) (by kernel_rfl) (by simp) ?_
                refine AllReadyH.cons (by rw [List.getElem?_toArray]; rfl) (fun K hK => ?_) AllReadyH.nil
                go_simp
                skip
                refine hK.out _ _ ?_ (fun hHeld => ?_)
                focus (first | exact trivial | ((try dsimp only); (exact Blk.cell (by (repeat (first | (with_reducible assumption) | (with_reducible refine Blk.drew ?_) | (with_reducible refine Blk.other ?_ (by first | (simp; done) | (simp; omega) | omega) _) | (with_reducible refine Blk.alloc ?_ _))) : Blk _ w1.heap.size 24 #[.slice (some ⟨ga, oa, none⟩) 8 c]) 0 rfl))); done
                clear hK K
                (try simp only [Act.put, List.setIfInBounds_toArray, List.set_cons_zero, List.set_cons_succ])
                refine wpAnyH_ready (rs := [12]) (by kernel_rfl) (by simp) ?_
                refine AllReadyH.cons (by rw [List.getElem?_toArray]; rfl) (fun K hK => ?_) AllReadyH.nil
                refine step_app2 _ rfl (.tmp 39) (.tmp 45) 38 rfl 3 i0 (.int .i64 0) 1 8 Try.underlying38 hi0 hz0 hz1 hz2 rfl (by omega) lo hi (wa.heap.size + 1) ((wa.heap.size + 1) + 1) A' (some ⟨(wa.heap.size + 1), 0, none⟩) k1 c' 1 1 (ints ys) (ints [-1]) rfl rfl (by (repeat (first | (with_reducible assumption) | (with_reducible refine Own.alloc ?_ _) | (with_reducible refine Own.drew ?_) | (with_reducible refine Own.set ?_ (by first | (simp; done) | (simp; omega) | omega) _)))) (lit_rd _ #[.int .i64 (-1)] 3 1 _ (by (try simp) <;> (try omega)) rfl (by unfold maxLen; omega)) (ints_one _) (by unfold maxLen; omega) (by omega) (by (try simp) <;> omega) ?_; intro A6 c6 w6 L6 H6 o6 f6 d6; have h6 := HG.out w6 A6 c6 L6 H6 (ys ++ [-1]) (Kept.trans hM (Kept.of_fr (Fr.trans (Fr.of_below (by (repeat (first | (with_reducible assumption) | (with_reducible exact Below.refl _ _) | (with_reducible refine Below.setCell ?_ (by first | (simp; done) | (simp; omega) | omega) _) | (with_reducible refine Below.alloc ?_ (by first | (simp; done) | (simp; omega) | omega) _) | (with_reducible refine Below.drew ?_) | (with_reducible refine Below.drewN ?_ _))) : Below wa.heap.size wa _) lo hi) f6))) (by rw [List.length_append, HK.out, ints_append]; exact o6) (d6.imp id (fun h => ⟨by rw [h.1]; (try simp) <;> omega, Nat.le_of_eq h.2⟩)); simp only [List.length_append, List.length_cons, List.length_nil, HK.out] at h6; obtain ⟨k6, kf6, hq6⟩ := h6; have HQ6 := Lib.hid hq6; clear hq6 d6; have z6 := f6.size; (try simp at z6); replace TQ := Blk.fr (by (repeat (first | (with_reducible assumption) | (with_reducible refine Blk.drew ?_) | (with_reducible refine Blk.other ?_ (by first | (simp; done) | (simp; omega) | omega) _) | (with_reducible refine Blk.alloc ?_ _))) : Blk _ w1.heap.size 24 #[.slice (some ⟨ga, oa, none⟩) 8 c]) f6 hQs; replace TR := Blk.fr (by (repeat (first | (with_reducible assumption) | (with_reducible refine Blk.drew ?_) | (with_reducible refine Blk.other ?_ (by first | (simp; done) | (simp; omega) | omega) _) | (with_reducible refine Blk.alloc ?_ _))) : Blk _ w.heap.size 24 #[.slice none 0 0]) f6 (.inl (by omega)); have hrz := Rdr.fr (g := g) (by (repeat (first | (with_reducible assumption) | (with_reducible refine Rdr.drew ?_) | (with_reducible refine Rdr.set ?_ (by first | (simp; done) | (simp; omega) | omega) _) | (with_reducible refine Rdr.alloc ?_ _))) : Rdr _ g (N + 22 - 2 * 0 + 1 + 1 + 1)) f6 (.inl (by omega)) (by omega); replace hF := Fr.own (by (repeat (first | (with_reducible assumption) | (with_reducible refine Fr.drew ?_) | (with_reducible exact Fr.refl _ _ _) | (with_reducible refine Fr.setOut ?_ (by first | (simp; done) | (simp; omega) | omega) _) | (with_reducible refine Fr.alloc ?_ _))) : Fr g (g + 1) w _) (f6.wide (B' := w.heap.size) (by omega) (Nat.le_refl _)); clear q0 qf hc lQ lR f6; have q0 := TQ.cell 0 rfl; have qf := TQ.free; have lQ := TQ.lt; have lR := TR.lt
                refine hK.out _ _ ?_ (fun hHeld => ?_)
                focus (first | exact trivial | ((try dsimp only); (exact Blk.cell (by (repeat (first | (with_reducible assumption) | (with_reducible refine Blk.drew ?_) | (with_reducible refine Blk.other ?_ (by first | (simp; done) | (simp; omega) | omega) _) | (with_reducible refine Blk.alloc ?_ _))) : Blk _ w1.heap.size 24 #[.slice (some ⟨ga, oa, none⟩) 8 c]) 0 rfl))); done
                clear hK K
                (try simp only [Act.put, List.setIfInBounds_toArray, List.set_cons_zero, List.set_cons_succ])
                refine wpAnyH_take (i := 13) (v := ?_) (by rw [List.getElem?_toArray]; rfl) (by kernel_rfl) (by kernel_rfl) (by kernel_rfl) (fun _ _ _ h => h) (Or.inl ⟨by rfl, ?_⟩) (by assumption) ?_
                rotate_left
                focus (intro wS hSw; (try dsimp only at hSw); go_simp; (try with_reducible rfl)); done
                (try simp only [Act.put, List.setIfInBounds_toArray, List.set_cons_zero, List.set_cons_succ])
                refine wpAnyH_ready (rs := [14]) (by kernel_rfl) (by simp) ?_
                refine AllReadyH.cons (by rw [List.getElem?_toArray]; rfl) (fun K hK => ?_) AllReadyH.nil
                go_simp
                skip
                refine hK.out _ _ ?_ (fun hHeld => ?_)
                focus (first | exact trivial | ((try dsimp only); (exact Blk.cell (by (repeat (first | (with_reducible assumption) | (with_reducible refine Blk.drew ?_) | (with_reducible refine Blk.other ?_ (by first | (simp; done) | (simp; omega) | omega) _) | (with_reducible refine Blk.alloc ?_ _))) : Blk _ w1.heap.size 24 #[.slice (some ⟨ga, oa, none⟩) 8 c]) 0 rfl))); done
                clear hK K
                (try simp only [Act.put, List.setIfInBounds_toArray, List.set_cons_zero, List.set_cons_succ])
                refine wpAnyH_done (by kernel_rfl) ?_ _
                refine NoPanic.normal ?_
                have TQ7 := TQ.other (p := ⟨ga, oa + 1, none⟩) (by show w1.heap.size ≠ ga; omega) (.slice A6 (k1 + 1) c6)
                have TR7 := TR.other (p := ⟨ga, oa + 1, none⟩) (by show w.heap.size ≠ ga; omega) (.slice A6 (k1 + 1) c6)
                clear q0 qf
                have q0 := TQ7.cell 0 rfl
                have r0 := TR7.cell 0 rfl
                have rf := TR7.free
                have HQ7 := Lib.hid (HQ6.out.setT TR7 (by decide) (by decide) 0 (.slice (some ⟨ga, oa, none⟩) 8 c))
                have hsn := add_size (zs := [-1]) hy
                have HSN := Lib.hid hsn
                clear hy hsn
                go_wp2
                refine bodyPost_ret (v := queues (some ⟨ga, oa, none⟩) 8 c) (by simp [results, Try.results41, go_sem, *]) rfl ⟨_, 8, c, yss.set 1 (ys ++ [-1]), rfl, HQ7.out.rows.mono (by omega) (by simp), hle, by rw [HSN.out]; simp; omega, (by (repeat (first | (with_reducible assumption) | (with_reducible refine Rdr.drew ?_) | (with_reducible refine Rdr.set ?_ (by first | (simp; done) | (simp; omega) | omega) _) | (with_reducible refine Rdr.alloc ?_ _))) : Rdr _ g (N + 22 - 2 * 0 + 1 + 1 + 1)).mono (by omega), by (repeat (first | (with_reducible assumption) | (with_reducible refine Fr.drew ?_) | (with_reducible exact Fr.refl _ _ _) | (with_reducible refine Fr.setOut ?_ (by first | (simp; done) | (simp; omega) | omega) _) | (with_reducible refine Fr.alloc ?_ _)))⟩
              · skip
                refine wpAnyH_ready (rs := [6]) (by kernel_rfl) (by simp) ?_
                refine AllReadyH.cons (by rw [List.getElem?_toArray]; rfl) (fun K hK => ?_) AllReadyH.nil
                go_simp
                skip
                refine hK.out _ _ ?_ (fun hHeld => ?_)
                focus (first | exact trivial | ((try dsimp only); (exact Blk.cell (by (repeat (first | (with_reducible assumption) | (with_reducible refine Blk.drew ?_) | (with_reducible refine Blk.other ?_ (by first | (simp; done) | (simp; omega) | omega) _) | (with_reducible refine Blk.alloc ?_ _))) : Blk _ w1.heap.size 24 #[.slice (some ⟨ga, oa, none⟩) 8 c]) 0 rfl))); done
                clear hK K
                (try simp only [Act.put, List.setIfInBounds_toArray, List.set_cons_zero, List.set_cons_succ])
                refine wpAnyH_take (i := 9) (v := ?_) (by rw [List.getElem?_toArray]; rfl) (by kernel_rfl) (by kernel_rfl) (by kernel_rfl) (fun _ _ _ h => h) (Or.inl ⟨by rfl, ?_⟩) (by assumption) ?_
                rotate_left
                focus (intro wS hSw; (try dsimp only at hSw); go_simp; (try with_reducible rfl)); done
                (try simp only [Act.put, List.setIfInBounds_toArray, List.set_cons_zero, List.set_cons_succ])
                refine wpAnyH_ready (rs := [10]) (by kernel_rfl) (by simp) ?_
                refine AllReadyH.cons (by rw [List.getElem?_toArray]; rfl) (fun K hK => ?_) AllReadyH.nil
                go_simp
                skip
                refine hK.out _ _ ?_ (fun hHeld => ?_)
                focus (first | exact trivial | ((try dsimp only); (exact Blk.cell (by (repeat (first | (with_reducible assumption) | (with_reducible refine Blk.drew ?_) | (with_reducible refine Blk.other ?_ (by first | (simp; done) | (simp; omega) | omega) _) | (with_reducible refine Blk.alloc ?_ _))) : Blk _ w1.heap.size 24 #[.slice (some ⟨ga, oa, none⟩) 8 c]) 0 rfl))); done
                clear hK K
                (try simp only [Act.put, List.setIfInBounds_toArray, List.set_cons_zero, List.set_cons_succ])
                refine wpAnyH_ready (rs := [11]) (by kernel_rfl) (by simp) ?_
                refine AllReadyH.cons (by rw [List.getElem?_toArray]; rfl) (fun K hK => ?_) AllReadyH.nil
                go_simp
                skip
                refine hK.out _ _ ?_ (fun hHeld => ?_)
                focus (first | exact trivial | ((try dsimp only); (exact Blk.cell (by (repeat (first | (with_reducible assumption) | (with_reducible refine Blk.drew ?_) | (with_reducible refine Blk.other ?_ (by first | (simp; done) | (simp; omega) | omega) _) | (with_reducible refine Blk.alloc ?_ _))) : Blk _ w1.heap.size 24 #[.slice (some ⟨ga, oa, none⟩) 8 c]) 0 rfl))); done
                clear hK K
                (try simp only [Act.put, List.setIfInBounds_toArray, List.set_cons_zero, List.set_cons_succ])
                refine wpAnyH_ready (rs := [12]) (by kernel_rfl) (by simp) ?_
                refine AllReadyH.cons (by rw [List.getElem?_toArray]; rfl) (fun K hK => ?_) AllReadyH.nil
                refine step_app2 _ rfl (.tmp 39) (.tmp 45) 38 rfl 3 i0 (.int .i64 0) 1 8 Try.underlying38 hi0 hz0 hz1 hz2 rfl (by omega) lo hi (wa.heap.size + 1) ((wa.heap.size + 1) + 1) A' (some ⟨(wa.heap.size + 1), 0, none⟩) k1 c' 1 1 (ints ys) (ints [16]) rfl rfl (by (repeat (first | (with_reducible assumption) | (with_reducible refine Own.alloc ?_ _) | (with_reducible refine Own.drew ?_) | (with_reducible refine Own.set ?_ (by first | (simp; done) | (simp; omega) | omega) _)))) (lit_rd _ #[.int .i64 (16)] 3 1 _ (by (try simp) <;> (try omega)) rfl (by unfold maxLen; omega)) (ints_one _) (by unfold maxLen; omega) (by omega) (by (try simp) <;> omega) ?_; intro A6 c6 w6 L6 H6 o6 f6 d6; have h6 := HG.out w6 A6 c6 L6 H6 (ys ++ [16]) (Kept.trans hM (Kept.of_fr (Fr.trans (Fr.of_below (by (repeat (first | (with_reducible assumption) | (with_reducible exact Below.refl _ _) | (with_reducible refine Below.setCell ?_ (by first | (simp; done) | (simp; omega) | omega) _) | (with_reducible refine Below.alloc ?_ (by first | (simp; done) | (simp; omega) | omega) _) | (with_reducible refine Below.drew ?_) | (with_reducible refine Below.drewN ?_ _))) : Below wa.heap.size wa _) lo hi) f6))) (by rw [List.length_append, HK.out, ints_append]; exact o6) (d6.imp id (fun h => ⟨by rw [h.1]; (try simp) <;> omega, Nat.le_of_eq h.2⟩)); simp only [List.length_append, List.length_cons, List.length_nil, HK.out] at h6; obtain ⟨k6, kf6, hq6⟩ := h6; have HQ6 := Lib.hid hq6; clear hq6 d6; have z6 := f6.size; (try simp at z6); replace TQ := Blk.fr (by (repeat (first | (with_reducible assumption) | (with_reducible refine Blk.drew ?_) | (with_reducible refine Blk.other ?_ (by first | (simp; done) | (simp; omega) | omega) _) | (with_reducible refine Blk.alloc ?_ _))) : Blk _ w1.heap.size 24 #[.slice (some ⟨ga, oa, none⟩) 8 c]) f6 hQs; replace TR := Blk.fr (by (repeat (first | (with_reducible assumption) | (with_reducible refine Blk.drew ?_) | (with_reducible refine Blk.other ?_ (by first | (simp; done) | (simp; omega) | omega) _) | (with_reducible refine Blk.alloc ?_ _))) : Blk _ w.heap.size 24 #[.slice none 0 0]) f6 (.inl (by omega)); have hrz := Rdr.fr (g := g) (by (repeat (first | (with_reducible assumption) | (with_reducible refine Rdr.drew ?_) | (with_reducible refine Rdr.set ?_ (by first | (simp; done) | (simp; omega) | omega) _) | (with_reducible refine Rdr.alloc ?_ _))) : Rdr _ g (N + 22 - 2 * 0 + 1 + 1 + 1)) f6 (.inl (by omega)) (by omega); replace hF := Fr.own (by (repeat (first | (with_reducible assumption) | (with_reducible refine Fr.drew ?_) | (with_reducible exact Fr.refl _ _ _) | (with_reducible refine Fr.setOut ?_ (by first | (simp; done) | (simp; omega) | omega) _) | (with_reducible refine Fr.alloc ?_ _))) : Fr g (g + 1) w _) (f6.wide (B' := w.heap.size) (by omega) (Nat.le_refl _)); clear q0 qf hc lQ lR f6; have q0 := TQ.cell 0 rfl; have qf := TQ.free; have lQ := TQ.lt; have lR := TR.lt
                refine hK.out _ _ ?_ (fun hHeld => ?_)
                focus (first | exact trivial | ((try dsimp only); (exact Blk.cell (by (repeat (first | (with_reducible assumption) | (with_reducible refine Blk.drew ?_) | (with_reducible refine Blk.other ?_ (by first | (simp; done) | (simp; omega) | omega) _) | (with_reducible refine Blk.alloc ?_ _))) : Blk _ w1.heap.size 24 #[.slice (some ⟨ga, oa, none⟩) 8 c]) 0 rfl))); done
                clear hK K
                (try simp only [Act.put, List.setIfInBounds_toArray, List.set_cons_zero, List.set_cons_succ])
                refine wpAnyH_take (i := 13) (v := ?_) (by rw [List.getElem?_toArray]; rfl) (by kernel_rfl) (by kernel_rfl) (by kernel_rfl) (fun _ _ _ h => h) (Or.inl ⟨by rfl, ?_⟩) (by assumption) ?_
                rotate_left
                focus (intro wS hSw; (try dsimp only at hSw); go_simp; (try with_reducible rfl)); done
                (try simp only [Act.put, List.setIfInBounds_toArray, List.set_cons_zero, List.set_cons_succ])
                refine wpAnyH_ready (rs := [14]) (by kernel_rfl) (by simp) ?_
                refine AllReadyH.cons (by rw [List.getElem?_toArray]; rfl) (fun K hK => ?_) AllReadyH.nil
                go_simp
                skip
                refine hK.out _ _ ?_ (fun hHeld => ?_)
                focus (first | exact trivial | ((try dsimp only); (exact Blk.cell (by (repeat (first | (with_reducible assumption) | (with_reducible refine Blk.drew ?_) | (with_reducible refine Blk.other ?_ (by first | (simp; done) | (simp; omega) | omega) _) | (with_reducible refine Blk.alloc ?_ _))) : Blk _ w1.heap.size 24 #[.slice (some ⟨ga, oa, none⟩) 8 c]) 0 rfl))); done
                clear hK K
                (try simp only [Act.put, List.setIfInBounds_toArray, List.set_cons_zero, List.set_cons_succ])
                refine wpAnyH_done (by kernel_rfl) ?_ _
                refine NoPanic.normal ?_
                have TQ7 := TQ.other (p := ⟨ga, oa + 1, none⟩) (by show w1.heap.size ≠ ga; omega) (.slice A6 (k1 + 1) c6)
                have TR7 := TR.other (p := ⟨ga, oa + 1, none⟩) (by show w.heap.size ≠ ga; omega) (.slice A6 (k1 + 1) c6)
                clear q0 qf
                have q0 := TQ7.cell 0 rfl
                have r0 := TR7.cell 0 rfl
                have rf := TR7.free
                have HQ7 := Lib.hid (HQ6.out.setT TR7 (by decide) (by decide) 0 (.slice (some ⟨ga, oa, none⟩) 8 c))
                have hsn := add_size (zs := [16]) hy
                have HSN := Lib.hid hsn
                clear hy hsn
                go_wp2
                refine bodyPost_ret (v := queues (some ⟨ga, oa, none⟩) 8 c) (by simp [results, Try.results41, go_sem, *]) rfl ⟨_, 8, c, yss.set 1 (ys ++ [16]), rfl, HQ7.out.rows.mono (by omega) (by simp), hle, by rw [HSN.out]; simp; omega, (by (repeat (first | (with_reducible assumption) | (with_reducible refine Rdr.drew ?_) | (with_reducible refine Rdr.set ?_ (by first | (simp; done) | (simp; omega) | omega) _) | (with_reducible refine Rdr.alloc ?_ _))) : Rdr _ g (N + 22 - 2 * 0 + 1 + 1 + 1)).mono (by omega), by (repeat (first | (with_reducible assumption) | (with_reducible refine Fr.drew ?_) | (with_reducible exact Fr.refl _ _ _) | (with_reducible refine Fr.setOut ?_ (by first | (simp; done) | (simp; omega) | omega) _) | (with_reducible refine Fr.alloc ?_ _)))⟩
          · go_simp
            skip
            refine hK.out _ _ ?_ (fun hHeld => ?_)
            focus (first | exact trivial | ((try dsimp only); (exact Blk.cell (by (repeat (first | (with_reducible assumption) | (with_reducible refine Blk.drew ?_) | (with_reducible refine Blk.other ?_ (by first | (simp; done) | (simp; omega) | omega) _) | (with_reducible refine Blk.alloc ?_ _))) : Blk _ w1.heap.size 24 #[.slice (some ⟨ga, oa, none⟩) 8 c]) 0 rfl))); done
            clear hK K
            (try simp only [Act.put, List.setIfInBounds_toArray, List.set_cons_zero, List.set_cons_succ])
            refine wpAnyH_ready (rs := [5, 8]) (by kernel_rfl) (by simp) ?_
            refine AllReadyH.cons (by rw [List.getElem?_toArray]; rfl) (fun K hK => ?_) (AllReadyH.cons (by rw [List.getElem?_toArray]; rfl) (fun K hK => ?_) AllReadyH.nil)
            · go_simp
              skip
              refine hK.out _ _ ?_ (fun hHeld => ?_)
              focus (first | exact trivial | ((try dsimp only); (exact Blk.cell (by (repeat (first | (with_reducible assumption) | (with_reducible refine Blk.drew ?_) | (with_reducible refine Blk.other ?_ (by first | (simp; done) | (simp; omega) | omega) _) | (with_reducible refine Blk.alloc ?_ _))) : Blk _ w1.heap.size 24 #[.slice (some ⟨ga, oa, none⟩) 8 c]) 0 rfl))); done
              clear hK K
              (try simp only [Act.put, List.setIfInBounds_toArray, List.set_cons_zero, List.set_cons_succ])
              refine wpAnyH_ready (rs := [8]) (by kernel_rfl) (by simp) ?_
              refine AllReadyH.cons (by rw [List.getElem?_toArray]; rfl) (fun K hK => ?_) AllReadyH.nil
              go_simp
              refine (pick_any g (N + 22 - 2 * 0 + 1 + 1) 2 _ (by (repeat (first | (with_reducible assumption) | (with_reducible refine Rdr.drew ?_) | (with_reducible refine Rdr.set ?_ (by first | (simp; done) | (simp; omega) | omega) _) | (with_reducible refine Rdr.alloc ?_ _)))) (by omega) (by omega)).mono ?_; rintro e wa ⟨va, rfl, hva, ula, -, hra, fa⟩; replace ula := ula (by omega); have za := fa.size; (try simp at za); have hM : Kept (w.heap.size + 1) lo hi w9 wa := Kept.trans (Kept.below (by (repeat (first | (with_reducible assumption) | (with_reducible exact Below.refl _ _) | (with_reducible refine Below.setCell ?_ (by first | (simp; done) | (simp; omega) | omega) _) | (with_reducible refine Below.alloc ?_ (by first | (simp; done) | (simp; omega) | omega) _) | (with_reducible refine Below.drew ?_) | (with_reducible refine Below.drewN ?_ _))) : Below w9.heap.size w9 _)) (Kept.low fa (by omega)); have TL := Blk.fr (by (repeat (first | (with_reducible assumption) | (with_reducible exact Blk.newAt _ _ (by simp)) | (with_reducible refine Blk.drew ?_) | (with_reducible refine Blk.other ?_ (by first | (simp; done) | (simp; omega) | omega) _) | (with_reducible refine Blk.alloc ?_ _))) : Blk _ w9.heap.size 3 #[.int .i64 (-1), .int .i64 16]) fa (.inr (by omega)); replace TQ := Blk.fr (by (repeat (first | (with_reducible assumption) | (with_reducible refine Blk.drew ?_) | (with_reducible refine Blk.other ?_ (by first | (simp; done) | (simp; omega) | omega) _) | (with_reducible refine Blk.alloc ?_ _))) : Blk _ w1.heap.size 24 #[.slice (some ⟨ga, oa, none⟩) 8 c]) fa (.inr (by omega)); replace TR := Blk.fr (by (repeat (first | (with_reducible assumption) | (with_reducible refine Blk.drew ?_) | (with_reducible refine Blk.other ?_ (by first | (simp; done) | (simp; omega) | omega) _) | (with_reducible refine Blk.alloc ?_ _))) : Blk _ w.heap.size 24 #[.slice none 0 0]) fa (.inr (by omega)); replace hown := Own.fr (by (repeat (first | (with_reducible assumption) | (with_reducible refine Own.alloc ?_ _) | (with_reducible refine Own.drew ?_) | (with_reducible refine Own.set ?_ (by first | (simp; done) | (simp; omega) | omega) _))) : Own _ lo hi 3 1 A' k1 c' (ints ys)) fa (.inr (by omega)); replace hc := (Fr.cell fa (p := ⟨ga, oa + 1, none⟩) (by (try simp) <;> omega) (.inr (by show g + 1 ≤ ga; omega))).trans ((Below.cell (by (repeat (first | (with_reducible assumption) | (with_reducible exact Below.refl _ _) | (with_reducible refine Below.setCell ?_ (by first | (simp; done) | (simp; omega) | omega) _) | (with_reducible refine Below.alloc ?_ (by first | (simp; done) | (simp; omega) | omega) _) | (with_reducible refine Below.drew ?_) | (with_reducible refine Below.drewN ?_ _))) : Below w9.heap.size w9 _) (p := ⟨ga, oa + 1, none⟩) hg2).trans hc); replace hF := Fr.trans (by (repeat (first | (with_reducible assumption) | (with_reducible refine Fr.drew ?_) | (with_reducible exact Fr.refl _ _ _) | (with_reducible refine Fr.setOut ?_ (by first | (simp; done) | (simp; omega) | omega) _) | (with_reducible refine Fr.alloc ?_ _))) : Fr g (g + 1) w _) fa; clear fa q0 qf lQ lR hr9; have q0 := TQ.cell 0 rfl; have qf := TQ.free; have lQ := TQ.lt; have lR := TR.lt; have lg := hra.lt; have hg3 : ga < wa.heap.size := (by omega); have hhi3 : hi ≤ wa.heap.size := (by omega); have l0 := TL.cell 0 rfl; have l1 := TL.cell 1 rfl; have lL := TL.lt
              refine hK.out _ _ ?_ (fun hHeld => ?_)
              focus (first | exact trivial | ((try dsimp only); (exact Blk.cell (by (repeat (first | (with_reducible assumption) | (with_reducible refine Blk.drew ?_) | (with_reducible refine Blk.other ?_ (by first | (simp; done) | (simp; omega) | omega) _) | (with_reducible refine Blk.alloc ?_ _))) : Blk _ w1.heap.size 24 #[.slice (some ⟨ga, oa, none⟩) 8 c]) 0 rfl))); done
              clear hK K
              (try simp only [Act.put, List.setIfInBounds_toArray, List.set_cons_zero, List.set_cons_succ])
              rcases (by omega : va = 0 ∨ va = 1) with rfl | rfl
              · skip
                refine wpAnyH_take (i := 9) (v := ?_) (by rw [List.getElem?_toArray]; rfl) (by kernel_rfl) (by kernel_rfl) (by kernel_rfl) (fun _ _ _ h => h) (Or.inl ⟨by rfl, ?_⟩) (by assumption) ?_
                rotate_left
                focus (intro wS hSw; (try dsimp only at hSw); go_simp; (try with_reducible rfl)); done
                (try simp only [Act.put, List.setIfInBounds_toArray, List.set_cons_zero, List.set_cons_succ])
                refine wpAnyH_ready (rs := [10]) (by kernel_rfl) (by simp) ?_
                refine AllReadyH.cons (by rw [List.getElem?_toArray]; rfl) (fun K hK => ?_) AllReadyH.nil
                go_simp
                skip
                refine hK.out _ _ ?_ (fun hHeld => ?_)
                focus (first | exact trivial | ((try dsimp only); (exact Blk.cell (by (repeat (first | (with_reducible assumption) | (with_reducible refine Blk.drew ?_) | (with_reducible refine Blk.other ?_ (by first | (simp; done) | (simp; omega) | omega) _) | (with_reducible refine Blk.alloc ?_ _))) : Blk _ w1.heap.size 24 #[.slice (some ⟨ga, oa, none⟩) 8 c]) 0 rfl))); done
                clear hK K
                (try simp only [Act.put, List.setIfInBounds_toArray, List.set_cons_zero, List.set_cons_succ])
                refine wpAnyH_ready (rs := [11]) (by kernel_rfl) (by simp) ?_
                refine AllReadyH.cons (by rw [List.getElem?_toArray]; rfl) (fun K hK => ?_) AllReadyH.nil
                go_simp
                skip
                refine hK.out _ _ ?_ (fun hHeld => ?_)
                focus (first | exact trivial | ((try dsimp only); (exact Blk.cell (by (repeat (first | (with_reducible assumption) | (with_reducible refine Blk.drew ?_) | (with_reducible refine Blk.other ?_ (by first | (simp; done) | (simp; omega) | omega) _) | (with_reducible refine Blk.alloc ?_ _))) : Blk _ w1.heap.size 24 #[.slice (some ⟨ga, oa, none⟩) 8 c]) 0 rfl))); done
                clear hK K
                (try simp only [Act.put, List.setIfInBounds_toArray, List.set_cons_zero, List.set_cons_succ])
                refine wpAnyH_ready (rs := [12]) (by kernel_rfl) (by simp) ?_
                refine AllReadyH.cons (by rw [List.getElem?_toArray]; rfl) (fun K hK => ?_) AllReadyH.nil
                refine step_app2 _ rfl (.tmp 39) (.tmp 45) 38 rfl 3 i0 (.int .i64 0) 1 8 Try.underlying38 hi0 hz0 hz1 hz2 rfl (by omega) lo hi wa.heap.size (wa.heap.size + 1) A' (some ⟨wa.heap.size, 0, none⟩) k1 c' 1 1 (ints ys) (ints [-1]) rfl rfl (by (repeat (first | (with_reducible assumption) | (with_reducible refine Own.alloc ?_ _) | (with_reducible refine Own.drew ?_) | (with_reducible refine Own.set ?_ (by first | (simp; done) | (simp; omega) | omega) _)))) (lit_rd _ #[.int .i64 (-1)] 3 1 _ (by (try simp) <;> (try omega)) rfl (by unfold maxLen; omega)) (ints_one _) (by unfold maxLen; omega) (by omega) (by (try simp) <;> omega) ?_; intro A6 c6 w6 L6 H6 o6 f6 d6; have h6 := HG.out w6 A6 c6 L6 H6 (ys ++ [-1]) (Kept.trans hM (Kept.of_fr (Fr.trans (Fr.of_below (by (repeat (first | (with_reducible assumption) | (with_reducible exact Below.refl _ _) | (with_reducible refine Below.setCell ?_ (by first | (simp; done) | (simp; omega) | omega) _) | (with_reducible refine Below.alloc ?_ (by first | (simp; done) | (simp; omega) | omega) _) | (with_reducible refine Below.drew ?_) | (with_reducible refine Below.drewN ?_ _))) : Below wa.heap.size wa _) lo hi) f6))) (by rw [List.length_append, HK.out, ints_append]; exact o6) (d6.imp id (fun h => ⟨by rw [h.1]; (try simp) <;> omega, Nat.le_of_eq h.2⟩)); simp only [List.length_append, List.length_cons, List.length_nil, HK.out] at h6; obtain ⟨k6, kf6, hq6⟩ := h6; have HQ6 := Lib.hid hq6; clear hq6 d6; have z6 := f6.size; (try simp at z6); replace TQ := Blk.fr (by (repeat (first | (with_reducible assumption) | (with_reducible refine Blk.drew ?_) | (with_reducible refine Blk.other ?_ (by first | (simp; done) | (simp; omega) | omega) _) | (with_reducible refine Blk.alloc ?_ _))) : Blk _ w1.heap.size 24 #[.slice (some ⟨ga, oa, none⟩) 8 c]) f6 hQs; replace TR := Blk.fr (by (repeat (first | (with_reducible assumption) | (with_reducible refine Blk.drew ?_) | (with_reducible refine Blk.other ?_ (by first | (simp; done) | (simp; omega) | omega) _) | (with_reducible refine Blk.alloc ?_ _))) : Blk _ w.heap.size 24 #[.slice none 0 0]) f6 (.inl (by omega)); have hrz := Rdr.fr (g := g) (by (repeat (first | (with_reducible assumption) | (with_reducible refine Rdr.drew ?_) | (with_reducible refine Rdr.set ?_ (by first | (simp; done) | (simp; omega) | omega) _) | (with_reducible refine Rdr.alloc ?_ _))) : Rdr _ g (N + 22 - 2 * 0 + 1 + 1 + 1)) f6 (.inl (by omega)) (by omega); replace hF := Fr.own (by (repeat (first | (with_reducible assumption) | (with_reducible refine Fr.drew ?_) | (with_reducible exact Fr.refl _ _ _) | (with_reducible refine Fr.setOut ?_ (by first | (simp; done) | (simp; omega) | omega) _) | (with_reducible refine Fr.alloc ?_ _))) : Fr g (g + 1) w _) (f6.wide (B' := w.heap.size) (by omega) (Nat.le_refl _)); clear q0 qf hc lQ lR f6; have q0 := TQ.cell 0 rfl; have qf := TQ.free; have lQ := TQ.lt; have lR := TR.lt
                refine hK.out _ _ ?_ (fun hHeld => ?_)
                focus (first | exact trivial | ((try dsimp only); (exact Blk.cell (by (repeat (first | (with_reducible assumption) | (with_reducible refine Blk.drew ?_) | (with_reducible refine Blk.other ?_ (by first | (simp; done) | (simp; omega) | omega) _) | (with_reducible refine Blk.alloc ?_ _))) : Blk _ w1.heap.size 24 #[.slice (some ⟨ga, oa, none⟩) 8 c]) 0 rfl))); done
                clear hK K
                (try simp only [Act.put, List.setIfInBounds_toArray, List.set_cons_zero, List.set_cons_succ])
                refine wpAnyH_take (i := 13) (v := ?_) (by rw [List.getElem?_toArray]; rfl) (by kernel_rfl) (by kernel_rfl) (by kernel_rfl) (fun _ _ _ h => h) (Or.inl ⟨by rfl, ?_⟩) (by assumption) ?_
                rotate_left
                focus (intro wS hSw; (try dsimp only at hSw); go_simp; (try with_reducible rfl)); done
                (try simp only [Act.put, List.setIfInBounds_toArray, List.set_cons_zero, List.set_cons_succ])
                refine wpAnyH_ready (rs := [14]) (by kernel_rfl) (by simp) ?_
                refine AllReadyH.cons (by rw [List.getElem?_toArray]; rfl) (fun K hK => ?_) AllReadyH.nil
                go_simp
                skip
                refine hK.out _ _ ?_ (fun hHeld => ?_)
                focus (first | exact trivial | ((try dsimp only); (exact Blk.cell (by (repeat (first | (with_reducible assumption) | (with_reducible refine Blk.drew ?_) | (with_reducible refine Blk.other ?_ (by first | (simp; done) | (simp; omega) | omega) _) | (with_reducible refine Blk.alloc ?_ _))) : Blk _ w1.heap.size 24 #[.slice (some ⟨ga, oa, none⟩) 8 c]) 0 rfl))); done
                clear hK K
                (try simp only [Act.put, List.setIfInBounds_toArray, List.set_cons_zero, List.set_cons_succ])
                refine wpAnyH_done (by kernel_rfl) ?_ _
                refine NoPanic.normal ?_
                have TQ7 := TQ.other (p := ⟨ga, oa + 1, none⟩) (by show w1.heap.size ≠ ga; omega) (.slice A6 (k1 + 1) c6)
                have TR7 := TR.other (p := ⟨ga, oa + 1, none⟩) (by show w.heap.size ≠ ga; omega) (.slice A6 (k1 + 1) c6)
                clear q0 qf
                have q0 := TQ7.cell 0 rfl
                have r0 := TR7.cell 0 rfl
                have rf := TR7.free
                have HQ7 := Lib.hid (HQ6.out.setT TR7 (by decide) (by decide) 0 (.slice (some ⟨ga, oa, none⟩) 8 c))
                have hsn := add_size (zs := [-1]) hy
                have HSN := Lib.hid hsn
                clear hy hsn
                go_wp2
                refine bodyPost_ret (v := queues (some ⟨ga, oa, none⟩) 8 c) (by simp [results, Try.results41, go_sem, *]) rfl ⟨_, 8, c, yss.set 1 (ys ++ [-1]), rfl, HQ7.out.rows.mono (by omega) (by simp), hle, by rw [HSN.out]; simp; omega, (by (repeat (first | (with_reducible assumption) | (with_reducible refine Rdr.drew ?_) | (with_reducible refine Rdr.set ?_ (by first | (simp; done) | (simp; omega) | omega) _) | (with_reducible refine Rdr.alloc ?_ _))) : Rdr _ g (N + 22 - 2 * 0 + 1 + 1 + 1)).mono (by omega), by (repeat (first | (with_reducible assumption) | (with_reducible refine Fr.drew ?_) | (with_reducible exact Fr.refl _ _ _) | (with_reducible refine Fr.setOut ?_ (by first | (simp; done) | (simp; omega) | omega) _) | (with_reducible refine Fr.alloc ?_ _)))⟩
              · skip
                refine wpAnyH_take (i := 9) (v := ?_) (by rw [List.getElem?_toArray]; rfl) (by kernel_rfl) (by kernel_rfl) (by kernel_rfl) (fun _ _ _ h => h) (Or.inl ⟨by rfl, ?_⟩) (by assumption) ?_
                rotate_left
                focus (intro wS hSw; (try dsimp only at hSw); go_simp; (try with_reducible rfl)); done
                (try simp only [Act.put, List.setIfInBounds_toArray, List.set_cons_zero, List.set_cons_succ])
                refine wpAnyH_ready (rs := [10]) (by kernel_rfl) (by simp) ?_
                refine AllReadyH.cons (by rw [List.getElem?_toArray]; rfl) (fun K hK => ?_) AllReadyH.nil
                go_simp
                skip
                refine hK.out _ _ ?_ (fun hHeld => ?_)
                focus (first | exact trivial | ((try dsimp only); (exact Blk.cell (by (repeat (first | (with_reducible assumption) | (with_reducible refine Blk.drew ?_) | (with_reducible refine Blk.other ?_ (by first | (simp; done) | (simp; omega) | omega) _) | (with_reducible refine Blk.alloc ?_ _))) : Blk _ w1.heap.size 24 #[.slice (some ⟨ga, oa, none⟩) 8 c]) 0 rfl))); done
                clear hK K
                (try simp only [Act.put, List.setIfInBounds_toArray, List.set_cons_zero, List.set_cons_succ])
                refine wpAnyH_ready (rs := [11]) (by kernel_rfl) (by simp) ?_
                refine AllReadyH.cons (by rw [List.getElem?_toArray]; rfl) (fun K hK => ?_) AllReadyH.nil
                go_simp
                skip
                refine hK.out _ _ ?_ (fun hHeld => ?_)
                focus (first | exact trivial | ((try dsimp only); (exact Blk.cell (by (repeat (first | (with_reducible assumption) | (with_reducible refine Blk.drew ?_) | (with_reducible refine Blk.other ?_ (by first | (simp; done) | (simp; omega) | omega) _) | (with_reducible refine Blk.alloc ?_ _))) : Blk _ w1.heap.size 24 #[.slice (some ⟨ga, oa, none⟩) 8 c]) 0 rfl))); done
                clear hK K
                (try simp only [Act.put, List.setIfInBounds_toArray, List.set_cons_zero, List.set_cons_succ])
                refine wpAnyH_ready (rs := [12]) (by kernel_rfl) (by simp) ?_
                refine AllReadyH.cons (by rw [List.getElem?_toArray]; rfl) (fun K hK => ?_) AllReadyH.nil
                refine step_app2 _ rfl (.tmp 39) (.tmp 45) 38 rfl 3 i0 (.int .i64 0) 1 8 Try.underlying38 hi0 hz0 hz1 hz2 rfl (by omega) lo hi wa.heap.size (wa.heap.size + 1) A' (some ⟨wa.heap.size, 0, none⟩) k1 c' 1 1 (ints ys) (ints [16]) rfl rfl (by (repeat (first | (with_reducible assumption) | (with_reducible refine Own.alloc ?_ _) | (with_reducible refine Own.drew ?_) | (with_reducible refine Own.set ?_ (by first | (simp; done) | (simp; omega) | omega) _)))) (lit_rd _ #[.int .i64 (16)] 3 1 _ (by (try simp) <;> (try omega)) rfl (by unfold maxLen; omega)) (ints_one _) (by unfold maxLen; omega) (by omega) (by (try simp) <;> omega) ?_; intro A6 c6 w6 L6 H6 o6 f6 d6; have h6 := HG.out w6 A6 c6 L6 H6 (ys ++ [16]) (Kept.trans hM (Kept.of_fr (Fr.trans (Fr.of_below (by (repeat (first | (with_reducible assumption) | (with_reducible exact Below.refl _ _) | (with_reducible refine Below.setCell ?_ (by first | (simp; done) | (simp; omega) | omega) _) | (with_reducible refine Below.alloc ?_ (by first | (simp; done) | (simp; omega) | omega) _) | (with_reducible refine Below.drew ?_) | (with_reducible refine Below.drewN ?_ _))) : Below wa.heap.size wa _) lo hi) f6))) (by rw [List.length_append, HK.out, ints_append]; exact o6) (d6.imp id (fun h => ⟨by rw [h.1]; (try simp) <;> omega, Nat.le_of_eq h.2⟩)); simp only [List.length_append, List.length_cons, List.length_nil, HK.out] at h6; obtain ⟨k6, kf6, hq6⟩ := h6; have HQ6 := Lib.hid hq6; clear hq6 d6; have z6 := f6.size; (try simp at z6); replace TQ := Blk.fr (by (repeat (first | (with_reducible assumption) | (with_reducible refine Blk.drew ?_) | (with_reducible refine Blk.other ?_ (by first | (simp; done) | (simp; omega) | omega) _) | (with_reducible refine Blk.alloc ?_ _))) : Blk _ w1.heap.size 24 #[.slice (some ⟨ga, oa, none⟩) 8 c]) f6 hQs; replace TR := Blk.fr (by (repeat (first | (with_reducible assumption) | (with_reducible refine Blk.drew ?_) | (with_reducible refine Blk.other ?_ (by first | (simp; done) | (simp; omega) | omega) _) | (with_reducible refine Blk.alloc ?_ _))) : Blk _ w.heap.size 24 #[.slice none 0 0]) f6 (.inl (by omega)); have hrz := Rdr.fr (g := g) (by (repeat (first | (with_reducible assumption) | (with_reducible refine Rdr.drew ?_) | (with_reducible refine Rdr.set ?_ (by first | (simp; done) | (simp; omega) | omega) _) | (with_reducible refine Rdr.alloc ?_ _))) : Rdr _ g (N + 22 - 2 * 0 + 1 + 1 + 1)) f6 (.inl (by omega)) (by omega); replace hF := Fr.own (by (repeat (first | (with_reducible assumption) | (with_reducible refine Fr.drew ?_) | (with_reducible exact Fr.refl _ _ _) | (with_reducible refine Fr.setOut ?_ (by first | (simp; done) | (simp; omega) | omega) _) | (with_reducible refine Fr.alloc ?_ _))) : Fr g (g + 1) w _) (f6.wide (B' := w.heap.size) (by omega) (Nat.le_refl _)); clear q0 qf hc lQ lR f6; have q0 := TQ.cell 0 rfl; have qf := TQ.free; have lQ := TQ.lt; have lR := TR.lt
                refine hK.out _ _ ?_ (fun hHeld => ?_)
                focus (first | exact trivial | ((try dsimp only); (exact Blk.cell (by (repeat (first | (with_reducible assumption) | (with_reducible refine Blk.drew ?_) | (with_reducible refine Blk.other ?_ (by first | (simp; done) | (simp; omega) | omega) _) | (with_reducible refine Blk.alloc ?_ _))) : Blk _ w1.heap.size 24 #[.slice (some ⟨ga, oa, none⟩) 8 c]) 0 rfl))); done
                clear hK K
                (try simp only [Act.put, List.setIfInBounds_toArray, List.set_cons_zero, List.set_cons_succ])
                refine wpAnyH_take (i := 13) (v := ?_) (by rw [List.getElem?_toArray]; rfl) (by kernel_rfl) (by kernel_rfl) (by kernel_rfl) (fun _ _ _ h => h) (Or.inl ⟨by rfl, ?_⟩) (by assumption) ?_
                rotate_left
                focus (intro wS hSw; (try dsimp only at hSw); go_simp; (try with_reducible rfl)); done
                (try simp only [Act.put, List.setIfInBounds_toArray, List.set_cons_zero, List.set_cons_succ])
                refine wpAnyH_ready (rs := [14]) (by kernel_rfl) (by simp) ?_
                refine AllReadyH.cons (by rw [List.getElem?_toArray]; rfl) (fun K hK => ?_) AllReadyH.nil
                go_simp
                skip
                refine hK.out _ _ ?_ (fun hHeld => ?_)
                focus (first | exact trivial | ((try dsimp only); (exact Blk.cell (by (repeat (first | (with_reducible assumption) | (with_reducible refine Blk.drew ?_) | (with_reducible refine Blk.other ?_ (by first | (simp; done) | (simp; omega) | omega) _) | (with_reducible refine Blk.alloc ?_ _))) : Blk _ w1.heap.size 24 #[.slice (some ⟨ga, oa, none⟩) 8 c]) 0 rfl))); done
                clear hK K
                (try simp only [Act.put, List.setIfInBounds_toArray, List.set_cons_zero, List.set_cons_succ])
                refine wpAnyH_done (by kernel_rfl) ?_ _
                refine NoPanic.normal ?_
                have TQ7 := TQ.other (p := ⟨ga, oa + 1, none⟩) (by show w1.heap.size ≠ ga; omega) (.slice A6 (k1 + 1) c6)
                have TR7 := TR.other (p := ⟨ga, oa + 1, none⟩) (by show w.heap.size ≠ ga; omega) (.slice A6 (k1 + 1) c6)
                clear q0 qf
                have q0 := TQ7.cell 0 rfl
                have r0 := TR7.cell 0 rfl
                have rf := TR7.free
                have HQ7 := Lib.hid (HQ6.out.setT TR7 (by decide) (by decide) 0 (.slice (some ⟨ga, oa, none⟩) 8 c))
                have hsn := add_size (zs := [16]) hy
                have HSN := Lib.hid hsn
                clear hy hsn
                go_wp2
                refine bodyPost_ret (v := queues (some ⟨ga, oa, none⟩) 8 c) (by simp [results, Try.results41, go_sem, *]) rfl ⟨_, 8, c, yss.set 1 (ys ++ [16]), rfl, HQ7.out.rows.mono (by omega) (by simp), hle, by rw [HSN.out]; simp; omega, (by (repeat (first | (with_reducible assumption) | (with_reducible refine Rdr.drew ?_) | (with_reducible refine Rdr.set ?_ (by first | (simp; done) | (simp; omega) | omega) _) | (with_reducible refine Rdr.alloc ?_ _))) : Rdr _ g (N + 22 - 2 * 0 + 1 + 1 + 1)).mono (by omega), by (repeat (first | (with_reducible assumption) | (with_reducible refine Fr.drew ?_) | (with_reducible exact Fr.refl _ _ _) | (with_reducible refine Fr.setOut ?_ (by first | (simp; done) | (simp; omega) | omega) _) | (with_reducible refine Fr.alloc ?_ _)))⟩
            · go_simp
              refine (pick_any g (N + 22 - 2 * 0 + 1 + 1) 2 _ (by (repeat (first | (with_reducible assumption) | (with_reducible refine Rdr.drew ?_) | (with_reducible refine Rdr.set ?_ (by first | (simp; done) | (simp; omega) | omega) _) | (with_reducible refine Rdr.alloc ?_ _)))) (by omega) (by omega)).mono ?_; rintro e wa ⟨va, rfl, hva, ula, -, hra, fa⟩; replace ula := ula (by omega); have za := fa.size; (try simp at za); have hM : Kept (w.heap.size + 1) lo hi w9 wa := Kept.trans (Kept.below (by (repeat (first | (with_reducible assumption) | (with_reducible exact Below.refl _ _) | (with_reducible refine Below.setCell ?_ (by first | (simp; done) | (simp; omega) | omega) _) | (with_reducible refine Below.alloc ?_ (by first | (simp; done) | (simp; omega) | omega) _) | (with_reducible refine Below.drew ?_) | (with_reducible refine Below.drewN ?_ _))) : Below w9.heap.size w9 _)) (Kept.low fa (by omega)); have TL := Blk.fr (by (repeat (first | (with_reducible assumption) | (with_reducible exact Blk.newAt _ _ (by simp)) | (with_reducible refine Blk.drew ?_) | (with_reducible refine Blk.other ?_ (by first | (simp; done) | (simp; omega) | omega) _) | (with_reducible refine Blk.alloc ?_ _))) : Blk _ w9.heap.size 3 #[.int .i64 (-1), .int .i64 16]) fa (.inr (by omega)); replace TQ := Blk.fr (by (repeat (first | (with_reducible assumption) | (with_reducible refine Blk.drew ?_) | (with_reducible refine Blk.other ?_ (by first | (simp; done) | (simp; omega) | omega) _) | (with_reducible refine Blk.alloc ?_ _))) : Blk _ w1.heap.size 24 #[.slice (some ⟨ga, oa, none⟩) 8 c]) fa (.inr (by omega)); replace TR := Blk.fr (by (repeat (first | (with_reducible assumption) | (with_reducible refine Blk.drew ?_) | (with_reducible refine Blk.other ?_ (by first | (simp; done) | (simp; omega) | omega) _) | (with_reducible refine Blk.alloc ?_ _))) : Blk _ w.heap.size 24 #[.slice none 0 0]) fa (.inr (by omega)); replace hown := Own.fr (by (repeat (first | (with_reducible assumption) | (with_reducible refine Own.alloc ?_ _) | (with_reducible refine Own.drew ?_) | (with_reducible refine Own.set ?_ (by first | (simp; done) | (simp; omega) | omega) _))) : Own _ lo hi 3 1 A' k1 c' (ints ys)) fa (.inr (by omega)); replace hc := (Fr.cell fa (p := ⟨ga, oa + 1, none⟩) (by (try simp) <;> omega) (.inr (by show g + 1 ≤ ga; omega))).trans ((Below.cell (by (repeat (first | (with_reducible assumption) | (with_reducible exact Below.refl _ _) | (with_reducible refine Below.setCell ?_ (by first | (simp; done) | (simp; omega) | omega) _) | (with_reducible refine Below.alloc ?_ (by first | (simp; done) | (simp; omega) | omega) _) | (with_reducible refine Below.drew ?_) | (with_reducible refine Below.drewN ?_ _))) : Below w9.heap.size w9 _) (p := ⟨ga, oa + 1, none⟩) hg2).trans hc); replace hF := Fr.trans (by (repeat (first | (with_reducible assumption) | (with_reducible refine Fr.drew ?_) | (with_reducible exact Fr.refl _ _ _) | (with_reducible refine Fr.setOut ?_ (by first | (simp; done) | (simp; omega) | omega) _) | (with_reducible refine Fr.alloc ?_ _))) : Fr g (g + 1) w _) fa; clear fa q0 qf lQ lR hr9; have q0 := TQ.cell 0 rfl; have qf := TQ.free; have lQ := TQ.lt; have lR := TR.lt; have lg := hra.lt; have hg3 : ga < wa.heap.size := (by omega); have hhi3 : hi ≤ wa.heap.size := (by omega); have l0 := TL.cell 0 rfl; have l1 := TL.cell 1 rfl; have lL := TL.lt
              refine hK.out _ _ ?_ (fun hHeld => ?_)
              focus (first | exact trivial | ((try dsimp only); (exact Blk.cell (by (repeat (first | (with_reducible assumption) | (with_reducible refine Blk.drew ?_) | (with_reducible refine Blk.other ?_ (by first | (simp; done) | (simp; omega) | omega) _) | (with_reducible refine Blk.alloc ?_ _))) : Blk _ w1.heap.size 24 #[.slice (some ⟨ga, oa, none⟩) 8 c]) 0 rfl))); done
              clear hK K
              (try simp only [Act.put, List.setIfInBounds_toArray, List.set_cons_zero, List.set_cons_succ])
              rcases (by omega : va = 0 ∨ va = 1) with rfl | rfl
              · skip
                refine wpAnyH_take (i := 9) (v := ?_) (by rw [List.getElem?_toArray]; rfl) (by kernel_rfl) (by kernel_rfl) (by kernel_rfl) (fun _ _ _ h => h) (Or.inl ⟨by rfl, ?_⟩) (by assumption) ?_
                rotate_left
                focus (intro wS hSw; (try dsimp only at hSw); go_simp; (try with_reducible rfl)); done
                (try simp only [Act.put, List.setIfInBounds_toArray, List.set_cons_zero, List.set_cons_succ])
                refine wpAnyH_ready (rs := [5, 10]) (by kernel_rfl) (by simp) ?_
                refine AllReadyH.cons (by rw [List.getElem?_toArray]; rfl) (fun K hK => ?_) (AllReadyH.cons (by rw [List.getElem?_toArray]; rfl) (fun K hK => ?_) AllReadyH.nil)
                · go_simp
                  skip
                  refine hK.out _ _ ?_ (fun hHeld => ?_)
                  focus (first | exact trivial | ((try dsimp only); (exact Blk.cell (by (repeat (first | (with_reducible assumption) | (with_reducible refine Blk.drew ?_) | (with_reducible refine Blk.other ?_ (by first | (simp; done) | (simp; omega) | omega) _) | (with_reducible refine Blk.alloc ?_ _))) : Blk _ w1.heap.size 24 #[.slice (some ⟨ga, oa, none⟩) 8 c]) 0 rfl))); done
                  clear hK K
                  (try simp only [Act.put, List.setIfInBounds_toArray, List.set_cons_zero, List.set_cons_succ])
                  refine wpAnyH_ready (rs := [10]) (by kernel_rfl) (by simp) ?_
                  refine AllReadyH.cons (by rw [List.getElem?_toArray]; rfl) (fun K hK => ?_) AllReadyH.nil
                  go_simp
                  skip
                  refine hK.out _ _ ?_ (fun hHeld => ?_)
                  focus (first | exact trivial | ((try dsimp only); (exact Blk.cell (by (repeat (first | (with_reducible assumption) | (with_reducible refine Blk.drew ?_) | (with_reducible refine Blk.other ?_ (by first | (simp; done) | (simp; omega) | omega) _) | (with_reducible refine Blk.alloc ?_ _))) : Blk _ w1.heap.size 24 #[.slice (some ⟨ga, oa, none⟩) 8 c]) 0 rfl))); done
                  clear hK K
                  (try simp only [Act.put, List.setIfInBounds_toArray, List.set_cons_zero, List.set_cons_succ])
                  refine wpAnyH_ready (rs := [11]) (by kernel_rfl) (by simp) ?_
                  refine AllReadyH.cons (by rw [List.getElem?_toArray]; rfl) (fun K hK => ?_) AllReadyH.nil
                  go_simp
                  skip
                  refine hK.out _ _ ?_ (fun hHeld => ?_)
                  focus (first | exact trivial | ((try dsimp only); (exact Blk.cell (by (repeat (first | (with_reducible assumption) | (with_reducible refine Blk.drew ?_) | (with_reducible refine Blk.other ?_ (by first | (simp; done) | (simp; omega) | omega) _) | (with_reducible refine Blk.alloc ?_ _))) : Blk _ w1.heap.size 24 #[.slice (some ⟨ga, oa, none⟩) 8 c]) 0 rfl))); done
                  clear hK K
                  (try simp only [Act.put, List.setIfInBounds_toArray, List.set_cons_zero, List.set_cons_succ])
                  refine wpAnyH_ready (rs := [12]) (by kernel_rfl) (by simp) ?_
                  refine AllReadyH.cons (by rw [List.getElem?_toArray]; rfl) (fun K hK => ?_) AllReadyH.nil
                  refine step_app2 _ rfl (.tmp 39) (.tmp 45) 38 rfl 3 i0 (.int .i64 0) 1 8 Try.underlying38 hi0 hz0 hz1 hz2 rfl (by omega) lo hi wa.heap.size (wa.heap.size + 1) A' (some ⟨wa.heap.size, 0, none⟩) k1 c' 1 1 (ints ys) (ints [-1]) rfl rfl (by (repeat (first | (with_reducible assumption) | (with_reducible refine Own.alloc ?_ _) | (with_reducible refine Own.drew ?_) | (with_reducible refine Own.set ?_ (by first | (simp; done) | (simp; omega) | omega) _)))) (lit_rd _ #[.int .i64 (-1)] 3 1 _ (by (try simp) <;> (try omega)) rfl (by unfold maxLen; omega)) (ints_one _) (by unfold maxLen; omega) (by omega) (by (try simp) <;> omega) ?_; intro A6 c6 w6 L6 H6 o6 f6 d6; have h6 := HG.out w6 A6 c6 L6 H6 (ys ++ [-1]) (Kept.trans hM (Kept.of_fr (Fr.trans (Fr.of_below (by (repeat (first | (with_reducible assumption) | (with_reducible exact Below.refl _ _) | (with_reducible refine Below.setCell ?_ (by first | (simp; done) | (simp; omega) | omega) _) | (with_reducible refine Below.alloc ?_ (by first | (simp; done) | (simp; omega) | omega) _) | (with_reducible refine Below.drew ?_) | (with_reducible refine Below.drewN ?_ _))) : Below wa.heap.size wa _) lo hi) f6))) (by rw [List.length_append, HK.out, ints_append]; exact o6) (d6.imp id (fun h => ⟨by rw [h.1]; (try simp) <;> omega, Nat.le_of_eq h.2⟩)); simp only [List.length_append, List.length_cons, List.length_nil, HK.out] at h6; obtain ⟨k6, kf6, hq6⟩ := h6; have HQ6 := Lib.hid hq6; clear hq6 d6; have z6 := f6.size; (try simp at z6); replace TQ := Blk.fr (by (repeat (first | (with_reducible assumption) | (with_reducible refine Blk.drew ?_) | (with_reducible refine Blk.other ?_ (by first | (simp; done) | (simp; omega) | omega) _) | (with_reducible refine Blk.alloc ?_ _))) : Blk _ w1.heap.size 24 #[.slice (some ⟨ga, oa, none⟩) 8 c]) f6 hQs; replace TR := Blk.fr (by (repeat (first | (with_reducible assumption) | (with_reducible refine Blk.drew ?_) | (with_reducible refine Blk.other ?_ (by first | (simp; done) | (simp; omega) | omega) _) | (with_reducible refine Blk.alloc ?_ _))) : Blk _ w.heap.size 24 #[.slice none 0 0]) f6 (.inl (by omega)); have hrz := Rdr.fr (g := g) (by (repeat (first | (with_reducible assumption) | (with_reducible refine Rdr.drew ?_) | (with_reducible refine Rdr.set ?_ (by first | (simp; done) | (simp; omega) | omega) _) | (with_reducible refine Rdr.alloc ?_ _))) : Rdr _ g (N + 22 - 2 * 0 + 1 + 1 + 1)) f6 (.inl (by omega)) (by omega); replace hF := Fr.own (by (repeat (first | (with_reducible assumption) | (with_reducible refine Fr.drew ?_) | (with_reducible exact Fr.refl _ _ _) | (with_reducible refine Fr.setOut ?_ (by first | (simp; done) | (simp; omega) | omega) _) | (with_reducible refine Fr.alloc ?_ _))) : Fr g (g + 1) w _) (f6.wide (B' := w.heap.size) (by omega) (Nat.le_refl _)); clear q0 qf hc lQ lR f6; have q0 := TQ.cell 0 rfl; have qf := TQ.free; have lQ := TQ.lt; have lR := TR.lt
                  refine hK.out _ _ ?_ (fun hHeld => ?_)
                  focus (first | exact trivial | ((try dsimp only); (exact Blk.cell (by (repeat (first | (with_reducible assumption) | (with_reducible refine Blk.drew ?_) | (with_reducible refine Blk.other ?_ (by first | (simp; done) | (simp; omega) | omega) _) | (with_reducible refine Blk.alloc ?_ _))) : Blk _ w1.heap.size 24 #[.slice (some ⟨ga, oa, none⟩) 8 c]) 0 rfl))); done
                  clear hK K
                  (try simp only [Act.put, List.setIfInBounds_toArray, List.set_cons_zero, List.set_cons_succ])
                  refine wpAnyH_take (i := 13) (v := ?_) (by rw [List.getElem?_toArray]; rfl) (by kernel_rfl) (by kernel_rfl) (by kernel_rfl) (fun _ _ _ h => h) (Or.inl ⟨by rfl, ?_⟩) (by assumption) ?_
                  rotate_left
                  focus (intro wS hSw; (try dsimp only at hSw); go_simp; (try with_reducible rfl)); done
                  (try simp only [Act.put, List.setIfInBounds_toArray, List.set_cons_zero, List.set_cons_succ])
                  refine wpAnyH_ready (rs := [14]) (by kernel_rfl) (by simp) ?_
                  refine AllReadyH.cons (by rw [List.getElem?_toArray]; rfl) (fun K hK => ?_) AllReadyH.nil
                  go_simp
                  skip
                  refine hK.out _ _ ?_ (fun hHeld => ?_)
                  focus (first | exact trivial | ((try dsimp only); (exact Blk.cell (by (repeat (first | (with_reducible assumption) | (with_reducible refine Blk.drew ?_) | (with_reducible refine Blk.other ?_ (by first | (simp; done) | (simp; omega) | omega) _) | (with_reducible refine Blk.alloc ?_ _))) : Blk _ w1.heap.size 24 #[.slice (some ⟨ga, oa, none⟩) 8 c]) 0 rfl))); done
                  clear hK K
                  (try simp only [Act.put, List.setIfInBounds_toArray, List.set_cons_zero, List.set_cons_succ])
                  refine wpAnyH_done (by kernel_rfl) ?_ _
                  refine NoPanic.normal ?_
                  have TQ7 := TQ.other (p := ⟨ga, oa + 1, none⟩) (by show w1.heap.size ≠ ga; omega) (.slice A6 (k1 + 1) c6)
                  have TR7 := TR.other (p := ⟨ga, oa + 1, none⟩) (by show w.heap.size ≠ ga; omega) (.slice A6 (k1 + 1) c6)
                  clear q0 qf
                  have q0 := TQ7.cell 0 rfl
                  have r0 := TR7.cell 0 rfl
                  have rf := TR7.free
                  have HQ7 := Lib.hid (HQ6.out.setT TR7 (by decide) (by decide) 0 (.slice (some ⟨ga, oa, none⟩) 8 c))
                  have hsn := add_size (zs := [-1]) hy
                  have HSN := Lib.hid hsn
                  clear hy hsn
                  go_wp2
                  refine bodyPost_ret (v := queues (some ⟨ga, oa, none⟩) 8 c) (by simp [results, Try.results41, go_sem, *]) rfl ⟨_, 8, c, yss.set 1 (ys ++ [-1]), rfl, HQ7.out.rows.mono (by omega) (by simp), hle, by rw [HSN.out]; simp; omega, (by (repeat (first | (with_reducible assumption) | (with_reducible refine Rdr.drew ?_) | (with_reducible refine Rdr.set ?_ (by first | (simp; done) | (simp; omega) | omega) _) | (with_reducible refine Rdr.alloc ?_ _))) : Rdr _ g (N + 22 - 2 * 0 + 1 + 1 + 1)).mono (by omega), by (repeat (first | (with_reducible assumption) | (with_reducible refine Fr.drew ?_) | (with_reducible exact Fr.refl _ _ _) | (with_reducible refine Fr.setOut ?_ (by first | (simp; done) | (simp; omega) | omega) _) | (with_reducible refine Fr.alloc ?_ _)))⟩
                · go_simp
                  skip
                  refine hK.out _ _ ?_ (fun hHeld => ?_)
                  focus (first | exact trivial | ((try dsimp only); (exact Blk.cell (by (repeat (first | (with_reducible assumption) | (with_reducible refine Blk.drew ?_) | (with_reducible refine Blk.other ?_ (by first | (simp; done) | (simp; omega) | omega) _) | (with_reducible refine Blk.alloc ?_ _))) : Blk _ w1.heap.size 24 #[.slice (some ⟨ga, oa, none⟩) 8 c]) 0 rfl))); done
                  clear hK K
                  (try simp only [Act.put, List.setIfInBounds_toArray, List.set_cons_zero, List.set_cons_succ])
                  refine wpAnyH_ready (rs := [5, 11]) (by kernel_rfl) (by simp) ?_
                  refine AllReadyH.cons (by rw [List.getElem?_toArray]; rfl) (fun K hK => ?_) (AllReadyH.cons (by rw [List.getElem?_toArray]; rfl) (fun K hK => ?_) AllReadyH.nil)
                  · go_simp
                    skip
                    refine hK.out _ _ ?_ (fun hHeld => ?_)
                    focus (first | exact trivial | ((try dsimp only); (exact Blk.cell (by (repeat (first | (with_reducible assumption) | (with_reducible refine Blk.drew ?_) | (with_reducible refine Blk.other ?_ (by first | (simp; done) | (simp; omega) | omega) _) | (with_reducible refine Blk.alloc ?_ _))) : Blk _ w1.heap.size 24 #[.slice (some ⟨ga, oa, none⟩) 8 c]) 0 rfl))); done
                    clear hK K
                    (try simp only [Act.put, List.setIfInBounds_toArray, List.set_cons_zero, List.set_cons_succ])
                    refine wpAnyH_ready (rs := [11]) (by kernel_rfl) (by simp) ?_
                    refine AllReadyH.cons (by rw [List.getElem?_toArray]; rfl) (fun K hK => ?_) AllReadyH.nil
                    go_simp
                    skip
                    refine hK.out _ _ ?_ (fun hHeld => ?_)
                    focus (first | exact trivial | ((try dsimp only); (exact Blk.cell (by (repeat (first | (with_reducible assumption) | (with_reducible refine Blk.drew ?_) | (with_reducible refine Blk.other ?_ (by first | (simp; done) | (simp; omega) | omega) _) | (with_reducible refine Blk.alloc ?_ _))) : Blk _ w1.heap.size 24 #[.slice (some ⟨ga, oa, none⟩) 8 c]) 0 rfl))); done
                    clear hK K
                    (try simp only [Act.put, List.setIfInBounds_toArray, List.set_cons_zero, List.set_cons_succ])
                    refine wpAnyH_ready (rs := [12]) (by kernel_rfl) (by simp) ?_
                    refine AllReadyH.cons (by rw [List.getElem?_toArray]; rfl) (fun K hK => ?_) AllReadyH.nil
                    refine step_app2 _ rfl (.tmp 39) (.tmp 45) 38 rfl 3 i0 (.int .i64 0) 1 8 Try.underlying38 hi0 hz0 hz1 hz2 rfl (by omega) lo hi wa.heap.size (wa.heap.size + 1) A' (some ⟨wa.heap.size, 0, none⟩) k1 c' 1 1 (ints ys) (ints [-1]) rfl rfl (by (repeat (first | (with_reducible assumption) | (with_reducible refine Own.alloc ?_ _) | (with_reducible refine Own.drew ?_) | (with_reducible refine Own.set ?_ (by first | (simp; done) | (simp; omega) | omega) _)))) (lit_rd _ #[.int .i64 (-1)] 3 1 _ (by (try simp) <;> (try omega)) rfl (by unfold maxLen; omega)) (ints_one _) (by unfold maxLen; omega) (by omega) (by (try simp) <;> omega) ?_; intro A6 c6 w6 L6 H6 o6 f6 d6; have h6 := HG.out w6 A6 c6 L6 H6 (ys ++ [-1]) (Kept.trans hM (Kept.of_fr (Fr.trans (Fr.of_below (by (repeat (first | (with_reducible assumption) | (with_reducible exact Below.refl _ _) | (with_reducible refine Below.setCell ?_ (by first | (simp; done) | (simp; omega) | omega) _) | (with_reducible refine Below.alloc ?_ (by first | (simp; done) | (simp; omega) | omega) _) | (with_reducible refine Below.drew ?_) | (with_reducible refine Below.drewN ?_ _))) : Below wa.heap.size wa _) lo hi) f6))) (by rw [List.length_append, HK.out, ints_append]; exact o6) (d6.imp id (fun h => ⟨by rw [h.1]; (try simp) <;> omega, Nat.le_of_eq h.2⟩)); simp only [List.length_append, List.length_cons, List.length_nil, HK.out] at h6; obtain ⟨k6, kf6, hq6⟩ := h6; have HQ6 := Lib.hid hq6; clear hq6 d6; have z6 := f6.size; (try simp at z6); replace TQ := Blk.fr (by (repeat (first | (with_reducible assumption) | (with_reducible refine Blk.drew ?_) | (with_reducible refine Blk.other ?_ (by first | (simp; done) | (simp; omega) | omega) _) | (with_reducible refine Blk.alloc ?_ _))) : Blk _ w1.heap.size 24 #[.slice (some ⟨ga, oa, none⟩) 8 c]) f6 hQs; replace TR := Blk.fr (by (repeat (first | (with_reducible assumption) | (with_reducible refine Blk.drew ?_) | (with_reducible refine Blk.other ?_ (by first | (simp; done) | (simp; omega) | omega) _) | (with_reducible refine Blk.alloc ?_ _))) : Blk _ w.heap.size 24 #[.slice none 0 0]) f6 (.inl (by omega)); have hrz := Rdr.fr (g := g) (by (repeat (first | (with_reducible assumption) | (with_reducible refine Rdr.drew ?_) | (with_reducible refine Rdr.set ?_ (by first | (simp; done) | (simp; omega) | omega) _) | (with_reducible refine Rdr.alloc ?_ _))) : Rdr _ g (N + 22 - 2 * 0 + 1 + 1 + 1)) f6 (.inl (by omega)) (by omega); replace hF := Fr.own (by (repeat (first | (with_reducible assumption) | (with_reducible refine Fr.drew ?_) | (with_reducible exact Fr.refl _ _ _) | (with_reducible refine Fr.setOut ?_ (by first | (simp; done) | (simp; omega) | omega) _) | (with_reducible refine Fr.alloc ?_ _))) : Fr g (g + 1) w _) (f6.wide (B' := w.heap.size) (by omega) (Nat.le_refl _)); clear q0 qf hc lQ lR f6; have q0 := TQ.cell 0 rfl; have qf := TQ.free; have lQ := TQ.lt; have lR := TR.lt
                    refine hK.out _ _ ?_ (fun hHeld => ?_)
                    focus (first | exact trivial | ((try dsimp only); (exact Blk.cell (by (repeat (first | (with_reducible assumption) | (with_reducible refine Blk.drew ?_) | (with_reducible refine Blk.other ?_ (by first | (simp; done) | (simp; omega) | omega) _) | (with_reducible refine Blk.alloc ?_ _))) : Blk _ w1.heap.size 24 #[.slice (some ⟨ga, oa, none⟩) 8 c]) 0 rfl))); done
                    clear hK K
                    (try simp only [Act.put, List.setIfInBounds_toArray, List.set_cons_zero, List.set_cons_succ])
                    refine wpAnyH_take (i := 13) (v := ?_) (by rw [List.getElem?_toArray]; rfl) (by kernel_rfl) (by kernel_rfl) (by kernel_rfl) (fun _ _ _ h => h) (Or.inl ⟨by rfl, ?_⟩) (by assumption) ?_
                    rotate_left
                    focus (intro wS hSw; (try dsimp only at hSw); go_simp; (try with_reducible rfl)); done
                    (try simp only [Act.put, List.setIfInBounds_toArray, List.set_cons_zero, List.set_cons_succ])
                    refine wpAnyH_ready (rs := [14]) (by kernel_rfl) (by simp) ?_
                    refine AllReadyH.cons (by rw [List.getElem?_toArray]; rfl) (fun K hK => ?_) AllReadyH.nil
                    go_simp
                    skip
                    refine hK.out _ _ ?_ (fun hHeld => ?_)
                    focus (first | exact trivial | ((try dsimp only); (exact Blk.cell (by (repeat (first | (with_reducible assumption) | (with_reducible refine Blk.drew ?_) | (with_reducible refine Blk.other ?_ (by first | (simp; done) | (simp; omega) | omega) _) | (with_reducible refine Blk.alloc ?_ _))) : Blk _ w1.heap.size 24 #[.slice (some ⟨ga, oa, none⟩) 8 c]) 0 rfl))); done
                    clear hK K
                    (try simp only [Act.put, List.setIfInBounds_toArray, List.set_cons_zero, List.set_cons_succ])
                    refine wpAnyH_done (by kernel_rfl) ?_ _
                    refine NoPanic.normal ?_
                    have TQ7 := TQ.other (p := ⟨ga, oa + 1, none⟩) (by show w1.heap.size ≠ ga; omega) (.slice A6 (k1 + 1) c6)
                    have TR7 := TR.other (p := ⟨ga, oa + 1, none⟩) (by show w.heap.size ≠ ga; omega) (.slice A6 (k1 + 1) c6)
                    clear q0 qf
                    have q0 := TQ7.cell 0 rfl
                    have r0 := TR7.cell 0 rfl
                    have rf := TR7.free
                    have HQ7 := Lib.hid (HQ6.out.setT TR7 (by decide) (by decide) 0 (.slice (some ⟨ga, oa, none⟩) 8 c))
                    have hsn := add_size (zs := [-1]) hy
                    have HSN := Lib.hid hsn
                    clear hy hsn
                    go_wp2
                    refine bodyPost_ret (v := queues (some ⟨ga, oa, none⟩) 8 c) (by simp [results, Try.results41, go_sem, *]) rfl ⟨_, 8, c, yss.set 1 (ys ++ [-1]), rfl, HQ7.out.rows.mono (by omega) (by simp), hle, by rw [HSN.out]; simp; omega, (by (repeat (first | (with_reducible assumption) | (with_reducible refine Rdr.drew ?_) | (with_reducible refine Rdr.set ?_ (by first | (simp; done) | (simp; omega) | omega) _) | (with_reducible refine Rdr.alloc ?_ _))) : Rdr _ g (N + 22 - 2 * 0 + 1 + 1 + 1)).mono (by omega), by (repeat (first | (with_reducible assumption) | (with_reducible refine Fr.drew ?_) | (with_reducible exact Fr.refl _ _ _) | (with_reducible refine Fr.setOut ?_ (by first | (simp; done) | (simp; omega) | omega) _) | (with_reducible refine Fr.alloc ?_ _)))⟩
                  · go_simp
                    skip
                    refine hK.out _ _ ?_ (fun hHeld => ?_)
                    focus (first | exact trivial | ((try dsimp only); (exact Blk.cell (by (repeat (first | (with_reducible assumption) | (with_reducible refine Blk.drew ?_) | (with_reducible refine Blk.other ?_ (by first | (simp; done) | (simp; omega) | omega) _) | (with_reducible refine Blk.alloc ?_ _))) : Blk _ w1.heap.size 24 #[.slice (some ⟨ga, oa, none⟩) 8 c]) 0 rfl))); done
                    clear hK K
                    (try simp only [Act.put, List.setIfInBounds_toArray, List.set_cons_zero, List.set_cons_succ])
                    refine wpAnyH_ready (rs := [5]) (by kernel_rfl) (by simp) ?_
                    refine AllReadyH.cons (by rw [List.getElem?_toArray]; rfl) (fun K hK => ?_) AllReadyH.nil
                    go_simp
                    skip
                    refine hK.out _ _ ?_ (fun hHeld => ?_)
                    focus (first | exact trivial | ((try dsimp only); (exact Blk.cell (by (repeat (first | (with_reducible assumption) | (with_reducible refine Blk.drew ?_) | (with_reducible refine Blk.other ?_ (by first | (simp; done) | (simp; omega) | omega) _) | (with_reducible refine Blk.alloc ?_ _))) : Blk _ w1.heap.size 24 #[.slice (some ⟨ga, oa, none⟩) 8 c]) 0 rfl))); done
                    clear hK K
                    (try simp only [Act.put, List.setIfInBounds_toArray, List.set_cons_zero, List.set_cons_succ])
                    refine wpAnyH_ready (rs := [12]) (by kernel_rfl) (by simp) ?_
                    refine AllReadyH.cons (by rw [List.getElem?_toArray]; rfl) (fun K hK => ?_) AllReadyH.nil
                    refine step_app2 _ rfl (.tmp 39) (.tmp 45) 38 rfl 3 i0 (.int .i64 0) 1 8 Try.underlying38 hi0 hz0 hz1 hz2 rfl (by omega) lo hi wa.heap.size (wa.heap.size + 1) A' (some ⟨wa.heap.size, 0, none⟩) k1 c' 1 1 (ints ys) (ints [-1]) rfl rfl (by (repeat (first | (with_reducible assumption) | (with_reducible refine Own.alloc ?_ _) | (with_reducible refine Own.drew ?_) | (with_reducible refine Own.set ?_ (by first | (simp; done) | (simp; omega) | omega) _)))) (lit_rd _ #[.int .i64 (-1)] 3 1 _ (by (try simp) <;> (try omega)) rfl (by unfold maxLen; omega)) (ints_one _) (by unfold maxLen; omega) (by omega) (by (try simp) <;> omega) ?_; intro A6 c6 w6 L6 H6 o6 f6 d6; have h6 := HG.out w6 A6 c6 L6 H6 (ys ++ [-1]) (Kept.trans hM (Kept.of_fr (Fr.trans (Fr.of_below (by (repeat (first | (with_reducible assumption) | (with_reducible exact Below.refl _ _) | (with_reducible refine Below.setCell ?_ (by first | (simp; done) | (simp; omega) | omega) _) | (with_reducible refine Below.alloc ?_ (by first | (simp; done) | (simp; omega) | omega) _) | (with_reducible refine Below.drew ?_) | (with_reducible refine Below.drewN ?_ _))) : Below wa.heap.size wa _) lo hi) f6))) (by rw [List.length_append, HK.out, ints_append]; exact o6) (d6.imp id (fun h => ⟨by rw [h.1]; (try simp) <;> omega, Nat.le_of_eq h.2⟩)); simp only [List.length_append, List.length_cons, List.length_nil, HK.out] at h6; obtain ⟨k6, kf6, hq6⟩ := h6; have HQ6 := Lib.hid hq6; clear hq6 d6; have z6 := f6.size; (try simp at z6); replace TQ := Blk.fr (by (repeat (first | (with_reducible assumption) | (with_reducible refine Blk.drew ?_) | (with_reducible refine Blk.other ?_ (by first | (simp; done) | (simp; omega) | omega) _) | (with_reducible refine Blk.alloc ?_ _))) : Blk _ w1.heap.size 24 #[.slice (some ⟨ga, oa, none⟩) 8 c]) f6 hQs; replace TR := Blk.fr (by (repeat (first | (with_reducible assumption) | (with_reducible refine Blk.drew ?_) | (with_reducible refine Blk.other ?_ (by first | (simp; done) | (simp; omega) | omega) _) | (with_reducible refine Blk.alloc ?_ _))) : Blk _ w.heap.size 24 #[.slice none 0 0]) f6 (.inl (by omega)); have hrz := Rdr.fr (g := g) (by (repeat (first | (with_reducible assumption) | (with_reducible refine Rdr.drew ?_) | (with_reducible refine Rdr.set ?_ (by first | (simp; done) | (simp; omega) | omega) _) | (with_reducible refine Rdr.alloc ?_ _))) : Rdr _ g (N + 22 - 2 * 0 + 1 + 1 + 1)) f6 (.inl (by omega)) (by omega); replace hF := Fr.own (by (repeat (first | (with_reducible assumption) | (with_reducible refine Fr.drew ?_) | (with_reducible exact Fr.refl _ _ _) | (with_reducible refine Fr.setOut ?_ (by first | (simp; done) | (simp; omega) | omega) _) | (with_reducible refine Fr.alloc ?_ _))) : Fr g (g + 1) w _) (f6.wide (B' := w.heap.size) (by omega) (Nat.le_refl _)); clear q0 qf hc lQ lR f6; have q0 := TQ.cell 0 rfl; have qf := TQ.free; have lQ := TQ.lt; have lR := TR.lt
                    refine hK.out _ _ ?_ (fun hHeld => ?_)
                    focus (first | exact trivial | ((try dsimp only); (exact Blk.cell (by (repeat (first | (with_reducible assumption) | (with_reducible refine Blk.drew ?_) | (with_reducible refine Blk.other ?_ (by first | (simp; done) | (simp; omega) | omega) _) | (with_reducible refine Blk.alloc ?_ _))) : Blk _ w1.heap.size 24 #[.slice (some ⟨ga, oa, none⟩) 8 c]) 0 rfl))); done
                    clear hK K
                    (try simp only [Act.put, List.setIfInBounds_toArray, List.set_cons_zero, List.set_cons_succ])
                    refine wpAnyH_take (i := 13) (v := ?_) (by rw [List.getElem?_toArray]; rfl) (by kernel_rfl) (by kernel_rfl) (by kernel_rfl) (fun _ _ _ h => h) (Or.inl ⟨by rfl, ?_⟩) (by assumption) ?_
                    rotate_left
                    focus (intro wS hSw; (try dsimp only at hSw); go_simp; (try with_reducible rfl)); done
                    (try simp only [Act.put, List.setIfInBounds_toArray, List.set_cons_zero, List.set_cons_succ])
                    refine wpAnyH_ready (rs := [14]) (by kernel_rfl) (by simp) ?_
                    refine AllReadyH.cons (by rw [List.getElem?_toArray]; rfl) (fun K hK => ?_) AllReadyH.nil
                    go_simp
                    skip
                    refine hK.out _ _ ?_ (fun hHeld => ?_)
                    focus (first | exact trivial | ((try dsimp only); (exact Blk.cell (by (repeat (first | (with_reducible assumption) | (with_reducible refine Blk.drew ?_) | (with_reducible refine Blk.other ?_ (by first | (simp; done) | (simp; omega) | omega) _) | (with_reducible refine Blk.alloc ?_ _))) : Blk _ w1.heap.size 24 #[.slice (some ⟨ga, oa, none⟩) 8 c]) 0 rfl))); done
                    clear hK K
                    (try simp only [Act.put, List.setIfInBounds_toArray, List.set_cons_zero, List.set_cons_succ])
                    refine wpAnyH_done (by kernel_rfl) ?_ _
                    refine NoPanic.normal ?_
                    have TQ7 := TQ.other (p := ⟨ga, oa + 1, none⟩) (by show w1.heap.size ≠ ga; omega) (.slice A6 (k1 + 1) c6)
                    have TR7 := TR.other (p := ⟨ga, oa + 1, none⟩) (by show w.heap.size ≠ ga; omega) (.slice A6 (k1 + 1) c6)
                    clear q0 qf
                    have q0 := TQ7.cell 0 rfl
                    have r0 := TR7.cell 0 rfl
                    have rf := TR7.free
                    have HQ7 := Lib.hid (HQ6.out.setT TR7 (by decide) (by decide) 0 (.slice (some ⟨ga, oa, none⟩) 8 c))
                    have hsn := add_size (zs := [-1]) hy
                    have HSN := Lib.hid hsn
                    clear hy hsn
                    go_wp2
                    refine bodyPost_ret (v := queues (some ⟨ga, oa, none⟩) 8 c) (by simp [results, Try.results41, go_sem, *]) rfl ⟨_, 8, c, yss.set 1 (ys ++ [-1]), rfl, HQ7.out.rows.mono (by omega) (by simp), hle, by rw [HSN.out]; simp; omega, (by (repeat (first | (with_reducible assumption) | (with_reducible refine Rdr.drew ?_) | (with_reducible refine Rdr.set ?_ (by first | (simp; done) | (simp; omega) | omega) _) | (with_reducible refine Rdr.alloc ?_ _))) : Rdr _ g (N + 22 - 2 * 0 + 1 + 1 + 1)).mono (by omega), by (repeat (first | (with_reducible assumption) | (with_reducible refine Fr.drew ?_) | (with_reducible exact Fr.refl _ _ _) | (with_reducible refine Fr.setOut ?_ (by first | (simp; done) | (simp; omega) | omega) _) | (with_reducible refine Fr.alloc ?_ _)))⟩
              · skip
                refine wpAnyH_take (i := 9) (v := ?_) (by rw [List.getElem?_toArray]; rfl) (by kernel_rfl) (by kernel_rfl) (by kernel_rfl) (fun _ _ _ h => h) (Or.inl ⟨by rfl, ?_⟩) (by assumption) ?_
                rotate_left
                focus (intro wS hSw; (try dsimp only at hSw); go_simp; (try with_reducible rfl)); done
                (try simp only [Act.put, List.setIfInBounds_toArray, List.set_cons_zero, List.set_cons_succ])
                refine wpAnyH_ready (rs := [5, 10]) (by kernel_rfl) (by simp) ?_
                refine AllReadyH.cons (by rw [List.getElem?_toArray]; rfl) (fun K hK => ?_) (AllReadyH.cons (by rw [List.getElem?_toArray]; rfl) (fun K hK => ?_) AllReadyH.nil)
                · go_simp
                  skip
                  refine hK.out _ _ ?_ (fun hHeld => ?_)
                  focus (first | exact trivial | ((try dsimp only); (exact Blk.cell (by (repeat (first | (with_reducible assumption) | (with_reducible refine Blk.drew ?_) | (with_reducible refine Blk.other ?_ (by first | (simp; done) | (simp; omega) | omega) _) | (with_reducible refine Blk.alloc ?_ _))) : Blk _ w1.heap.size 24 #[.slice (some ⟨ga, oa, none⟩) 8 c]) 0 rfl))); done
                  clear hK K
                  (try simp only [Act.put, List.setIfInBounds_toArray, List.set_cons_zero, List.set_cons_succ])
                  refine wpAnyH_ready (rs := [10]) (by kernel_rfl) (by simp) ?_
                  refine AllReadyH.cons (by rw [List.getElem?_toArray]; rfl) (fun K hK => ?_) AllReadyH.nil
                  go_simp
                  skip
                  refine hK.out _ _ ?_ (fun hHeld => ?_)
                  focus (first | exact trivial | ((try dsimp only); (exact Blk.cell (by (repeat (first | (with_reducible assumption) | (with_reducible refine Blk.drew ?_) | (with_reducible refine Blk.other ?_ (by first | (simp; done) | (simp; omega) | omega) _) | (with_reducible refine Blk.alloc ?_ _))) : Blk _ w1.heap.size 24 #[.slice (some ⟨ga, oa, none⟩) 8 c]) 0 rfl))); done
                  clear hK K
                  (try simp only [Act.put, List.setIfInBounds_toArray, List.set_cons_zero, List.set_cons_succ])
                  refine wpAnyH_ready (rs := [11]) (by kernel_rfl) (by simp) ?_
                  refine AllReadyH.cons (by rw [List.getElem?_toArray]; rfl) (fun K hK => ?_) AllReadyH.nil
                  go_simp
                  skip
                  refine hK.out _ _ ?_ (fun hHeld => ?_)
                  focus (first | exact trivial | ((try dsimp only); (exact Blk.cell (by (repeat (first | (with_reducible assumption) | (with_reducible refine Blk.drew ?_) | (with_reducible refine Blk.other ?_ (by first | (simp; done) | (simp; omega) | omega) _) | (with_reducible refine Blk.alloc ?_ _))) : Blk _ w1.heap.size 24 #[.slice (some ⟨ga, oa, none⟩) 8 c]) 0 rfl))); done
                  clear hK K
                  (try simp only [Act.put, List.setIfInBounds_toArray, List.set_cons_zero, List.set_cons_succ])
                  refine wpAnyH_ready (rs := [12]) (by kernel_rfl) (by simp) ?_
                  refine AllReadyH.cons (by rw [List.getElem?_toArray]; rfl) (fun K hK => ?_) AllReadyH.nil
                  refine step_app2 _ rfl (.tmp 39) (.tmp 45) 38 rfl 3 i0 (.int .i64 0) 1 8 Try.underlying38 hi0 hz0 hz1 hz2 rfl (by omega) lo hi wa.heap.size (wa.heap.size + 1) A' (some ⟨wa.heap.size, 0, none⟩) k1 c' 1 1 (ints ys) (ints [16]) rfl rfl (by (repeat (first | (with_reducible assumption) | (with_reducible refine Own.alloc ?_ _) | (with_reducible refine Own.drew ?_) | (with_reducible refine Own.set ?_ (by first | (simp; done) | (simp; omega) | omega) _)))) (lit_rd _ #[.int .i64 (16)] 3 1 _ (by (try simp) <;> (try omega)) rfl (by unfold maxLen; omega)) (ints_one _) (by unfold maxLen; omega) (by omega) (by (try simp) <;> omega) ?_; intro A6 c6 w6 L6 H6 o6 f6 d6; have h6 := HG.out w6 A6 c6 L6 H6 (ys ++ [16]) (Kept.trans hM (Kept.of_fr (Fr.trans (Fr.of_below (by (repeat (first | (with_reducible assumption) | (with_reducible exact Below.refl _ _) | (with_reducible refine Below.setCell ?_ (by first | (simp; done) | (simp; omega) | omega) _) | (with_reducible refine Below.alloc ?_ (by first | (simp; done) | (simp; omega) | omega) _) | (with_reducible refine Below.drew ?_) | (with_reducible refine Below.drewN ?_ _))) : Below wa.heap.size wa _) lo hi) f6))) (by rw [List.length_append, HK.out, ints_append]; exact o6) (d6.imp id (fun h => ⟨by rw [h.1]; (try simp) <;> omega, Nat.le_of_eq h.2⟩)); simp only [List.length_append, List.length_cons, List.length_nil, HK.out] at h6; obtain ⟨k6, kf6, hq6⟩ := h6; have HQ6 := Lib.hid hq6; clear hq6 d6; have z6 := f6.size; (try simp at z6); replace TQ := Blk.fr (by (repeat (first | (with_reducible assumption) | (with_reducible refine Blk.drew ?_) | (with_reducible refine Blk.other ?_ (by first | (simp; done) | (simp; omega) | omega) _) | (with_reducible refine Blk.alloc ?_ _))) : Blk _ w1.heap.size 24 #[.slice (some ⟨ga, oa, none⟩) 8 c]) f6 hQs; replace TR := Blk.fr (by (repeat (first | (with_reducible assumption) | (with_reducible refine Blk.drew ?_) | (with_reducible refine Blk.other ?_ (by first | (simp; done) | (simp; omega) | omega) _) | (with_reducible refine Blk.alloc ?_ _))) : Blk _ w.heap.size 24 #[.slice none 0 0]) f6 (.inl (by omega)); have hrz := Rdr.fr (g := g) (by (repeat (first | (with_reducible assumption) | (with_reducible refine Rdr.drew ?_) | (with_reducible refine Rdr.set ?_ (by first | (simp; done) | (simp; omega) | omega) _) | (with_reducible refine Rdr.alloc ?_ _))) : Rdr _ g (N + 22 - 2 * 0 + 1 + 1 + 1)) f6 (.inl (by omega)) (by omega); replace hF := Fr.own (by (repeat (first | (with_reducible assumption) | (with_reducible refine Fr.drew ?_) | (with_reducible exact Fr.refl _ _ _) | (with_reducible refine Fr.setOut ?_ (by first | (simp; done) | (simp; omega) | omega) _) | (with_reducible refine Fr.alloc ?_ _))) : Fr g (g + 1) w _) (f6.wide (B' := w.heap.size) (by omega) (Nat.le_refl _)); clear q0 qf hc lQ lR f6; have q0 := TQ.cell 0 rfl; have qf := TQ.free; have lQ := TQ.lt; have lR := TR.lt
                  refine hK.out _ _ ?_ (fun hHeld => ?_)
                  focus (first | exact trivial | ((try dsimp only); (exact Blk.cell (by (repeat (first | (with_reducible assumption) | (with_reducible refine Blk.drew ?_) | (with_reducible refine Blk.other ?_ (by first | (simp; done) | (simp; omega) | omega) _) | (with_reducible refine Blk.alloc ?_ _))) : Blk _ w1.heap.size 24 #[.slice (some ⟨ga, oa, none⟩) 8 c]) 0 rfl))); done
                  clear hK K
                  (try simp only [Act.put, List.setIfInBounds_toArray, List.set_cons_zero, List.set_cons_succ])
                  refine wpAnyH_take (i := 13) (v := ?_) (by rw [List.getElem?_toArray]; rfl) (by kernel_rfl) (by kernel_rfl) (by kernel_rfl) (fun _ _ _ h => h) (Or.inl ⟨by rfl, ?_⟩) (by assumption) ?_
                  rotate_left
                  focus (intro wS hSw; (try dsimp only at hSw); go_simp; (try with_reducible rfl)); done
                  (try simp only [Act.put, List.setIfInBounds_toArray, List.set_cons_zero, List.set_cons_succ])
                  refine wpAnyH_ready (rs := [14]) (by kernel_rfl) (by simp) ?_
                  refine AllReadyH.cons (by rw [List.getElem?_toArray]; rfl) (fun K hK => ?_) AllReadyH.nil
                  go_simp
                  skip
                  refine hK.out _ _ ?_ (fun hHeld => ?_)
                  focus (first | exact trivial | ((try dsimp only); (exact Blk.cell (by (repeat (first | (with_reducible assumption) | (with_reducible refine Blk.drew ?_) | (with_reducible refine Blk.other ?_ (by first | (simp; done) | (simp; omega) | omega) _) | (with_reducible refine Blk.alloc ?_ _))) : Blk _ w1.heap.size 24 #[.slice (some ⟨ga, oa, none⟩) 8 c]) 0 rfl))); done
                  clear hK K
                  (try simp only [Act.put, List.setIfInBounds_toArray, List.set_cons_zero, List.set_cons_succ])
                  refine wpAnyH_done (by kernel_rfl) ?_ _
                  refine NoPanic.normal ?_
                  have TQ7 := TQ.other (p := ⟨ga, oa + 1, none⟩) (by show w1.heap.size ≠ ga; omega) (.slice A6 (k1 + 1) c6)
                  have TR7 := TR.other (p := ⟨ga, oa + 1, none⟩) (by show w.heap.size ≠ ga; omega) (.slice A6 (k1 + 1) c6)
                  clear q0 qf
                  have q0 := TQ7.cell 0 rfl
                  have r0 := TR7.cell 0 rfl
                  have rf := TR7.free
                  have HQ7 := Lib.hid (HQ6.out.setT TR7 (by decide) (by decide) 0 (.slice (some ⟨ga, oa, none⟩) 8 c))
                  have hsn := add_size (zs := [16]) hy
                  have HSN := Lib.hid hsn
                  clear hy hsn
                  go_wp2
                  refine bodyPost_ret (v := queues (some ⟨ga, oa, none⟩) 8 c) (by simp [results, Try.results41, go_sem, *]) rfl ⟨_, 8, c, yss.set 1 (ys ++ [16]), rfl, HQ7.out.rows.mono (by omega) (by simp), hle, by rw [HSN.out]; simp; omega, (by (repeat (first | (with_reducible assumption) | (with_reducible refine Rdr.drew ?_) | (with_reducible refine Rdr.set ?_ (by first | (simp; done) | (simp; omega) | omega) _) | (with_reducible refine Rdr.alloc ?_ _))) : Rdr _ g (N + 22 - 2 * 0 + 1 + 1 + 1)).mono (by omega), by (repeat (first | (with_reducible assumption) | (with_reducible refine Fr.drew ?_) | (with_reducible exact Fr.refl _ _ _) | (with_reducible refine Fr.setOut ?_ (by first | (simp; done) | (simp; omega) | omega) _) | (with_reducible refine Fr.alloc ?_ _)))⟩
                · go_simp
                  skip
                  refine hK.out _ _ ?_ (fun hHeld => ?_)
                  focus (first | exact trivial | ((try dsimp only); (exact Blk.cell (by (repeat (first | (with_reducible assumption) | (with_reducible refine Blk.drew ?_) | (with_reducible refine Blk.other ?_ (by first | (simp; done) | (simp; omega) | omega) _) | (with_reducible refine Blk.alloc ?_ _))) : Blk _ w1.heap.size 24 #[.slice (some ⟨ga, oa, none⟩) 8 c]) 0 rfl))); done
                  clear hK K
                  (try simp only [Act.put, List.setIfInBounds_toArray, List.set_cons_zero, List.set_cons_succ])
                  refine wpAnyH_ready (rs := [5, 11]) (by kernel_rfl) (by simp) ?_
                  refine AllReadyH.cons (by rw [List.getElem?_toArray]; rfl) (fun K hK => ?_) (AllReadyH.cons (by rw [List.getElem?_toArray]; rfl) (fun K hK => ?_) AllReadyH.nil)
                  · go_simp
                    skip
                    refine hK.out _ _ ?_ (fun hHeld => ?_)
                    focus (first | exact trivial | ((try dsimp only); (exact Blk.cell (by (repeat (first | (with_reducible assumption) | (with_reducible refine Blk.drew ?_) | (with_reducible refine Blk.other ?_ (by first | (simp; done) | (simp; omega) | omega) _) | (with_reducible refine Blk.alloc ?_ _))) : Blk _ w1.heap.size 24 #[.slice (some ⟨ga, oa, none⟩) 8 c]) 0 rfl))); done
                    clear hK K
                    (try simp only [Act.put, List.setIfInBounds_toArray, List.set_cons_zero, List.set_cons_succ])
                    refine wpAnyH_ready (rs := [11]) (by kernel_rfl) (by simp) ?_
                    refine AllReadyH.cons (by rw [List.getElem?_toArray]; rfl) (fun K hK => ?_) AllReadyH.nil
                    go_simp
                    skip
                    refine hK.out _ _ ?_ (fun hHeld => ?_)
                    focus (first | exact trivial | ((try dsimp only); (exact Blk.cell (by (repeat (first | (with_reducible assumption) | (with_reducible refine Blk.drew ?_) | (with_reducible refine Blk.other ?_ (by first | (simp; done) | (simp; omega) | omega) _) | (with_reducible refine Blk.alloc ?_ _))) : Blk _ w1.heap.size 24 #[.slice (some ⟨ga, oa, none⟩) 8 c]) 0 rfl))); done
                    clear hK K
                    (try simp only [Act.put, List.setIfInBounds_toArray, List.set_cons_zero, List.set_cons_succ])
                    refine wpAnyH_ready (rs := [12]) (by kernel_rfl) (by simp) ?_
                    refine AllReadyH.cons (by rw [List.getElem?_toArray]; rfl) (fun K hK => ?_) AllReadyH.nil
                    refine step_app2 _ rfl (.tmp 39) (.tmp 45) 38 rfl 3 i0 (.int .i64 0) 1 8 Try.underlying38 hi0 hz0 hz1 hz2 rfl (by omega) lo hi wa.heap.size (wa.heap.size + 1) A' (some ⟨wa.heap.size, 0, none⟩) k1 c' 1 1 (ints ys) (ints [16]) rfl rfl (by (repeat (first | (with_reducible assumption) | (with_reducible refine Own.alloc ?_ _) | (with_reducible refine Own.drew ?_) | (with_reducible refine Own.set ?_ (by first | (simp; done) | (simp; omega) | omega) _)))) (lit_rd _ #[.int .i64 (16)] 3 1 _ (by (try simp) <;> (try omega)) rfl (by unfold maxLen; omega)) (ints_one _) (by unfold maxLen; omega) (by omega) (by (try simp) <;> omega) ?_; intro A6 c6 w6 L6 H6 o6 f6 d6; have h6 := HG.out w6 A6 c6 L6 H6 (ys ++ [16]) (Kept.trans hM (Kept.of_fr (Fr.trans (Fr.of_below (by (repeat (first | (with_reducible assumption) | (with_reducible exact Below.refl _ _) | (with_reducible refine Below.setCell ?_ (by first | (simp; done) | (simp; omega) | omega) _) | (with_reducible refine Below.alloc ?_ (by first | (simp; done) | (simp; omega) | omega) _) | (with_reducible refine Below.drew ?_) | (with_reducible refine Below.drewN ?_ _))) : Below wa.heap.size wa _) lo hi) f6))) (by rw [List.length_append, HK.out, ints_append]; exact o6) (d6.imp id (fun h => ⟨by rw [h.1]; (try simp) <;> omega, Nat.le_of_eq h.2⟩)); simp only [List.length_append, List.length_cons, List.length_nil, HK.out] at h6; obtain ⟨k6, kf6, hq6⟩ := h6; have HQ6 := Lib.hid hq6; clear hq6 d6; have z6 := f6.size; (try simp at z6); replace TQ := Blk.fr (by (repeat (first | (with_reducible assumption) | (with_reducible refine Blk.drew ?_) | (with_reducible refine Blk.other ?_ (by first | (simp; done) | (simp; omega) | omega) _) | (with_reducible refine Blk.alloc ?_ _))) : Blk _ w1.heap.size 24 #[.slice (some ⟨ga, oa, none⟩) 8 c]) f6 hQs; replace TR := Blk.fr (by (repeat (first | (with_reducible assumption) | (with_reducible refine Blk.drew ?_) | (with_reducible refine Blk.other ?_ (by first | (simp; done) | (simp; omega) | omega) _) | (with_reducible refine Blk.alloc ?_ _))) : Blk _ w.heap.size 24 #[.slice none 0 0]) f6 (.inl (by omega)); have hrz := Rdr.fr (g := g) (by (repeat (first | (with_reducible assumption) | (with_reducible refine Rdr.drew ?_) | (with_reducible refine Rdr.set ?_ (by first | (simp; done) | (simp; omega) | omega) _) | (with_reducible refine Rdr.alloc ?_ _))) : Rdr _ g (N + 22 - 2 * 0 + 1 + 1 + 1)) f6 (.inl (by omega)) (by omega); replace hF := Fr.own (by (repeat (first | (with_reducible assumption) | (with_reducible refine Fr.drew ?_) | (with_reducible exact Fr.refl _ _ _) | (with_reducible refine Fr.setOut ?_ (by first | (simp; done) | (simp; omega) | omega) _) | (with_reducible refine Fr.alloc ?_ _))) : Fr g (g + 1) w _) (f6.wide (B' := w.heap.size) (by omega) (Nat.le_refl _)); clear q0 qf hc lQ lR f6; have q0 := TQ.cell 0 rfl; have qf := TQ.free; have lQ := TQ.lt; have lR := TR.lt
                    refine hK.out _ _ ?_ (fun hHeld => ?_)
                    focus (first | exact trivial | ((try dsimp only); (exact Blk.cell (by (repeat (first | (with_reducible assumption) | (with_reducible refine Blk.drew ?_) | (with_reducible refine Blk.other ?_ (by first | (simp; done) | (simp; omega) | omega) _) | (with_reducible refine Blk.alloc ?_ _))) : Blk _ w1.heap.size 24 #[.slice (some ⟨ga, oa, none⟩) 8 c]) 0 rfl))); done
                    clear hK K
                    (try simp only [Act.put, List.setIfInBounds_toArray, List.set_cons_zero, List.set_cons_succ])
                    refine wpAnyH_take (i := 13) (v := ?_) (by rw [List.getElem?_toArray]; rfl) (by kernel_rfl) (by kernel_rfl) (by kernel_rfl) (fun _ _ _ h => h) (Or.inl ⟨by rfl, ?_⟩) (by assumption) ?_
                    rotate_left
                    focus (intro wS hSw; (try dsimp only at hSw); go_simp; (try with_reducible rfl)); done
                    (try simp only [Act.put, List.setIfInBounds_toArray, List.set_cons_zero, List.set_cons_succ])
                    refine wpAnyH_ready (rs := [14]) (by kernel_rfl) (by simp) ?_
                    refine AllReadyH.cons (by rw [List.getElem?_toArray]; rfl) (fun K hK => ?_) AllReadyH.nil
                    go_simp
                    skip
                    refine hK.out _ _ ?_ (fun hHeld => ?_)
                    focus (first | exact trivial | ((try dsimp only); (exact Blk.cell (by (repeat (first | (with_reducible assumption) | (with_reducible refine Blk.drew ?_) | (with_reducible refine Blk.other ?_ (by first | (simp; done) | (simp; omega) | omega) _) | (with_reducible refine Blk.alloc ?_ _))) : Blk _ w1.heap.size 24 #[.slice (some ⟨ga, oa, none⟩) 8 c]) 0 rfl))); done
                    clear hK K
                    (try simp only [Act.put, List.setIfInBounds_toArray, List.set_cons_zero, List.set_cons_succ])
                    refine wpAnyH_done (by kernel_rfl) ?_ _
                    refine NoPanic.normal ?_
                    have TQ7 := TQ.other (p := ⟨ga, oa + 1, none⟩) (by show w1.heap.size ≠ ga; omega) (.slice A6 (k1 + 1) c6)
                    have TR7 := TR.other (p := ⟨ga, oa + 1, none⟩) (by show w.heap.size ≠ ga; omega) (.slice A6 (k1 + 1) c6)
                    clear q0 qf
                    have q0 := TQ7.cell 0 rfl
                    have r0 := TR7.cell 0 rfl
                    have rf := TR7.free
                    have HQ7 := Lib.hid (HQ6.out.setT TR7 (by decide) (by decide) 0 (.slice (some ⟨ga, oa, none⟩) 8 c))
                    have hsn := add_size (zs := [16]) hy
                    have HSN := Lib.hid hsn
                    clear hy hsn
                    go_wp2
                    refine bodyPost_ret (v := queues (some ⟨ga, oa, none⟩) 8 c) (by simp [results, Try.results41, go_sem, *]) rfl ⟨_, 8, c, yss.set 1 (ys ++ [16]), rfl, HQ7.out.rows.mono (by omega) (by simp), hle, by rw [HSN.out]; simp; omega, (by (repeat (first | (with_reducible assumption) | (with_reducible refine Rdr.drew ?_) | (with_reducible refine Rdr.set ?_ (by first | (simp; done) | (simp; omega) | omega) _) | (with_reducible refine Rdr.alloc ?_ _))) : Rdr _ g (N + 22 - 2 * 0 + 1 + 1 + 1)).mono (by omega), by (repeat (first | (with_reducible assumption) | (with_reducible refine Fr.drew ?_) | (with_reducible exact Fr.refl _ _ _) | (with_reducible refine Fr.setOut ?_ (by first | (simp; done) | (simp; omega) | omega) _) | (with_reducible refine Fr.alloc ?_ _)))⟩
                  · go_simp
                    skip
                    refine hK.out _ _ ?_ (fun hHeld => ?_)
                    focus (first | exact trivial | ((try dsimp only); (exact Blk.cell (by (repeat (first | (with_reducible assumption) | (with_reducible refine Blk.drew ?_) | (with_reducible refine Blk.other ?_ (by first | (simp; done) | (simp; omega) | omega) _) | (with_reducible refine Blk.alloc ?_ _))) : Blk _ w1.heap.size 24 #[.slice (some ⟨ga, oa, none⟩) 8 c]) 0 rfl))); done
                    clear hK K
                    (try simp only [Act.put, List.setIfInBounds_toArray, List.set_cons_zero, List.set_cons_succ])
                    refine wpAnyH_ready (rs := [5]) (by kernel_rfl) (by simp) ?_
                    refine AllReadyH.cons (by rw [List.getElem?_toArray]; rfl) (fun K hK => ?_) AllReadyH.nil
                    go_simp
                    skip
                    refine hK.out _ _ ?_ (fun hHeld => ?_)
                    focus (first | exact trivial | ((try dsimp only); (exact Blk.cell (by (repeat (first | (with_reducible assumption) | (with_reducible refine Blk.drew ?_) | (with_reducible refine Blk.other ?_ (by first | (simp; done) | (simp; omega) | omega) _) | (with_reducible refine Blk.alloc ?_ _))) : Blk _ w1.heap.size 24 #[.slice (some ⟨ga, oa, none⟩) 8 c]) 0 rfl))); done
                    clear hK K
                    (try simp only [Act.put, List.setIfInBounds_toArray, List.set_cons_zero, List.set_cons_succ])
                    refine wpAnyH_ready (rs := [12]) (by kernel_rfl) (by simp) ?_
                    refine AllReadyH.cons (by rw [List.getElem?_toArray]; rfl) (fun K hK => ?_) AllReadyH.nil
                    refine step_app2 _ rfl (.tmp 39) (.tmp 45) 38 rfl 3 i0 (.int .i64 0) 1 8 Try.underlying38 hi0 hz0 hz1 hz2 rfl (by omega) lo hi wa.heap.size (wa.heap.size + 1) A' (some ⟨wa.heap.size, 0, none⟩) k1 c' 1 1 (ints ys) (ints [16]) rfl rfl (by (repeat (first | (with_reducible assumption) | (with_reducible refine Own.alloc ?_ _) | (with_reducible refine Own.drew ?_) | (with_reducible refine Own.set ?_ (by first | (simp; done) | (simp; omega) | omega) _)))) (lit_rd _ #[.int .i64 (16)] 3 1 _ (by (try simp) <;> (try omega)) rfl (by unfold maxLen; omega)) (ints_one _) (by unfold maxLen; omega) (by omega) (by (try simp) <;> omega) ?_; intro A6 c6 w6 L6 H6 o6 f6 d6; have h6 := HG.out w6 A6 c6 L6 H6 (ys ++ [16]) (Kept.trans hM (Kept.of_fr (Fr.trans (Fr.of_below (by (repeat (first | (with_reducible assumption) | (with_reducible exact Below.refl _ _) | (with_reducible refine Below.setCell ?_ (by first | (simp; done) | (simp; omega) | omega) _) | (with_reducible refine Below.alloc ?_ (by first | (simp; done) | (simp; omega) | omega) _) | (with_reducible refine Below.drew ?_) | (with_reducible refine Below.drewN ?_ _))) : Below wa.heap.size wa _) lo hi) f6))) (by rw [List.length_append, HK.out, ints_append]; exact o6) (d6.imp id (fun h => ⟨by rw [h.1]; (try simp) <;> omega, Nat.le_of_eq h.2⟩)); simp only [List.length_append, List.length_cons, List.length_nil, HK.out] at h6; obtain ⟨k6, kf6, hq6⟩ := h6; have HQ6 := Lib.hid hq6; clear hq6 d6; have z6 := f6.size; (try simp at z6); replace TQ := Blk.fr (by (repeat (first | (with_reducible assumption) | (with_reducible refine Blk.drew ?_) | (with_reducible refine Blk.other ?_ (by first | (simp; done) | (simp; omega) | omega) _) | (with_reducible refine Blk.alloc ?_ _))) : Blk _ w1.heap.size 24 #[.slice (some ⟨ga, oa, none⟩) 8 c]) f6 hQs; replace TR := Blk.fr (by (repeat (first | (with_reducible assumption) | (with_reducible refine Blk.drew ?_) | (with_reducible refine Blk.other ?_ (by first | (simp; done) | (simp; omega) | omega) _) | (with_reducible refine Blk.alloc ?_ _))) : Blk _ w.heap.size 24 #[.slice none 0 0]) f6 (.inl (by omega)); have hrz := Rdr.fr (g := g) (by (repeat (first | (with_reducible assumption) | (with_reducible refine Rdr.drew ?_) | (with_reducible refine Rdr.set ?_ (by first | (simp; done) | (simp; omega) | omega) _) | (with_reducible refine Rdr.alloc ?_ _))) : Rdr _ g (N + 22 - 2 * 0 + 1 + 1 + 1)) f6 (.inl (by omega)) (by omega); replace hF := Fr.own (by (repeat (first | (with_reducible assumption) | (with_reducible refine Fr.drew ?_) | (with_reducible exact Fr.refl _ _ _) | (with_reducible refine Fr.setOut ?_ (by first | (simp; done) | (simp; omega) | omega) _) | (with_reducible refine Fr.alloc ?_ _))) : Fr g (g + 1) w _) (f6.wide (B' := w.heap.size) (by omega) (Nat.le_refl _)); clear q0 qf hc lQ lR f6; have q0 := TQ.cell 0 rfl; have qf := TQ.free; have lQ := TQ.lt; have lR := TR.lt
                    refine hK.out _ _ ?_ (fun hHeld => ?_)
                    focus (first | exact trivial | ((try dsimp only); (exact Blk.cell (by (repeat (first | (with_reducible assumption) | (with_reducible refine Blk.drew ?_) | (with_reducible refine Blk.other ?_ (by first | (simp; done) | (simp; omega) | omega) _) | (with_reducible refine Blk.alloc ?_ _))) : Blk _ w1.heap.size 24 #[.slice (some ⟨ga, oa, none⟩) 8 c]) 0 rfl))); done
                    clear hK K
                    (try simp only [Act.put, List.setIfInBounds_toArray, List.set_cons_zero, List.set_cons_succ])
                    refine wpAnyH_take (i := 13) (v := ?_) (by rw [List.getElem?_toArray]; rfl) (by kernel_rfl) (by kernel_rfl) (by kernel_rfl) (fun _ _ _ h => h) (Or.inl ⟨by rfl, ?_⟩) (by assumption) ?_
                    rotate_left
                    focus (intro wS hSw; (try dsimp only at hSw); go_simp; (try with_reducible rfl)); done
                    (try simp only [Act.put, List.setIfInBounds_toArray, List.set_cons_zero, List.set_cons_succ])
                    refine wpAnyH_ready (rs := [14]) (by kernel_rfl) (by simp) ?_
                    refine AllReadyH.cons (by rw [List.getElem?_toArray]; rfl) (fun K hK => ?_) AllReadyH.nil
                    go_simp
                    skip
                    refine hK.out _ _ ?_ (fun hHeld => ?_)
                    focus (first | exact trivial | ((try dsimp only); (exact Blk.cell (by (repeat (first | (with_reducible assumption) | (with_reducible refine Blk.drew ?_) | (with_reducible refine Blk.other ?_ (by first | (simp; done) | (simp; omega) | omega) _) | (with_reducible refine Blk.alloc ?_ _))) : Blk _ w1.heap.size 24 #[.slice (some ⟨ga, oa, none⟩) 8 c]) 0 rfl))); done
                    clear hK K
                    (try simp only [Act.put, List.setIfInBounds_toArray, List.set_cons_zero, List.set_cons_succ])
                    refine wpAnyH_done (by kernel_rfl) ?_ _
                    refine NoPanic.normal ?_
                    have TQ7 := TQ.other (p := ⟨ga, oa + 1, none⟩) (by show w1.heap.size ≠ ga; omega) (.slice A6 (k1 + 1) c6)
                    have TR7 := TR.other (p := ⟨ga, oa + 1, none⟩) (by show w.heap.size ≠ ga; omega) (.slice A6 (k1 + 1) c6)
                    clear q0 qf
                    have q0 := TQ7.cell 0 rfl
                    have r0 := TR7.cell 0 rfl
                    have rf := TR7.free
                    have HQ7 := Lib.hid (HQ6.out.setT TR7 (by decide) (by decide) 0 (.slice (some ⟨ga, oa, none⟩) 8 c))
                    have hsn := add_size (zs := [16]) hy
                    have HSN := Lib.hid hsn
                    clear hy hsn
                    go_wp2
                    refine bodyPost_ret (v := queues (some ⟨ga, oa, none⟩) 8 c) (by simp [results, Try.results41, go_sem, *]) rfl ⟨_, 8, c, yss.set 1 (ys ++ [16]), rfl, HQ7.out.rows.mono (by omega) (by simp), hle, by rw [HSN.out]; simp; omega, (by (repeat (first | (with_reducible assumption) | (with_reducible refine Rdr.drew ?_) | (with_reducible refine Rdr.set ?_ (by first | (simp; done) | (simp; omega) | omega) _) | (with_reducible refine Rdr.alloc ?_ _))) : Rdr _ g (N + 22 - 2 * 0 + 1 + 1 + 1)).mono (by omega), by (repeat (first | (with_reducible assumption) | (with_reducible refine Fr.drew ?_) | (with_reducible exact Fr.refl _ _ _) | (with_reducible refine Fr.setOut ?_ (by first | (simp; done) | (simp; omega) | omega) _) | (with_reducible refine Fr.alloc ?_ _)))⟩
          · go_simp
            refine (pick_any g (N + 22 - 2 * 0 + 1 + 1) 2 _ (by (repeat (first | (with_reducible assumption) | (with_reducible refine Rdr.drew ?_) | (with_reducible refine Rdr.set ?_ (by first | (simp; done) | (simp; omega) | omega) _) | (with_reducible refine Rdr.alloc ?_ _)))) (by omega) (by omega)).mono ?_; rintro e wa ⟨va, rfl, hva, ula, -, hra, fa⟩; replace ula := ula (by omega); have za := fa.size; (try simp at za); have hM : Kept (w.heap.size + 1) lo hi w9 wa := Kept.trans (Kept.below (by (repeat (first | (with_reducible assumption) | (with_reducible exact Below.refl _ _) | (with_reducible refine Below.setCell ?_ (by first | (simp; done) | (simp; omega) | omega) _) | (with_reducible refine Below.alloc ?_ (by first | (simp; done) | (simp; omega) | omega) _) | (with_reducible refine Below.drew ?_) | (with_reducible refine Below.drewN ?_ _))) : Below w9.heap.size w9 _)) (Kept.low fa (by omega)); replace TQ := Blk.fr (by (repeat (first | (with_reducible assumption) | (with_reducible refine Blk.drew ?_) | (with_reducible refine Blk.other ?_ (by first | (simp; done) | (simp; omega) | omega) _) | (with_reducible refine Blk.alloc ?_ _))) : Blk _ w1.heap.size 24 #[.slice (some ⟨ga, oa, none⟩) 8 c]) fa (.inr (by omega)); replace TR := Blk.fr (by (repeat (first | (with_reducible assumption) | (with_reducible refine Blk.drew ?_) | (with_reducible refine Blk.other ?_ (by first | (simp; done) | (simp; omega) | omega) _) | (with_reducible refine Blk.alloc ?_ _))) : Blk _ w.heap.size 24 #[.slice none 0 0]) fa (.inr (by omega)); replace hown := Own.fr (by (repeat (first | (with_reducible assumption) | (with_reducible refine Own.alloc ?_ _) | (with_reducible refine Own.drew ?_) | (with_reducible refine Own.set ?_ (by first | (simp; done) | (simp; omega) | omega) _))) : Own _ lo hi 3 1 A' k1 c' (ints ys)) fa (.inr (by omega)); replace hc := (Fr.cell fa (p := ⟨ga, oa + 1, none⟩) (by (try simp) <;> omega) (.inr (by show g + 1 ≤ ga; omega))).trans ((Below.cell (by (repeat (first | (with_reducible assumption) | (with_reducible exact Below.refl _ _) | (with_reducible refine Below.setCell ?_ (by first | (simp; done) | (simp; omega) | omega) _) | (with_reducible refine Below.alloc ?_ (by first | (simp; done) | (simp; omega) | omega) _) | (with_reducible refine Below.drew ?_) | (with_reducible refine Below.drewN ?_ _))) : Below w9.heap.size w9 _) (p := ⟨ga, oa + 1, none⟩) hg2).trans hc); replace hF := Fr.trans (by (repeat (first | (with_reducible assumption) | (with_reducible refine Fr.drew ?_) | (with_reducible exact Fr.refl _ _ _) | (with_reducible refine Fr.setOut ?_ (by first | (simp; done) | (simp; omega) | omega) _) | (with_reducible refine Fr.alloc ?_ _))) : Fr g (g + 1) w _) fa; clear fa q0 qf lQ lR hr9; have q0 := TQ.cell 0 rfl; have qf := TQ.free; have lQ := TQ.lt; have lR := TR.lt; have lg := hra.lt; have hg3 : ga < wa.heap.size := (by omega); have hhi3 : hi ≤ wa.heap.size := (by omega)
            refine hK.out _ _ ?_ (fun hHeld => ?_)
            focus (first | exact trivial | ((try dsimp only); (exact Blk.cell (by (repeat (first | (with_reducible assumption) | (with_reducible refine Blk.drew ?_) | (with_reducible refine Blk.other ?_ (by first | (simp; done) | (simp; omega) | omega) _) | (with_reducible refine Blk.alloc ?_ _))) : Blk _ w1.heap.size 24 #[.slice (some ⟨ga, oa, none⟩) 8 c]) 0 rfl))); done
            clear hK K
            (try simp only [Act.put, List.setIfInBounds_toArray, List.set_cons_zero, List.set_cons_succ])
            rcases (by omega : va = 0 ∨ va = 1) with rfl | rfl
            · skip
              refine wpAnyH_ready (rs := [5, 6]) (by kernel_rfl) (by simp) ?_
              refine AllReadyH.cons (by rw [List.getElem?_toArray]; rfl) (fun K hK => ?_) (AllReadyH.cons (by rw [List.getElem?_toArray]; rfl) (fun K hK => ?_) AllReadyH.nil)
              · go_simp
                skip
                refine hK.out _ _ ?_ (fun hHeld => ?_)
                focus (first | exact trivial | ((try dsimp only); (exact Blk.cell (by (repeat (first | (with_reducible assumption) | (with_reducible refine Blk.drew ?_) | (with_reducible refine Blk.other ?_ (by first | (simp; done) | (simp; omega) | omega) _) | (with_reducible refine Blk.alloc ?_ _))) : Blk _ w1.heap.size 24 #[.slice (some ⟨ga, oa, none⟩) 8 c]) 0 rfl))); done
                clear hK K
                (try simp only [Act.put, List.setIfInBounds_toArray, List.set_cons_zero, List.set_cons_succ])
                refine wpAnyH_ready (rs := [6]) (by kernel_rfl) (by simp) ?_
                refine AllReadyH.cons (by rw [List.getElem?_toArray]; rfl) (fun K hK => ?_) AllReadyH.nil
                go_simp
                skip
                refine hK.out _ _ ?_ (fun hHeld => ?_)
                focus (first | exact trivial | ((try dsimp only); (exact Blk.cell (by (repeat (first | (with_reducible assumption) | (with_reducible refine Blk.drew ?_) | (with_reducible refine Blk.other ?_ (by first | (simp; done) | (simp; omega) | omega) _) | (with_reducible refine Blk.alloc ?_ _))) : Blk _ w1.heap.size 24 #[.slice (some ⟨ga, oa, none⟩) 8 c]) 0 rfl))); done
                clear hK K
                (try simp only [Act.put, List.setIfInBounds_toArray, List.set_cons_zero, List.set_cons_succ])
                refine wpAnyH_take (i := 9) (v := ?_) (by rw [List.getElem?_toArray]; rfl) (by kernel_rfl) (by kernel_rfl) (by kernel_rfl) (fun _ _ _ h => h) (Or.inl ⟨by rfl, ?_⟩) (by assumption) ?_
                rotate_left
                focus (intro wS hSw; (try dsimp only at hSw); go_simp; (try with_reducible rfl)); done
                (try simp only [Act.put, List.setIfInBounds_toArray, List.set_cons_zero, List.set_cons_succ])
                refine wpAnyH_ready (rs := [10]) (by kernel_rfl) (by simp) ?_
                refine AllReadyH.cons (by rw [List.getElem?_toArray]; rfl) (fun K hK => ?_) AllReadyH.nil
                go_simp
                skip
                refine hK.out _ _ ?_ (fun hHeld => ?_)
                focus (first | exact trivial | ((try dsimp only); (exact Blk.cell (by (repeat (first | (with_reducible assumption) | (with_reducible refine Blk.drew ?_) | (with_reducible refine Blk.other ?_ (by first | (simp; done) | (simp; omega) | omega) _) | (with_reducible refine Blk.alloc ?_ _))) : Blk _ w1.heap.size 24 #[.slice (some ⟨ga, oa, none⟩) 8 c]) 0 rfl))); done
                clear hK K
                (try simp only [Act.put, List.setIfInBounds_toArray, List.set_cons_zero, List.set_cons_succ])
                refine wpAnyH_ready (rs := [11]) (by kernel_rfl) (by simp) ?_
                refine AllReadyH.cons (by rw [List.getElem?_toArray]; rfl) (fun K hK => ?_) AllReadyH.nil
                go_simp
                skip
                refine hK.out _ _ ?_ (fun hHeld => ?_)
                focus (first | exact trivial | ((try dsimp only); (exact Blk.cell (by (repeat (first | (with_reducible assumption) | (with_reducible refine Blk.drew ?_) | (with_reducible refine Blk.other ?_ (by first | (simp; done) | (simp; omega) | omega) _) | (with_reducible refine Blk.alloc ?_ _))) : Blk _ w1.heap.size 24 #[.slice (some ⟨ga, oa, none⟩) 8 c]) 0 rfl))); done
                clear hK K
                (try simp only [Act.put, List.setIfInBounds_toArray, List.set_cons_zero, List.set_cons_succ])
                refine wpAnyH_ready (rs := [12]) (by kernel_rfl) (by simp) ?_
                refine AllReadyH.cons (by rw [List.getElem?_toArray]; rfl) (fun K hK => ?_) AllReadyH.nil
                refine step_app2 _ rfl (.tmp 39) (.tmp 45) 38 rfl 3 i0 (.int .i64 0) 1 8 Try.underlying38 hi0 hz0 hz1 hz2 rfl (by omega) lo hi (wa.heap.size + 1) ((wa.heap.size + 1) + 1) A' (some ⟨(wa.heap.size + 1), 0, none⟩) k1 c' 1 1 (ints ys) (ints [-1]) rfl rfl (by (repeat (first | (with_reducible assumption) | (with_reducible refine Own.alloc ?_ _) | (with_reducible refine Own.drew ?_) | (with_reducible refine Own.set ?_ (by first | (simp; done) | (simp; omega) | omega) _)))) (lit_rd _ #[.int .i64 (-1)] 3 1 _ (by (try simp) <;> (try omega)) rfl (by unfold maxLen; omega)) (ints_one _) (by unfold maxLen; omega) (by omega) (by (try simp) <;> omega) ?_; intro A6 c6 w6 L6 H6 o6 f6 d6; have h6 := HG.out w6 A6 c6 L6 H6 (ys ++ [-1]) (Kept.trans hM (Kept.of_fr (Fr.trans (Fr.of_below (by (repeat (first | (with_reducible assumption) | (with_reducible exact Below.refl _ _) | (with_reducible refine Below.setCell ?_ (by first | (simp; done) | (simp; omega) | omega) _) | (with_reducible refine Below.alloc ?_ (by first | (simp; done) | (simp; omega) | omega) _) | (with_reducible refine Below.drew ?_) | (with_reducible refine Below.drewN ?_ _))) : Below wa.heap.size wa _) lo hi) f6))) (by rw [List.length_append, HK.out, ints_append]; exact o6) (d6.imp id (fun h => ⟨by rw [h.1]; (try simp) <;> omega, Nat.le_of_eq h.2⟩)); simp only [List.length_append, List.length_cons, List.length_nil, HK.out] at h6; obtain ⟨k6, kf6, hq6⟩ := h6; have HQ6 := Lib.hid hq6; clear hq6 d6; have z6 := f6.size; (try simp at z6); replace TQ := Blk.fr (by (repeat (first | (with_reducible assumption) | (with_reducible refine Blk.drew ?_) | (with_reducible refine Blk.other ?_ (by first | (simp; done) | (simp; omega) | omega) _) | (with_reducible refine Blk.alloc ?_ _))) : Blk _ w1.heap.size 24 #[.slice (some ⟨ga, oa, none⟩) 8 c]) f6 hQs; replace TR := Blk.fr (by (repeat (first | (with_reducible assumption) | (with_reducible refine Blk.drew ?_) | (with_reducible refine Blk.other ?_ (by first | (simp; done) | (simp; omega) | omega) _) | (with_reducible refine Blk.alloc ?_ _))) : Blk _ w.heap.size 24 #[.slice none 0 0]) f6 (.inl (by omega)); have hrz := Rdr.fr (g := g) (by (repeat (first | (with_reducible assumption) | (with_reducible refine Rdr.drew ?_) | (with_reducible refine Rdr.set ?_ (by first | (simp; done) | (simp; omega) | omega) _) | (with_reducible refine Rdr.alloc ?_ _))) : Rdr _ g (N + 22 - 2 * 0 + 1 + 1 + 1)) f6 (.inl (by omega)) (by omega); replace hF := Fr.own (by (repeat (first | (with_reducible assumption) | (with_reducible refine Fr.drew ?_) | (with_reducible exact Fr.refl _ _ _) | (with_reducible refine Fr.setOut ?_ (by first | (simp; done) | (simp; omega) | omega) _) | (with_reducible refine Fr.alloc ?_ _))) : Fr g (g + 1) w _) (f6.wide (B' := w.heap.size) (by omega) (Nat.le_refl _)); clear q0 qf hc lQ lR f6; have q0 := TQ.cell 0 rfl; have qf := TQ.free; have lQ := TQ.lt; have lR := TR.lt
                refine hK.out _ _ ?_ (fun hHeld => ?_)
                focus (first | exact trivial | ((try dsimp only); (exact Blk.cell (by (repeat (first | (with_reducible assumption) | (with_reducible refine Blk.drew ?_) | (with_reducible refine Blk.other ?_ (by first | (simp; done) | (simp; omega) | omega) _) | (with_reducible refine Blk.alloc ?_ _))) : Blk _ w1.heap.size 24 #[.slice (some ⟨ga, oa, none⟩) 8 c]) 0 rfl))); done
                clear hK K
                (try simp only [Act.put, List.setIfInBounds_toArray, List.set_cons_zero, List.set_cons_succ])
                refine wpAnyH_take (i := 13) (v := ?_) (by rw [List.getElem?_toArray]; rfl) (by kernel_rfl) (by kernel_rfl) (by kernel_rfl) (fun _ _ _ h => h) (Or.inl ⟨by rfl, ?_⟩) (by assumption) ?_
                rotate_left
                focus (intro wS hSw; (try dsimp only at hSw); go_simp; (try with_reducible rfl)); done
                (try simp only [Act.put, List.setIfInBounds_toArray, List.set_cons_zero, List.set_cons_succ])
                refine wpAnyH_ready (rs := [14]) (by kernel_rfl) (by simp) ?_
                refine AllReadyH.cons (by rw [List.getElem?_toArray]; rfl) (fun K hK => ?_) AllReadyH.nil
                go_simp
                skip
                refine hK.out _ _ ?_ (fun hHeld => ?_)
                focus (first | exact trivial | ((try dsimp only); (exact Blk.cell (by (repeat (first | (with_reducible assumption) | (with_reducible refine Blk.drew ?_) | (with_reducible refine Blk.other ?_ (by first | (simp; done) | (simp; omega) | omega) _) | (with_reducible refine Blk.alloc ?_ _))) : Blk _ w1.heap.size 24 #[.slice (some ⟨ga, oa, none⟩) 8 c]) 0 rfl))); done
                clear hK K
                (try simp only [Act.put, List.setIfInBounds_toArray, List.set_cons_zero, List.set_cons_succ])
                refine wpAnyH_done (by kernel_rfl) ?_ _
                refine NoPanic.normal ?_
                have TQ7 := TQ.other (p := ⟨ga, oa + 1, none⟩) (by show w1.heap.size ≠ ga; omega) (.slice A6 (k1 + 1) c6)
                have TR7 := TR.other (p := ⟨ga, oa + 1, none⟩) (by show w.heap.size ≠ ga; omega) (.slice A6 (k1 + 1) c6)
                clear q0 qf
                have q0 := TQ7.cell 0 rfl
                have r0 := TR7.cell 0 rfl
                have rf := TR7.free
                have HQ7 := Lib.hid (HQ6.out.setT TR7 (by decide) (by decide) 0 (.slice (some ⟨ga, oa, none⟩) 8 c))
                have hsn := add_size (zs := [-1]) hy
                have HSN := Lib.hid hsn
                clear hy hsn
                go_wp2
                refine bodyPost_ret (v := queues (some ⟨ga, oa, none⟩) 8 c) (by simp [results, Try.results41, go_sem, *]) rfl ⟨_, 8, c, yss.set 1 (ys ++ [-1]), rfl, HQ7.out.rows.mono (by omega) (by simp), hle, by rw [HSN.out]; simp; omega, (by (repeat (first | (with_reducible assumption) | (with_reducible refine Rdr.drew ?_) | (with_reducible refine Rdr.set ?_ (by first | (simp; done) | (simp; omega) | omega) _) | (with_reducible refine Rdr.alloc ?_ _))) : Rdr _ g (N + 22 - 2 * 0 + 1 + 1 + 1)).mono (by omega), by (repeat (first | (with_reducible assumption) | (with_reducible refine Fr.drew ?_) | (with_reducible exact Fr.refl _ _ _) | (with_reducible refine Fr.setOut ?_ (by first | (simp; done) | (simp; omega) | omega) _) | (with_reducible refine Fr.alloc ?_ _)))⟩
              · go_simp
                skip
                refine hK.out _ _ ?_ (fun hHeld => ?_)
                focus (first | exact trivial | ((try dsimp only); (exact Blk.cell (by (repeat (first | (with_reducible assumption) | (with_reducible refine Blk.drew ?_) | (with_reducible refine Blk.other ?_ (by first | (simp; done) | (simp; omega) | omega) _) | (with_reducible refine Blk.alloc ?_ _))) : Blk _ w1.heap.size 24 #[.slice (some ⟨ga, oa, none⟩) 8 c]) 0 rfl))); done
                clear hK K
                (try simp only [Act.put, List.setIfInBounds_toArray, List.set_cons_zero, List.set_cons_succ])
                refine wpAnyH_take (i := 9) (v := ?_) (by rw [List.getElem?_toArray]; rfl) (by kernel_rfl) (by kernel_rfl) (by kernel_rfl) (fun _ _ _ h => h) (Or.inl ⟨by rfl, ?_⟩) (by assumption) ?_
                rotate_left
                focus (intro wS hSw; (try dsimp only at hSw); go_simp; (try with_reducible rfl)); done
                (try simp only [Act.put, List.setIfInBounds_toArray, List.set_cons_zero, List.set_cons_succ])
                refine wpAnyH_ready (rs := [5, 10]) (by kernel_rfl) (by simp) ?_
                refine AllReadyH.cons (by rw [List.getElem?_toArray]; rfl) (fun K hK => ?_) (AllReadyH.cons (by rw [List.getElem?_toArray]; rfl) (fun K hK => ?_) AllReadyH.nil)
                · go_simp
                  skip
                  refine hK.out _ _ ?_ (fun hHeld => ?_)
                  focus (first | exact trivial | ((try dsimp only); (exact Blk.cell (by (repeat (first | (with_reducible assumption) | (with_reducible refine Blk.drew ?_) | (with_reducible refine Blk.other ?_ (by first | (simp; done) | (simp; omega) | omega) _) | (with_reducible refine Blk.alloc ?_ _))) : Blk _ w1.heap.size 24 #[.slice (some ⟨ga, oa, none⟩) 8 c]) 0 rfl))); done
                  clear hK K
                  (try simp only [Act.put, List.setIfInBounds_toArray, List.set_cons_zero, List.set_cons_succ])
                  refine wpAnyH_ready (rs := [10]) (by kernel_rfl) (by simp) ?_
                  refine AllReadyH.cons (by rw [List.getElem?_toArray]; rfl) (fun K hK => ?_) AllReadyH.nil
                  go_simp
                  skip
                  refine hK.out _ _ ?_ (fun hHeld => ?_)
                  focus (first | exact trivial | ((try dsimp only); (exact Blk.cell (by (repeat (first | (with_reducible assumption) | (with_reducible refine Blk.drew ?_) | (with_reducible refine Blk.other ?_ (by first | (simp; done) | (simp; omega) | omega) _) | (with_reducible refine Blk.alloc ?_ _))) : Blk _ w1.heap.size 24 #[.slice (some ⟨ga, oa, none⟩) 8 c]) 0 rfl))); done
                  clear hK K
                  (try simp only [Act.put, List.setIfInBounds_toArray, List.set_cons_zero, List.set_cons_succ])
                  refine wpAnyH_ready (rs := [11]) (by kernel_rfl) (by simp) ?_
                  refine AllReadyH.cons (by rw [List.getElem?_toArray]; rfl) (fun K hK => ?_) AllReadyH.nil
                  go_simp
                  skip
                  refine hK.out _ _ ?_ (fun hHeld => ?_)
                  focus (first | exact trivial | ((try dsimp only); (exact Blk.cell (by (repeat (first | (with_reducible assumption) | (with_reducible refine Blk.drew ?_) | (with_reducible refine Blk.other ?_ (by first | (simp; done) | (simp; omega) | omega) _) | (with_reducible refine Blk.alloc ?_ _))) : Blk _ w1.heap.size 24 #[.slice (some ⟨ga, oa, none⟩) 8 c]) 0 rfl))); done
                  clear hK K
                  (try simp only [Act.put, List.setIfInBounds_toArray, List.set_cons_zero, List.set_cons_succ])
                  refine wpAnyH_ready (rs := [12]) (by kernel_rfl) (by simp) ?_
                  refine AllReadyH.cons (by rw [List.getElem?_toArray]; rfl) (fun K hK => ?_) AllReadyH.nil
                  refine step_app2 _ rfl (.tmp 39) (.tmp 45) 38 rfl 3 i0 (.int .i64 0) 1 8 Try.underlying38 hi0 hz0 hz1 hz2 rfl (by omega) lo hi (wa.heap.size + 1) ((wa.heap.size + 1) + 1) A' (some ⟨(wa.heap.size + 1), 0, none⟩) k1 c' 1 1 (ints ys) (ints [-1]) rfl rfl (by (repeat (first | (with_reducible assumption) | (with_reducible refine Own.alloc ?_ _) | (with_reducible refine Own.drew ?_) | (with_reducible refine Own.set ?_ (by first | (simp; done) | (simp; omega) | omega) _)))) (lit_rd _ #[.int .i64 (-1)] 3 1 _ (by (try simp) <;> (try omega)) rfl (by unfold maxLen; omega)) (ints_one _) (by unfold maxLen; omega) (by omega) (by (try simp) <;> omega) ?_; intro A6 c6 w6 L6 H6 o6 f6 d6; have h6 := HG.out w6 A6 c6 L6 H6 (ys ++ [-1]) (Kept.trans hM (Kept.of_fr (Fr.trans (Fr.of_below (by (repeat (first | (with_reducible assumption) | (with_reducible exact Below.refl _ _) | (with_reducible refine Below.setCell ?_ (by first | (simp; done) | (simp; omega) | omega) _) | (with_reducible refine Below.alloc ?_ (by first | (simp; done) | (simp; omega) | omega) _) | (with_reducible refine Below.drew ?_) | (with_reducible refine Below.drewN ?_ _))) : Below wa.heap.size wa _) lo hi) f6))) (by rw [List.length_append, HK.out, ints_append]; exact o6) (d6.imp id (fun h => ⟨by rw [h.1]; (try simp) <;> omega, Nat.le_of_eq h.2⟩)); simp only [List.length_append, List.length_cons, List.length_nil, HK.out] at h6; obtain ⟨k6, kf6, hq6⟩ := h6; have HQ6 := Lib.hid hq6; clear hq6 d6; have z6 := f6.size; (try simp at z6); replace TQ := Blk.fr (by (repeat (first | (with_reducible assumption) | (with_reducible refine Blk.drew ?_) | (with_reducible refine Blk.other ?_ (by first | (simp; done) | (simp; omega) | omega) _) | (with_reducible refine Blk.alloc ?_ _))) : Blk _ w1.heap.size 24 #[.slice (some ⟨ga, oa, none⟩) 8 c]) f6 hQs; replace TR := Blk.fr (by (repeat (first | (with_reducible assumption) | (with_reducible refine Blk.drew ?_) | (with_reducible refine Blk.other ?_ (by first | (simp; done) | (simp; omega) | omega) _) | (with_reducible refine Blk.alloc ?_ _))) : Blk _ w.heap.size 24 #[.slice none 0 0]) f6 (.inl (by omega)); have hrz := Rdr.fr (g := g) (by (repeat (first | (with_reducible assumption) | (with_reducible refine Rdr.drew ?_) | (with_reducible refine Rdr.set ?_ (by first | (simp; done) | (simp; omega) | omega) _) | (with_reducible refine Rdr.alloc ?_ _))) : Rdr _ g (N + 22 - 2 * 0 + 1 + 1 + 1)) f6 (.inl (by omega)) (by omega); replace hF := Fr.own (by (repeat (first | (with_reducible assumption) | (with_reducible refine Fr.drew ?_) | (with_reducible exact Fr.refl _ _ _) | (with_reducible refine Fr.setOut ?_ (by first | (simp; done) | (simp; omega) | omega) _) | (with_reducible refine Fr.alloc ?_ _))) : Fr g (g + 1) w _) (f6.wide (B' := w.heap.size) (by omega) (Nat.le_refl _)); clear q0 qf hc lQ lR f6; have q0 := TQ.cell 0 rfl; have qf := TQ.free; have lQ := TQ.lt; have lR := TR.lt
                  refine hK.out _ _ ?_ (fun hHeld => ?_)
                  focus (first | exact trivial | ((try dsimp only); (exact Blk.cell (by (repeat (first | (with_reducible assumption) | (with_reducible refine Blk.drew ?_) | (with_reducible refine Blk.other ?_ (by first | (simp; done) | (simp; omega) | omega) _) | (with_reducible refine Blk.alloc ?_ _))) : Blk _ w1.heap.size 24 #[.slice (some ⟨ga, oa, none⟩) 8 c]) 0 rfl))); done
                  clear hK K
                  (try simp only [Act.put, List.setIfInBounds_toArray, List.set_cons_zero, List.set_cons_succ])
                  refine wpAnyH_take (i := 13) (v := ?_) (by rw [List.getElem?_toArray]; rfl) (by kernel_rfl) (by kernel_rfl) (by kernel_rfl) (fun _ _ _ h => h) (Or.inl ⟨by rfl, ?_⟩) (by assumption) ?_
                  rotate_left
                  focus (intro wS hSw; (try dsimp only at hSw); go_simp; (try with_reducible rfl)); done
                  (try simp only [Act.put, List.setIfInBounds_toArray, List.set_cons_zero, List.set_cons_succ])
                  refine wpAnyH_ready (rs := [14]) (by kernel_rfl) (by simp) ?_
                  refine AllReadyH.cons (by rw [List.getElem?_toArray]; rfl) (fun K hK => ?_) AllReadyH.nil
                  go_simp
                  skip
                  refine hK.out _ _ ?_ (fun hHeld => ?_)
                  focus (first | exact trivial | ((try dsimp only); (exact Blk.cell (by (repeat (first | (with_reducible assumption) | (with_reducible refine Blk.drew ?_) | (with_reducible refine Blk.other ?_ (by first | (simp; done) | (simp; omega) | omega) _) | (with_reducible refine Blk.alloc ?_ _))) : Blk _ w1.heap.size 24 #[.slice (some ⟨ga, oa, none⟩) 8 c]) 0 rfl))); done
                  clear hK K
                  (try simp only [Act.put, List.setIfInBounds_toArray, List.set_cons_zero, List.set_cons_succ])
                  refine wpAnyH_done (by kernel_rfl) ?_ _
                  refine NoPanic.normal ?_
                  have TQ7 := TQ.other (p := ⟨ga, oa + 1, none⟩) (by show w1.heap.size ≠ ga; omega) (.slice A6 (k1 + 1) c6)
                  have TR7 := TR.other (p := ⟨ga, oa + 1, none⟩) (by show w.heap.size ≠ ga; omega) (.slice A6 (k1 + 1) c6)
                  clear q0 qf
                  have q0 := TQ7.cell 0 rfl
                  have r0 := TR7.cell 0 rfl
                  have rf := TR7.free
                  have HQ7 := Lib.hid (HQ6.out.setT TR7 (by decide) (by decide) 0 (.slice (some ⟨ga, oa, none⟩) 8 c))
                  have hsn := add_size (zs := [-1]) hy
                  have HSN := Lib.hid hsn
                  clear hy hsn
                  go_wp2
                  refine bodyPost_ret (v := queues (some ⟨ga, oa, none⟩) 8 c) (by simp [results, Try.results41, go_sem, *]) rfl ⟨_, 8, c, yss.set 1 (ys ++ [-1]), rfl, HQ7.out.rows.mono (by omega) (by simp), hle, by rw [HSN.out]; simp; omega, (by (repeat (first | (with_reducible assumption) | (with_reducible refine Rdr.drew ?_) | (with_reducible refine Rdr.set ?_ (by first | (simp; done) | (simp; omega) | omega) _) | (with_reducible refine Rdr.alloc ?_ _))) : Rdr _ g (N + 22 - 2 * 0 + 1 + 1 + 1)).mono (by omega), by (repeat (first | (with_reducible assumption) | (with_reducible refine Fr.drew ?_) | (with_reducible exact Fr.refl _ _ _) | (with_reducible refine Fr.setOut ?_ (by first | (simp; done) | (simp; omega) | omega) _) | (with_reducible refine Fr.alloc ?_ _)))⟩
                · go_simp
                  skip
                  refine hK.out _ _ ?_ (fun hHeld => ?_)
                  focus (first | exact trivial | ((try dsimp only); (exact Blk.cell (by (repeat (first | (with_reducible assumption) | (with_reducible refine Blk.drew ?_) | (with_reducible refine Blk.other ?_ (by first | (simp; done) | (simp; omega) | omega) _) | (with_reducible refine Blk.alloc ?_ _))) : Blk _ w1.heap.size 24 #[.slice (some ⟨ga, oa, none⟩) 8 c]) 0 rfl))); done
                  clear hK K
                  (try simp only [Act.put, List.setIfInBounds_toArray, List.set_cons_zero, List.set_cons_succ])
                  refine wpAnyH_ready (rs := [5, 11]) (by kernel_rfl) (by simp) ?_
                  refine AllReadyH.cons (by rw [List.getElem?_toArray]; rfl) (fun K hK => ?_) (AllReadyH.cons (by rw [List.getElem?_toArray]; rfl) (fun K hK => ?_) AllReadyH.nil)
                  · go_simp
                    skip
                    refine hK.out _ _ ?_ (fun hHeld => ?_)
                    focus (first | exact trivial | ((try dsimp only); (exact Blk.cell (by (repeat (first | (with_reducible assumption) | (with_reducible refine Blk.drew ?_) | (with_reducible refine Blk.other ?_ (by first | (simp; done) | (simp; omega) | omega) _) | (with_reducible refine Blk.alloc ?_ _))) : Blk _ w1.heap.size 24 #[.slice (some ⟨ga, oa, none⟩) 8 c]) 0 rfl))); done
                    clear hK K
                    (try simp only [Act.put, List.setIfInBounds_toArray, List.set_cons_zero, List.set_cons_succ])
                    refine wpAnyH_ready (rs := [11]) (by kernel_rfl) (by simp) ?_
                    refine AllReadyH.cons (by rw [List.getElem?_toArray]; rfl) (fun K hK => ?_) AllReadyH.nil
                    go_simp
                    skip
                    refine hK.out _ _ ?_ (fun hHeld => ?_)
                    focus (first | exact trivial | ((try dsimp only); (exact Blk.cell (by (repeat (first | (with_reducible assumption) | (with_reducible refine Blk.drew ?_) | (with_reducible refine Blk.other ?_ (by first | (simp; done) | (simp; omega) | omega) _) | (with_reducible refine Blk.alloc ?_ _))) : Blk _ w1.heap.size 24 #[.slice (some ⟨ga, oa, none⟩) 8 c]) 0 rfl))); done
                    clear hK K
                    (try simp only [Act.put, List.setIfInBounds_toArray, List.set_cons_zero, List.set_cons_succ])
                    refine wpAnyH_ready (rs := [12]) (by kernel_rfl) (by simp) ?_
                    refine AllReadyH.cons (by rw [List.getElem?_toArray]; rfl) (fun K hK => ?_) AllReadyH.nil
                    refine step_app2 _ rfl (.tmp 39) (.tmp 45) 38 rfl 3 i0 (.int .i64 0) 1 8 Try.underlying38 hi0 hz0 hz1 hz2 rfl (by omega) lo hi (wa.heap.size + 1) ((wa.heap.size + 1) + 1) A' (some ⟨(wa.heap.size + 1), 0, none⟩) k1 c' 1 1 (ints ys) (ints [-1]) rfl rfl (by (repeat (first | (with_reducible assumption) | (with_reducible refine Own.alloc ?_ _) | (with_reducible refine Own.drew ?_) | (with_reducible refine Own.set ?_ (by first | (simp; done) | (simp; omega) | omega) _)))) (lit_rd _ #[.int .i64 (-1)] 3 1 _ (by (try simp) <;> (try omega)) rfl (by unfold maxLen; omega)) (ints_one _) (by unfold maxLen; omega) (by omega) (by (try simp) <;> omega) ?_; intro A6 c6 w6 L6 H6 o6 f6 d6; have h6 := HG.out w6 A6 c6 L6 H6 (ys ++ [-1]) (Kept.trans hM (Kept.of_fr (Fr.trans (Fr.of_below (by (repeat (first | (with_reducible assumption) | (with_reducible exact Below.refl _ _) | (with_reducible refine Below.setCell ?_ (by first | (simp; done) | (simp; omega) | omega) _) | (with_reducible refine Below.alloc ?_ (by first | (simp; done) | (simp; omega) | omega) _) | (with_reducible refine Below.drew ?_) | (with_reducible refine Below.drewN ?_ _))) : Below wa.heap.size wa _) lo hi) f6))) (by rw [List.length_append, HK.out, ints_append]; exact o6) (d6.imp id (fun h => ⟨by rw [h.1]; (try simp) <;> omega, Nat.le_of_eq h.2⟩)); simp only [List.length_append, List.length_cons, List.length_nil, HK.out] at h6; obtain ⟨k6, kf6, hq6⟩ := h6; have HQ6 := Lib.hid hq6; clear hq6 d6; have z6 := f6.size; (try simp at z6); replace TQ := Blk.fr (by (repeat (first | (with_reducible assumption) | (with_reducible refine Blk.drew ?_) | (with_reducible refine Blk.other ?_ (by first | (simp; done) | (simp; omega) | omega) _) | (with_reducible refine Blk.alloc ?_ _))) : Blk _ w1.heap.size 24 #[.slice (some ⟨ga, oa, none⟩) 8 c]) f6 hQs; replace TR := Blk.fr (by (repeat (first | (with_reducible assumption) | (with_reducible refine Blk.drew ?_) | (with_reducible refine Blk.other ?_ (by first | (simp; done) | (simp; omega) | omega) _) | (with_reducible refine Blk.alloc ?_ _))) : Blk _ w.heap.size 24 #[.slice none 0 0]) f6 (.inl (by omega)); have hrz := Rdr.fr (g := g) (by (repeat (first | (with_reducible assumption) | (with_reducible refine Rdr.drew ?_) | (with_reducible refine Rdr.set ?_ (by first | (simp; done) | (simp; omega) | omega) _) | (with_reducible refine Rdr.alloc ?_ _))) : Rdr _ g (N + 22 - 2 * 0 + 1 + 1 + 1)) f6 (.inl (by omega)) (by omega); replace hF := Fr.own (by (repeat (first | (with_reducible assumption) | (with_reducible refine Fr.drew ?_) | (with_reducible exact Fr.refl _ _ _) | (with_reducible refine Fr.setOut ?_ (by first | (simp; done) | (simp; omega) | omega) _) | (with_reducible refine Fr.alloc ?_ _))) : Fr g (g + 1) w _) (f6.wide (B' := w.heap.size) (by omega) (Nat.le_refl _)); clear q0 qf hc lQ lR f6; have q0 := TQ.cell 0 rfl; have qf := TQ.free; have lQ := TQ.lt; have lR := TR.lt
                    refine hK.out _ _ ?_ (fun hHeld => ?_)
                    focus (first | exact trivial | ((try dsimp only); (exact Blk.cell (by (repeat (first | (with_reducible assumption) | (with_reducible refine Blk.drew ?_) | (with_reducible refine Blk.other ?_ (by first | (simp; done) | (simp; omega) | omega) _) | (with_reducible refine Blk.alloc ?_ _))) : Blk _ w1.heap.size 24 #[.slice (some ⟨ga, oa, none⟩) 8 c]) 0 rfl))); done
                    clear hK K
                    (try simp only [Act.put, List.setIfInBounds_toArray, List.set_cons_zero, List.set_cons_succ])
                    refine wpAnyH_take (i := 13) (v := ?_) (by rw [List.getElem?_toArray]; rfl) (by kernel_rfl) (by kernel_rfl) (by kernel_rfl) (fun _ _ _ h => h) (Or.inl ⟨by rfl, ?_⟩) (by assumption) ?_
                    rotate_left
                    focus (intro wS hSw; (try dsimp only at hSw); go_simp; (try with_reducible rfl)); done
                    (try simp only [Act.put, List.setIfInBounds_toArray, List.set_cons_zero, List.set_cons_succ])
                    refine wpAnyH_ready (rs := [14]) (by kernel_rfl) (by simp) ?_
                    refine AllReadyH.cons (by rw [List.getElem?_toArray]; rfl) (fun K hK => ?_) AllReadyH.nil
                    go_simp
                    skip
                    refine hK.out _ _ ?_ (fun hHeld => ?_)
                    focus (first | exact trivial | ((try dsimp only); (exact Blk.cell (by (repeat (first | (with_reducible assumption) | (with_reducible refine Blk.drew ?_) | (with_reducible refine Blk.other ?_ (by first | (simp; done) | (simp; omega) | omega) _) | (with_reducible refine Blk.alloc ?_ _))) : Blk _ w1.heap.size 24 #[.slice (some ⟨ga, oa, none⟩) 8 c]) 0 rfl))); done
                    clear hK K
                    (try simp only [Act.put, List.setIfInBounds_toArray, List.set_cons_zero, List.set_cons_succ])
                    refine wpAnyH_done (by kernel_rfl) ?_ _
                    refine NoPanic.normal ?_
                    have TQ7 := TQ.other (p := ⟨ga, oa + 1, none⟩) (by show w1.heap.size ≠ ga; omega) (.slice A6 (k1 + 1) c6)
                    have TR7 := TR.other (p := ⟨ga, oa + 1, none⟩) (by show w.heap.size ≠ ga; omega) (.slice A6 (k1 + 1) c6)
                    clear q0 qf
                    have q0 := TQ7.cell 0 rfl
                    have r0 := TR7.cell 0 rfl
                    have rf := TR7.free
                    have HQ7 := Lib.hid (HQ6.out.setT TR7 (by decide) (by decide) 0 (.slice (some ⟨ga, oa, none⟩) 8 c))
                    have hsn := add_size (zs := [-1]) hy
                    have HSN := Lib.hid hsn
                    clear hy hsn
                    go_wp2
                    refine bodyPost_ret (v := queues (some ⟨ga, oa, none⟩) 8 c) (by simp [results, Try.results41, go_sem, *]) rfl ⟨_, 8, c, yss.set 1 (ys ++ [-1]), rfl, HQ7.out.rows.mono (by omega) (by simp), hle, by rw [HSN.out]; simp; omega, (by (repeat (first | (with_reducible assumption) | (with_reducible refine Rdr.drew ?_) | (with_reducible refine Rdr.set ?_ (by first | (simp; done) | (simp; omega) | omega) _) | (with_reducible refine Rdr.alloc ?_ _))) : Rdr _ g (N + 22 - 2 * 0 + 1 + 1 + 1)).mono (by omega), by (repeat (first | (with_reducible assumption) | (with_reducible refine Fr.drew ?_) | (with_reducible exact Fr.refl _ _ _) | (with_reducible refine Fr.setOut ?_ (by first | (simp; done) | (simp; omega) | omega) _) | (with_reducible refine Fr.alloc ?_ _)))⟩
                  · go_simp
                    skip
                    refine hK.out _ _ ?_ (fun hHeld => ?_)
                    focus (first | exact trivial | ((try dsimp only); (exact Blk.cell (by (repeat (first | (with_reducible assumption) | (with_reducible refine Blk.drew ?_) | (with_reducible refine Blk.other ?_ (by first | (simp; done) | (simp; omega) | omega) _) | (with_reducible refine Blk.alloc ?_ _))) : Blk _ w1.heap.size 24 #[.slice (some ⟨ga, oa, none⟩) 8 c]) 0 rfl))); done
                    clear hK K
                    (try simp only [Act.put, List.setIfInBounds_toArray, List.set_cons_zero, List.set_cons_succ])
                    refine wpAnyH_ready (rs := [5]) (by kernel_rfl) (by simp) ?_
                    refine AllReadyH.cons (by rw [List.getElem?_toArray]; rfl) (fun K hK => ?_) AllReadyH.nil
                    go_simp
                    skip
                    refine hK.out _ _ ?_ (fun hHeld => ?_)
                    focus (first | exact trivial | ((try dsimp only); (exact Blk.cell (by (repeat (first | (with_reducible assumption) | (with_reducible refine Blk.drew ?_) | (with_reducible refine Blk.other ?_ (by first | (simp; done) | (simp; omega) | omega) _) | (with_reducible refine Blk.alloc ?_ _))) : Blk _ w1.heap.size 24 #[.slice (some ⟨ga, oa, none⟩) 8 c]) 0 rfl))); done
                    clear hK K
                    (try simp only [Act.put, List.setIfInBounds_toArray, List.set_cons_zero, List.set_cons_succ])
                    refine wpAnyH_ready (rs := [12]) (by kernel_rfl) (by simp) ?_
                    refine AllReadyH.cons (by rw [List.getElem?_toArray]; rfl) (fun K hK => ?_) AllReadyH.nil
                    refine step_app2 _ rfl (.tmp 39) (.tmp 45) 38 rfl 3 i0 (.int .i64 0) 1 8 Try.underlying38 hi0 hz0 hz1 hz2 rfl (by omega) lo hi (wa.heap.size + 1) ((wa.heap.size + 1) + 1) A' (some ⟨(wa.heap.size + 1), 0, none⟩) k1 c' 1 1 (ints ys) (ints [-1]) rfl rfl (by (repeat (first | (with_reducible assumption) | (with_reducible refine Own.alloc ?_ _) | (with_reducible refine Own.drew ?_) | (with_reducible refine Own.set ?_ (by first | (simp; done) | (simp; omega) | omega) _)))) (lit_rd _ #[.int .i64 (-1)] 3 1 _ (by (try simp) <;> (try omega)) rfl (by unfold maxLen; omega)) (ints_one _) (by unfold maxLen; omega) (by omega) (by (try simp) <;> omega) ?_; intro A6 c6 w6 L6 H6 o6 f6 d6; have h6 := HG.out w6 A6 c6 L6 H6 (ys ++ [-1]) (Kept.trans hM (Kept.of_fr (Fr.trans (Fr.of_below (by (repeat (first | (with_reducible assumption) | (with_reducible exact Below.refl _ _) | (with_reducible refine Below.setCell ?_ (by first | (simp; done) | (simp; omega) | omega) _) | (with_reducible refine Below.alloc ?_ (by first | (simp; done) | (simp; omega) | omega) _) | (with_reducible refine Below.drew ?_) | (with_reducible refine Below.drewN ?_ _))) : Below wa.heap.size wa _) lo hi) f6))) (by rw [List.length_append, HK.out, ints_append]; exact o6) (d6.imp id (fun h => ⟨by rw [h.1]; (try simp) <;> omega, Nat.le_of_eq h.2⟩)); simp only [List.length_append, List.length_cons, List.length_nil, HK.out] at h6; obtain ⟨k6, kf6, hq6⟩ := h6; have HQ6 := Lib.hid hq6; clear hq6 d6; have z6 := f6.size; (try simp at z6); replace TQ := Blk.fr (by (repeat (first | (with_reducible assumption) | (with_reducible refine Blk.drew ?_) | (with_reducible refine Blk.other ?_ (by first | (simp; done) | (simp; omega) | omega) _) | (with_reducible refine Blk.alloc ?_ _))) : Blk _ w1.heap.size 24 #[.slice (some ⟨ga, oa, none⟩) 8 c]) f6 hQs; replace TR := Blk.fr (by (repeat (first | (with_reducible assumption) | (with_reducible refine Blk.drew ?_) | (with_reducible refine Blk.other ?_ (by first | (simp; done) | (simp; omega) | omega) _) | (with_reducible refine Blk.alloc ?_ _))) : Blk _ w.heap.size 24 #[.slice none 0 0]) f6 (.inl (by omega)); have hrz := Rdr.fr (g := g) (by (repeat (first | (with_reducible assumption) | (with_reducible refine Rdr.drew ?_) | (with_reducible refine Rdr.set ?_ (by first | (simp; done) | (simp; omega) | omega) _) | (with_reducible refine Rdr.alloc ?_ _))) : Rdr _ g (N + 22 - 2 * 0 + 1 + 1 + 1)) f6 (.inl (by omega)) (by omega); replace hF := Fr.own (by (repeat (first | (with_reducible assumption) | (with_reducible refine Fr.drew ?_) | (with_reducible exact Fr.refl _ _ _) | (with_reducible refine Fr.setOut ?_ (by first | (simp; done) | (simp; omega) | omega) _) | (with_reducible refine Fr.alloc ?_ _))) : Fr g (g + 1) w _) (f6.wide (B' := w.heap.size) (by omega) (Nat.le_refl _)); clear q0 qf hc lQ lR f6; have q0 := TQ.cell 0 rfl; have qf := TQ.free; have lQ := TQ.lt; have lR := TR.lt
                    refine hK.out _ _ ?_ (fun hHeld => ?_)
                    focus (first | exact trivial | ((try dsimp only); (exact Blk.cell (by (repeat (first | (with_reducible assumption) | (with_reducible refine Blk.drew ?_) | (with_reducible refine Blk.other ?_ (by first | (simp; done) | (simp; omega) | omega) _) | (with_reducible refine Blk.alloc ?_ _))) : Blk _ w1.heap.size 24 #[.slice (some ⟨ga, oa, none⟩) 8 c]) 0 rfl))); done
                    clear hK K
                    (try simp only [Act.put, List.setIfInBounds_toArray, List.set_cons_zero, List.set_cons_succ])
                    refine wpAnyH_take (i := 13) (v := ?_) (by rw [List.getElem?_toArray]; rfl) (by kernel_rfl) (by kernel_rfl) (by kernel_rfl) (fun _ _ _ h => h) (Or.inl ⟨by rfl, ?_⟩) (by assumption) ?_
                    rotate_left
                    focus (intro wS hSw; (try dsimp only at hSw); go_simp; (try with_reducible rfl)); done
                    (try simp only [Act.put, List.setIfInBounds_toArray, List.set_cons_zero, List.set_cons_succ])
                    refine wpAnyH_ready (rs := [14]) (by kernel_rfl) (by simp) ?_
                    refine AllReadyH.cons (by rw [List.getElem?_toArray]; rfl) (fun K hK => ?_) AllReadyH.nil
                    go_simp
                    skip
                    refine hK.out _ _ ?_ (fun hHeld => ?_)
                    focus (first | exact trivial | ((try dsimp only); (exact Blk.cell (by (repeat (first | (with_reducible assumption) | (with_reducible refine Blk.drew ?_) | (with_reducible refine Blk.other ?_ (by first | (simp; done) | (simp; omega) | omega) _) | (with_reducible refine Blk.alloc ?_ _))) : Blk _ w1.heap.size 24 #[.slice (some ⟨ga, oa, none⟩) 8 c]) 0 rfl))); done
                    clear hK K
                    (try simp only [Act.put, List.setIfInBounds_toArray, List.set_cons_zero, List.set_cons_succ])
                    refine wpAnyH_done (by kernel_rfl) ?_ _
                    refine NoPanic.normal ?_
                    have TQ7 := TQ.other (p := ⟨ga, oa + 1, none⟩) (by show w1.heap.size ≠ ga; omega) (.slice A6 (k1 + 1) c6)
                    have TR7 := TR.other (p := ⟨ga, oa + 1, none⟩) (by show w.heap.size ≠ ga; omega) (.slice A6 (k1 + 1) c6)
                    clear q0 qf
                    have q0 := TQ7.cell 0 rfl
                    have r0 := TR7.cell 0 rfl
                    have rf := TR7.free
                    have HQ7 := Lib.hid (HQ6.out.setT TR7 (by decide) (by decide) 0 (.slice (some ⟨ga, oa, none⟩) 8 c))
                    have hsn := add_size (zs := [-1]) hy
                    have HSN := Lib.hid hsn
                    clear hy hsn
                    go_wp2
                    refine bodyPost_ret (v := queues (some ⟨ga, oa, none⟩) 8 c) (by simp [results, Try.results41, go_sem, *]) rfl ⟨_, 8, c, yss.set 1 (ys ++ [-1]), rfl, HQ7.out.rows.mono (by omega) (by simp), hle, by rw [HSN.out]; simp; omega, (by (repeat (first | (with_reducible assumption) | (with_reducible refine Rdr.drew ?_) | (with_reducible refine Rdr.set ?_ (by first | (simp; done) | (simp; omega) | omega) _) | (with_reducible refine Rdr.alloc ?_ _))) : Rdr _ g (N + 22 - 2 * 0 + 1 + 1 + 1)).mono (by omega), by (repeat (first | (with_reducible assumption) | (with_reducible refine Fr.drew ?_) | (with_reducible exact Fr.refl _ _ _) | (with_reducible refine Fr.setOut ?_ (by first | (simp; done) | (simp; omega) | omega) _) | (with_reducible refine Fr.alloc ?_ _)))⟩
            · skip
              refine wpAnyH_ready (rs := [5, 6]) (by kernel_rfl) (by simp) ?_
              refine AllReadyH.cons (by rw [List.getElem?_toArray]; rfl) (fun K hK => ?_) (AllReadyH.cons (by rw [List.getElem?_toArray]; rfl) (fun K hK => ?_) AllReadyH.nil)
              · go_simp
                skip
                refine hK.out _ _ ?_ (fun hHeld => ?_)
                focus (first | exact trivial | ((try dsimp only); (exact Blk.cell (by (repeat (first | (with_reducible assumption) | (with_reducible refine Blk.drew ?_) | (with_reducible refine Blk.other ?_ (by first | (simp; done) | (simp; omega) | omega) _) | (with_reducible refine Blk.alloc ?_ _))) : Blk _ w1.heap.size 24 #[.slice (some ⟨ga, oa, none⟩) 8 c]) 0 rfl))); done
                clear hK K
                (try simp only [Act.put, List.setIfInBounds_toArray, List.set_cons_zero, List.set_cons_succ])
                refine wpAnyH_ready (rs := [6]) (by kernel_rfl) (by simp) ?_
                refine AllReadyH.cons (by rw [List.getElem?_toArray]; rfl) (fun K hK => ?_) AllReadyH.nil
                go_simp
                skip
                refine hK.out _ _ ?_ (fun hHeld => ?_)
                focus (first | exact trivial | ((try dsimp only); (exact Blk.cell (by (repeat (first | (with_reducible assumption) | (with_reducible refine Blk.drew ?_) | (with_reducible refine Blk.other ?_ (by first | (simp; done) | (simp; omega) | omega) _) | (with_reducible refine Blk.alloc ?_ _))) : Blk _ w1.heap.size 24 #[.slice (some ⟨ga, oa, none⟩) 8 c]) 0 rfl))); done
                clear hK K
                (try simp only [Act.put, List.setIfInBounds_toArray, List.set_cons_zero, List.set_cons_succ])
                refine wpAnyH_take (i := 9) (v := ?_) (by rw [List.getElem?_toArray]; rfl) (by kernel_rfl) (by kernel_rfl) (by kernel_rfl) (fun _ _ _ h => h) (Or.inl ⟨by rfl, ?_⟩) (by assumption) ?_
                rotate_left
                focus (intro wS hSw; (try dsimp only at hSw); go_simp; (try with_reducible rfl)); done
                (try simp only [Act.put, List.setIfInBounds_toArray, List.set_cons_zero, List.set_cons_succ])
                refine wpAnyH_ready (rs := [10]) (by kernel_rfl) (by simp) ?_
                refine AllReadyH.cons (by rw [List.getElem?_toArray]; rfl) (fun K hK => ?_) AllReadyH.nil
                go_simp
                skip
                refine hK.out _ _ ?_ (fun hHeld => ?_)
                focus (first | exact trivial | ((try dsimp only); (exact Blk.cell (by (repeat (first | (with_reducible assumption) | (with_reducible refine Blk.drew ?_) | (with_reducible refine Blk.other ?_ (by first | (simp; done) | (simp; omega) | omega) _) | (with_reducible refine Blk.alloc ?_ _))) : Blk _ w1.heap.size 24 #[.slice (some ⟨ga, oa, none⟩) 8 c]) 0 rfl))); done
                clear hK K
                (try simp only [Act.put, List.setIfInBounds_toArray, List.set_cons_zero, List.set_cons_succ])
                refine wpAnyH_ready (rs := [11]) (by kernel_rfl) (by simp) ?_
                refine AllReadyH.cons (by rw [List.getElem?_toArray]; rfl) (fun K hK => ?_) AllReadyH.nil
                go_simp
                skip
                refine hK.out _ _ ?_ (fun hHeld => ?_)
                focus (first | exact trivial | ((try dsimp only); (exact Blk.cell (by (repeat (first | (with_reducible assumption) | (with_reducible refine Blk.drew ?_) | (with_reducible refine Blk.other ?_ (by first | (simp; done) | (simp; omega) | omega) _) | (with_reducible refine Blk.alloc ?_ _))) : Blk _ w1.heap.size 24 #[.slice (some ⟨ga, oa, none⟩) 8 c]) 0 rfl))); done
                clear hK K
                (try simp only [Act.put, List.setIfInBounds_toArray, List.set_cons_zero, List.set_cons_succ])
                refine wpAnyH_ready (rs := [12]) (by kernel_rfl) (by simp) ?_
                refine AllReadyH.cons (by rw [List.getElem?_toArray]; rfl) (fun K hK => ?_) AllReadyH.nil
                refine step_app2 _ rfl (.tmp 39) (.tmp 45) 38 rfl 3 i0 (.int .i64 0) 1 8 Try.underlying38 hi0 hz0 hz1 hz2 rfl (by omega) lo hi (wa.heap.size + 1) ((wa.heap.size + 1) + 1) A' (some ⟨(wa.heap.size + 1), 0, none⟩) k1 c' 1 1 (ints ys) (ints [16]) rfl rfl (by (repeat (first | (with_reducible assumption) | (with_reducible refine Own.alloc ?_ _) | (with_reducible refine Own.drew ?_) | (with_reducible refine Own.set ?_ (by first | (simp; done) | (simp; omega) | omega) _)))) (lit_rd _ #[.int .i64 (16)] 3 1 _ (by (try simp) <;> (try omega)) rfl (by unfold maxLen; omega)) (ints_one _) (by unfold maxLen; omega) (by omega) (by (try simp) <;> omega) ?_; intro A6 c6 w6 L6 H6 o6 f6 d6; have h6 := HG.out w6 A6 c6 L6 H6 (ys ++ [16]) (Kept.trans hM (Kept.of_fr (Fr.trans (Fr.of_below (by (repeat (first | (with_reducible assumption) | (with_reducible exact Below.refl _ _) | (with_reducible refine Below.setCell ?_ (by first | (simp; done) | (simp; omega) | omega) _) | (with_reducible refine Below.alloc ?_ (by first | (simp; done) | (simp; omega) | omega) _) | (with_reducible refine Below.drew ?_) | (with_reducible refine Below.drewN ?_ _))) : Below wa.heap.size wa _) lo hi) f6))) (by rw [List.length_append, HK.out, ints_append]; exact o6) (d6.imp id (fun h => ⟨by rw [h.1]; (try simp) <;> omega, Nat.le_of_eq h.2⟩)); simp only [List.length_append, List.length_cons, List.length_nil, HK.out] at h6; obtain ⟨k6, kf6, hq6⟩ := h6; have HQ6 := Lib.hid hq6; clear hq6 d6; have z6 := f6.size; (try simp at z6); replace TQ := Blk.fr (by (repeat (first | (with_reducible assumption) | (with_reducible refine Blk.drew ?_) | (with_reducible refine Blk.other ?_ (by first | (simp; done) | (simp; omega) | omega) _) | (with_reducible refine Blk.alloc ?_ _))) : Blk _ w1.heap.size 24 #[.slice (some ⟨ga, oa, none⟩) 8 c]) f6 hQs; replace TR := Blk.fr (by (repeat (first | (with_reducible assumption) | (with_reducible refine Blk.drew ?_) | (with_reducible refine Blk.other ?_ (by first | (simp; done) | (simp; omega) | omega) _) | (with_reducible refine Blk.alloc ?_ _))) : Blk _ w.heap.size 24 #[.slice none 0 0]) f6 (.inl (by omega)); have hrz := Rdr.fr (g := g) (by (repeat (first | (with_reducible assumption) | (with_reducible refine Rdr.drew ?_) | (with_reducible refine Rdr.set ?_ (by first | (simp; done) | (simp; omega) | omega) _) | (with_reducible refine Rdr.alloc ?_ _))) : Rdr _ g (N + 22 - 2 * 0 + 1 + 1 + 1)) f6 (.inl (by omega)) (by omega); replace hF := Fr.own (by (repeat (first | (with_reducible assumption) | (with_reducible refine Fr.drew ?_) | (with_reducible exact Fr.refl _ _ _) | (with_reducible refine Fr.setOut ?_ (by first | (simp; done) | (simp; omega) | omega) _) | (with_reducible refine Fr.alloc ?_ _))) : Fr g (g + 1) w _) (f6.wide (B' := w.heap.size) (by omega) (Nat.le_refl _)); clear q0 qf hc lQ lR f6; have q0 := TQ.cell 0 rfl; have qf := TQ.free; have lQ := TQ.lt; have lR := TR.lt
                refine hK.out _ _ ?_ (fun hHeld => ?_)
                focus (first | exact trivial | ((try dsimp only); (exact Blk.cell (by (repeat (first | (with_reducible assumption) | (with_reducible refine Blk.drew ?_) | (with_reducible refine Blk.other ?_ (by first | (simp; done) | (simp; omega) | omega) _) | (with_reducible refine Blk.alloc ?_ _))) : Blk _ w1.heap.size 24 #[.slice (some ⟨ga, oa, none⟩) 8 c]) 0 rfl))); done
                clear hK K
                (try simp only [Act.put, List.setIfInBounds_toArray, List.set_cons_zero, List.set_cons_succ])
                refine wpAnyH_take (i := 13) (v := ?_) (by rw [List.getElem?_toArray]; rfl) (by kernel_rfl) (by kernel_rfl) (by kernel_rfl) (fun _ _ _ h => h) (Or.inl ⟨by rfl, ?_⟩) (by assumption) ?_
                rotate_left
                focus (intro wS hSw; (try dsimp only at hSw); go_simp; (try with_reducible rfl)); done
                (try simp only [Act.put, List.setIfInBounds_toArray, List.set_cons_zero, List.set_cons_succ])
                refine wpAnyH_ready (rs := [14]) (by kernel_rfl) (by simp) ?_
                refine AllReadyH.cons (by rw [List.getElem?_toArray]; rfl) (fun K hK => ?_) AllReadyH.nil
                go_simp
                skip
                refine hK.out _ _ ?_ (fun hHeld => ?_)
                focus (first | exact trivial | ((try dsimp only); (exact Blk.cell (by (repeat (first | (with_reducible assumption) | (with_reducible refine Blk.drew ?_) | (with_reducible refine Blk.other ?_ (by first | (simp; done) | (simp; omega) | omega) _) | (with_reducible refine Blk.alloc ?_ _))) : Blk _ w1.heap.size 24 #[.slice (some ⟨ga, oa, none⟩) 8 c]) 0 rfl))); done
                clear hK K
                (try simp only [Act.put, List.setIfInBounds_toArray, List.set_cons_zero, List.set_cons_succ])
                refine wpAnyH_done (by kernel_rfl) ?_ _
                refine NoPanic.normal ?_
                have TQ7 := TQ.other (p := ⟨ga, oa + 1, none⟩) (by show w1.heap.size ≠ ga; omega) (.slice A6 (k1 + 1) c6)
                have TR7 := TR.other (p := ⟨ga, oa + 1, none⟩) (by show w.heap.size ≠ ga; omega) (.slice A6 (k1 + 1) c6)
                clear q0 qf
                have q0 := TQ7.cell 0 rfl
                have r0 := TR7.cell 0 rfl
                have rf := TR7.free
                have HQ7 := Lib.hid (HQ6.out.setT TR7 (by decide) (by decide) 0 (.slice (some ⟨ga, oa, none⟩) 8 c))
                have hsn := add_size (zs := [16]) hy
                have HSN := Lib.hid hsn
                clear hy hsn
                go_wp2
                refine bodyPost_ret (v := queues (some ⟨ga, oa, none⟩) 8 c) (by simp [results, Try.results41, go_sem, *]) rfl ⟨_, 8, c, yss.set 1 (ys ++ [16]), rfl, HQ7.out.rows.mono (by omega) (by simp), hle, by rw [HSN.out]; simp; omega, (by (repeat (first | (with_reducible assumption) | (with_reducible refine Rdr.drew ?_) | (with_reducible refine Rdr.set ?_ (by first | (simp; done) | (simp; omega) | omega) _) | (with_reducible refine Rdr.alloc ?_ _))) : Rdr _ g (N + 22 - 2 * 0 + 1 + 1 + 1)).mono (by omega), by (repeat (first | (with_reducible assumption) | (with_reducible refine Fr.drew ?_) | (with_reducible exact Fr.refl _ _ _) | (with_reducible refine Fr.setOut ?_ (by first | (simp; done) | (simp; omega) | omega) _) | (with_reducible refine Fr.alloc ?_ _)))⟩
              · go_simp
                skip
                refine hK.out _ _ ?_ (fun hHeld => ?_)
                focus (first | exact trivial | ((try dsimp only); (exact Blk.cell (by (repeat (first | (with_reducible assumption) | (with_reducible refine Blk.drew ?_) | (with_reducible refine Blk.other ?_ (by first | (simp; done) | (simp; omega) | omega) _) | (with_reducible refine Blk.alloc ?_ _))) : Blk _ w1.heap.size 24 #[.slice (some ⟨ga, oa, none⟩) 8 c]) 0 rfl))); done
                clear hK K
                (try simp only [Act.put, List.setIfInBounds_toArray, List.set_cons_zero, List.set_cons_succ])
                refine wpAnyH_take (i := 9) (v := ?_) (by rw [List.getElem?_toArray]; rfl) (by kernel_rfl) (by kernel_rfl) (by kernel_rfl) (fun _ _ _ h => h) (Or.inl ⟨by rfl, ?_⟩) (by assumption) ?_
                rotate_left
                focus (intro wS hSw; (try dsimp only at hSw); go_simp; (try with_reducible rfl)); done
                (try simp only [Act.put, List.setIfInBounds_toArray, List.set_cons_zero, List.set_cons_succ])
                refine wpAnyH_ready (rs := [5, 10]) (by kernel_rfl) (by simp) ?_
                refine AllReadyH.cons (by rw [List.getElem?_toArray]; rfl) (fun K hK => ?_) (AllReadyH.cons (by rw [List.getElem?_toArray]; rfl) (fun K hK => ?_) AllReadyH.nil)
                · go_simp
                  skip
                  refine hK.out _ _ ?_ (fun hHeld => ?_)
                  focus (first | exact trivial | ((try dsimp only); (exact Blk.cell (by (repeat (first | (with_reducible assumption) | (with_reducible refine Blk.drew ?_) | (with_reducible refine Blk.other ?_ (by first | (simp; done) | (simp; omega) | omega) _) | (with_reducible refine Blk.alloc ?_ _))) : Blk _ w1.heap.size 24 #[.slice (some ⟨ga, oa, none⟩) 8 c]) 0 rfl))); done
                  clear hK K
                  (try simp only [Act.put, List.setIfInBounds_toArray, List.set_cons_zero, List.set_cons_succ])
                  refine wpAnyH_ready (rs := [10]) (by kernel_rfl) (by simp) ?_
                  refine AllReadyH.cons (by rw [List.getElem?_toArray]; rfl) (fun K hK => ?_) AllReadyH.nil
                  go_simp
                  skip
                  refine hK.out _ _ ?_ (fun hHeld => ?_)
                  focus (first | exact trivial | ((try dsimp only); (exact Blk.cell (by (repeat (first | (with_reducible assumption) | (with_reducible refine Blk.drew ?_) | (with_reducible refine Blk.other ?_ (by first | (simp; done) | (simp; omega) | omega) _) | (with_reducible refine Blk.alloc ?_ _))) : Blk _ w1.heap.size 24 #[.slice (some ⟨ga, oa, none⟩) 8 c]) 0 rfl))); done
                  clear hK K
                  (try simp only [Act.put, List.setIfInBounds_toArray, List.set_cons_zero, List.set_cons_succ])
                  refine wpAnyH_ready (rs := [11]) (by kernel_rfl) (by simp) ?_
                  refine AllReadyH.cons (by rw [List.getElem?_toArray]; rfl) (fun K hK => ?_) AllReadyH.nil
                  go_simp
                  skip
                  refine hK.out _ _ ?_ (fun hHeld => ?_)
                  focus (first | exact trivial | ((try dsimp only); (exact Blk.cell (by (repeat (first | (with_reducible assumption) | (with_reducible refine Blk.drew ?_) | (with_reducible refine Blk.other ?_ (by first | (simp; done) | (simp; omega) | omega) _) | (with_reducible refine Blk.alloc ?_ _))) : Blk _ w1.heap.size 24 #[.slice (some ⟨ga, oa, none⟩) 8 c]) 0 rfl))); done
                  clear hK K
                  (try simp only [Act.put, List.setIfInBounds_toArray, List.set_cons_zero, List.set_cons_succ])
                  refine wpAnyH_ready (rs := [12]) (by kernel_rfl) (by simp) ?_
                  refine AllReadyH.cons (by rw [List.getElem?_toArray]; rfl) (fun K hK => ?_) AllReadyH.nil
                  refine step_app2 _ rfl (.tmp 39) (.tmp 45) 38 rfl 3 i0 (.int .i64 0) 1 8 Try.underlying38 hi0 hz0 hz1 hz2 rfl (by omega) lo hi (wa.heap.size + 1) ((wa.heap.size + 1) + 1) A' (some ⟨(wa.heap.size + 1), 0, none⟩) k1 c' 1 1 (ints ys) (ints [16]) rfl rfl (by (repeat (first | (with_reducible assumption) | (with_reducible refine Own.alloc ?_ _) | (with_reducible refine Own.drew ?_) | (with_reducible refine Own.set ?_ (by first | (simp; done) | (simp; omega) | omega) _)))) (lit_rd _ #[.int .i64 (16)] 3 1 _ (by (try simp) <;> (try omega)) rfl (by unfold maxLen; omega)) (ints_one _) (by unfold maxLen; omega) (by omega) (by (try simp) <;> omega) ?_; intro A6 c6 w6 L6 H6 o6 f6 d6; have h6 := HG.out w6 A6 c6 L6 H6 (ys ++ [16]) (Kept.trans hM (Kept.of_fr (Fr.trans (Fr.of_below (by (repeat (first | (with_reducible assumption) | (with_reducible exact Below.refl _ _) | (with_reducible refine Below.setCell ?_ (by first | (simp; done) | (simp; omega) | omega) _) | (with_reducible refine Below.alloc ?_ (by first | (simp; done) | (simp; omega) | omega) _) | (with_reducible refine Below.drew ?_) | (with_reducible refine Below.drewN ?_ _))) : Below wa.heap.size wa _) lo hi) f6))) (by rw [List.length_append, HK.out, ints_append]; exact o6) (d6.imp id (fun h => ⟨by rw [h.1]; (try simp) <;> omega, Nat.le_of_eq h.2⟩)); simp only [List.length_append, List.length_cons, List.length_nil, HK.out] at h6; obtain ⟨k6, kf6, hq6⟩ := h6; have HQ6 := Lib.hid hq6; clear hq6 d6; have z6 := f6.size; (try simp at z6); replace TQ := Blk.fr (by (repeat (first | (with_reducible assumption) | (with_reducible refine Blk.drew ?_) | (with_reducible refine Blk.other ?_ (by first | (simp; done) | (simp; omega) | omega) _) | (with_reducible refine Blk.alloc ?_ _))) : Blk _ w1.heap.size 24 #[.slice (some ⟨ga, oa, none⟩) 8 c]) f6 hQs; replace TR := Blk.fr (by (repeat (first | (with_reducible assumption) | (with_reducible refine Blk.drew ?_) | (with_reducible refine Blk.other ?_ (by first | (simp; done) | (simp; omega) | omega) _) | (with_reducible refine Blk.alloc ?_ _))) : Blk _ w.heap.size 24 #[.slice none 0 0]) f6 (.inl (by omega)); have hrz := Rdr.fr (g := g) (by (repeat (first | (with_reducible assumption) | (with_reducible refine Rdr.drew ?_) | (with_reducible refine Rdr.set ?_ (by first | (simp; done) | (simp; omega) | omega) _) | (with_reducible refine Rdr.alloc ?_ _))) : Rdr _ g (N + 22 - 2 * 0 + 1 + 1 + 1)) f6 (.inl (by omega)) (by omega); replace hF := Fr.own (by (repeat (first | (with_reducible assumption) | (with_reducible refine Fr.drew ?_) | (with_reducible exact Fr.refl _ _ _) | (with_reducible refine Fr.setOut ?_ (by first | (simp; done) | (simp; omega) | omega) _) | (with_reducible refine Fr.alloc ?_ _))) : Fr g (g + 1) w _) (f6.wide (B' := w.heap.size) (by omega) (Nat.le_refl _)); clear q0 qf hc lQ lR f6; have q0 := TQ.cell 0 rfl; have qf := TQ.free; have lQ := TQ.lt; have lR := TR.lt
                  refine hK.out _ _ ?_ (fun hHeld => ?_)
                  focus (first | exact trivial | ((try dsimp only); (exact Blk.cell (by (repeat (first | (with_reducible assumption) | (with_reducible refine Blk.drew ?_) | (with_reducible refine Blk.other ?_ (by first | (simp; done) | (simp; omega) | omega) _) | (with_reducible refine Blk.alloc ?_ _))) : Blk _ w1.heap.size 24 #[.slice (some ⟨ga, oa, none⟩) 8 c]) 0 rfl))); done
                  clear hK K
                  (try simp only [Act.put, List.setIfInBounds_toArray, List.set_cons_zero, List.set_cons_succ])
                  refine wpAnyH_take (i := 13) (v := ?_) (by rw [List.getElem?_toArray]; rfl) (by kernel_rfl) (by kernel_rfl) (by kernel_rfl) (fun _ _ _ h => h) (Or.inl ⟨by rfl, ?_⟩) (by assumption) ?_
                  rotate_left
                  focus (intro wS hSw; (try dsimp only at hSw); go_simp; (try with_reducible rfl)); done
                  (try simp only [Act.put, List.setIfInBounds_toArray, List.set_cons_zero, List.set_cons_succ])
                  refine wpAnyH_ready (rs := [14]) (by kernel_rfl) (by simp) ?_
                  refine AllReadyH.cons (by rw [List.getElem?_toArray]; rfl) (fun K hK => ?_) AllReadyH.nil
                  go_simp
                  skip
                  refine hK.out _ _ ?_ (fun hHeld => ?_)
                  focus (first | exact trivial | ((try dsimp only); (exact Blk.cell (by (repeat (first | (with_reducible assumption) | (with_reducible refine Blk.drew ?_) | (with_reducible refine Blk.other ?_ (by first | (simp; done) | (simp; omega) | omega) _) | (with_reducible refine Blk.alloc ?_ _))) : Blk _ w1.heap.size 24 #[.slice (some ⟨ga, oa, none⟩) 8 c]) 0 rfl))); done
                  clear hK K
                  (try simp only [Act.put, List.setIfInBounds_toArray, List.set_cons_zero, List.set_cons_succ])
                  refine wpAnyH_done (by kernel_rfl) ?_ _
                  refine NoPanic.normal ?_
                  have TQ7 := TQ.other (p := ⟨ga, oa + 1, none⟩) (by show w1.heap.size ≠ ga; omega) (.slice A6 (k1 + 1) c6)
                  have TR7 := TR.other (p := ⟨ga, oa + 1, none⟩) (by show w.heap.size ≠ ga; omega) (.slice A6 (k1 + 1) c6)
                  clear q0 qf
                  have q0 := TQ7.cell 0 rfl
                  have r0 := TR7.cell 0 rfl
                  have rf := TR7.free
                  have HQ7 := Lib.hid (HQ6.out.setT TR7 (by decide) (by decide) 0 (.slice (some ⟨ga, oa, none⟩) 8 c))
                  have hsn := add_size (zs := [16]) hy
                  have HSN := Lib.hid hsn
                  clear hy hsn
                  go_wp2
                  refine bodyPost_ret (v := queues (some ⟨ga, oa, none⟩) 8 c) (by simp [results, Try.results41, go_sem, *]) rfl ⟨_, 8, c, yss.set 1 (ys ++ [16]), rfl, HQ7.out.rows.mono (by omega) (by simp), hle, by rw [HSN.out]; simp; omega, (by (repeat (first | (with_reducible assumption) | (with_reducible refine Rdr.drew ?_) | (with_reducible refine Rdr.set ?_ (by first | (simp; done) | (simp; omega) | omega) _) | (with_reducible refine Rdr.alloc ?_ _))) : Rdr _ g (N + 22 - 2 * 0 + 1 + 1 + 1)).mono (by omega), by (repeat (first | (with_reducible assumption) | (with_reducible refine Fr.drew ?_) | (with_reducible exact Fr.refl _ _ _) | (with_reducible refine Fr.setOut ?_ (by first | (simp; done) | (simp; omega) | omega) _) | (with_reducible refine Fr.alloc ?_ _)))⟩
                · go_simp
                  skip
                  refine hK.out _ _ ?_ (fun hHeld => ?_)
                  focus (first | exact trivial | ((try dsimp only); (exact Blk.cell (by (repeat (first | (with_reducible assumption) | (with_reducible refine Blk.drew ?_) | (with_reducible refine Blk.other ?_ (by first | (simp; done) | (simp; omega) | omega) _) | (with_reducible refine Blk.alloc ?_ _))) : Blk _ w1.heap.size 24 #[.slice (some ⟨ga, oa, none⟩) 8 c]) 0 rfl))); done
                  clear hK K
                  (try simp only [Act.put, List.setIfInBounds_toArray, List.set_cons_zero, List.set_cons_succ])
                  refine wpAnyH_ready (rs := [5, 11]) (by kernel_rfl) (by simp) ?_
                  refine AllReadyH.cons (by rw [List.getElem?_toArray]; rfl) (fun K hK => ?_) (AllReadyH.cons (by rw [List.getElem?_toArray]; rfl) (fun K hK => ?_) AllReadyH.nil)
                  · go_simp
                    skip
                    refine hK.out _ _ ?_ (fun hHeld => ?_)
                    focus (first | exact trivial | ((try dsimp only); (exact Blk.cell (by (repeat (first | (with_reducible assumption) | (with_reducible refine Blk.drew ?_) | (with_reducible refine Blk.other ?_ (by first | (simp; done) | (simp; omega) | omega) _) | (with_reducible refine Blk.alloc ?_ _))) : Blk _ w1.heap.size 24 #[.slice (some ⟨ga, oa, none⟩) 8 c]) 0 rfl))); done
                    clear hK K
                    (try simp only [Act.put, List.setIfInBounds_toArray, List.set_cons_zero, List.set_cons_succ])
                    refine wpAnyH_ready (rs := [11]) (by kernel_rfl) (by simp) ?_
                    refine AllReadyH.cons (by rw [List.getElem?_toArray]; rfl) (fun K hK => ?_) AllReadyH.nil
                    go_simp
                    skip
                    refine hK.out _ _ ?_ (fun hHeld => ?_)
                    focus (first | exact trivial | ((try dsimp only); (exact Blk.cell (by (repeat (first | (with_reducible assumption) | (with_reducible refine Blk.drew ?_) | (with_reducible refine Blk.other ?_ (by first | (simp; done) | (simp; omega) | omega) _) | (with_reducible refine Blk.alloc ?_ _))) : Blk _ w1.heap.size 24 #[.slice (some ⟨ga, oa, none⟩) 8 c]) 0 rfl))); done
                    clear hK K
                    (try simp only [Act.put, List.setIfInBounds_toArray, List.set_cons_zero, List.set_cons_succ])
                    refine wpAnyH_ready (rs := [12]) (by kernel_rfl) (by simp) ?_
                    refine AllReadyH.cons (by rw [List.getElem?_toArray]; rfl) (fun K hK => ?_) AllReadyH.nil
                    refine step_app2 _ rfl (.tmp 39) (.tmp 45) 38 rfl 3 i0 (.int .i64 0) 1 8 Try.underlying38 hi0 hz0 hz1 hz2 rfl (by omega) lo hi (wa.heap.size + 1) ((wa.heap.size + 1) + 1) A' (some ⟨(wa.heap.size + 1), 0, none⟩) k1 c' 1 1 (ints ys) (ints [16]) rfl rfl (by (repeat (first | (with_reducible assumption) | (with_reducible refine Own.alloc ?_ _) | (with_reducible refine Own.drew ?_) | (with_reducible refine Own.set ?_ (by first | (simp; done) | (simp; omega) | omega) _)))) (lit_rd _ #[.int .i64 (16)] 3 1 _ (by (try simp) <;> (try omega)) rfl (by unfold maxLen; omega)) (ints_one _) (by unfold maxLen; omega) (by omega) (by (try simp) <;> omega) ?_; intro A6 c6 w6 L6 H6 o6 f6 d6; have h6 := HG.out w6 A6 c6 L6 H6 (ys ++ [16]) (Kept.trans hM (Kept.of_fr (Fr.trans (Fr.of_below (by (repeat (first | (with_reducible assumption) | (with_reducible exact Below.refl _ _) | (with_reducible refine Below.setCell ?_ (by first | (simp; done) | (simp; omega) | omega) _) | (with_reducible refine Below.alloc ?_ (by first | (simp; done) | (simp; omega) | omega) _) | (with_reducible refine Below.drew ?_) | (with_reducible refine Below.drewN ?_ _))) : Below wa.heap.size wa _) lo hi) f6))) (by rw [List.length_append, HK.out, ints_append]; exact o6) (d6.imp id (fun h => ⟨by rw [h.1]; (try simp) <;> omega, Nat.le_of_eq h.2⟩)); simp only [List.length_append, List.length_cons, List.length_nil, HK.out] at h6; obtain ⟨k6, kf6, hq6⟩ := h6; have HQ6 := Lib.hid hq6; clear hq6 d6; have z6 := f6.size; (try simp at z6); replace TQ := Blk.fr (by (repeat (first | (with_reducible assumption) | (with_reducible refine Blk.drew ?_) | (with_reducible refine Blk.other ?_ (by first | (simp; done) | (simp; omega) | omega) _) | (with_reducible refine Blk.alloc ?_ _))) : Blk _ w1.heap.size 24 #[.slice (some ⟨ga, oa, none⟩) 8 c]) f6 hQs; replace TR := Blk.fr (by (repeat (first | (with_reducible assumption) | (with_reducible refine Blk.drew ?_) | (with_reducible refine Blk.other ?_ (by first | (simp; done) | (simp; omega) | omega) _) | (with_reducible refine Blk.alloc ?_ _))) : Blk _ w.heap.size 24 #[.slice none 0 0]) f6 (.inl (by omega)); have hrz := Rdr.fr (g := g) (by (repeat (first | (with_reducible assumption) | (with_reducible refine Rdr.drew ?_) | (with_reducible refine Rdr.set ?_ (by first | (simp; done) | (simp; omega) | omega) _) | (with_reducible refine Rdr.alloc ?_ _))) : Rdr _ g (N + 22 - 2 * 0 + 1 + 1 + 1)) f6 (.inl (by omega)) (by omega); replace hF := Fr.own (by (repeat (first | (with_reducible assumption) | (with_reducible refine Fr.drew ?_) | (with_reducible exact Fr.refl _ _ _) | (with_reducible refine Fr.setOut ?_ (by first | (simp; done) | (simp; omega) | omega) _) | (with_reducible refine Fr.alloc ?_ _))) : Fr g (g + 1) w _) (f6.wide (B' := w.heap.size) (by omega) (Nat.le_refl _)); clear q0 qf hc lQ lR f6; have q0 := TQ.cell 0 rfl; have qf := TQ.free; have lQ := TQ.lt; have lR := TR.lt
                    refine hK.out _ _ ?_ (fun hHeld => ?_)
                    focus (first | exact trivial | ((try dsimp only); (exact Blk.cell (by (repeat (first | (with_reducible assumption) | (with_reducible refine Blk.drew ?_) | (with_reducible refine Blk.other ?_ (by first | (simp; done) | (simp; omega) | omega) _) | (with_reducible refine Blk.alloc ?_ _))) : Blk _ w1.heap.size 24 #[.slice (some ⟨ga, oa, none⟩) 8 c]) 0 rfl))); done
                    clear hK K
                    (try simp only [Act.put, List.setIfInBounds_toArray, List.set_cons_zero, List.set_cons_succ])
                    refine wpAnyH_take (i := 13) (v := ?_) (by rw [List.getElem?_toArray]; rfl) (by kernel_rfl) (by kernel_rfl) (by kernel_rfl) (fun _ _ _ h => h) (Or.inl ⟨by rfl, ?_⟩) (by assumption) ?_
                    rotate_left
                    focus (intro wS hSw; (try dsimp only at hSw); go_simp; (try with_reducible rfl)); done
                    (try simp only [Act.put, List.setIfInBounds_toArray, List.set_cons_zero, List.set_cons_succ])
                    refine wpAnyH_ready (rs := [14]) (by kernel_rfl) (by simp) ?_
                    refine AllReadyH.cons (by rw [List.getElem?_toArray]; rfl) (fun K hK => ?_) AllReadyH.nil
                    go_simp
                    skip
                    refine hK.out _ _ ?_ (fun hHeld => ?_)
                    focus (first | exact trivial | ((try dsimp only); (exact Blk.cell (by (repeat (first | (with_reducible assumption) | (with_reducible refine Blk.drew ?_) | (with_reducible refine Blk.other ?_ (by first | (simp; done) | (simp; omega) | omega) _) | (with_reducible refine Blk.alloc ?_ _))) : Blk _ w1.heap.size 24 #[.slice (some ⟨ga, oa, none⟩) 8 c]) 0 rfl))); done
                    clear hK K
                    (try simp only [Act.put, List.setIfInBounds_toArray, List.set_cons_zero, List.set_cons_succ])
                    refine wpAnyH_done (by kernel_rfl) ?_ _
                    refine NoPanic.normal ?_
                    have TQ7 := TQ.other (p := ⟨ga, oa + 1, none⟩) (by show w1.heap.size ≠ ga; omega) (.slice A6 (k1 + 1) c6)
                    have TR7 := TR.other (p := ⟨ga, oa + 1, none⟩) (by show w.heap.size ≠ ga; omega) (.slice A6 (k1 + 1) c6)
                    clear q0 qf
                    have q0 := TQ7.cell 0 rfl
                    have r0 := TR7.cell 0 rfl
                    have rf := TR7.free
                    have HQ7 := Lib.hid (HQ6.out.setT TR7 (by decide) (by decide) 0 (.slice (some ⟨ga, oa, none⟩) 8 c))
                    have hsn := add_size (zs := [16]) hy
                    have HSN := Lib.hid hsn
                    clear hy hsn
                    go_wp2
                    refine bodyPost_ret (v := queues (some ⟨ga, oa, none⟩) 8 c) (by simp [results, Try.results41, go_sem, *]) rfl ⟨_, 8, c, yss.set 1 (ys ++ [16]), rfl, HQ7.out.rows.mono (by omega) (by simp), hle, by rw [HSN.out]; simp; omega, (by (repeat (first | (with_reducible assumption) | (with_reducible refine Rdr.drew ?_) | (with_reducible refine Rdr.set ?_ (by first | (simp; done) | (simp; omega) | omega) _) | (with_reducible refine Rdr.alloc ?_ _))) : Rdr _ g (N + 22 - 2 * 0 + 1 + 1 + 1)).mono (by omega), by (repeat (first | (with_reducible assumption) | (with_reducible refine Fr.drew ?_) | (with_reducible exact Fr.refl _ _ _) | (with_reducible refine Fr.setOut ?_ (by first | (simp; done) | (simp; omega) | omega) _) | (with_reducible refine Fr.alloc ?_ _)))⟩
                  · go_simp
                    skip
                    refine hK.out _ _ ?_ (fun hHeld => ?_)
                    focus (first | exact trivial | ((try dsimp only); (exact Blk.cell (by (repeat (first | (with_reducible assumption) | (with_reducible refine Blk.drew ?_) | (with_reducible refine Blk.other ?_ (by first | (simp; done) | (simp; omega) | omega) _) | (with_reducible refine Blk.alloc ?_ _))) : Blk _ w1.heap.size 24 #[.slice (some ⟨ga, oa, none⟩) 8 c]) 0 rfl))); done
                    clear hK K
                    (try simp only [Act.put, List.setIfInBounds_toArray, List.set_cons_zero, List.set_cons_succ])
                    refine wpAnyH_ready (rs := [5]) (by kernel_rfl) (by simp) ?_
                    refine AllReadyH.cons (by rw [List.getElem?_toArray]; rfl) (fun K hK => ?_) AllReadyH.nil
                    go_simp
                    skip
                    refine hK.out _ _ ?_ (fun hHeld => ?_)
                    focus (first | exact trivial | ((try dsimp only); (exact Blk.cell (by (repeat (first | (with_reducible assumption) | (with_reducible refine Blk.drew ?_) | (with_reducible refine Blk.other ?_ (by first | (simp; done) | (simp; omega) | omega) _) | (with_reducible refine Blk.alloc ?_ _))) : Blk _ w1.heap.size 24 #[.slice (some ⟨ga, oa, none⟩) 8 c]) 0 rfl))); done
                    clear hK K
                    (try simp only [Act.put, List.setIfInBounds_toArray, List.set_cons_zero, List.set_cons_succ])
                    refine wpAnyH_ready (rs := [12]) (by kernel_rfl) (by simp) ?_
                    refine AllReadyH.cons (by rw [List.getElem?_toArray]; rfl) (fun K hK => ?_) AllReadyH.nil
                    refine step_app2 _ rfl (.tmp 39) (.tmp 45) 38 rfl 3 i0 (.int .i64 0) 1 8 Try.underlying38 hi0 hz0 hz1 hz2 rfl (by omega) lo hi (wa.heap.size + 1) ((wa.heap.size + 1) + 1) A' (some ⟨(wa.heap.size + 1), 0, none⟩) k1 c' 1 1 (ints ys) (ints [16]) rfl rfl (by (repeat (first | (with_reducible assumption) | (with_reducible refine Own.alloc ?_ _) | (with_reducible refine Own.drew ?_) | (with_reducible refine Own.set ?_ (by first | (simp; done) | (simp; omega) | omega) _)))) (lit_rd _ #[.int .i64 (16)] 3 1 _ (by (try simp) <;> (try omega)) rfl (by unfold maxLen; omega)) (ints_one _) (by unfold maxLen; omega) (by omega) (by (try simp) <;> omega) ?_; intro A6 c6 w6 L6 H6 o6 f6 d6; have h6 := HG.out w6 A6 c6 L6 H6 (ys ++ [16]) (Kept.trans hM (Kept.of_fr (Fr.trans (Fr.of_below (by (repeat (first | (with_reducible assumption) | (with_reducible exact Below.refl _ _) | (with_reducible refine Below.setCell ?_ (by first | (simp; done) | (simp; omega) | omega) _) | (with_reducible refine Below.alloc ?_ (by first | (simp; done) | (simp; omega) | omega) _) | (with_reducible refine Below.drew ?_) | (with_reducible refine Below.drewN ?_ _))) : Below wa.heap.size wa _) lo hi) f6))) (by rw [List.length_append, HK.out, ints_append]; exact o6) (d6.imp id (fun h => ⟨by rw [h.1]; (try simp) <;> omega, Nat.le_of_eq h.2⟩)); simp only [List.length_append, List.length_cons, List.length_nil, HK.out] at h6; obtain ⟨k6, kf6, hq6⟩ := h6; have HQ6 := Lib.hid hq6; clear hq6 d6; have z6 := f6.size; (try simp at z6); replace TQ := Blk.fr (by (repeat (first | (with_reducible assumption) | (with_reducible refine Blk.drew ?_) | (with_reducible refine Blk.other ?_ (by first | (simp; done) | (simp; omega) | omega) _) | (with_reducible refine Blk.alloc ?_ _))) : Blk _ w1.heap.size 24 #[.slice (some ⟨ga, oa, none⟩) 8 c]) f6 hQs; replace TR := Blk.fr (by (repeat (first | (with_reducible assumption) | (with_reducible refine Blk.drew ?_) | (with_reducible refine Blk.other ?_ (by first | (simp; done) | (simp; omega) | omega) _) | (with_reducible refine Blk.alloc ?_ _))) : Blk _ w.heap.size 24 #[.slice none 0 0]) f6 (.inl (by omega)); have hrz := Rdr.fr (g := g) (by (repeat (first | (with_reducible assumption) | (with_reducible refine Rdr.drew ?_) | (with_reducible refine Rdr.set ?_ (by first | (simp; done) | (simp; omega) | omega) _) | (with_reducible refine Rdr.alloc ?_ _))) : Rdr _ g (N + 22 - 2 * 0 + 1 + 1 + 1)) f6 (.inl (by omega)) (by omega); replace hF := Fr.own (by (repeat (first | (with_reducible assumption) | (with_reducible refine Fr.drew ?_) | (with_reducible exact Fr.refl _ _ _) | (with_reducible refine Fr.setOut ?_ (by first | (simp; done) | (simp; omega) | omega) _) | (with_reducible refine Fr.alloc ?_ _))) : Fr g (g + 1) w _) (f6.wide (B' := w.heap.size) (by omega) (Nat.le_refl _)); clear q0 qf hc lQ lR f6; have q0 := TQ.cell 0 rfl; have qf := TQ.free; have lQ := TQ.lt; have lR := TR.lt
                    refine hK.out _ _ ?_ (fun hHeld => ?_)
                    focus (first | exact trivial | ((try dsimp only); (exact Blk.cell (by (repeat (first | (with_reducible assumption) | (with_reducible refine Blk.drew ?_) | (with_reducible refine Blk.other ?_ (by first | (simp; done) | (simp; omega) | omega) _) | (with_reducible refine Blk.alloc ?_ _))) : Blk _ w1.heap.size 24 #[.slice (some ⟨ga, oa, none⟩) 8 c]) 0 rfl))); done
                    clear hK K
                    (try simp only [Act.put, List.setIfInBounds_toArray, List.set_cons_zero, List.set_cons_succ])
                    refine wpAnyH_take (i := 13) (v := ?_) (by rw [List.getElem?_toArray]; rfl) (by kernel_rfl) (by kernel_rfl) (by kernel_rfl) (fun _ _ _ h => h) (Or.inl ⟨by rfl, ?_⟩) (by assumption) ?_
                    rotate_left
                    focus (intro wS hSw; (try dsimp only at hSw); go_simp; (try with_reducible rfl)); done
                    (try simp only [Act.put, List.setIfInBounds_toArray, List.set_cons_zero, List.set_cons_succ])
                    refine wpAnyH_ready (rs := [14]) (by kernel_rfl) (by simp) ?_
                    refine AllReadyH.cons (by rw [List.getElem?_toArray]; rfl) (fun K hK => ?_) AllReadyH.nil
                    go_simp
                    skip
                    refine hK.out _ _ ?_ (fun hHeld => ?_)
                    focus (first | exact trivial | ((try dsimp only); (exact Blk.cell (by (repeat (first | (with_reducible assumption) | (with_reducible refine Blk.drew ?_) | (with_reducible refine Blk.other ?_ (by first | (simp; done) | (simp; omega) | omega) _) | (with_reducible refine Blk.alloc ?_ _))) : Blk _ w1.heap.size 24 #[.slice (some ⟨ga, oa, none⟩) 8 c]) 0 rfl))); done
                    clear hK K
                    (try simp only [Act.put, List.setIfInBounds_toArray, List.set_cons_zero, List.set_cons_succ])
                    refine wpAnyH_done (by kernel_rfl) ?_ _
                    refine NoPanic.normal ?_
                    have TQ7 := TQ.other (p := ⟨ga, oa + 1, none⟩) (by show w1.heap.size ≠ ga; omega) (.slice A6 (k1 + 1) c6)
                    have TR7 := TR.other (p := ⟨ga, oa + 1, none⟩) (by show w.heap.size ≠ ga; omega) (.slice A6 (k1 + 1) c6)
                    clear q0 qf
                    have q0 := TQ7.cell 0 rfl
                    have r0 := TR7.cell 0 rfl
                    have rf := TR7.free
                    have HQ7 := Lib.hid (HQ6.out.setT TR7 (by decide) (by decide) 0 (.slice (some ⟨ga, oa, none⟩) 8 c))
                    have hsn := add_size (zs := [16]) hy
                    have HSN := Lib.hid hsn
                    clear hy hsn
                    go_wp2
                    refine bodyPost_ret (v := queues (some ⟨ga, oa, none⟩) 8 c) (by simp [results, Try.results41, go_sem, *]) rfl ⟨_, 8, c, yss.set 1 (ys ++ [16]), rfl, HQ7.out.rows.mono (by omega) (by simp), hle, by rw [HSN.out]; simp; omega, (by (repeat (first | (with_reducible assumption) | (with_reducible refine Rdr.drew ?_) | (with_reducible refine Rdr.set ?_ (by first | (simp; done) | (simp; omega) | omega) _) | (with_reducible refine Rdr.alloc ?_ _))) : Rdr _ g (N + 22 - 2 * 0 + 1 + 1 + 1)).mono (by omega), by (repeat (first | (with_reducible assumption) | (with_reducible refine Fr.drew ?_) | (with_reducible exact Fr.refl _ _ _) | (with_reducible refine Fr.setOut ?_ (by first | (simp; done) | (simp; omega) | omega) _) | (with_reducible refine Fr.alloc ?_ _)))⟩
end Go.Proofs.Ytccepnhnmpmkdaa
