/- Contracts that the drawn laws on messages need: sameMessage of equal messages, CapWithin, RightsWithin, RightsMeet; rights that are taken away. -/
import Derived.Test.YthbfpgdfigilaaaUnpack2
import Derived.Test.YthbfpgdfigilaaaSend3
namespace Go.Proofs.Ythbfpgdfigilaaa
set_option linter.unusedVariables false
open Go.RowKit
def andN (a b : Int) : Int := bits .andNot .i64 a b
theorem and16 : ∀ a b : Fin 16, 0 ≤ andI (a.val : Int) (b.val : Int) ∧ andI (a.val : Int) (b.val : Int) ≤ 15 ∧ andN (andI (a.val : Int) (b.val : Int)) (a.val : Int) = 0 ∧ andN (andI (a.val : Int) (b.val : Int)) (b.val : Int) = 0 := by decide +kernel
theorem and16t : ∀ a b c : Fin 16, andN (andI (andI (a.val : Int) (b.val : Int)) (c.val : Int)) (a.val : Int) = 0 ∧ andN (andI (andI (a.val : Int) (b.val : Int)) (c.val : Int)) (andI (b.val : Int) (c.val : Int)) = 0 := by decide +kernel
theorem and_in {a b : Int} (ha : 0 ≤ a ∧ a ≤ 15) (hb : 0 ≤ b ∧ b ≤ 15) : 0 ≤ andI a b ∧ andI a b ≤ 15 ∧ andN (andI a b) a = 0 ∧ andN (andI a b) b = 0 := by
  obtain ⟨x, rfl⟩ := Int.eq_ofNat_of_zero_le ha.1
  obtain ⟨y, rfl⟩ := Int.eq_ofNat_of_zero_le hb.1
  exact and16 ⟨x, by omega⟩ ⟨y, by omega⟩
theorem and_in3 {a b c : Int} (ha : 0 ≤ a ∧ a ≤ 15) (hb : 0 ≤ b ∧ b ≤ 15) (hc : 0 ≤ c ∧ c ≤ 15) : andN (andI (andI a b) c) a = 0 ∧ andN (andI (andI a b) c) (andI b c) = 0 := by
  obtain ⟨x, rfl⟩ := Int.eq_ofNat_of_zero_le ha.1
  obtain ⟨y, rfl⟩ := Int.eq_ofNat_of_zero_le hb.1
  obtain ⟨z, rfl⟩ := Int.eq_ofNat_of_zero_le hc.1
  exact and16t ⟨x, by omega⟩ ⟨y, by omega⟩ ⟨z, by omega⟩
theorem capOk_rights {k o r b : Int} (h : capOk k o r b = true) : 0 ≤ r ∧ r ≤ 15 := by have := capOk_bounds h; omega
theorem capOk_mask {k o r b : Int} (h : capOk k o r b = true) (hk : ¬ k = 0) {s : Int} (hs : 0 ≤ s ∧ s ≤ 15) : capOk k o s b = true := by
  unfold capOk at *
  rw [if_neg hk] at *
  simp only [Bool.and_eq_true] at *
  exact ⟨h.1, h.2.1, by rw [inB_true]; exact hs, h.2.2.2⟩
theorem msgOk_caps {l : Int} {xs : List Int} {cs : List Cp} (h : msgOk l xs cs = true) {k : Nat} {c : Cp} (hc : cs[k]? = some c) : okC c = true ∧ ¬ c.1 = 0 := by
  unfold msgOk cOk kOk at h
  simp only [Bool.and_eq_true, List.all_eq_true] at h
  have hm := List.mem_of_getElem? hc
  have h1 := h.2.2.2.1 c hm
  have h2 := h.2.2.2.2.2 c hm
  exact ⟨h1, by simpa using h2⟩
theorem msgOk_mask {l : Int} {xs : List Int} {cs : List Cp} (h : msgOk l xs cs = true) {a : Int} (ha : 0 ≤ a ∧ a ≤ 15) : msgOk l xs (cs.map (mask a)) = true := by
  have key : ∀ c ∈ cs, okC (mask a c) = true ∧ ¬ (mask a c).1 = 0 := by
    intro c hc
    obtain ⟨k, hk⟩ := List.getElem?_of_mem hc
    obtain ⟨h1, h2⟩ := msgOk_caps h hk
    exact ⟨capOk_mask h1 h2 ⟨(and_in (capOk_rights h1) ha).1, (and_in (capOk_rights h1) ha).2.1⟩, h2⟩
  unfold msgOk at *
  simp only [Bool.and_eq_true] at *
  refine ⟨h.1, h.2.1, by simpa using h.2.2.1, ?_, h.2.2.2.2.1, ?_⟩
  · unfold cOk; rw [List.all_eq_true]; intro c hc; obtain ⟨d, hd, rfl⟩ := List.mem_map.1 hc; exact (key d hd).1
  · unfold kOk; rw [List.all_eq_true]; intro c hc; obtain ⟨d, hd, rfl⟩ := List.mem_map.1 hc; simpa using (key d hd).2
theorem msgOk_nil {l : Int} {xs : List Int} {cs : List Cp} (h : msgOk l xs cs = true) : msgOk l xs [] = true := by
  unfold msgOk cOk kOk at *
  simp only [Bool.and_eq_true] at *
  exact ⟨h.1, h.2.1, by simp, by simp, h.2.2.2.2.1, by simp⟩
set_option maxHeartbeats 4000000 in
theorem sameMessage_same (B T B2 T2 B3 T3 B4 T4 n c m d c' d' : Nat) (l : Int) (A D A' D' : Option Addr) (xs : List Int) (cs : List Cp) (w : World) (hr : Rd w B T 1 A n (ints xs)) (hn : n ≤ 1048576) (hr2 : Rd w B2 T2 4 D m (caps cs)) (hm : m ≤ 1048576)
    (hr3 : Rd w B3 T3 1 A' n (ints xs)) (hr4 : Rd w B4 T4 4 D' m (caps cs)) :
    Calls Try.prog 31 #[msg l A n c D m d, msg l A' n c' D' m d'] w fun e w' => e = .returned (.bool true) ∧ Below w.heap.size w w' := by
  replace hr := hr.here Nat.one_pos
  replace hr3 := hr3.here Nat.one_pos
  replace hr2 := hr2.here (by omega)
  replace hr4 := hr4.here (by omega)
  have TP := (Blk.new w 30 #[.int .i64 l, .slice A n c, .slice D m d]).alloc (.cells #[.int .i64 l, .slice A' n c', .slice D' m d'] 30)
  have TQ := Blk.newAt (w := w.alloc (.cells #[.int .i64 l, .slice A n c, .slice D m d] 30)) (n := w.heap.size + 1) 30 #[.int .i64 l, .slice A' n c', .slice D' m d'] (by simp)
  have hB : Below w.heap.size w ((w.alloc (.cells #[.int .i64 l, .slice A n c, .slice D m d] 30)).alloc (.cells #[.int .i64 l, .slice A' n c', .slice D' m d'] 30)) := by (repeat (first | (with_reducible assumption) | (with_reducible exact Below.refl _ _) | (with_reducible refine Below.setCell ?_ (by first | (simp; done) | (simp; omega) | omega) _) | (with_reducible refine Below.alloc ?_ (by first | (simp; done) | (simp; omega) | omega) _) | (with_reducible refine Below.drew ?_) | (with_reducible refine Below.drewN ?_ _)))
  have p2 := TP.cell 2 rfl
  have q2 := TQ.cell 2 rfl
  go_enter Try.func31, Try.ntmps31
  go_wp2
  go_loopw [5] (fun i wr => ∃ k : Nat, k ≤ m ∧ i = .int .i64 k ∧ Blk wr w.heap.size 30 #[.int .i64 l, .slice A n c, .slice D m d] ∧ Blk wr (w.heap.size + 1) 30 #[.int .i64 l, .slice A' n c', .slice D' m d'] ∧ Below w.heap.size w wr) (fun i _ => m - (intOf i).toNat)
  case atStart => exact ⟨0, by omega, rfl, TP, TQ, hB⟩
  case round =>
    clear TP TQ hB p2 q2
    obtain ⟨k, hk, rfl, TP, TQ, hB⟩ := hrel
    have lP := TP.lt
    have lQ := TQ.lt
    have p2 := TP.cell 2 rfl
    have q2 := TQ.cell 2 rfl
    by_cases hlt : k < m
    · obtain ⟨b, o, kk, oo, rr, bb, rfl, hbl, hx, e0, e1, e2, e3⟩ := cap_at (hr2.belowT hB) hlt
      obtain ⟨b', o', k', o2, r', b2, rfl, hbl', hx', f0, f1, f2, f3⟩ := cap_at (hr4.belowT hB) hlt
      rw [hx] at hx'
      simp only [Option.some.injEq, Prod.mk.injEq] at hx'
      obtain ⟨rfl, rfl, rfl, rfl⟩ := hx'
      have hkk : (k : Int) < (m : Int) := by omega
      have hk0 : (0 : Int) ≤ (k : Int) := by omega
      clear hr hr2 hr3 hr4 hx
      go_wp2_with fail
      refine wp_region_noPanic ?_
      refine wp_region_held_drew (S := (fun W => W.cell? ⟨w.heap.size, 2, none⟩ = some (.slice (some ⟨b, o, none⟩) m d) ∧ W.cell? ⟨w.heap.size + 1, 2, none⟩ = some (.slice (some ⟨b', o', none⟩) m d') ∧ W.cell? ⟨b, o + k * 4, none⟩ = some (.int .i64 kk) ∧ W.cell? ⟨b, o + k * 4 + 1, none⟩ = some (.int .i64 oo) ∧ W.cell? ⟨b, o + k * 4 + 2, none⟩ = some (.int .i64 rr) ∧ W.cell? ⟨b, o + k * 4 + 3, none⟩ = some (.int .i64 bb) ∧ W.cell? ⟨b', o' + k * 4, none⟩ = some (.int .i64 kk) ∧ W.cell? ⟨b', o' + k * 4 + 1, none⟩ = some (.int .i64 oo) ∧ W.cell? ⟨b', o' + k * 4 + 2, none⟩ = some (.int .i64 rr) ∧ W.cell? ⟨b', o' + k * 4 + 3, none⟩ = some (.int .i64 bb))) (by kernel_rfl) ?_ (fun hHeld => ?_)
      focus (first | exact trivial | ((try dsimp only); ((repeat' (first | assumption | with_reducible refine And.intro ?_ ?_)) <;> go_keep))); done
      refine wpAnyH_take (i := 0) (v := ?_) (by rw [List.getElem?_toArray]; rfl) (by kernel_rfl) (by kernel_rfl) (by kernel_rfl) (fun _ _ _ h => h) (Or.inl ⟨by rfl, ?_⟩) (by assumption) ?_
      rotate_left
      focus (intro wS hSw; (try dsimp only at hSw); go_simp; (try with_reducible rfl)); done
      (try simp only [Act.put, List.setIfInBounds_toArray, List.set_cons_zero, List.set_cons_succ])
      refine wpAnyH_take (i := 1) (v := ?_) (by rw [List.getElem?_toArray]; rfl) (by kernel_rfl) (by kernel_rfl) (by kernel_rfl) (fun _ _ _ h => h) (Or.inl ⟨by rfl, ?_⟩) (by assumption) ?_
      rotate_left
      focus (intro wS hSw; (try dsimp only at hSw); go_simp; (try with_reducible rfl)); done
      (try simp only [Act.put, List.setIfInBounds_toArray, List.set_cons_zero, List.set_cons_succ])
      refine wpAnyH_take (i := 2) (v := ?_) (by rw [List.getElem?_toArray]; rfl) (by kernel_rfl) (by kernel_rfl) (by kernel_rfl) (fun _ _ _ h => h) (Or.inl ⟨by rfl, ?_⟩) (by assumption) ?_
      rotate_left
      focus (intro wS hSw; (try dsimp only at hSw); go_simp; (try with_reducible rfl)); done
      (try simp only [Act.put, List.setIfInBounds_toArray, List.set_cons_zero, List.set_cons_succ])
      refine wpAnyH_take (i := 3) (v := ?_) (by rw [List.getElem?_toArray]; rfl) (by kernel_rfl) (by kernel_rfl) (by kernel_rfl) (fun _ _ _ h => h) (Or.inl ⟨by rfl, ?_⟩) (by assumption) ?_
      rotate_left
      focus (intro wS hSw; (try dsimp only at hSw); go_simp; (try with_reducible rfl)); done
      (try simp only [Act.put, List.setIfInBounds_toArray, List.set_cons_zero, List.set_cons_succ])
      refine wpAnyH_take (i := 4) (v := ?_) (by rw [List.getElem?_toArray]; rfl) (by kernel_rfl) (by kernel_rfl) (by kernel_rfl) (fun _ _ _ h => h) (Or.inl ⟨by rfl, ?_⟩) (by assumption) ?_
      rotate_left
      focus (intro wS hSw; (try dsimp only at hSw); go_simp; (try with_reducible rfl)); done
      (try simp only [Act.put, List.setIfInBounds_toArray, List.set_cons_zero, List.set_cons_succ])
      refine wpAnyH_take (i := 5) (v := ?_) (by rw [List.getElem?_toArray]; rfl) (by kernel_rfl) (by kernel_rfl) (by kernel_rfl) (fun _ _ _ h => h) (Or.inl ⟨by rfl, ?_⟩) (by assumption) ?_
      rotate_left
      focus (intro wS hSw; (try dsimp only at hSw); go_simp; (try with_reducible rfl)); done
      (try simp only [Act.put, List.setIfInBounds_toArray, List.set_cons_zero, List.set_cons_succ])
      refine wpAnyH_take (i := 6) (v := ?_) (by rw [List.getElem?_toArray]; rfl) (by kernel_rfl) (by kernel_rfl) (by kernel_rfl) (fun _ _ _ h => h) (Or.inl ⟨by rfl, ?_⟩) (by assumption) ?_
      rotate_left
      focus (intro wS hSw; (try dsimp only at hSw); go_simp; (try with_reducible rfl)); done
      (try simp only [Act.put, List.setIfInBounds_toArray, List.set_cons_zero, List.set_cons_succ])
      refine wpAnyH_take (i := 7) (v := ?_) (by rw [List.getElem?_toArray]; rfl) (by kernel_rfl) (by kernel_rfl) (by kernel_rfl) (fun _ _ _ h => h) (Or.inl ⟨by rfl, ?_⟩) (by assumption) ?_
      rotate_left
      focus (intro wS hSw; (try dsimp only at hSw); go_simp; (try with_reducible rfl)); done
      (try simp only [Act.put, List.setIfInBounds_toArray, List.set_cons_zero, List.set_cons_succ])
      refine wpAnyH_take (i := 8) (v := ?_) (by rw [List.getElem?_toArray]; rfl) (by kernel_rfl) (by kernel_rfl) (by kernel_rfl) (fun _ _ _ h => h) (Or.inl ⟨by rfl, ?_⟩) (by assumption) ?_
      rotate_left
      focus (intro wS hSw; (try dsimp only at hSw); go_simp; (try with_reducible rfl)); done
      (try simp only [Act.put, List.setIfInBounds_toArray, List.set_cons_zero, List.set_cons_succ])
      refine wpAnyH_take (i := 9) (v := ?_) (by rw [List.getElem?_toArray]; rfl) (by kernel_rfl) (by kernel_rfl) (by kernel_rfl) (fun _ _ _ h => h) (Or.inl ⟨by rfl, ?_⟩) (by assumption) ?_
      rotate_left
      focus (intro wS hSw; (try dsimp only at hSw); go_simp; (try with_reducible rfl)); done
      (try simp only [Act.put, List.setIfInBounds_toArray, List.set_cons_zero, List.set_cons_succ])
      refine wpAnyH_take (i := 10) (v := ?_) (by rw [List.getElem?_toArray]; rfl) (by kernel_rfl) (by kernel_rfl) (by kernel_rfl) (fun _ _ _ h => h) (Or.inl ⟨by rfl, ?_⟩) (by assumption) ?_
      rotate_left
      focus (intro wS hSw; (try dsimp only at hSw); go_simp; (try with_reducible rfl)); done
      (try simp only [Act.put, List.setIfInBounds_toArray, List.set_cons_zero, List.set_cons_succ])
      refine wpAnyH_done (by kernel_rfl) ?_ _
      refine NoPanic.normal ?_
      go_wp2
      go_roundw
      case rel => exact ⟨k + 1, by omega, by go_num, by (repeat (first | (with_reducible assumption) | (with_reducible refine Blk.drew ?_) | (with_reducible refine Blk.other ?_ (by first | (simp; done) | (simp; omega) | omega) _) | (with_reducible refine Blk.alloc ?_ _))), by (repeat (first | (with_reducible assumption) | (with_reducible refine Blk.drew ?_) | (with_reducible refine Blk.other ?_ (by first | (simp; done) | (simp; omega) | omega) _) | (with_reducible refine Blk.alloc ?_ _))), by (repeat (first | (with_reducible assumption) | (with_reducible exact Below.refl _ _) | (with_reducible refine Below.setCell ?_ (by first | (simp; done) | (simp; omega) | omega) _) | (with_reducible refine Below.alloc ?_ (by first | (simp; done) | (simp; omega) | omega) _) | (with_reducible refine Below.drew ?_) | (with_reducible refine Below.drewN ?_ _)))⟩
      case measure => simp [intOf]; omega
    · have hkn : k = m := by omega
      subst hkn
      have p0 := TP.cell 0 rfl
      have p1 := TP.cell 1 rfl
      have q0 := TQ.cell 0 rfl
      have q1 := TQ.cell 1 rfl
      have hr9 := hr.belowT hB
      have hr8 := hr3.belowT hB
      clear hr hr2 hr3 hr4
      go_wp2_with fail
      refine (sameInts_any _ _ _ _ _ _ _ _ _ _ xs xs _ hr9 hr8 hn).mono ?_
      rintro e w' ⟨rfl, hb'⟩
      have hd : decide (xs = xs) = true := by simp
      rw [hd]
      go_wp2
      go_ret
      exact ⟨rfl, Below.via hB hb'⟩
set_option maxHeartbeats 1000000 in
theorem RightsWithin_yes (a b : Int) (w : World) (ha : 0 ≤ a ∧ a ≤ 15) (hb : 0 ≤ b ∧ b ≤ 15) (h : andN a b = 0) :
    Calls Try.prog 37 #[.int .i64 a, .int .i64 b] w fun e w' => e = .returned (.bool true) ∧ w = w' := by
  have h1 : inB a 0 15 = true := by rw [inB_true]; exact ha
  have h2 : inB b 0 15 = true := by rw [inB_true]; exact hb
  unfold andN at h
  go_enter Try.func37, Try.ntmps37
  go_wp2_with fail
  refine (iRightsValid_any _ _).mono ?_
  rintro e w1 ⟨rfl, rfl⟩
  rw [h1]
  go_wp2_with fail
  refine (iRightsValid_any _ _).mono ?_
  rintro e w2 ⟨rfl, rfl⟩
  rw [h2]
  go_wp2
  go_ret
  exact ⟨rfl, rfl⟩
set_option maxHeartbeats 1000000 in
theorem RightsMeet_yes (a b : Int) (w : World) (ha : 0 ≤ a ∧ a ≤ 15) (hb : 0 ≤ b ∧ b ≤ 15) :
    Calls Try.prog 38 #[.int .i64 a, .int .i64 b] w fun e w' => e = .returned (.int .i64 (andI a b)) ∧ w = w' := by
  have h1 : inB a 0 15 = true := by rw [inB_true]; exact ha
  have h2 : inB b 0 15 = true := by rw [inB_true]; exact hb
  go_enter Try.func38, Try.ntmps38
  go_wp2_with fail
  refine (iRightsValid_any _ _).mono ?_
  rintro e w1 ⟨rfl, rfl⟩
  rw [h1]
  go_wp2_with fail
  refine (iRightsValid_any _ _).mono ?_
  rintro e w2 ⟨rfl, rfl⟩
  rw [h2]
  go_wp2
  go_ret
  exact ⟨rfl, rfl⟩
set_option maxHeartbeats 2000000 in
theorem CapWithin_yes (k o r r' b : Int) (w : World) (h1 : capOk k o r b = true) (h2 : capOk k o r' b = true) (h : andN r r' = 0) :
    Calls Try.prog 36 #[capv k o r b, capv k o r' b] w fun e w' => e = .returned (.bool true) ∧ Below w.heap.size w w' := by
  have TP := (Blk.new w 45 #[.int .i64 k, .int .i64 o, .int .i64 r, .int .i64 b]).alloc (.cells #[.int .i64 k, .int .i64 o, .int .i64 r', .int .i64 b] 45)
  have TQ := Blk.newAt (w := w.alloc (.cells #[.int .i64 k, .int .i64 o, .int .i64 r, .int .i64 b] 45)) (n := w.heap.size + 1) 45 #[.int .i64 k, .int .i64 o, .int .i64 r', .int .i64 b] (by simp)
  unfold andN at h
  go_enter Try.func36, Try.ntmps36
  go_wp2_with fail
  refine (iCapValid_any _ _ _ _ _).mono ?_
  rintro e w1 ⟨rfl, hb1⟩
  rw [h1]
  have z1 := hb1.size
  simp at z1
  replace TP := TP.below hb1
  replace TQ := TQ.below hb1
  have hB := Below.via (by (repeat (first | (with_reducible assumption) | (with_reducible exact Below.refl _ _) | (with_reducible refine Below.setCell ?_ (by first | (simp; done) | (simp; omega) | omega) _) | (with_reducible refine Below.alloc ?_ (by first | (simp; done) | (simp; omega) | omega) _) | (with_reducible refine Below.drew ?_) | (with_reducible refine Below.drewN ?_ _))) : Below w.heap.size w _) hb1
  clear hb1
  obtain ⟨q0, q1, q2, q3⟩ := TQ.four
  have lQ := TQ.lt
  go_wp2_with fail
  refine (iCapValid_any _ _ _ _ _).mono ?_
  rintro e w2 ⟨rfl, hb2⟩
  rw [h2]
  replace TP := TP.below hb2
  replace TQ := TQ.below hb2
  replace hB := Below.via hB hb2
  clear hb2 q0 q1 q2 q3
  obtain ⟨q0, q1, q2, q3⟩ := TQ.four
  obtain ⟨p0, p1, p2, p3⟩ := TP.four
  go_wp2
  go_ret
  exact ⟨rfl, hB⟩
end Go.Proofs.Ythbfpgdfigilaaa
