/- Contracts of the laws' markers on capabilities and messages. -/
import Derived.Test.YthbfpgdfigilaaaMsg1
namespace Go.Proofs.Ythbfpgdfigilaaa
set_option linter.unusedVariables false
open Go.RowKit
def mk4 (q : Int) : Cp := (q, q + 1, q + 1 + 1, q + 1 + 1 + 1)
def marksC (k : Int) (n : Nat) : List Cp := (List.range n).map fun (j : Nat) => mk4 (k + 4 * (j : Int))
theorem marksC_length (k : Int) (n : Nat) : (marksC k n).length = n := by simp [marksC]
theorem marksC_get (k : Int) (n j : Nat) (h : j < n) : (marksC k n)[j]? = some (mk4 (k + 4 * (j : Int))) := by simp [marksC, h]
theorem marksC_set (k : Int) (xs : List Cp) (n j : Nat) (hl : xs.length = n) (h : j < n) : (marksC k j ++ xs.drop j).set j (mk4 (k + 4 * (j : Int))) = marksC k (j + 1) ++ xs.drop (j + 1) := by
  rw [List.set_append_right _ _ (by simp [marksC_length])]
  have e : xs.drop j = xs[j] :: xs.drop (j + 1) := List.drop_eq_getElem_cons (by omega)
  rw [marksC_length, Nat.sub_self, e, List.set_cons_zero]
  simp [marksC, List.range_succ]
set_option maxHeartbeats 2000000 in
theorem markCapS_any (B T n c : Nat) (A : Option Addr) (cs : List Cp) (k0 : Int) (w : World) (hr : Own w B T 45 4 A n c (caps cs)) (hn : n ≤ 1048576) (h0 : 0 ≤ k0) (h1 : k0 ≤ 100000000) :
    Calls Try.prog 55 #[.slice A n c, .int .i64 k0] w fun e w' => e = .returned (.int .i64 (k0 + 4 * n)) ∧ Own w' B T 45 4 A n c (caps (marksC k0 n)) ∧ Fr B T w w' := by
  have hl := caps_len hr.rd
  have HL := Lib.hid hl
  clear hl
  go_enter Try.func55, Try.ntmps55
  go_wp2
  go_loopw [1, 5] (fun q i wr => ∃ k : Nat, k ≤ n ∧ i = .int .i64 k ∧ q = .int .i64 (k0 + 4 * k) ∧ Own wr B T 45 4 A n c (caps (marksC k0 k ++ cs.drop k)) ∧ Fr B T w wr) (fun _ i _ => n - (intOf i).toNat)
  case atStart => exact ⟨0, by omega, rfl, by simp, by simpa [marksC] using hr, Fr.refl _ _ _⟩
  case round =>
    obtain ⟨k, hk, rfl, rfl, ho, hb⟩ := hrel
    by_cases hlt : k < n
    · obtain ⟨g, o, rfl, h2, h3, h4, h5, h6, h7⟩ := ho.put4 hlt (mk4 (k0 + 4 * (k : Int)))
      obtain ⟨u0, g0⟩ := h5 0 (by omega)
      obtain ⟨u1, g1⟩ := h5 1 (by omega)
      obtain ⟨u2, g2⟩ := h5 2 (by omega)
      obtain ⟨u3, g3⟩ := h5 3 (by omega)
      rw [marksC_set k0 cs n k HL.out hlt] at h7
      simp only [Nat.add_zero, mk4] at g0 h7
      have hkk : (k : Int) < (n : Int) := by omega
      have hk0 : (0 : Int) ≤ (k : Int) := by omega
      have hn' : (n : Int) ≤ 1048576 := by omega
      obtain ⟨s, hs⟩ : ∃ s, k0 + 4 * (k : Int) = s := ⟨_, rfl⟩
      rw [hs] at h7 ⊢
      have hs1 : s ≤ 200000000 := by omega
      have hs0 : 0 ≤ s := by omega
      have HS := Lib.hid hs
      clear h5 ho hr hs
      go_wp2
      go_roundw
      case rel => exact ⟨k + 1, by omega, by go_num, by have := HS.out; congr 1; omega, h7, (((hb.setCell h2 h3 _).setCell h2 h3 _).setCell h2 h3 _).setCell h2 h3 _⟩
      case measure => simp [intOf]; omega
    · have hkn : k = n := by omega
      subst hkn
      clear hr
      go_wp2
      go_ret
      refine ⟨rfl, ?_, hb⟩
      simpa [List.drop_of_length_le (by rw [HL.out]; exact Nat.le_refl _ : cs.length ≤ k)] using ho
set_option maxHeartbeats 2000000 in
theorem heldCapS_any (B T n c : Nat) (A : Option Addr) (k0 : Int) (w : World) (hr : Rd w B T 4 A n (caps (marksC k0 n))) (hn : n ≤ 1048576) (h0 : 0 ≤ k0) (h1 : k0 ≤ 100000000) :
    Calls Try.prog 59 #[.slice A n c, .int .i64 k0] w fun e w' => e = .returned (.int .i64 (k0 + 4 * n)) ∧ Below w.heap.size w w' := by
  go_enter Try.func59, Try.ntmps59
  go_wp2
  go_loopw [1, 5] (fun q i wr => ∃ k : Nat, k ≤ n ∧ i = .int .i64 k ∧ q = .int .i64 (k0 + 4 * k) ∧ Below w.heap.size w wr) (fun _ i _ => n - (intOf i).toNat)
  case atStart => exact ⟨0, by omega, rfl, by simp, Below.refl _ _⟩
  case round =>
    obtain ⟨k, hk, rfl, rfl, hb⟩ := hrel
    by_cases hlt : k < n
    · obtain ⟨b, o, kk, oo, rr, bb, rfl, hbl, hx, e0, e1, e2, e3⟩ := cap_at (hr.below hb) hlt
      rw [marksC_get k0 n k hlt] at hx
      injection hx with hx
      unfold mk4 at hx
      injection hx with x0 hx
      injection hx with x1 hx
      injection hx with x2 x3
      subst x0
      subst x1
      subst x2
      subst x3
      have hkk : (k : Int) < (n : Int) := by omega
      have hk0 : (0 : Int) ≤ (k : Int) := by omega
      have hn' : (n : Int) ≤ 1048576 := by omega
      obtain ⟨s, hs⟩ : ∃ s, k0 + 4 * (k : Int) = s := ⟨_, rfl⟩
      rw [hs] at e0 e1 e2 e3 ⊢
      have hs1 : s ≤ 200000000 := by omega
      have hs0 : 0 ≤ s := by omega
      have HS := Lib.hid hs
      clear hr hs
      go_wp2
      go_roundw
      case rel => exact ⟨k + 1, by omega, by go_num, by have := HS.out; congr 1; omega, hb⟩
      case measure => simp [intOf]; omega
    · have hkn : k = n := by omega
      subst hkn
      clear hr
      go_wp2
      go_ret
      exact ⟨rfl, hb⟩
set_option maxHeartbeats 1000000 in
theorem markMessage_any (B M T n c m d : Nat) (l : Int) (A D : Option Addr) (xs : List Int) (cs : List Cp) (k0 : Int) (w : World) (hr : Own w B M 3 1 A n c (ints xs)) (hn : n ≤ 1048576) (hr2 : Own w M T 45 4 D m d (caps cs)) (hm : m ≤ 1048576) (h0 : 0 ≤ k0) (h1 : k0 ≤ 10000000) (hBM : B ≤ M) (hMT : M ≤ T) (hTw : T ≤ w.heap.size) :
    Calls Try.prog 20 #[msg l A n c D m d, .int .i64 k0] w fun e w' => e = .returned (.int .i64 (k0 + n + 4 * m)) ∧ Own w' B M 3 1 A n c (ints (marks k0 n)) ∧ Own w' M T 45 4 D m d (caps (marksC (k0 + n) m)) ∧ Fr B T w w' := by
  have TP := Blk.new w 30 #[.int .i64 l, .slice A n c, .slice D m d]
  go_enter Try.func20, Try.ntmps20
  go_wp2_with fail
  refine (markIntS_any _ _ _ _ _ xs k0 _ (hr.alloc _) hn h0 (by omega)).mono ?_
  rintro e w1 ⟨rfl, o1, f1⟩
  have z1 := f1.size
  simp at z1
  replace TP := TP.fr f1 (.inr (by omega))
  have p2 := Own.fr (hr2.alloc (.cells #[.int .i64 l, .slice A n c, .slice D m d] 30)) f1 (.inr (Nat.le_refl _))
  have q0 := TP.cell 0 rfl
  have q1 := TP.cell 1 rfl
  have q2 := TP.cell 2 rfl
  have F1 := ((Fr.refl B T w).alloc (.cells #[.int .i64 l, .slice A n c, .slice D m d] 30)).trans (f1.wide (Nat.le_refl _) hMT)
  have hk : (0 : Int) ≤ k0 + (n : Int) := by omega
  have hk1 : k0 + (n : Int) ≤ 100000000 := by omega
  clear hr hr2 f1
  go_wp2_with fail
  refine (markCapS_any _ _ _ _ _ cs (k0 + (n : Int)) _ p2 hm hk hk1).mono ?_
  rintro e w2 ⟨rfl, o2, f2⟩
  go_wp2
  go_ret
  exact ⟨rfl, o1.fr f2 (.inl (Nat.le_refl _)), o2, F1.trans (f2.wide hBM (Nat.le_refl _))⟩
set_option maxHeartbeats 1000000 in
theorem heldMessage_any (B M T n c m d : Nat) (l : Int) (A D : Option Addr) (k0 : Int) (w : World) (hr : Rd w B M 1 A n (ints (marks k0 n))) (hn : n ≤ 1048576) (hr2 : Rd w M T 4 D m (caps (marksC (k0 + n) m))) (hm : m ≤ 1048576) (h0 : 0 ≤ k0) (h1 : k0 ≤ 10000000) :
    Calls Try.prog 26 #[msg l A n c D m d, .int .i64 k0] w fun e w' => e = .returned (.int .i64 (k0 + n + 4 * m)) ∧ Below w.heap.size w w' := by
  have TP := Blk.new w 30 #[.int .i64 l, .slice A n c, .slice D m d]
  have hk : (0 : Int) ≤ k0 + (n : Int) := by omega
  have hk1 : k0 + (n : Int) ≤ 100000000 := by omega
  have hk2 : ¬ (k0 + (n : Int)) < 0 := by omega
  have hk3 : ¬ (k0 + (n : Int) + 4 * (m : Int)) < 0 := by omega
  go_enter Try.func26, Try.ntmps26
  go_wp2_with fail
  refine (heldIntS_any _ _ _ _ _ k0 _ (hr.alloc _) hn h0 (by omega)).mono ?_
  rintro e w1 ⟨rfl, hb1⟩
  replace TP := TP.below hb1
  have p2 := (hr2.alloc (.cells #[.int .i64 l, .slice A n c, .slice D m d] 30)).below hb1
  have q2 := TP.cell 2 rfl
  have hB := Below.via (by (repeat (first | (with_reducible assumption) | (with_reducible exact Below.refl _ _) | (with_reducible refine Below.setCell ?_ (by first | (simp; done) | (simp; omega) | omega) _) | (with_reducible refine Below.alloc ?_ (by first | (simp; done) | (simp; omega) | omega) _) | (with_reducible refine Below.drew ?_) | (with_reducible refine Below.drewN ?_ _))) : Below w.heap.size w _) hb1
  clear hr hr2 hb1
  go_wp2_with fail
  refine (heldCapS_any _ _ _ _ _ (k0 + (n : Int)) _ p2 hm hk hk1).mono ?_
  rintro e w2 ⟨rfl, hb2⟩
  go_wp2
  go_ret
  exact ⟨rfl, Below.via hB hb2⟩
end Go.Proofs.Ythbfpgdfigilaaa
