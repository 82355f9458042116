/- Contracts of the seat's functions on notification objects: toNotice, szNotice, eqNotice, markNotice, heldNotice, sameNotice, NoticeValid (impl and spec). -/
import Derived.Test.YtcdbamaifdabnaaInts3
import Derived.Test.YtcdbamaifdabnaaRegion
import Derived.Test.YtcdbamaifdabnaaNoticeDefs
namespace Go.Proofs.Ytcdbamaifdabnaa
set_option linter.unusedVariables false
open Go.RowKit

/-- A notification object as a value. -/
abbrev notice (b : Int) (A : Option Addr) (n c : Nat) : Value := .agg #[.int .i64 b, .slice A n c]
/-- A notification object whose line lies in new memory. -/
def NewNotice (w : World) (b : Int) (xs : List Int) (e : Ending) (w' : World) : Prop :=
  ∃ A c, e = .returned (notice b A xs.length c) ∧ Own w' w.heap.size w'.heap.size 3 1 A xs.length c (ints xs) ∧ Below w.heap.size w w'
theorem Blk.two {w : World} {b : Nat} {T : TypeId} {x y : Value} (h : Blk w b T #[x, y]) : w.cell? ⟨b, 0, none⟩ = some x ∧ w.cell? ⟨b, 1, none⟩ = some y := ⟨h.cell 0 rfl, h.cell 1 rfl⟩
set_option maxHeartbeats 400000 in
theorem szIntS_ok (n c : Nat) (A : Option Addr) (w : World) (hn : n ≤ 1048576) :
    Calls Try.prog 31 #[.slice A n c, .int .i64 1048576] w fun e w' => e = .returned (.int .i64 (1048576 - (n : Int))) ∧ w = w' := by
  have h0 : ¬ (1048576 - (n : Int)) < 0 := by omega
  go_enter Try.func31, Try.ntmps31
  go_wp2
  go_ret
  exact ⟨rfl, rfl⟩
set_option maxHeartbeats 400000 in
theorem szIntS_big (n c : Nat) (A : Option Addr) (w : World) (hn : 1048576 < n) (hm : n ≤ 9223372036854775807) :
    Calls Try.prog 31 #[.slice A n c, .int .i64 1048576] w fun e w' => e = .returned (.int .i64 (-1)) ∧ w = w' := by
  have h0 : (1048576 - (n : Int)) < 0 := by omega
  go_enter Try.func31, Try.ntmps31
  go_wp2
  go_ret
  exact ⟨rfl, rfl⟩
set_option maxHeartbeats 400000 in
theorem szNotice_ok (b : Int) (n c : Nat) (A : Option Addr) (w : World) (hn : n ≤ 1048576) :
    Calls Try.prog 12 #[notice b A n c, .int .i64 1048576] w fun e w' => e = .returned (.int .i64 (1048576 - (n : Int))) ∧ Below w.heap.size w w' := by
  have h0 : ¬ (1048576 - (n : Int)) < 0 := by omega
  go_enter Try.func12, Try.ntmps12
  go_wp2_with fail
  refine (szIntS_ok _ _ _ _ hn).mono ?_
  rintro e w1 ⟨rfl, rfl⟩
  go_wp2
  go_ret
  exact ⟨rfl, by (repeat (first | (with_reducible assumption) | (with_reducible exact Below.refl _ _) | (with_reducible refine Below.setCell ?_ (by first | (simp; done) | (simp; omega) | omega) _) | (with_reducible refine Below.alloc ?_ (by first | (simp; done) | (simp; omega) | omega) _) | (with_reducible refine Below.drew ?_) | (with_reducible refine Below.drewN ?_ _)))⟩
set_option maxHeartbeats 400000 in
theorem szNotice_big (b : Int) (n c : Nat) (A : Option Addr) (w : World) (hn : 1048576 < n) (hm : n ≤ 9223372036854775807) :
    Calls Try.prog 12 #[notice b A n c, .int .i64 1048576] w fun e w' => e = .returned (.int .i64 (-1)) ∧ Below w.heap.size w w' := by
  go_enter Try.func12, Try.ntmps12
  go_wp2_with fail
  refine (szIntS_big _ _ _ _ hn hm).mono ?_
  rintro e w1 ⟨rfl, rfl⟩
  go_wp2
  go_ret
  exact ⟨rfl, by (repeat (first | (with_reducible assumption) | (with_reducible exact Below.refl _ _) | (with_reducible refine Below.setCell ?_ (by first | (simp; done) | (simp; omega) | omega) _) | (with_reducible refine Below.alloc ?_ (by first | (simp; done) | (simp; omega) | omega) _) | (with_reducible refine Below.drew ?_) | (with_reducible refine Below.drewN ?_ _)))⟩
set_option maxHeartbeats 1000000 in
theorem toNotice_any (B T n c : Nat) (b : Int) (A : Option Addr) (xs : List Int) (w : World) (hr : Rd w B T 1 A n (ints xs)) (hn : n ≤ 1048576) :
    Calls Try.prog 14 #[notice b A n c] w (NewNotice w b xs) := by
  replace hr := hr.here Nat.one_pos
  go_enter Try.func14, Try.ntmps14
  go_wp2_with fail
  refine (toIntS_any 0 w.heap.size n c A xs _ (by (repeat (first | (with_reducible assumption) | (with_reducible refine Rd.alloc ?_ _) | (with_reducible refine Rd.set ?_ (by first | (simp; done) | (simp; omega) | omega) _)))) hn).mono ?_
  rintro e w1 ⟨A1, c1, rfl, o1, hb1⟩
  have z1 := hb1.size
  simp at z1
  have TR := ((Blk.newAt (w := w.alloc (.cells #[.int .i64 b, .slice A n c] 24)) (n := w.heap.size + 1) 27 #[.int .i64 0, .slice none 0 0] (by simp)).alloc (.cells #[.int .i64 b, .slice none 0 0] 27)).below hb1
  have TO := (Blk.newAt (w := (w.alloc (.cells #[.int .i64 b, .slice A n c] 24)).alloc (.cells #[.int .i64 0, .slice none 0 0] 27)) (n := w.heap.size + 1 + 1) 27 #[.int .i64 b, .slice none 0 0] (by simp)).below hb1
  replace o1 := o1.mono (B' := w.heap.size + 1 + 1 + 1) (T' := w1.heap.size) (by simp) (Nat.le_refl _)
  have hB1 := Below.via (by (repeat (first | (with_reducible assumption) | (with_reducible exact Below.refl _ _) | (with_reducible refine Below.setCell ?_ (by first | (simp; done) | (simp; omega) | omega) _) | (with_reducible refine Below.alloc ?_ (by first | (simp; done) | (simp; omega) | omega) _) | (with_reducible refine Below.drew ?_) | (with_reducible refine Below.drewN ?_ _))) : Below w.heap.size w _) hb1
  obtain ⟨r0, r1⟩ := TR.two
  obtain ⟨p0, p1⟩ := TO.two
  have rf := TR.free
  have pf := TO.free
  clear hb1 hr TR TO
  go_wp2
  refine bodyPost_ret (v := notice b A1 xs.length c1) (by simp [results, Try.results14, go_sem, *]) rfl ⟨A1, c1, rfl, Own.mono (B := w.heap.size + 1 + 1 + 1) (T := w1.heap.size) (by (repeat (first | (with_reducible assumption) | (with_reducible refine Own.alloc ?_ _) | (with_reducible refine Own.drew ?_) | (with_reducible refine Own.set ?_ (by first | (simp; done) | (simp; omega) | omega) _)))) (by omega) (by simp), by (repeat (first | (with_reducible assumption) | (with_reducible exact Below.refl _ _) | (with_reducible refine Below.setCell ?_ (by first | (simp; done) | (simp; omega) | omega) _) | (with_reducible refine Below.alloc ?_ (by first | (simp; done) | (simp; omega) | omega) _) | (with_reducible refine Below.drew ?_) | (with_reducible refine Below.drewN ?_ _)))⟩
set_option maxHeartbeats 1000000 in
theorem eqNotice_any (B T B2 T2 n c m c2 : Nat) (b b2 : Int) (A A2 : Option Addr) (xs ys : List Int) (w : World) (hr : Rd w B T 1 A n (ints xs)) (hr2 : Rd w B2 T2 1 A2 m (ints ys)) (hn : n ≤ 1048576) :
    Calls Try.prog 16 #[notice b A n c, notice b2 A2 m c2] w fun e w' => e = .returned (.bool (decide (b = b2) && decide (xs = ys))) ∧ Below w.heap.size w w' := by
  by_cases hb : b = b2
  · subst hb
    go_enter Try.func16, Try.ntmps16
    go_wp2_with fail
    refine (eqIntS_any _ _ _ _ n c m c2 A A2 xs ys _ ((hr.alloc _).alloc _) ((hr2.alloc _).alloc _) hn).mono ?_
    rintro e w1 ⟨rfl, hb1⟩
    cases hd : decide (xs = ys)
    all_goals
      go_wp2
      go_ret
      exact ⟨by first | (have h := of_decide_eq_false hd; simp [h]; done) | (have h := of_decide_eq_true hd; simp [h]; done), Below.via (Below.alloc1 (Below.alloc1 (Below.refl _ _) _) _) hb1⟩
  · have hne : (b != b2) = true := by simp [hb]
    have hd : decide (b = b2) = false := by simp [hb]
    have HD := Lib.hid hd
    clear hd
    go_enter Try.func16, Try.ntmps16
    go_wp2
    go_ret
    exact ⟨by rw [HD.out]; rfl, by (repeat (first | (with_reducible assumption) | (with_reducible exact Below.refl _ _) | (with_reducible refine Below.setCell ?_ (by first | (simp; done) | (simp; omega) | omega) _) | (with_reducible refine Below.alloc ?_ (by first | (simp; done) | (simp; omega) | omega) _) | (with_reducible refine Below.drew ?_) | (with_reducible refine Below.drewN ?_ _)))⟩
set_option maxHeartbeats 1000000 in
theorem sameNotice_any (B T B2 T2 n c m c2 : Nat) (b b2 : Int) (A A2 : Option Addr) (xs ys : List Int) (w : World) (hr : Rd w B T 1 A n (ints xs)) (hr2 : Rd w B2 T2 1 A2 m (ints ys)) (hn : n ≤ 1048576) :
    Calls Try.prog 28 #[notice b A n c, notice b2 A2 m c2] w fun e w' => e = .returned (.bool (decide (b = b2) && decide (xs = ys))) ∧ Below w.heap.size w w' := by
  by_cases hb : b = b2
  · subst hb
    go_enter Try.func28, Try.ntmps28
    go_wp2_with fail
    refine (sameInts_any _ _ _ _ n c m c2 A A2 xs ys _ ((hr.alloc _).alloc _) ((hr2.alloc _).alloc _) hn).mono ?_
    rintro e w1 ⟨rfl, hb1⟩
    go_wp2
    go_ret
    exact ⟨by simp, Below.via (Below.alloc1 (Below.alloc1 (Below.refl _ _) _) _) hb1⟩
  · have hne : (b == b2) = false := by simp [hb]
    have hd : decide (b = b2) = false := by simp [hb]
    have HD := Lib.hid hd
    clear hd
    go_enter Try.func28, Try.ntmps28
    go_wp2
    go_ret
    exact ⟨by rw [HD.out]; rfl, by (repeat (first | (with_reducible assumption) | (with_reducible exact Below.refl _ _) | (with_reducible refine Below.setCell ?_ (by first | (simp; done) | (simp; omega) | omega) _) | (with_reducible refine Below.alloc ?_ (by first | (simp; done) | (simp; omega) | omega) _) | (with_reducible refine Below.drew ?_) | (with_reducible refine Below.drewN ?_ _)))⟩
set_option maxHeartbeats 400000 in
theorem markNotice_any (B T n c : Nat) (b : Int) (A : Option Addr) (xs : List Int) (k0 : Int) (w : World) (hr : Own w B T 3 1 A n c (ints xs)) (hn : n ≤ 1048576) (h0 : 0 ≤ k0) (h1 : k0 ≤ 100000000) :
    Calls Try.prog 19 #[notice b A n c, .int .i64 k0] w fun e w' => e = .returned (.int .i64 (k0 + n)) ∧ Own w' B T 3 1 A n c (ints (marks k0 n)) ∧ Fr B T w w' := by
  go_enter Try.func19, Try.ntmps19
  go_wp2_with fail
  refine (markIntS_any _ _ _ _ _ xs k0 _ (hr.alloc _) hn h0 h1).mono ?_
  rintro e w1 ⟨rfl, o1, f1⟩
  go_wp2
  go_ret
  exact ⟨rfl, o1, ((Fr.refl _ _ _).alloc _).trans f1⟩
set_option maxHeartbeats 400000 in
theorem heldNotice_any (B T n c : Nat) (b : Int) (A : Option Addr) (k0 : Int) (w : World) (hr : Rd w B T 1 A n (ints (marks k0 n))) (hn : n ≤ 1048576) (h0 : 0 ≤ k0) (h1 : k0 ≤ 100000000) :
    Calls Try.prog 20 #[notice b A n c, .int .i64 k0] w fun e w' => e = .returned (.int .i64 (k0 + n)) ∧ Below w.heap.size w w' := by
  have hk : ¬ (k0 + (n : Int)) < 0 := by omega
  go_enter Try.func20, Try.ntmps20
  go_wp2_with fail
  refine (heldIntS_any _ _ _ _ _ k0 _ (hr.alloc _) hn h0 h1).mono ?_
  rintro e w1 ⟨rfl, hb1⟩
  go_wp2
  go_ret
  exact ⟨rfl, Below.via (Below.alloc1 (Below.refl _ _) _) hb1⟩
end Go.Proofs.Ytcdbamaifdabnaa
