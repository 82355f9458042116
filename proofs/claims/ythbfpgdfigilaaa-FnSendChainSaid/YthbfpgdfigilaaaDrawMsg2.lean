/- Contracts of the draws of messages, of a code. -/
import Derived.Test.YthbfpgdfigilaaaDrawMsg
import Derived.Test.YthbfpgdfigilaaaMsgLaw
namespace Go.Proofs.Ythbfpgdfigilaaa
set_option linter.unusedVariables false
open Go.RowKit
/-- A drawn message in new memory. -/
def DrawnMsg (w : World) (e : Ending) (w' : World) : Prop :=
  ∃ (l : Int) (A : Option Addr) (c : Nat) (D : Option Addr) (d : Nat) (xs : List Int) (cs : List Cp), e = .returned (msg l A xs.length c D cs.length d) ∧ Rd w' w.heap.size w'.heap.size 1 A xs.length (ints xs) ∧ Rd w' w.heap.size w'.heap.size 4 D cs.length (caps cs) ∧ xs.length ≤ 9 ∧ cs.length ≤ 4 ∧ Below w.heap.size w w'
/-- .. and a capability. -/
def DrawnMsgC (w : World) (e : Ending) (w' : World) : Prop :=
  ∃ (l : Int) (A : Option Addr) (c : Nat) (D : Option Addr) (d : Nat) (xs : List Int) (cs : List Cp) (k o r b : Int), e = .returned (.tuple #[msg l A xs.length c D cs.length d, capv k o r b]) ∧ Rd w' w.heap.size w'.heap.size 1 A xs.length (ints xs) ∧ Rd w' w.heap.size w'.heap.size 4 D cs.length (caps cs) ∧ xs.length ≤ 9 ∧ cs.length ≤ 4 ∧ Below w.heap.size w w'
/-- Behind the choice of the capability. -/
def CutSo (w wx : World) (t1 pm pc : Nat) (l : Int) (A : Option Addr) (n c : Nat) (D : Option Addr) (m d : Nat) (xs : List Int) (cs : List Cp) : Prop :=
  ∃ k o r b : Int, Blk wx pm 30 #[.int .i64 l, .slice A n c, .slice D m d] ∧ Blk wx pc 45 #[.int .i64 k, .int .i64 o, .int .i64 r, .int .i64 b] ∧ Blk wx w.heap.size 30 #[.int .i64 0, .slice none 0 0, .slice none 0 0] ∧ Blk wx (w.heap.size + 1) 45 #[.int .i64 0, .int .i64 0, .int .i64 0, .int .i64 0] ∧
    Rd wx t1 pm 1 A n (ints xs) ∧ Rd wx t1 pm 4 D m (caps cs) ∧ Below w.heap.size w wx
/-- A drawn list of numbers, in new memory. -/
def DrawnNums (w : World) (e : Ending) (w' : World) : Prop :=
  ∃ A c xs, e = .returned (.slice A xs.length c) ∧ Rd w' w.heap.size w'.heap.size 1 A xs.length (ints xs) ∧ xs.length ≤ 20 ∧ (∀ x ∈ xs, x ≤ 9223372036854775807) ∧ xs.length ≤ c ∧ Below w.heap.size w w' 
set_option maxHeartbeats 1000000 in
theorem DrawMessageValid_any (B T n c : Nat) (A : Option Addr) (bs : List Value) (w : World) (hr : Rd w B T 1 A n bs) (hb : Bytes bs) (hn : n ≤ 1048576) (hnc : n ≤ c) :
    Calls Try.prog 34 #[.slice A n c] w (DrawnMsg w) := by
  go_enter Try.func34, Try.ntmps34
  go_wp2_with fail
  refine (l20Open_any B T n c A bs _ (hr.alloc _) hb hn hnc).mono ?_
  rintro e w1 ⟨rfl, hr1, hb1⟩
  have hR1 := (Blk.new w 30 #[.int .i64 0, .slice none 0 0, .slice none 0 0]).below hb1
  have z1 := hb1.size
  replace hr1 : Rdr w1 (w.heap.size + 1) 0 := by simpa using hr1
  have lt1 := hr1.lt
  simp at z1
  go_wp2_with fail
  refine (l20Message_any _ 0 2 _ hr1 (by omega) (by omega)).mono ?_
  rintro e w2 ⟨l, A2, c2, D2, d2, xs, cs, rfl, o2, p2, hl, hl2, -, hr2, f2⟩
  have hR2 := hR1.fr f2 (.inl (by omega))
  have z2 := f2.size
  have lt2 := hr2.lt
  have hRl := hR2.lt
  have B2 := (Below.via ((Below.refl _ _).alloc (Nat.le_refl _) _) hb1).trans (f2.below (W := w.heap.size) (by omega) (by omega))
  clear hr hb hb1 hr1 hR1 f2
  have r0 := hR2.cell 0 rfl
  have r1 := hR2.cell 1 rfl
  have r2 := hR2.cell 2 rfl
  have rf := hR2.free
  obtain ⟨n2, hn2⟩ : ∃ n2, xs.length = n2 := ⟨_, rfl⟩
  obtain ⟨m2, hm2⟩ : ∃ m2, cs.length = m2 := ⟨_, rfl⟩
  rw [hn2] at o2 hl ⊢
  rw [hm2] at p2 hl2 ⊢
  have HN := Lib.hid (And.intro hn2 hm2)
  clear hn2 hm2
  go_wp2
  refine bodyPost_ret (v := msg l A2 n2 c2 D2 m2 d2) (by simp [results, Try.results34, go_sem, *]) rfl ⟨l, A2, c2, D2, d2, xs, cs, by rw [HN.out.1, HN.out.2], ?_, ?_, by rw [HN.out.1]; exact hl, by rw [HN.out.2]; exact hl2, by (repeat (first | (with_reducible assumption) | (with_reducible exact Below.refl _ _) | (with_reducible refine Below.setCell ?_ (by first | (simp; done) | (simp; omega) | omega) _) | (with_reducible refine Below.alloc ?_ (by first | (simp; done) | (simp; omega) | omega) _) | (with_reducible refine Below.drew ?_) | (with_reducible refine Below.drewN ?_ _)))⟩
  · rw [HN.out.1]; exact Rd.mono (B := w1.heap.size) (T := w2.heap.size) (by (repeat (first | (with_reducible assumption) | (with_reducible refine Rd.alloc ?_ _) | (with_reducible refine Rd.set ?_ (by first | (simp; done) | (simp; omega) | omega) _)))) (by omega) (by first | omega | (simp; done) | (simp; omega))
  · rw [HN.out.2]; exact Rd.mono (B := w1.heap.size) (T := w2.heap.size) (by (repeat (first | (with_reducible assumption) | (with_reducible refine Rd.alloc ?_ _) | (with_reducible refine Rd.set ?_ (by first | (simp; done) | (simp; omega) | omega) _)))) (by omega) (by first | omega | (simp; done) | (simp; omega))
set_option maxHeartbeats 1000000 in
theorem DrawPackMessage_any (B T n c : Nat) (A : Option Addr) (bs : List Value) (w : World) (hr : Rd w B T 1 A n bs) (hb : Bytes bs) (hn : n ≤ 1048576) (hnc : n ≤ c) :
    Calls Try.prog 39 #[.slice A n c] w (DrawnMsg w) := by
  go_enter Try.func39, Try.ntmps39
  go_wp2_with fail
  refine (l20Open_any B T n c A bs _ (hr.alloc _) hb hn hnc).mono ?_
  rintro e w1 ⟨rfl, hr1, hb1⟩
  have hR1 := (Blk.new w 30 #[.int .i64 0, .slice none 0 0, .slice none 0 0]).below hb1
  have z1 := hb1.size
  replace hr1 : Rdr w1 (w.heap.size + 1) 0 := by simpa using hr1
  have lt1 := hr1.lt
  simp at z1
  go_wp2_with fail
  refine (l20Message_any _ 0 6 _ hr1 (by omega) (by omega)).mono ?_
  rintro e w2 ⟨l, A2, c2, D2, d2, xs, cs, rfl, o2, p2, hl, hl2, -, hr2, f2⟩
  have hR2 := hR1.fr f2 (.inl (by omega))
  have z2 := f2.size
  have lt2 := hr2.lt
  have hRl := hR2.lt
  have B2 := (Below.via ((Below.refl _ _).alloc (Nat.le_refl _) _) hb1).trans (f2.below (W := w.heap.size) (by omega) (by omega))
  clear hr hb hb1 hr1 hR1 f2
  have r0 := hR2.cell 0 rfl
  have r1 := hR2.cell 1 rfl
  have r2 := hR2.cell 2 rfl
  have rf := hR2.free
  obtain ⟨n2, hn2⟩ : ∃ n2, xs.length = n2 := ⟨_, rfl⟩
  obtain ⟨m2, hm2⟩ : ∃ m2, cs.length = m2 := ⟨_, rfl⟩
  rw [hn2] at o2 hl ⊢
  rw [hm2] at p2 hl2 ⊢
  have HN := Lib.hid (And.intro hn2 hm2)
  clear hn2 hm2
  go_wp2
  refine bodyPost_ret (v := msg l A2 n2 c2 D2 m2 d2) (by simp [results, Try.results39, go_sem, *]) rfl ⟨l, A2, c2, D2, d2, xs, cs, by rw [HN.out.1, HN.out.2], ?_, ?_, by rw [HN.out.1]; exact hl, by rw [HN.out.2]; exact hl2, by (repeat (first | (with_reducible assumption) | (with_reducible exact Below.refl _ _) | (with_reducible refine Below.setCell ?_ (by first | (simp; done) | (simp; omega) | omega) _) | (with_reducible refine Below.alloc ?_ (by first | (simp; done) | (simp; omega) | omega) _) | (with_reducible refine Below.drew ?_) | (with_reducible refine Below.drewN ?_ _)))⟩
  · rw [HN.out.1]; exact Rd.mono (B := w1.heap.size) (T := w2.heap.size) (by (repeat (first | (with_reducible assumption) | (with_reducible refine Rd.alloc ?_ _) | (with_reducible refine Rd.set ?_ (by first | (simp; done) | (simp; omega) | omega) _)))) (by omega) (by first | omega | (simp; done) | (simp; omega))
  · rw [HN.out.2]; exact Rd.mono (B := w1.heap.size) (T := w2.heap.size) (by (repeat (first | (with_reducible assumption) | (with_reducible refine Rd.alloc ?_ _) | (with_reducible refine Rd.set ?_ (by first | (simp; done) | (simp; omega) | omega) _)))) (by omega) (by first | omega | (simp; done) | (simp; omega))
set_option maxRecDepth 100000 in
set_option maxHeartbeats 8000000 in
theorem DrawSendOver_any (B T n c : Nat) (A : Option Addr) (bs : List Value) (w : World) (hr : Rd w B T 1 A n bs) (hb : Bytes bs) (hn : n ≤ 1048576) (hnc : n ≤ c) :
    Calls Try.prog 35 #[.slice A n c] w (DrawnMsgC w) := by
  go_enter Try.func35, Try.ntmps35
  go_wp2_with fail
  refine (l20Open_any B T n c A bs _ ((hr.alloc _).alloc _) hb hn hnc).mono ?_
  rintro e w1 ⟨rfl, hr1, hb1⟩
  have TR := ((Blk.new w 30 #[.int .i64 0, .slice none 0 0, .slice none 0 0]).alloc (.cells #[.int .i64 0, .int .i64 0, .int .i64 0, .int .i64 0] 45)).below hb1
  have TS := (Blk.newAt (w := w.alloc (.cells #[.int .i64 0, .slice none 0 0, .slice none 0 0] 30)) (n := w.heap.size + 1) 45 #[.int .i64 0, .int .i64 0, .int .i64 0, .int .i64 0] (by simp)).below hb1
  have z1 := hb1.size
  replace hr1 : Rdr w1 (w.heap.size + 1 + 1) 0 := by simpa using hr1
  have lt1 := hr1.lt
  simp at z1
  have hB := Below.via (by (repeat (first | (with_reducible assumption) | (with_reducible exact Below.refl _ _) | (with_reducible refine Below.setCell ?_ (by first | (simp; done) | (simp; omega) | omega) _) | (with_reducible refine Below.alloc ?_ (by first | (simp; done) | (simp; omega) | omega) _) | (with_reducible refine Below.drew ?_) | (with_reducible refine Below.drewN ?_ _))) : Below w.heap.size w _) hb1
  clear hr hb hb1
  go_wp2_with fail
  refine (l20Message_any _ 0 12 _ hr1 (by omega) (by omega)).mono ?_
  rintro e w2 ⟨l, A2, c2, D2, d2, xs, cs, rfl, o2, p2, hl, hl2, -, hr2, f2⟩
  have z2 := f2.size
  have lt2 := hr2.lt
  replace TR := TR.fr f2 (.inl (by omega))
  replace TS := TS.fr f2 (.inl (by omega))
  replace hB := hB.trans (f2.below (W := w.heap.size) (by omega) (by omega))
  clear hr1 f2
  obtain ⟨n2, hn2⟩ : ∃ n2, xs.length = n2 := ⟨_, rfl⟩
  obtain ⟨m2, hm2⟩ : ∃ m2, cs.length = m2 := ⟨_, rfl⟩
  rw [hn2] at o2 hl ⊢
  rw [hm2] at p2 hl2 ⊢
  have HN := Lib.hid (And.intro hn2 hm2)
  clear hn2 hm2
  go_wp2_with fail
  refine (pick_any _ _ (4) _ (hr2.alloc _) (by omega) (by omega)).mono ?_
  rintro e w3 ⟨v3, rfl, hv3, ul3, -, hr3, f3⟩
  replace ul3 := ul3 (by omega)
  have z3 := f3.size
  have lt3 := hr3.lt
  simp at z3
  have TM := (Blk.new w2 30 #[.int .i64 l, .slice A2 n2 c2, .slice D2 m2 d2]).fr f3 (.inr (by omega))
  replace TR := (TR.alloc (.cells #[.int .i64 l, .slice A2 n2 c2, .slice D2 m2 d2] 30)).fr f3 (.inl (by omega))
  replace TS := (TS.alloc (.cells #[.int .i64 l, .slice A2 n2 c2, .slice D2 m2 d2] 30)).fr f3 (.inl (by omega))
  replace o2 := (o2.alloc (.cells #[.int .i64 l, .slice A2 n2 c2, .slice D2 m2 d2] 30)).fr f3 (.inr (by omega))
  replace p2 := (p2.alloc (.cells #[.int .i64 l, .slice A2 n2 c2, .slice D2 m2 d2] 30)).fr f3 (.inr (by omega))
  replace hB := Below.trans (by (repeat (first | (with_reducible assumption) | (with_reducible exact Below.refl _ _) | (with_reducible refine Below.setCell ?_ (by first | (simp; done) | (simp; omega) | omega) _) | (with_reducible refine Below.alloc ?_ (by first | (simp; done) | (simp; omega) | omega) _) | (with_reducible refine Below.drew ?_) | (with_reducible refine Below.drewN ?_ _))) : Below w.heap.size w (w2.alloc (.cells #[.int .i64 l, .slice A2 n2 c2, .slice D2 m2 d2] 30))) (f3.below (W := w.heap.size) (by omega) (by simp; omega))
  clear f3
  go_wp2_with fail
  refine (l20Rights_any _ _ 0 _ hr3 (by omega) (by omega)).mono ?_
  rintro e w4 ⟨v4, rfl, -, hr4, f4⟩
  have z4 := f4.size
  have lt4 := hr4.lt
  replace TM := TM.fr f4 (.inr (by omega))
  replace TR := TR.fr f4 (.inl (by omega))
  replace TS := TS.fr f4 (.inl (by omega))
  replace o2 := o2.fr f4 (.inr (by omega))
  replace p2 := p2.fr f4 (.inr (by omega))
  replace hB := hB.trans (f4.below (W := w.heap.size) (by omega) (by omega))
  clear f4
  go_wp2_with fail
  refine (pick_any _ _ (3) _ hr4 (by omega) (by omega)).mono ?_
  rintro e w5 ⟨v5, rfl, hv5, ul5, -, hr5, f5⟩
  replace ul5 := ul5 (by omega)
  have z5 := f5.size
  have lt5 := hr5.lt
  replace TM := TM.fr f5 (.inr (by omega))
  replace TR := TR.fr f5 (.inl (by omega))
  replace TS := TS.fr f5 (.inl (by omega))
  replace o2 := o2.fr f5 (.inr (by omega))
  replace p2 := p2.fr f5 (.inr (by omega))
  replace hB := hB.trans (f5.below (W := w.heap.size) (by omega) (by omega))
  clear f5
  go_wp2_with fail
  refine (odd_any _ _ (6) _ (hr5.alloc _) (by omega) (by omega)).mono ?_
  rintro e w6 ⟨b6, rfl, hr6, f6⟩
  have z6 := f6.size
  have lt6 := hr6.lt
  simp at z6
  have TC := (Blk.new w5 45 #[.int .i64 4, .int .i64 v3, .int .i64 v4, .int .i64 v5]).fr f6 (.inr (by omega))
  replace TM := (TM.alloc (.cells #[.int .i64 4, .int .i64 v3, .int .i64 v4, .int .i64 v5] 45)).fr f6 (.inr (by omega))
  replace TR := (TR.alloc (.cells #[.int .i64 4, .int .i64 v3, .int .i64 v4, .int .i64 v5] 45)).fr f6 (.inl (by omega))
  replace TS := (TS.alloc (.cells #[.int .i64 4, .int .i64 v3, .int .i64 v4, .int .i64 v5] 45)).fr f6 (.inl (by omega))
  replace o2 := (o2.alloc (.cells #[.int .i64 4, .int .i64 v3, .int .i64 v4, .int .i64 v5] 45)).fr f6 (.inr (by omega))
  replace p2 := (p2.alloc (.cells #[.int .i64 4, .int .i64 v3, .int .i64 v4, .int .i64 v5] 45)).fr f6 (.inr (by omega))
  replace hB := Below.trans (by (repeat (first | (with_reducible assumption) | (with_reducible exact Below.refl _ _) | (with_reducible refine Below.setCell ?_ (by first | (simp; done) | (simp; omega) | omega) _) | (with_reducible refine Below.alloc ?_ (by first | (simp; done) | (simp; omega) | omega) _) | (with_reducible refine Below.drew ?_) | (with_reducible refine Below.drewN ?_ _))) : Below w.heap.size w (w5.alloc (.cells #[.int .i64 4, .int .i64 v3, .int .i64 v4, .int .i64 v5] 45))) (f6.below (W := w.heap.size) (by omega) (by simp; omega))
  clear f6 hr2 hr3 hr4 hr5
  have lC := TC.lt
  have lM := TM.lt
  go_upto_if 19 with (fail)
  go_cut [] (fun wx => CutSo w wx w1.heap.size w2.heap.size w5.heap.size l A2 n2 c2 D2 m2 d2 xs cs)
  case first =>
    cases b6
    · go_wp2_with fail
      go_meet
      exact ⟨4, v3, v4, v5, TM, TC, TR, TS, o2, p2, by (repeat (first | (with_reducible assumption) | (with_reducible exact Below.refl _ _) | (with_reducible refine Below.setCell ?_ (by first | (simp; done) | (simp; omega) | omega) _) | (with_reducible refine Below.alloc ?_ (by first | (simp; done) | (simp; omega) | omega) _) | (with_reducible refine Below.drew ?_) | (with_reducible refine Below.drewN ?_ _)))⟩
    · skip
      go_wp2_with fail
      refine (l20Cap_any _ _ 4 _ hr6 (by omega) (by omega)).mono ?_
      rintro e w7 ⟨k7, o7, r7, b7, rfl, -, hr7, f7⟩
      have z7 := f7.size
      replace TM := TM.fr f7 (.inr (by omega))
      replace TC := TC.fr f7 (.inr (by omega))
      replace TR := TR.fr f7 (.inl (by omega))
      replace TS := TS.fr f7 (.inl (by omega))
      replace o2 := o2.fr f7 (.inr (by omega))
      replace p2 := p2.fr f7 (.inr (by omega))
      replace hB := hB.trans (f7.below (W := w.heap.size) (by omega) (by omega))
      clear f7 hr6
      obtain ⟨c0, c1, c2', c3⟩ := TC.four
      have cf := TC.free
      go_wp2_with fail
      go_meet
      exact ⟨k7, o7, r7, b7, by (repeat (first | (with_reducible assumption) | (with_reducible refine Blk.drew ?_) | (with_reducible refine Blk.other ?_ (by first | (simp; done) | (simp; omega) | omega) _) | (with_reducible refine Blk.alloc ?_ _))), (((TC.set 0 _).set 1 _).set 2 _).set 3 _, by (repeat (first | (with_reducible assumption) | (with_reducible refine Blk.drew ?_) | (with_reducible refine Blk.other ?_ (by first | (simp; done) | (simp; omega) | omega) _) | (with_reducible refine Blk.alloc ?_ _))), by (repeat (first | (with_reducible assumption) | (with_reducible refine Blk.drew ?_) | (with_reducible refine Blk.other ?_ (by first | (simp; done) | (simp; omega) | omega) _) | (with_reducible refine Blk.alloc ?_ _))), by (repeat (first | (with_reducible assumption) | (with_reducible refine Rd.alloc ?_ _) | (with_reducible refine Rd.set ?_ (by first | (simp; done) | (simp; omega) | omega) _))), by (repeat (first | (with_reducible assumption) | (with_reducible refine Rd.alloc ?_ _) | (with_reducible refine Rd.set ?_ (by first | (simp; done) | (simp; omega) | omega) _))), by (repeat (first | (with_reducible assumption) | (with_reducible exact Below.refl _ _) | (with_reducible refine Below.setCell ?_ (by first | (simp; done) | (simp; omega) | omega) _) | (with_reducible refine Below.alloc ?_ (by first | (simp; done) | (simp; omega) | omega) _) | (with_reducible refine Below.drew ?_) | (with_reducible refine Below.drewN ?_ _)))⟩
  case rest =>
    clear TM TC TR TS o2 p2 hB hr6 lC lM
    obtain ⟨k, o, r, b, TM, TC, TR, TS, o2, p2, hB⟩ := hcut
    have lM := TM.lt
    have lC := TC.lt
    have lS := TS.lt
    obtain ⟨c0, c1, c2', c3⟩ := TC.four
    obtain ⟨s0, s1, s2, s3⟩ := TS.four
    have m0 := TM.cell 0 rfl
    have m1 := TM.cell 1 rfl
    have m2' := TM.cell 2 rfl
    have r0 := TR.cell 0 rfl
    have r1 := TR.cell 1 rfl
    have r2 := TR.cell 2 rfl
    have rf := TR.free
    have sf := TS.free
    go_upto_region 6 with (fail)
    refine wp_region_noPanic ?_
    refine wp_region_held_drew (S := (fun W => (W.cell? ⟨w2.heap.size, 0, none⟩ = some (.int .i64 l) ∧ W.cell? ⟨w2.heap.size, 1, none⟩ = some (.slice A2 n2 c2) ∧ W.cell? ⟨w2.heap.size, 2, none⟩ = some (.slice D2 m2 d2)) ∧ W.cell? ⟨w5.heap.size, 0, none⟩ = some (.int .i64 k) ∧ W.cell? ⟨w5.heap.size, 1, none⟩ = some (.int .i64 o) ∧ W.cell? ⟨w5.heap.size, 2, none⟩ = some (.int .i64 r) ∧ W.cell? ⟨w5.heap.size, 3, none⟩ = some (.int .i64 b))) (by kernel_rfl) ?_ (fun hHeld => ?_)
    focus (first | exact trivial | ((try dsimp only); ((repeat' (first | assumption | with_reducible refine And.intro ?_ ?_)) <;> go_keep))); done
    refine wpAnyH_take (i := 0) (v := ?_) (by rw [List.getElem?_toArray]; rfl) (by kernel_rfl) (by kernel_rfl) (by kernel_rfl) (fun _ _ _ h => h) (Or.inl ⟨by rfl, ?_⟩) (by assumption) ?_
    rotate_left
    focus (intro wS hSw; (try dsimp only at hSw); go_simp; (try with_reducible rfl)); done
    (try simp only [Act.put, List.setIfInBounds_toArray, List.set_cons_zero, List.set_cons_succ])
    refine wpAnyH_take (i := 1) (v := ?_) (by rw [List.getElem?_toArray]; rfl) (by kernel_rfl) (by kernel_rfl) (by kernel_rfl) (fun _ _ _ h => h) (Or.inl ⟨by rfl, ?_⟩) (by assumption) ?_
    rotate_left
    focus (intro wS hSw; (try dsimp only at hSw); go_simp; (try with_reducible rfl)); done
    (try simp only [Act.put, List.setIfInBounds_toArray, List.set_cons_zero, List.set_cons_succ])
    refine wpAnyH_ready (rs := [2]) (by kernel_rfl) (by simp) ?_
    refine AllReadyH.cons (by rw [List.getElem?_toArray]; rfl) (fun K hK => ?_) AllReadyH.nil
    go_simp
    skip
    refine hK.out _ _ ?_ (fun hHeld => ?_)
    focus (first | exact trivial | ((try dsimp only); (exact ⟨⟨Blk.cell (by (repeat (first | (with_reducible assumption) | (with_reducible refine Blk.drew ?_) | (with_reducible refine Blk.other ?_ (by first | (simp; done) | (simp; omega) | omega) _) | (with_reducible refine Blk.alloc ?_ _))) : Blk _ w2.heap.size 30 #[.int .i64 l, .slice A2 n2 c2, .slice D2 m2 d2]) 0 rfl, Blk.cell (by (repeat (first | (with_reducible assumption) | (with_reducible refine Blk.drew ?_) | (with_reducible refine Blk.other ?_ (by first | (simp; done) | (simp; omega) | omega) _) | (with_reducible refine Blk.alloc ?_ _))) : Blk _ w2.heap.size 30 #[.int .i64 l, .slice A2 n2 c2, .slice D2 m2 d2]) 1 rfl, Blk.cell (by (repeat (first | (with_reducible assumption) | (with_reducible refine Blk.drew ?_) | (with_reducible refine Blk.other ?_ (by first | (simp; done) | (simp; omega) | omega) _) | (with_reducible refine Blk.alloc ?_ _))) : Blk _ w2.heap.size 30 #[.int .i64 l, .slice A2 n2 c2, .slice D2 m2 d2]) 2 rfl⟩, Blk.cell (by (repeat (first | (with_reducible assumption) | (with_reducible refine Blk.drew ?_) | (with_reducible refine Blk.other ?_ (by first | (simp; done) | (simp; omega) | omega) _) | (with_reducible refine Blk.alloc ?_ _))) : Blk _ w5.heap.size 45 #[.int .i64 k, .int .i64 o, .int .i64 r, .int .i64 b]) 0 rfl, Blk.cell (by (repeat (first | (with_reducible assumption) | (with_reducible refine Blk.drew ?_) | (with_reducible refine Blk.other ?_ (by first | (simp; done) | (simp; omega) | omega) _) | (with_reducible refine Blk.alloc ?_ _))) : Blk _ w5.heap.size 45 #[.int .i64 k, .int .i64 o, .int .i64 r, .int .i64 b]) 1 rfl, Blk.cell (by (repeat (first | (with_reducible assumption) | (with_reducible refine Blk.drew ?_) | (with_reducible refine Blk.other ?_ (by first | (simp; done) | (simp; omega) | omega) _) | (with_reducible refine Blk.alloc ?_ _))) : Blk _ w5.heap.size 45 #[.int .i64 k, .int .i64 o, .int .i64 r, .int .i64 b]) 2 rfl, Blk.cell (by (repeat (first | (with_reducible assumption) | (with_reducible refine Blk.drew ?_) | (with_reducible refine Blk.other ?_ (by first | (simp; done) | (simp; omega) | omega) _) | (with_reducible refine Blk.alloc ?_ _))) : Blk _ w5.heap.size 45 #[.int .i64 k, .int .i64 o, .int .i64 r, .int .i64 b]) 3 rfl⟩))); done
    clear hK K
    (try simp only [Act.put, List.setIfInBounds_toArray, List.set_cons_zero, List.set_cons_succ])
    refine wpAnyH_ready (rs := [3]) (by kernel_rfl) (by simp) ?_
    refine AllReadyH.cons (by rw [List.getElem?_toArray]; rfl) (fun K hK => ?_) AllReadyH.nil
    go_simp
    skip
    refine hK.out _ _ ?_ (fun hHeld => ?_)
    focus (first | exact trivial | ((try dsimp only); (exact ⟨⟨Blk.cell (by (repeat (first | (with_reducible assumption) | (with_reducible refine Blk.drew ?_) | (with_reducible refine Blk.other ?_ (by first | (simp; done) | (simp; omega) | omega) _) | (with_reducible refine Blk.alloc ?_ _))) : Blk _ w2.heap.size 30 #[.int .i64 l, .slice A2 n2 c2, .slice D2 m2 d2]) 0 rfl, Blk.cell (by (repeat (first | (with_reducible assumption) | (with_reducible refine Blk.drew ?_) | (with_reducible refine Blk.other ?_ (by first | (simp; done) | (simp; omega) | omega) _) | (with_reducible refine Blk.alloc ?_ _))) : Blk _ w2.heap.size 30 #[.int .i64 l, .slice A2 n2 c2, .slice D2 m2 d2]) 1 rfl, Blk.cell (by (repeat (first | (with_reducible assumption) | (with_reducible refine Blk.drew ?_) | (with_reducible refine Blk.other ?_ (by first | (simp; done) | (simp; omega) | omega) _) | (with_reducible refine Blk.alloc ?_ _))) : Blk _ w2.heap.size 30 #[.int .i64 l, .slice A2 n2 c2, .slice D2 m2 d2]) 2 rfl⟩, Blk.cell (by (repeat (first | (with_reducible assumption) | (with_reducible refine Blk.drew ?_) | (with_reducible refine Blk.other ?_ (by first | (simp; done) | (simp; omega) | omega) _) | (with_reducible refine Blk.alloc ?_ _))) : Blk _ w5.heap.size 45 #[.int .i64 k, .int .i64 o, .int .i64 r, .int .i64 b]) 0 rfl, Blk.cell (by (repeat (first | (with_reducible assumption) | (with_reducible refine Blk.drew ?_) | (with_reducible refine Blk.other ?_ (by first | (simp; done) | (simp; omega) | omega) _) | (with_reducible refine Blk.alloc ?_ _))) : Blk _ w5.heap.size 45 #[.int .i64 k, .int .i64 o, .int .i64 r, .int .i64 b]) 1 rfl, Blk.cell (by (repeat (first | (with_reducible assumption) | (with_reducible refine Blk.drew ?_) | (with_reducible refine Blk.other ?_ (by first | (simp; done) | (simp; omega) | omega) _) | (with_reducible refine Blk.alloc ?_ _))) : Blk _ w5.heap.size 45 #[.int .i64 k, .int .i64 o, .int .i64 r, .int .i64 b]) 2 rfl, Blk.cell (by (repeat (first | (with_reducible assumption) | (with_reducible refine Blk.drew ?_) | (with_reducible refine Blk.other ?_ (by first | (simp; done) | (simp; omega) | omega) _) | (with_reducible refine Blk.alloc ?_ _))) : Blk _ w5.heap.size 45 #[.int .i64 k, .int .i64 o, .int .i64 r, .int .i64 b]) 3 rfl⟩))); done
    clear hK K
    (try simp only [Act.put, List.setIfInBounds_toArray, List.set_cons_zero, List.set_cons_succ])
    refine wpAnyH_done (by kernel_rfl) ?_ _
    refine NoPanic.normal ?_
    go_wp2
    refine bodyPost_ret (v := .tuple #[msg l A2 n2 c2 D2 m2 d2, capv k o r b]) (by simp [results, Try.results35, go_sem, *]) rfl ⟨l, A2, c2, D2, d2, xs, cs, k, o, r, b, by rw [HN.out.1, HN.out.2], ?_, ?_, by rw [HN.out.1]; exact hl, by rw [HN.out.2]; exact hl2, by (repeat (first | (with_reducible assumption) | (with_reducible exact Below.refl _ _) | (with_reducible refine Below.setCell ?_ (by first | (simp; done) | (simp; omega) | omega) _) | (with_reducible refine Below.alloc ?_ (by first | (simp; done) | (simp; omega) | omega) _) | (with_reducible refine Below.drew ?_) | (with_reducible refine Below.drewN ?_ _)))⟩
    · rw [HN.out.1]; exact Rd.mono (B := w1.heap.size) (T := w2.heap.size) (by (repeat (first | (with_reducible assumption) | (with_reducible refine Rd.drew ?_) | (with_reducible refine Rd.alloc ?_ _) | (with_reducible refine Rd.set ?_ (by first | (simp; done) | (simp; omega) | omega) _)))) (by omega) (by first | omega | (simp; done) | (simp; omega))
    · rw [HN.out.2]; exact Rd.mono (B := w1.heap.size) (T := w2.heap.size) (by (repeat (first | (with_reducible assumption) | (with_reducible refine Rd.drew ?_) | (with_reducible refine Rd.alloc ?_ _) | (with_reducible refine Rd.set ?_ (by first | (simp; done) | (simp; omega) | omega) _)))) (by omega) (by first | omega | (simp; done) | (simp; omega))
theorem ints_setv (xs : List Int) (k : Nat) (z : Int) : (ints xs).set k (.int .i64 z) = ints (xs.set k z) := by unfold ints; rw [List.map_set]
theorem ld4 (x y u v : Int) (hx : x ≤ 9223372036854775807) (hy : y ≤ 9223372036854775807) (hu : u ≤ 9223372036854775807) (hv : v ≤ 9223372036854775807) {q : Nat} (h : q < 4) : ∃ z : Int, (#[.int .i64 x, .int .i64 y, .int .i64 u, .int .i64 v] : Array Value)[q]? = some (.int .i64 z) ∧ z ≤ 9223372036854775807 := by
  match q, h with
  | 0, _ => exact ⟨x, rfl, hx⟩
  | 1, _ => exact ⟨y, rfl, hy⟩
  | 2, _ => exact ⟨u, rfl, hu⟩
  | 3, _ => exact ⟨v, rfl, hv⟩
set_option maxHeartbeats 4000000 in
theorem DrawUnpackMessage_any (B T n c : Nat) (A : Option Addr) (bs : List Value) (w : World) (hr : Rd w B T 1 A n bs) (hb : Bytes bs) (hn : n ≤ 1048576) (hnc : n ≤ c) :
    Calls Try.prog 30 #[.slice A n c] w (DrawnNums w) := by
  obtain ⟨i0, hi0, hz0, hz1, hz2⟩ := info_parts Try.infoInt
  go_enter Try.func30, Try.ntmps30
  go_wp2_with fail
  refine (l20Open_any B T n c A bs _ hr hb hn hnc).mono ?_
  rintro e w1 ⟨rfl, hr1, hb1⟩
  have z1 := hb1.size
  have lt1 := hr1.lt
  go_wp2_with fail
  refine (l20Message_any _ 0 0 _ hr1 (by omega) (by omega)).mono ?_
  rintro e w2 ⟨l, A2, c2, D2, d2, xs, cs, rfl, o2, p2, hl, hl2, hok, hr2, f2⟩
  have z2 := f2.size
  have HY := pack_hi (hok (Int.le_refl _))
  have hB := hb1.trans (f2.below (W := w.heap.size) (by omega) (by omega))
  clear hr hb hb1 hr1 f2 hok
  go_wp2_with fail
  refine (sPackMessage_any _ _ _ _ _ _ l _ _ xs cs _ o2 (by omega) p2 (by omega)).mono ?_
  rintro e w3 ⟨A3, c3, rfl, o3, hb3⟩
  have z3 := hb3.size
  replace hB := Below.via hB hb3
  have hr3 := hr2.below hb3
  clear o2 p2 hr2 hb3
  have lt3 := hr3.lt
  generalize packL l xs cs = ys at *
  obtain ⟨n3, hn3⟩ : ∃ n3, ys.length = n3 := ⟨_, rfl⟩
  rw [hn3] at o3 HY ⊢
  have HN := Lib.hid hn3
  have HX := Lib.hid HY.2.2
  obtain ⟨hn2, hn13, -⟩ := HY
  have hle := o3.le
  clear hn3
  go_wp2_with fail
  refine (odd_any _ _ (3) _ hr3 (by omega) (by omega)).mono ?_
  rintro e w4 ⟨b4, rfl, hr4, f4⟩
  have z4 := f4.size
  have lt4 := hr4.lt
  replace o3 := o3.fr f4 (.inr (by omega))
  replace hB := hB.trans (f4.below (W := w.heap.size) (by omega) (by omega))
  clear f4 hr3
  cases b4
  · have H3 := o3.rd
    clear o3
    go_wp2
    go_ret
    exact ⟨A3, c3, ys, by rw [HN.out] <;> rfl, by rw [HN.out]; exact H3.mono (by omega) (by omega), by rw [HN.out]; omega, HX.out, by rw [HN.out]; omega, hB⟩
  · skip
    go_wp2_with fail
    refine (pick_any _ _ (3) _ hr4 (by omega) (by omega)).mono ?_
    rintro e w5 ⟨v5, rfl, hv5, ul5, -, hr5, f5⟩
    replace ul5 := ul5 (by omega)
    have z5 := f5.size
    have lt5 := hr5.lt
    replace o3 := o3.fr f5 (.inr (by omega))
    replace hB := hB.trans (f5.below (W := w.heap.size) (by omega) (by omega))
    have hvv : v5 = 0 ∨ v5 = 1 ∨ v5 = 2 := by omega
    clear f5 hr4 hv5 ul5
    rcases hvv with rfl | rfl | rfl
    · skip
      go_wp2_with fail
      refine (pick_any _ _ (n3) _ hr5 (by omega) (by omega)).mono ?_
      rintro e w6 ⟨v6, rfl, hv6, ul6, -, hr6, f6⟩
      replace ul6 := ul6 (by omega)
      have z6 := f6.size
      have lt6 := hr6.lt
      replace o3 := o3.fr f6 (.inr (by omega))
      replace hB := hB.trans (f6.below (W := w.heap.size) (by omega) (by omega))
      clear f6 hr5
      go_wp2_with fail
      refine (pick_any _ _ (256) _ hr6 (by omega) (by omega)).mono ?_
      rintro e w7 ⟨v7, rfl, hv7, ul7, -, hr7, f7⟩
      replace ul7 := ul7 (by omega)
      have z7 := f7.size
      have lt7 := hr7.lt
      replace o3 := o3.fr f7 (.inr (by omega))
      replace hB := hB.trans (f7.below (W := w.heap.size) (by omega) (by omega))
      clear f7 hr6
      go_wp2_with fail
      refine (pick_any _ _ (4) _ (hr7.alloc _) (by omega) (by omega)).mono ?_
      rintro e w8 ⟨v8, rfl, hv8, ul8, -, hr8, f8⟩
      replace ul8 := ul8 (by omega)
      have z8 := f8.size
      have lt8 := hr8.lt
      simp at z8
      replace o3 := (o3.alloc (.cells #[.int .i64 (-1), .int .i64 0, .int .i64 v7, .int .i64 1099511627776] 3)).fr f8 (.inr (by omega))
      replace hB := Below.trans (by (repeat (first | (with_reducible assumption) | (with_reducible exact Below.refl _ _) | (with_reducible refine Below.setCell ?_ (by first | (simp; done) | (simp; omega) | omega) _) | (with_reducible refine Below.alloc ?_ (by first | (simp; done) | (simp; omega) | omega) _) | (with_reducible refine Below.drew ?_) | (with_reducible refine Below.drewN ?_ _))) : Below w.heap.size w (w7.alloc (.cells #[.int .i64 (-1), .int .i64 0, .int .i64 v7, .int .i64 1099511627776] 3))) (f8.below (W := w.heap.size) (by omega) (by simp; omega))
      obtain ⟨q, rfl⟩ := Int.eq_ofNat_of_zero_le hv8
      obtain ⟨j, rfl⟩ := Int.eq_ofNat_of_zero_le hv6
      have hq : q < 4 := by omega
      have hj : j < n3 := by omega
      obtain ⟨z, hz, hzb⟩ := ld4 (-1) 0 v7 1099511627776 (by omega) (by omega) (by omega) (by omega) hq
      have c0 := ((Blk.new w7 3 #[.int .i64 (-1), .int .i64 0, .int .i64 v7, .int .i64 1099511627776]).fr f8 (.inr (by omega))).cell q hz
      obtain ⟨gb, go, rfl, hg0, hg1, hg2, hgc, hgf, hgs⟩ := o3.at_ (by omega)
      obtain ⟨y, hy⟩ : ∃ y, ys[j]? = some y := ⟨_, List.getElem?_eq_getElem (by rw [HN.out]; exact hj)⟩
      have cj := hgc j (.int .i64 y) (by unfold ints; rw [List.getElem?_map, hy]; rfl)
      have HS := Lib.hid (hgs j (.int .i64 z) (by unfold ints; rw [List.length_map, HN.out]; exact hj))
      have HZ := Lib.hid hzb
      clear hz f8 hv8 hv6 hr7 hr8 hgc hgs hy hzb o3 hv7 ul7
      go_wp2
      go_ret
      refine ⟨(some ⟨gb, go, none⟩), c3, ys.set j z, by rw [List.length_set, HN.out] <;> rfl, ?_, by rw [List.length_set, HN.out]; omega, ?_, by rw [List.length_set, HN.out]; omega, by (repeat (first | (with_reducible assumption) | (with_reducible exact Below.refl _ _) | (with_reducible refine Below.setCell ?_ (by first | (simp; done) | (simp; omega) | omega) _) | (with_reducible refine Below.alloc ?_ (by first | (simp; done) | (simp; omega) | omega) _) | (with_reducible refine Below.drew ?_) | (with_reducible refine Below.drewN ?_ _)))⟩
      · rw [List.length_set, HN.out, ← ints_setv]
        exact (HS.out.rd).mono (by omega) (by simp; omega)
      · intro x hx
        rcases List.mem_or_eq_of_mem_set hx with h | rfl
        · exact HX.out x h
        · exact HZ.out
    · have k1 : wrap64 ((n3 : Int) - 1) = ((n3 - 1 : Nat) : Int) := by unfold wrap64; omega
      have k2 : IntKind.i64.wrap ((n3 : Int) - 1) = ((n3 - 1 : Nat) : Int) := by rw [IntKind.wrap_i64]; omega
      have k3 : ((n3 - 1 : Nat) : Int) ≤ (c3 : Int) := by omega
      have k4 : (0 : Int) ≤ ((n3 - 1 : Nat) : Int) := by omega
      have HT := Lib.hid (o3.rd.take (k := n3 - 1) (by omega))
      clear o3
      go_wp2
      go_ret
      refine ⟨A3, c3, ys.take (n3 - 1), by rw [List.length_take, HN.out, Nat.min_eq_left (by omega)] <;> rfl, ?_, by rw [List.length_take]; omega, fun x hx => HX.out x (List.mem_of_mem_take hx), by rw [List.length_take]; omega, hB⟩
      have h9 := HT.out
      rw [Nat.mul_one] at h9
      rw [List.length_take, HN.out, Nat.min_eq_left (by omega), ints_take]
      exact h9.mono (by omega) (by omega)
    · go_wp2_with (at_builtin; refine wpList_app _ rfl (.tmp 14) (.tmp 15) 22 rfl 3 i0 (.int .i64 0) 1 8 Try.underlying22 hi0 hz0 hz1 hz2 rfl (by omega) w2.heap.size w3.heap.size w5.heap.size (w5.heap.size + 1) A3 (some ⟨w5.heap.size, 0, none⟩) n3 c3 1 1 (ints ys) (ints [5]) rfl rfl (o3.alloc _) (Own.new (e := 3) (size := 1) w5 #[.int .i64 5] 1 (by unfold maxLen; omega) rfl).rd (ints_one _) (by unfold maxLen; omega) (by omega) (by simp; omega) ?_; intro A7 c7 w7 o7 f7; have z7 := f7.size; (try simp at z7); replace hB := Below.trans (by (repeat (first | (with_reducible assumption) | (with_reducible exact Below.refl _ _) | (with_reducible refine Below.setCell ?_ (by first | (simp; done) | (simp; omega) | omega) _) | (with_reducible refine Below.alloc ?_ (by first | (simp; done) | (simp; omega) | omega) _) | (with_reducible refine Below.drew ?_) | (with_reducible refine Below.drewN ?_ _))) : Below w.heap.size w (w5.alloc (.cells #[.int .i64 5] 3))) (f7.below (W := w.heap.size) (by omega) (by simp; omega)))
      go_ret
      have hle7 := o7.le
      exact ⟨A7, c7, ys ++ [5], by rw [List.length_append, HN.out]; rfl, by rw [List.length_append, HN.out, ints_append]; exact o7.rd.mono (by omega) (Nat.le_refl _), by rw [List.length_append, HN.out]; simp; omega, fun x hx => by rcases List.mem_append.1 hx with h | h; exact HX.out x h; simp at h; omega, by rw [List.length_append, HN.out]; exact hle7, hB⟩
end Go.Proofs.Ythbfpgdfigilaaa
