/- Contracts of the draws of rights and of capabilities. -/
import Derived.Test.YthbfpgdfigilaaaSend3
import Derived.Test.YthbfpgdfigilaaaUnpack1
import Derived.Test.YthbfpgdfigilaaaAlive
import Derived.Test.YthbfpgdfigilaaaRegion
import Derived.Deep.Cut
import Derived.Deep.DeepCutAuto
namespace Go.Proofs.Ythbfpgdfigilaaa
set_option linter.unusedVariables false
open Go.RowKit
/-- What odd returns: never yes if n is 0. -/
def OddZ (w : World) (g N : Nat) (n : Int) (e : Ending) (w' : World) : Prop := ∃ b : Bool, e = .returned (.bool b) ∧ (n ≤ 0 → b = false) ∧ Rdr w' g (N + 1) ∧ Fr g (g + 1) w w'
set_option maxHeartbeats 1000000 in
theorem oddz_any (g N : Nat) (n : Int) (w : World) (hr : Rdr w g N) (hN : N ≤ 1000000000) (hn : n ≤ 4611686018427387904) :
    Calls Try.prog 63 #[.pointer (some ⟨g, 0, none⟩), .int .i64 n] w (OddZ w g N n) := by
  by_cases h0 : 0 < n
  · go_enter Try.func63, Try.ntmps63
    go_wp2_with fail
    refine (pick_any g N n _ hr hN hn).mono ?_
    rintro e w1 ⟨v, rfl, hv0, hv1, hv2, hr1, hf1⟩
    have hw : wrap64 (n - 1) = n - 1 := by unfold wrap64; omega
    go_wp2
    go_ret
    exact ⟨_, rfl, fun h => absurd h (by omega), hr1, hf1⟩
  · go_enter Try.func63, Try.ntmps63
    go_wp2
    go_ret
    exact ⟨false, rfl, fun _ => rfl, hr.mono (by omega), Fr.refl _ _ _⟩
def RightsR (w : World) (g N : Nat) (n : Int) (e : Ending) (w' : World) : Prop :=
  ∃ v : Int, e = .returned (.int .i64 v) ∧ (n ≤ 0 → 0 ≤ v ∧ v ≤ 15) ∧ Rdr w' g N ∧ Fr g (g + 1) w w'
theorem rt3 (x y : Int) (hx : 0 ≤ x ∧ x ≤ 15) (hy : 0 ≤ y ∧ y ≤ 15) {q : Nat} (h : q < 3) : ∃ z : Int, (#[.int .i64 x, .int .i64 15, .int .i64 y] : Array Value)[q]? = some (.int .i64 z) ∧ 0 ≤ z ∧ z ≤ 15 := by
  match q, h with
  | 0, _ => exact ⟨x, rfl, hx.1, hx.2⟩
  | 1, _ => exact ⟨15, rfl, by omega, by omega⟩
  | 2, _ => exact ⟨y, rfl, hy.1, hy.2⟩
theorem ld2 (x y : Int) {q : Nat} (h : q < 2) : ∃ z : Int, (#[.int .i64 x, .int .i64 y] : Array Value)[q]? = some (.int .i64 z) := by
  match q, h with
  | 0, _ => exact ⟨x, rfl⟩
  | 1, _ => exact ⟨y, rfl⟩
theorem ld3 (x y u : Int) {q : Nat} (h : q < 3) : ∃ z : Int, (#[.int .i64 x, .int .i64 y, .int .i64 u] : Array Value)[q]? = some (.int .i64 z) := by
  match q, h with
  | 0, _ => exact ⟨x, rfl⟩
  | 1, _ => exact ⟨y, rfl⟩
  | 2, _ => exact ⟨u, rfl⟩
set_option maxHeartbeats 4000000 in
theorem l20Rights_any (g N : Nat) (n : Int) (w : World) (hr : Rdr w g N) (hN : N ≤ 1000000) (hn : n ≤ 4611686018427387904) :
    Calls Try.prog 66 #[.pointer (some ⟨g, 0, none⟩), .int .i64 n] w (RightsR w g (N + 4) n) := by
  have hgl := hr.lt
  go_enter Try.func66, Try.ntmps66
  go_wp2_with fail
  refine (oddz_any g N n _ hr (by omega) hn).mono ?_
  rintro e w1 ⟨b1, rfl, hz, hr1, f1⟩
  have z1 := f1.size
  have lt1 := hr1.lt
  clear hr
  cases b1
  · skip
    go_wp2_with fail
    refine (pick_any _ _ (16) _ hr1 (by omega) (by omega)).mono ?_
    rintro e w2 ⟨v2, rfl, hv2, ul2, -, hr2, f2⟩
    replace ul2 := ul2 (by omega)
    have z2 := f2.size
    have lt2 := hr2.lt
    have F2 := f1.trans f2
    go_wp2_with fail
    refine (pick_any _ _ (16) _ hr2 (by omega) (by omega)).mono ?_
    rintro e w3 ⟨v3, rfl, hv3, ul3, -, hr3, f3⟩
    replace ul3 := ul3 (by omega)
    have z3 := f3.size
    have lt3 := hr3.lt
    have F3 := F2.trans f3
    clear hr1 hr2 f1 f2 F2 hz
    go_wp2_with fail
    refine (pick_any _ _ (3) _ (hr3.alloc _) (by omega) (by omega)).mono ?_
    rintro e w4 ⟨v4, rfl, hv4, ul4, -, hr4, f4⟩
    replace ul4 := ul4 (by omega)
    have z4 := f4.size
    have lt4 := hr4.lt
    simp at z4
    have F4 := Fr.trans (by (repeat (first | (with_reducible assumption) | (with_reducible refine Fr.drew ?_) | (with_reducible exact Fr.refl _ _ _) | (with_reducible refine Fr.setOut ?_ (by first | (simp; done) | (simp; omega) | omega) _) | (with_reducible refine Fr.alloc ?_ _))) : Fr g (g + 1) w (w3.alloc (.cells #[.int .i64 v2, .int .i64 15, .int .i64 v3] 3))) f4
    obtain ⟨q, rfl⟩ := Int.eq_ofNat_of_zero_le hv4
    have hq : q < 3 := by omega
    obtain ⟨z, hz, z0', z1'⟩ := rt3 v2 v3 (by omega) (by omega) hq
    have c0 := ((Blk.new w3 3 #[.int .i64 v2, .int .i64 15, .int .i64 v3]).fr f4 (.inr (by omega))).cell q hz
    have HZ := Lib.hid (And.intro z0' z1')
    clear hz f4 hv4 z0' z1'
    go_wp2
    go_ret
    exact ⟨z, rfl, fun _ => HZ.out, by (repeat (first | (with_reducible assumption) | (with_reducible refine Rdr.drew ?_) | (with_reducible refine Rdr.set ?_ (by first | (simp; done) | (simp; omega) | omega) _) | (with_reducible refine Rdr.alloc ?_ _))), by (repeat (first | (with_reducible assumption) | (with_reducible refine Fr.drew ?_) | (with_reducible exact Fr.refl _ _ _) | (with_reducible refine Fr.setOut ?_ (by first | (simp; done) | (simp; omega) | omega) _) | (with_reducible refine Fr.alloc ?_ _)))⟩
  · have hn0 : ¬ n ≤ 0 := fun h => by cases hz h
    go_wp2_with fail
    refine (pick_any _ _ (2) _ (hr1.alloc _) (by omega) (by omega)).mono ?_
    rintro e w2 ⟨v2, rfl, hv2, ul2, -, hr2, f2⟩
    replace ul2 := ul2 (by omega)
    have z2 := f2.size
    have lt2 := hr2.lt
    simp at z2
    have F2 := Fr.trans (by (repeat (first | (with_reducible assumption) | (with_reducible refine Fr.drew ?_) | (with_reducible exact Fr.refl _ _ _) | (with_reducible refine Fr.setOut ?_ (by first | (simp; done) | (simp; omega) | omega) _) | (with_reducible refine Fr.alloc ?_ _))) : Fr g (g + 1) w (w1.alloc (.cells #[.int .i64 (-1), .int .i64 16] 3))) f2
    obtain ⟨q, rfl⟩ := Int.eq_ofNat_of_zero_le hv2
    have hq : q < 2 := by omega
    obtain ⟨z, hz⟩ := ld2 (-1) 16 hq
    have c0 := ((Blk.new w1 3 #[.int .i64 (-1), .int .i64 16]).fr f2 (.inr (by omega))).cell q hz
    have hr9 := hr2.mono (show _ ≤ N + 4 by omega)
    clear hz f2 hv2 hr1 hr2 f1
    go_wp2
    go_ret
    exact ⟨z, rfl, fun h => absurd h (by omega), by (repeat (first | (with_reducible assumption) | (with_reducible refine Rdr.drew ?_) | (with_reducible refine Rdr.set ?_ (by first | (simp; done) | (simp; omega) | omega) _) | (with_reducible refine Rdr.alloc ?_ _))), by (repeat (first | (with_reducible assumption) | (with_reducible refine Fr.drew ?_) | (with_reducible exact Fr.refl _ _ _) | (with_reducible refine Fr.setOut ?_ (by first | (simp; done) | (simp; omega) | omega) _) | (with_reducible refine Fr.alloc ?_ _)))⟩
/-- A drawn capability; one that is valid and not empty, if n is 0. -/
def DrawnCapR (w : World) (g N : Nat) (n : Int) (e : Ending) (w' : World) : Prop :=
  ∃ k o r b : Int, e = .returned (capv k o r b) ∧ (n ≤ 0 → capOk k o r b = true ∧ ¬ k = 0) ∧ Rdr w' g N ∧ Fr g (g + 1) w w'
theorem capOk_drawn {k o r b : Int} (h1 : 1 ≤ k) (h2 : k ≤ 7) (h3 : 0 ≤ o) (h4 : o ≤ 99) (h5 : 0 ≤ r) (h6 : r ≤ 15) (h7 : b = 0 ∨ (bdg k = true ∧ 0 ≤ b ∧ b ≤ 999)) : capOk k o r b = true := by
  unfold capOk inB
  rw [if_neg (by omega : ¬ k = 0), decide_eq_true h1, decide_eq_true h2, decide_eq_true h3, decide_eq_true h4, decide_eq_true h5, decide_eq_true h6]
  rcases h7 with h | ⟨h, h', h''⟩
  · rw [decide_eq_true h]; rfl
  · rw [h, decide_eq_true h', decide_eq_true h'']; simp
def CutK0 (w : World) (g N p : Nat) (k o r : Int) (u : Value) (wx : World) : Prop :=
  ∃ t : Bool, u = .bool t ∧ (t = true → bdg k = true) ∧ Blk wx p 45 #[.int .i64 k, .int .i64 o, .int .i64 r, .int .i64 0] ∧ Blk wx w.heap.size 45 #[.int .i64 0, .int .i64 0, .int .i64 0, .int .i64 0] ∧ Rdr wx g N ∧ Fr g (g + 1) w wx
def CutK1 (w : World) (g N p : Nat) (k o r : Int) (wx : World) : Prop :=
  ∃ b : Int, Blk wx p 45 #[.int .i64 k, .int .i64 o, .int .i64 r, .int .i64 b] ∧ Blk wx w.heap.size 45 #[.int .i64 0, .int .i64 0, .int .i64 0, .int .i64 0] ∧ capOk k o r b = true ∧ Rdr wx g N ∧ Fr g (g + 1) w wx
def CutK2 (w : World) (g N p : Nat) (n : Int) (wx : World) : Prop :=
  ∃ k o r b : Int, Blk wx p 45 #[.int .i64 k, .int .i64 o, .int .i64 r, .int .i64 b] ∧ Blk wx w.heap.size 45 #[.int .i64 0, .int .i64 0, .int .i64 0, .int .i64 0] ∧ (n ≤ 0 → capOk k o r b = true ∧ ¬ k = 0) ∧ Rdr wx g N ∧ Fr g (g + 1) w wx
set_option maxHeartbeats 8000000 in
theorem l20Cap_any (g N : Nat) (n : Int) (w : World) (hr : Rdr w g N) (hN : N ≤ 100000) (hn : n ≤ 4611686018427387904) :
    Calls Try.prog 67 #[.pointer (some ⟨g, 0, none⟩), .int .i64 n] w (DrawnCapR w g (N + 12) n) := by
  have hgl := hr.lt
  go_enter Try.func67, Try.ntmps67
  go_wp2_with fail
  refine (pick_any _ _ (7) _ (hr.alloc _) (by omega) (by omega)).mono ?_
  rintro e w1 ⟨v1, rfl, hv1, ul1, -, hr1, f1⟩
  replace ul1 := ul1 (by omega)
  have z1 := f1.size
  have lt1 := hr1.lt
  have q1 : IntKind.i64.wrap (1 + v1) = 1 + v1 := wr64 (by omega) (by omega)
  have q2 : wrap64 (1 + v1) = 1 + v1 := by unfold wrap64; omega
  simp at z1
  have TR := (Blk.new w 45 #[.int .i64 0, .int .i64 0, .int .i64 0, .int .i64 0]).fr f1 (.inr (by omega))
  have F1 := Fr.trans (by (repeat (first | (with_reducible assumption) | (with_reducible refine Fr.drew ?_) | (with_reducible exact Fr.refl _ _ _) | (with_reducible refine Fr.setOut ?_ (by first | (simp; done) | (simp; omega) | omega) _) | (with_reducible refine Fr.alloc ?_ _))) : Fr g (g + 1) w (w.alloc (.cells #[.int .i64 0, .int .i64 0, .int .i64 0, .int .i64 0] 45))) f1
  go_wp2_with fail
  refine (pick_any _ _ (8) _ hr1 (by omega) (by omega)).mono ?_
  rintro e w2 ⟨v2, rfl, hv2, ul2, -, hr2, f2⟩
  replace ul2 := ul2 (by omega)
  have z2 := f2.size
  have lt2 := hr2.lt
  replace TR := TR.fr f2 (.inr (by omega))
  have F2 := F1.trans f2
  go_wp2_with fail
  refine (l20Rights_any g _ 0 _ hr2 (by omega) (by omega)).mono ?_
  rintro e w3 ⟨v3, rfl, hz3, hr3, f3⟩
  have z3 := f3.size
  replace TR := TR.fr f3 (.inr (by omega))
  have F3 := F2.trans f3
  obtain ⟨rv0, rv1⟩ := hz3 (Int.le_refl _)
  clear F1 F2 f1 f2 f3 hr hr1 hr2 hz3
  have lR := TR.lt
  go_upto_region 2 with (fail)
  go_cut [21] (fun u wx => CutK0 w g (N + 7) w3.heap.size (1 + v1) v2 v3 u wx)
  case first =>
    have TX := Blk.new w3 45 #[.int .i64 (1 + v1), .int .i64 v2, .int .i64 v3, .int .i64 0]
    have x0 := TX.cell 0 rfl
    go_wp2_with fail
    refine (l2Badged_any _ _).mono ?_
    rintro e w4 ⟨rfl, rfl⟩
    cases hb : bdg (1 + v1)
    · have hr8 := hr3.mono (show _ ≤ N + 7 by omega)
      clear TX
      go_wp2_with fail
      go_meet
      exact ⟨false, rfl, (fun h => by cases h), Blk.new w3 45 #[.int .i64 (1 + v1), .int .i64 v2, .int .i64 v3, .int .i64 0], by (repeat (first | (with_reducible assumption) | (with_reducible refine Blk.drew ?_) | (with_reducible refine Blk.other ?_ (by first | (simp; done) | (simp; omega) | omega) _) | (with_reducible refine Blk.alloc ?_ _))), by (repeat (first | (with_reducible assumption) | (with_reducible refine Rdr.drew ?_) | (with_reducible refine Rdr.set ?_ (by first | (simp; done) | (simp; omega) | omega) _) | (with_reducible refine Rdr.alloc ?_ _))), by (repeat (first | (with_reducible assumption) | (with_reducible refine Fr.drew ?_) | (with_reducible exact Fr.refl _ _ _) | (with_reducible refine Fr.setOut ?_ (by first | (simp; done) | (simp; omega) | omega) _) | (with_reducible refine Fr.alloc ?_ _)))⟩
    · skip
      go_wp2_with fail
      refine (pick_any _ _ (2) _ (hr3.alloc _) (by omega) (by omega)).mono ?_
      rintro e w5 ⟨v5, rfl, hv5, ul5, -, hr5, f5⟩
      replace ul5 := ul5 (by omega)
      have z5 := f5.size
      have lt5 := hr5.lt
      simp at z5
      replace TX := TX.fr f5 (.inr (by omega))
      replace TR := (TR.alloc (.cells #[.int .i64 (1 + v1), .int .i64 v2, .int .i64 v3, .int .i64 0] 45)).fr f5 (.inr (by omega))
      have F5 := Fr.trans (by (repeat (first | (with_reducible assumption) | (with_reducible refine Fr.drew ?_) | (with_reducible exact Fr.refl _ _ _) | (with_reducible refine Fr.setOut ?_ (by first | (simp; done) | (simp; omega) | omega) _) | (with_reducible refine Fr.alloc ?_ _))) : Fr g (g + 1) w (w3.alloc (.cells #[.int .i64 (1 + v1), .int .i64 v2, .int .i64 v3, .int .i64 0] 45))) f5
      have hr8 := hr5.mono (show _ ≤ N + 7 by omega)
      clear f5 F3 hr3 x0
      go_wp2_with fail
      go_meet
      exact ⟨_, rfl, fun _ => hb, TX, by (repeat (first | (with_reducible assumption) | (with_reducible refine Blk.drew ?_) | (with_reducible refine Blk.other ?_ (by first | (simp; done) | (simp; omega) | omega) _) | (with_reducible refine Blk.alloc ?_ _))), by (repeat (first | (with_reducible assumption) | (with_reducible refine Rdr.drew ?_) | (with_reducible refine Rdr.set ?_ (by first | (simp; done) | (simp; omega) | omega) _) | (with_reducible refine Rdr.alloc ?_ _))), by (repeat (first | (with_reducible assumption) | (with_reducible refine Fr.drew ?_) | (with_reducible exact Fr.refl _ _ _) | (with_reducible refine Fr.setOut ?_ (by first | (simp; done) | (simp; omega) | omega) _) | (with_reducible refine Fr.alloc ?_ _)))⟩
  case rest =>
    clear TR F3 hr3 lR
    obtain ⟨t, rfl, hbt, TX, TR, hrx, FX⟩ := hcut
    have zx := FX.size
    have lX := TX.lt
    have lR := TR.lt
    have lg := hrx.lt
    go_upto_if 21 with (fail)
    go_cut [] (fun wx => CutK1 w g (N + 8) w3.heap.size (1 + v1) v2 v3 wx)
    case first =>
      cases t
      · have hr8 := hrx.mono (show _ ≤ N + 8 by omega)
        have hok := capOk_drawn (k := 1 + v1) (o := v2) (r := v3) (b := 0) (by omega) (by omega) (by omega) (by omega) (by omega) (by omega) (.inl rfl)
        go_wp2_with fail
        go_meet
        exact ⟨0, TX, by (repeat (first | (with_reducible assumption) | (with_reducible refine Blk.drew ?_) | (with_reducible refine Blk.other ?_ (by first | (simp; done) | (simp; omega) | omega) _) | (with_reducible refine Blk.alloc ?_ _))), hok, by (repeat (first | (with_reducible assumption) | (with_reducible refine Rdr.drew ?_) | (with_reducible refine Rdr.set ?_ (by first | (simp; done) | (simp; omega) | omega) _) | (with_reducible refine Rdr.alloc ?_ _))), by (repeat (first | (with_reducible assumption) | (with_reducible refine Fr.drew ?_) | (with_reducible exact Fr.refl _ _ _) | (with_reducible refine Fr.setOut ?_ (by first | (simp; done) | (simp; omega) | omega) _) | (with_reducible refine Fr.alloc ?_ _)))⟩
      · have hb := hbt rfl
        go_wp2_with fail
        refine (pick_any _ _ (4) _ hrx (by omega) (by omega)).mono ?_
        rintro e w6 ⟨v6, rfl, hv6, ul6, -, hr6, f6⟩
        replace ul6 := ul6 (by omega)
        have z6 := f6.size
        have lt6 := hr6.lt
        have q6 : IntKind.i64.wrap (1 + v6) = 1 + v6 := wr64 (by omega) (by omega)
        have q7 : wrap64 (1 + v6) = 1 + v6 := by unfold wrap64; omega
        replace TX := TX.fr f6 (.inr (by omega))
        replace TR := TR.fr f6 (.inr (by omega))
        have F6 := FX.trans f6
        have x3 := TX.cell 3 rfl
        have xf := TX.free
        have hr8 := hr6.mono (show _ ≤ N + 8 by omega)
        have hok := capOk_drawn (k := 1 + v1) (o := v2) (r := v3) (b := 1 + v6) (by omega) (by omega) (by omega) (by omega) (by omega) (by omega) (.inr ⟨hb, by omega, by omega⟩)
        clear FX f6 hrx hb hbt
        go_wp2_with fail
        go_meet
        exact ⟨1 + v6, TX.set 3 _, by (repeat (first | (with_reducible assumption) | (with_reducible refine Blk.drew ?_) | (with_reducible refine Blk.other ?_ (by first | (simp; done) | (simp; omega) | omega) _) | (with_reducible refine Blk.alloc ?_ _))), hok, by (repeat (first | (with_reducible assumption) | (with_reducible refine Rdr.drew ?_) | (with_reducible refine Rdr.set ?_ (by first | (simp; done) | (simp; omega) | omega) _) | (with_reducible refine Rdr.alloc ?_ _))), by (repeat (first | (with_reducible assumption) | (with_reducible refine Fr.drew ?_) | (with_reducible exact Fr.refl _ _ _) | (with_reducible refine Fr.setOut ?_ (by first | (simp; done) | (simp; omega) | omega) _) | (with_reducible refine Fr.alloc ?_ _)))⟩
    case rest =>
    clear TX TR FX hrx lX lR hbt zx
    obtain ⟨b0, TX, TR, hok, hrx, FX⟩ := hcut
    have zx := FX.size
    have lX := TX.lt
    have lR := TR.lt
    have hk0 : ¬ 1 + v1 = 0 := by omega
    clear hv1 ul1 hv2 ul2 rv0 rv1 q1 q2
    generalize 1 + v1 = kk at *
    go_wp2_with fail
    refine (oddz_any g _ n _ hrx (by omega) hn).mono ?_
    rintro e w7 ⟨b7, rfl, hz7, hr7, f7⟩
    have z7 := f7.size
    have lt7 := hr7.lt
    replace TX := TX.fr f7 (.inr (by omega))
    replace TR := TR.fr f7 (.inr (by omega))
    have F7 := FX.trans f7
    clear FX f7 hrx lX lR
    go_upto_if 28 with (fail)
    go_cut [] (fun wx => CutK2 w g (N + 12) w3.heap.size n wx)
    case first =>
      cases b7
      · have hr8 := hr7.mono (show _ ≤ N + 12 by omega)
        go_wp2_with fail
        go_meet
        exact ⟨_, _, _, _, TX, by (repeat (first | (with_reducible assumption) | (with_reducible refine Blk.drew ?_) | (with_reducible refine Blk.other ?_ (by first | (simp; done) | (simp; omega) | omega) _) | (with_reducible refine Blk.alloc ?_ _))), fun _ => ⟨hok, hk0⟩, by (repeat (first | (with_reducible assumption) | (with_reducible refine Rdr.drew ?_) | (with_reducible refine Rdr.set ?_ (by first | (simp; done) | (simp; omega) | omega) _) | (with_reducible refine Rdr.alloc ?_ _))), by (repeat (first | (with_reducible assumption) | (with_reducible refine Fr.drew ?_) | (with_reducible exact Fr.refl _ _ _) | (with_reducible refine Fr.setOut ?_ (by first | (simp; done) | (simp; omega) | omega) _) | (with_reducible refine Fr.alloc ?_ _)))⟩
      · have hn0 : ¬ n ≤ 0 := fun h => by cases hz7 h
        clear hok hz7 hk0
        go_wp2_with fail
        refine (pick_any _ _ (5) _ hr7 (by omega) (by omega)).mono ?_
        rintro e w8 ⟨v8, rfl, hv8, ul8, -, hr8, f8⟩
        replace ul8 := ul8 (by omega)
        have z8 := f8.size
        have lt8 := hr8.lt
        replace TX := TX.fr f8 (.inr (by omega))
        replace TR := TR.fr f8 (.inr (by omega))
        have F8 := F7.trans f8
        have hvv : v8 = 0 ∨ v8 = 1 ∨ v8 = 2 ∨ v8 = 3 ∨ v8 = 4 := by omega
        clear F7 f8 hr7 hv8 ul8
        rcases hvv with rfl | rfl | rfl | rfl | rfl
        · skip
          go_wp2_with fail
          refine (pick_any _ _ (3) _ (hr8.alloc _) (by omega) (by omega)).mono ?_
          rintro e w9 ⟨v9, rfl, hv9, ul9, -, hr9, f9⟩
          replace ul9 := ul9 (by omega)
          have z9 := f9.size
          have lt9 := hr9.lt
          simp at z9
          have F9 := Fr.trans (by (repeat (first | (with_reducible assumption) | (with_reducible refine Fr.drew ?_) | (with_reducible exact Fr.refl _ _ _) | (with_reducible refine Fr.setOut ?_ (by first | (simp; done) | (simp; omega) | omega) _) | (with_reducible refine Fr.alloc ?_ _))) : Fr g (g + 1) w (w8.alloc (.cells #[.int .i64 (-1), .int .i64 (8), .int .i64 (0)] 3))) f9
          replace TX := (TX.alloc (.cells #[.int .i64 (-1), .int .i64 (8), .int .i64 (0)] 3)).fr f9 (.inr (by omega))
          replace TR := (TR.alloc (.cells #[.int .i64 (-1), .int .i64 (8), .int .i64 (0)] 3)).fr f9 (.inr (by omega))
          obtain ⟨q, rfl⟩ := Int.eq_ofNat_of_zero_le hv9
          have hq : q < 3 := by omega
          obtain ⟨z, hz⟩ := ld3 (-1) 8 0 hq
          have c0 := ((Blk.new w8 3 #[.int .i64 (-1), .int .i64 (8), .int .i64 (0)]).fr f9 (.inr (by omega))).cell q hz
          have x0 := TX.cell 0 rfl
          have xf := TX.free
          have hr9' := hr9.mono (show _ ≤ N + 12 by omega)
          clear hz f9 hv9 hr9 hr8 F8
          go_wp2_with fail
          go_meet
          exact ⟨_, _, _, _, TX.set 0 _, by (repeat (first | (with_reducible assumption) | (with_reducible refine Blk.drew ?_) | (with_reducible refine Blk.other ?_ (by first | (simp; done) | (simp; omega) | omega) _) | (with_reducible refine Blk.alloc ?_ _))), fun h => absurd h (by omega), by (repeat (first | (with_reducible assumption) | (with_reducible refine Rdr.drew ?_) | (with_reducible refine Rdr.set ?_ (by first | (simp; done) | (simp; omega) | omega) _) | (with_reducible refine Rdr.alloc ?_ _))), by (repeat (first | (with_reducible assumption) | (with_reducible refine Fr.drew ?_) | (with_reducible exact Fr.refl _ _ _) | (with_reducible refine Fr.setOut ?_ (by first | (simp; done) | (simp; omega) | omega) _) | (with_reducible refine Fr.alloc ?_ _)))⟩
        · skip
          go_wp2_with fail
          refine (pick_any _ _ (2) _ (hr8.alloc _) (by omega) (by omega)).mono ?_
          rintro e w9 ⟨v9, rfl, hv9, ul9, -, hr9, f9⟩
          replace ul9 := ul9 (by omega)
          have z9 := f9.size
          have lt9 := hr9.lt
          simp at z9
          have F9 := Fr.trans (by (repeat (first | (with_reducible assumption) | (with_reducible refine Fr.drew ?_) | (with_reducible exact Fr.refl _ _ _) | (with_reducible refine Fr.setOut ?_ (by first | (simp; done) | (simp; omega) | omega) _) | (with_reducible refine Fr.alloc ?_ _))) : Fr g (g + 1) w (w8.alloc (.cells #[.int .i64 (-1), .int .i64 (100)] 3))) f9
          replace TX := (TX.alloc (.cells #[.int .i64 (-1), .int .i64 (100)] 3)).fr f9 (.inr (by omega))
          replace TR := (TR.alloc (.cells #[.int .i64 (-1), .int .i64 (100)] 3)).fr f9 (.inr (by omega))
          obtain ⟨q, rfl⟩ := Int.eq_ofNat_of_zero_le hv9
          have hq : q < 2 := by omega
          obtain ⟨z, hz⟩ := ld2 (-1) 100 hq
          have c0 := ((Blk.new w8 3 #[.int .i64 (-1), .int .i64 (100)]).fr f9 (.inr (by omega))).cell q hz
          have x0 := TX.cell 1 rfl
          have xf := TX.free
          have hr9' := hr9.mono (show _ ≤ N + 12 by omega)
          clear hz f9 hv9 hr9 hr8 F8
          go_wp2_with fail
          go_meet
          exact ⟨_, _, _, _, TX.set 1 _, by (repeat (first | (with_reducible assumption) | (with_reducible refine Blk.drew ?_) | (with_reducible refine Blk.other ?_ (by first | (simp; done) | (simp; omega) | omega) _) | (with_reducible refine Blk.alloc ?_ _))), fun h => absurd h (by omega), by (repeat (first | (with_reducible assumption) | (with_reducible refine Rdr.drew ?_) | (with_reducible refine Rdr.set ?_ (by first | (simp; done) | (simp; omega) | omega) _) | (with_reducible refine Rdr.alloc ?_ _))), by (repeat (first | (with_reducible assumption) | (with_reducible refine Fr.drew ?_) | (with_reducible exact Fr.refl _ _ _) | (with_reducible refine Fr.setOut ?_ (by first | (simp; done) | (simp; omega) | omega) _) | (with_reducible refine Fr.alloc ?_ _)))⟩
        · have hr9 := hr8.mono (show _ ≤ N + 12 by omega)
          have x2 := TX.cell 2 rfl
          have xf := TX.free
          go_wp2_with fail
          go_meet
          exact ⟨_, _, _, _, TX.set 2 _, by (repeat (first | (with_reducible assumption) | (with_reducible refine Blk.drew ?_) | (with_reducible refine Blk.other ?_ (by first | (simp; done) | (simp; omega) | omega) _) | (with_reducible refine Blk.alloc ?_ _))), fun h => absurd h (by omega), by (repeat (first | (with_reducible assumption) | (with_reducible refine Rdr.drew ?_) | (with_reducible refine Rdr.set ?_ (by first | (simp; done) | (simp; omega) | omega) _) | (with_reducible refine Rdr.alloc ?_ _))), by (repeat (first | (with_reducible assumption) | (with_reducible refine Fr.drew ?_) | (with_reducible exact Fr.refl _ _ _) | (with_reducible refine Fr.setOut ?_ (by first | (simp; done) | (simp; omega) | omega) _) | (with_reducible refine Fr.alloc ?_ _)))⟩
        · skip
          go_wp2_with fail
          refine (pick_any _ _ (2) _ (hr8.alloc _) (by omega) (by omega)).mono ?_
          rintro e w9 ⟨v9, rfl, hv9, ul9, -, hr9, f9⟩
          replace ul9 := ul9 (by omega)
          have z9 := f9.size
          have lt9 := hr9.lt
          simp at z9
          have F9 := Fr.trans (by (repeat (first | (with_reducible assumption) | (with_reducible refine Fr.drew ?_) | (with_reducible exact Fr.refl _ _ _) | (with_reducible refine Fr.setOut ?_ (by first | (simp; done) | (simp; omega) | omega) _) | (with_reducible refine Fr.alloc ?_ _))) : Fr g (g + 1) w (w8.alloc (.cells #[.int .i64 (-1), .int .i64 (1000)] 3))) f9
          replace TX := (TX.alloc (.cells #[.int .i64 (-1), .int .i64 (1000)] 3)).fr f9 (.inr (by omega))
          replace TR := (TR.alloc (.cells #[.int .i64 (-1), .int .i64 (1000)] 3)).fr f9 (.inr (by omega))
          obtain ⟨q, rfl⟩ := Int.eq_ofNat_of_zero_le hv9
          have hq : q < 2 := by omega
          obtain ⟨z, hz⟩ := ld2 (-1) 1000 hq
          have c0 := ((Blk.new w8 3 #[.int .i64 (-1), .int .i64 (1000)]).fr f9 (.inr (by omega))).cell q hz
          have x0 := TX.cell 3 rfl
          have xf := TX.free
          have hr9' := hr9.mono (show _ ≤ N + 12 by omega)
          clear hz f9 hv9 hr9 hr8 F8
          go_wp2_with fail
          go_meet
          exact ⟨_, _, _, _, TX.set 3 _, by (repeat (first | (with_reducible assumption) | (with_reducible refine Blk.drew ?_) | (with_reducible refine Blk.other ?_ (by first | (simp; done) | (simp; omega) | omega) _) | (with_reducible refine Blk.alloc ?_ _))), fun h => absurd h (by omega), by (repeat (first | (with_reducible assumption) | (with_reducible refine Rdr.drew ?_) | (with_reducible refine Rdr.set ?_ (by first | (simp; done) | (simp; omega) | omega) _) | (with_reducible refine Rdr.alloc ?_ _))), by (repeat (first | (with_reducible assumption) | (with_reducible refine Fr.drew ?_) | (with_reducible exact Fr.refl _ _ _) | (with_reducible refine Fr.setOut ?_ (by first | (simp; done) | (simp; omega) | omega) _) | (with_reducible refine Fr.alloc ?_ _)))⟩
        · have hr9 := hr8.mono (show _ ≤ N + 12 by omega)
          obtain ⟨x0, x1, x2, x3⟩ := TX.four
          have xf := TX.free
          go_wp2_with fail
          go_meet
          exact ⟨_, _, _, _, (((TX.set 0 _).set 1 _).set 2 _).set 3 _, by (repeat (first | (with_reducible assumption) | (with_reducible refine Blk.drew ?_) | (with_reducible refine Blk.other ?_ (by first | (simp; done) | (simp; omega) | omega) _) | (with_reducible refine Blk.alloc ?_ _))), fun h => absurd h (by omega), by (repeat (first | (with_reducible assumption) | (with_reducible refine Rdr.drew ?_) | (with_reducible refine Rdr.set ?_ (by first | (simp; done) | (simp; omega) | omega) _) | (with_reducible refine Rdr.alloc ?_ _))), by (repeat (first | (with_reducible assumption) | (with_reducible refine Fr.drew ?_) | (with_reducible exact Fr.refl _ _ _) | (with_reducible refine Fr.setOut ?_ (by first | (simp; done) | (simp; omega) | omega) _) | (with_reducible refine Fr.alloc ?_ _)))⟩
    case rest =>
      clear TX TR F7 hr7 hok hz7
      obtain ⟨k, o, r, b, TX, TR, hok, hrx, FX⟩ := hcut
      have zx := FX.size
      have lX := TX.lt
      have lR := TR.lt
      obtain ⟨x0, x1, x2, x3⟩ := TX.four
      obtain ⟨r0, r1, r2, r3⟩ := TR.four
      have rf := TR.free
      have HOK := Lib.hid hok
      clear hok TX TR
      go_wp2
      refine bodyPost_ret (v := capv k o r b) (by simp [results, Try.results67, go_sem, *]) rfl ⟨_, _, _, _, rfl, HOK.out, by (repeat (first | (with_reducible assumption) | (with_reducible refine Rdr.drew ?_) | (with_reducible refine Rdr.set ?_ (by first | (simp; done) | (simp; omega) | omega) _) | (with_reducible refine Rdr.alloc ?_ _))), by (repeat (first | (with_reducible assumption) | (with_reducible refine Fr.drew ?_) | (with_reducible exact Fr.refl _ _ _) | (with_reducible refine Fr.setOut ?_ (by first | (simp; done) | (simp; omega) | omega) _) | (with_reducible refine Fr.alloc ?_ _)))⟩
end Go.Proofs.Ythbfpgdfigilaaa
