/- Contracts of UnpackCap (impl and spec). -/
import Derived.Test.YthbfpgdfigilaaaMsg3
namespace Go.Proofs.Ythbfpgdfigilaaa
set_option linter.unusedVariables false
open Go.RowKit
def uK (n : Int) : Int :=
  n % 8
def uO (n : Int) : Int :=
  n / 8 % 100
def uR (n : Int) : Int :=
  n / 800 % 16
def uB (n : Int) : Int :=
  n / 12800
def unOk (n : Int) : Bool := decide (0 ≤ n) && capOk (uK n) (uO n) (uR n) (uB n)
theorem un_pack {n : Int} (h : 0 ≤ n) : uK n + 8 * (uO n + 100 * (uR n + 16 * uB n)) = n := by
  unfold uK uO uR uB
  omega
theorem un_packF {n : Int} (h : 0 ≤ n) (hc : capOk (uK n) (uO n) (uR n) (uB n) = true) : packF (uK n) (uO n) (uR n) (uB n) = n := by rw [packF_yes hc, un_pack h]
theorem wr64 {x : Int} (h0 : 0 ≤ x) (h1 : x ≤ 9223372036854775807) : IntKind.i64.wrap x = x := by
  rw [IntKind.wrap_i64]
  omega
theorem un_e1 {n : Int} (h : 0 ≤ n) : IntKind.i64.wrap (n.tmod 8) = uK n := by
  rw [Int.tmod_eq_emod_of_nonneg h]
  exact wr64 (by omega) (by omega)
theorem un_q {n : Int} (k : Int) (h : 0 ≤ n) (hn : n ≤ 9223372036854775807) (hk : 0 < k) : IntKind.i64.wrap (n.tdiv k) = n / k := by
  rw [Int.tdiv_eq_ediv_of_nonneg h]
  exact wr64 (Int.ediv_nonneg h (by omega)) (Int.le_trans (Int.ediv_le_self _ h) hn)
theorem un_m {q : Int} (k : Int) (h : 0 ≤ q) (hk : 0 < k) (hk2 : k ≤ 1000000) : IntKind.i64.wrap (q.tmod k) = q.emod k := by
  rw [Int.tmod_eq_emod_of_nonneg h]
  have h1 := Int.emod_nonneg q (show k ≠ 0 by omega)
  have h2 := Int.emod_lt_of_pos q hk
  exact wr64 h1 (by omega)
/-- A capability that was read, and whether it is one. -/
def CapB (n : Int) (w : World) (e : Ending) (w' : World) : Prop :=
  (unOk n = true ∧ e = .returned (.tuple #[capv (uK n) (uO n) (uR n) (uB n), .bool true]) ∨ unOk n = false ∧ e = .returned (.tuple #[capv 0 0 0 0, .bool false])) ∧ Below w.heap.size w w'
set_option maxHeartbeats 2000000 in
theorem iUnpackCap_any (n : Int) (hn : n ≤ 9223372036854775807) (w : World) : Calls Try.prog 57 #[.int .i64 n] w (CapB n w) := by
  have TR := Blk.new w 45 #[.int .i64 0, .int .i64 0, .int .i64 0, .int .i64 0]
  have hB : Below w.heap.size w (w.alloc (.cells #[.int .i64 0, .int .i64 0, .int .i64 0, .int .i64 0] 45)) := by (repeat (first | (with_reducible assumption) | (with_reducible exact Below.refl _ _) | (with_reducible refine Below.setCell ?_ (by first | (simp; done) | (simp; omega) | omega) _) | (with_reducible refine Below.alloc ?_ (by first | (simp; done) | (simp; omega) | omega) _) | (with_reducible refine Below.drew ?_) | (with_reducible refine Below.drewN ?_ _)))
  by_cases h0 : 0 ≤ n
  case neg =>
    have HU := Lib.hid (show unOk n = false by unfold unOk; rw [decide_eq_false h0]; rfl)
    have h0' : n < 0 := by omega
    clear h0
    obtain ⟨r0, r1, r2, r3⟩ := TR.four
    have rf := TR.free
    go_enter Try.func57, Try.ntmps57
    go_wp2
    refine bodyPost_ret (v := .tuple #[capv 0 0 0 0, .bool false]) (by simp [results, Try.results57, go_sem, *]) rfl ⟨.inr ⟨HU.out, rfl⟩, by (repeat (first | (with_reducible assumption) | (with_reducible exact Below.refl _ _) | (with_reducible refine Below.setCell ?_ (by first | (simp; done) | (simp; omega) | omega) _) | (with_reducible refine Below.alloc ?_ (by first | (simp; done) | (simp; omega) | omega) _) | (with_reducible refine Below.drew ?_) | (with_reducible refine Below.drewN ?_ _)))⟩
  have e1 : n % 8 = uK n := rfl
  obtain ⟨q8, hq8⟩ : ∃ q, n / 8 = q := ⟨_, rfl⟩
  obtain ⟨q800, hq800⟩ : ∃ q, n / 800 = q := ⟨_, rfl⟩
  have e2 := un_q 8 h0 hn (by omega)
  have e3 := un_q 800 h0 hn (by omega)
  have e4 : IntKind.i64.wrap (n.tdiv 12800) = uB n := un_q 12800 h0 hn (by omega)
  have e5 : q8 % 100 = uO n := by rw [← hq8]; rfl
  have e6 : q800 % 16 = uR n := by rw [← hq800]; rfl
  have hq0 : 0 ≤ q8 := by omega
  have hq1 : 0 ≤ q800 := by omega
  rw [hq8] at e2
  rw [hq800] at e3
  have h0' : ¬ n < 0 := by omega
  have HN := Lib.hid h0
  have HP := Lib.hid (un_packF h0)
  clear hq8 hq800 h0
  obtain ⟨k, hk⟩ : ∃ k, uK n = k := ⟨_, rfl⟩
  obtain ⟨o, ho⟩ : ∃ k, uO n = k := ⟨_, rfl⟩
  obtain ⟨r, hr⟩ : ∃ k, uR n = k := ⟨_, rfl⟩
  obtain ⟨b, hb⟩ : ∃ k, uB n = k := ⟨_, rfl⟩
  have HK := Lib.hid (And.intro hk (And.intro ho (And.intro hr hb)))
  rw [hk] at e1
  rw [ho] at e5
  rw [hr] at e6
  rw [hb] at e4
  rw [hk, ho, hr, hb] at HP
  have TC := Blk.newAt (w := w.alloc (.cells #[.int .i64 0, .int .i64 0, .int .i64 0, .int .i64 0] 45)) (n := w.heap.size + 1) 45 #[.int .i64 k, .int .i64 o, .int .i64 r, .int .i64 b] (by simp)
  replace TR := TR.alloc (.cells #[.int .i64 k, .int .i64 o, .int .i64 r, .int .i64 b] 45)
  clear hk ho hr hb
  cases hv : capOk k o r b
  · have HU := Lib.hid (show unOk n = false by unfold unOk; rw [HK.out.1, HK.out.2.1, HK.out.2.2.1, HK.out.2.2.2, hv, Bool.and_false])
    have hpf := packF_no hv
    have hne : ((-1 : Int) == n) = false := by rw [beq_eq_false_iff_ne]; omega
    go_enter Try.func57, Try.ntmps57
    go_wp2_with fail
    refine (iPackCap_any _ _ _ _ _).mono ?_
    rintro e w1 ⟨rfl, hb1⟩
    rw [hpf]
    replace TR := TR.below hb1
    obtain ⟨r0, r1, r2, r3⟩ := TR.four
    have rf := TR.free
    have lR := TR.lt
    replace hB := Below.via (by (repeat (first | (with_reducible assumption) | (with_reducible exact Below.refl _ _) | (with_reducible refine Below.setCell ?_ (by first | (simp; done) | (simp; omega) | omega) _) | (with_reducible refine Below.alloc ?_ (by first | (simp; done) | (simp; omega) | omega) _) | (with_reducible refine Below.drew ?_) | (with_reducible refine Below.drewN ?_ _))) : Below w.heap.size w _) hb1
    go_wp2
    refine bodyPost_ret (v := .tuple #[capv 0 0 0 0, .bool false]) (by simp [results, Try.results57, go_sem, *]) rfl ⟨.inr ⟨HU.out, rfl⟩, by (repeat (first | (with_reducible assumption) | (with_reducible exact Below.refl _ _) | (with_reducible refine Below.setCell ?_ (by first | (simp; done) | (simp; omega) | omega) _) | (with_reducible refine Below.alloc ?_ (by first | (simp; done) | (simp; omega) | omega) _) | (with_reducible refine Below.drew ?_) | (with_reducible refine Below.drewN ?_ _)))⟩
  · have HU := Lib.hid (show unOk n = true by unfold unOk; rw [HK.out.1, HK.out.2.1, HK.out.2.2.1, HK.out.2.2.2, hv, decide_eq_true HN.out]; rfl)
    have hpf := HP.out hv
    clear HP
    go_enter Try.func57, Try.ntmps57
    go_wp2_with fail
    refine (iPackCap_any _ _ _ _ _).mono ?_
    rintro e w1 ⟨rfl, hb1⟩
    rw [hpf]
    replace TR := TR.below hb1
    replace TC := TC.below hb1
    obtain ⟨r0, r1, r2, r3⟩ := TR.four
    obtain ⟨c0, c1, c2, c3⟩ := TC.four
    have rf := TR.free
    have lR := TR.lt
    replace hB := Below.via (by (repeat (first | (with_reducible assumption) | (with_reducible exact Below.refl _ _) | (with_reducible refine Below.setCell ?_ (by first | (simp; done) | (simp; omega) | omega) _) | (with_reducible refine Below.alloc ?_ (by first | (simp; done) | (simp; omega) | omega) _) | (with_reducible refine Below.drew ?_) | (with_reducible refine Below.drewN ?_ _))) : Below w.heap.size w _) hb1
    go_wp2
    refine bodyPost_ret (v := .tuple #[capv k o r b, .bool true]) (by simp [results, Try.results57, go_sem, *]) rfl ⟨.inl ⟨HU.out, by rw [HK.out.1, HK.out.2.1, HK.out.2.2.1, HK.out.2.2.2]⟩, by (repeat (first | (with_reducible assumption) | (with_reducible exact Below.refl _ _) | (with_reducible refine Below.setCell ?_ (by first | (simp; done) | (simp; omega) | omega) _) | (with_reducible refine Below.alloc ?_ (by first | (simp; done) | (simp; omega) | omega) _) | (with_reducible refine Below.drew ?_) | (with_reducible refine Below.drewN ?_ _)))⟩
set_option maxHeartbeats 2000000 in
theorem sUnpackCap_any (n : Int) (hn : n ≤ 9223372036854775807) (w : World) : Calls Try.prog 56 #[.int .i64 n] w (CapB n w) := by
  have TR := Blk.new w 45 #[.int .i64 0, .int .i64 0, .int .i64 0, .int .i64 0]
  have hB : Below w.heap.size w (w.alloc (.cells #[.int .i64 0, .int .i64 0, .int .i64 0, .int .i64 0] 45)) := by (repeat (first | (with_reducible assumption) | (with_reducible exact Below.refl _ _) | (with_reducible refine Below.setCell ?_ (by first | (simp; done) | (simp; omega) | omega) _) | (with_reducible refine Below.alloc ?_ (by first | (simp; done) | (simp; omega) | omega) _) | (with_reducible refine Below.drew ?_) | (with_reducible refine Below.drewN ?_ _)))
  by_cases h0 : 0 ≤ n
  case neg =>
    have HU := Lib.hid (show unOk n = false by unfold unOk; rw [decide_eq_false h0]; rfl)
    have h0' : n < 0 := by omega
    clear h0
    obtain ⟨r0, r1, r2, r3⟩ := TR.four
    have rf := TR.free
    go_enter Try.func56, Try.ntmps56
    go_wp2
    refine bodyPost_ret (v := .tuple #[capv 0 0 0 0, .bool false]) (by simp [results, Try.results56, go_sem, *]) rfl ⟨.inr ⟨HU.out, rfl⟩, by (repeat (first | (with_reducible assumption) | (with_reducible exact Below.refl _ _) | (with_reducible refine Below.setCell ?_ (by first | (simp; done) | (simp; omega) | omega) _) | (with_reducible refine Below.alloc ?_ (by first | (simp; done) | (simp; omega) | omega) _) | (with_reducible refine Below.drew ?_) | (with_reducible refine Below.drewN ?_ _)))⟩
  have e1 : n % 8 = uK n := rfl
  obtain ⟨q8, hq8⟩ : ∃ q, n / 8 = q := ⟨_, rfl⟩
  obtain ⟨q800, hq800⟩ : ∃ q, n / 800 = q := ⟨_, rfl⟩
  have e2 := un_q 8 h0 hn (by omega)
  have e3 := un_q 800 h0 hn (by omega)
  have e4 : IntKind.i64.wrap (n.tdiv 12800) = uB n := un_q 12800 h0 hn (by omega)
  have e5 : q8 % 100 = uO n := by rw [← hq8]; rfl
  have e6 : q800 % 16 = uR n := by rw [← hq800]; rfl
  have hq0 : 0 ≤ q8 := by omega
  have hq1 : 0 ≤ q800 := by omega
  rw [hq8] at e2
  rw [hq800] at e3
  have h0' : ¬ n < 0 := by omega
  have HN := Lib.hid h0
  have HP := Lib.hid (un_packF h0)
  clear hq8 hq800 h0
  obtain ⟨k, hk⟩ : ∃ k, uK n = k := ⟨_, rfl⟩
  obtain ⟨o, ho⟩ : ∃ k, uO n = k := ⟨_, rfl⟩
  obtain ⟨r, hr⟩ : ∃ k, uR n = k := ⟨_, rfl⟩
  obtain ⟨b, hb⟩ : ∃ k, uB n = k := ⟨_, rfl⟩
  have HK := Lib.hid (And.intro hk (And.intro ho (And.intro hr hb)))
  rw [hk] at e1
  rw [ho] at e5
  rw [hr] at e6
  rw [hb] at e4
  rw [hk, ho, hr, hb] at HP
  have TC := Blk.newAt (w := w.alloc (.cells #[.int .i64 0, .int .i64 0, .int .i64 0, .int .i64 0] 45)) (n := w.heap.size + 1) 45 #[.int .i64 k, .int .i64 o, .int .i64 r, .int .i64 b] (by simp)
  replace TR := TR.alloc (.cells #[.int .i64 k, .int .i64 o, .int .i64 r, .int .i64 b] 45)
  clear hk ho hr hb
  cases hv : capOk k o r b
  · have HU := Lib.hid (show unOk n = false by unfold unOk; rw [HK.out.1, HK.out.2.1, HK.out.2.2.1, HK.out.2.2.2, hv, Bool.and_false])
    go_enter Try.func56, Try.ntmps56
    go_wp2_with fail
    refine (sCapValid_any _ _ _ _ _).mono ?_
    rintro e w1 ⟨rfl, hb1⟩
    rw [hv]
    replace TR := TR.below hb1
    obtain ⟨r0, r1, r2, r3⟩ := TR.four
    have rf := TR.free
    have lR := TR.lt
    replace hB := Below.via (by (repeat (first | (with_reducible assumption) | (with_reducible exact Below.refl _ _) | (with_reducible refine Below.setCell ?_ (by first | (simp; done) | (simp; omega) | omega) _) | (with_reducible refine Below.alloc ?_ (by first | (simp; done) | (simp; omega) | omega) _) | (with_reducible refine Below.drew ?_) | (with_reducible refine Below.drewN ?_ _))) : Below w.heap.size w _) hb1
    go_wp2
    refine bodyPost_ret (v := .tuple #[capv 0 0 0 0, .bool false]) (by simp [results, Try.results56, go_sem, *]) rfl ⟨.inr ⟨HU.out, rfl⟩, by (repeat (first | (with_reducible assumption) | (with_reducible exact Below.refl _ _) | (with_reducible refine Below.setCell ?_ (by first | (simp; done) | (simp; omega) | omega) _) | (with_reducible refine Below.alloc ?_ (by first | (simp; done) | (simp; omega) | omega) _) | (with_reducible refine Below.drew ?_) | (with_reducible refine Below.drewN ?_ _)))⟩
  · have HU := Lib.hid (show unOk n = true by unfold unOk; rw [HK.out.1, HK.out.2.1, HK.out.2.2.1, HK.out.2.2.2, hv, decide_eq_true HN.out]; rfl)
    go_enter Try.func56, Try.ntmps56
    go_wp2_with fail
    refine (sCapValid_any _ _ _ _ _).mono ?_
    rintro e w1 ⟨rfl, hb1⟩
    rw [hv]
    replace TR := TR.below hb1
    replace TC := TC.below hb1
    obtain ⟨r0, r1, r2, r3⟩ := TR.four
    obtain ⟨c0, c1, c2, c3⟩ := TC.four
    have rf := TR.free
    have lR := TR.lt
    replace hB := Below.via (by (repeat (first | (with_reducible assumption) | (with_reducible exact Below.refl _ _) | (with_reducible refine Below.setCell ?_ (by first | (simp; done) | (simp; omega) | omega) _) | (with_reducible refine Below.alloc ?_ (by first | (simp; done) | (simp; omega) | omega) _) | (with_reducible refine Below.drew ?_) | (with_reducible refine Below.drewN ?_ _))) : Below w.heap.size w _) hb1
    go_wp2
    refine bodyPost_ret (v := .tuple #[capv k o r b, .bool true]) (by simp [results, Try.results56, go_sem, *]) rfl ⟨.inl ⟨HU.out, by rw [HK.out.1, HK.out.2.1, HK.out.2.2.1, HK.out.2.2.2]⟩, by (repeat (first | (with_reducible assumption) | (with_reducible exact Below.refl _ _) | (with_reducible refine Below.setCell ?_ (by first | (simp; done) | (simp; omega) | omega) _) | (with_reducible refine Below.alloc ?_ (by first | (simp; done) | (simp; omega) | omega) _) | (with_reducible refine Below.drew ?_) | (with_reducible refine Below.drewN ?_ _)))⟩
end Go.Proofs.Ythbfpgdfigilaaa
