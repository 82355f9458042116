/- Contracts on messages: szMessage, toMessage, eqMessage, and of the searches by a function (slices.IndexFunc, ContainsFunc). -/
import Derived.Test.YthbfpgdfigilaaaCaps3
import Derived.Shelf.Abstract
namespace Go.Proofs.Ythbfpgdfigilaaa
set_option linter.unusedVariables false
open Go.RowKit
abbrev msg (l : Int) (A : Option Addr) (n c : Nat) (D : Option Addr) (m d : Nat) : Value := .agg #[.int .i64 l, .slice A n c, .slice D m d]
/-- A message whose words and capabilities lie in new memory, in blocks apart. -/
def NewMsg (w : World) (l : Int) (xs : List Int) (cs : List Cp) (e : Ending) (w' : World) : Prop :=
  ∃ A c D d M, e = .returned (msg l A xs.length c D cs.length d) ∧ Own w' w.heap.size M 3 1 A xs.length c (ints xs) ∧ Own w' M w'.heap.size 45 4 D cs.length d (caps cs) ∧ w.heap.size ≤ M ∧ M ≤ w'.heap.size ∧ Below w.heap.size w w'
def wOk (xs : List Int) : Bool := xs.all (fun x => inB x 0 9999)
def cOk (cs : List Cp) : Bool := cs.all okC
def kOk (cs : List Cp) : Bool := cs.all (fun c => !(c.1 == 0))
def msgOk (l : Int) (xs : List Int) (cs : List Cp) : Bool := inB l 0 9999 && (decide ((xs.length : Int) ≤ 8) && (decide ((cs.length : Int) ≤ 3) && (cOk cs && (wOk xs && kOk cs))))
/-- The first element that P takes, or -1. -/
def idxF {α : Type} (P : α → Bool) (xs : List α) : Int := match xs.findIdx? P with | some k => (k : Int) | none => -1
theorem idxF_at {α : Type} {P : α → Bool} {xs : List α} {k : Nat} {x : α} (h : ∀ j y, j < k → xs[j]? = some y → P y = false) (hx : xs[k]? = some x) (hp : P x = true) : idxF P xs = k := by
  have : xs.findIdx? P = some k := by
    rw [List.findIdx?_eq_some_iff_getElem]
    obtain ⟨hl, rfl⟩ := List.getElem?_eq_some_iff.1 hx
    refine ⟨hl, hp, fun j hj => ?_⟩
    rw [h j _ hj (List.getElem?_eq_getElem (by omega))]
    simp
  unfold idxF
  rw [this]
theorem idxF_none {α : Type} {P : α → Bool} {xs : List α} (h : ∀ (j : Nat) y, xs[j]? = some y → P y = false) : idxF P xs = -1 := by
  have : xs.findIdx? P = none := by
    rw [List.findIdx?_eq_none_iff]
    intro y hy
    obtain ⟨j, hj⟩ := List.getElem?_of_mem hy
    exact h j y hj
  unfold idxF
  rw [this]
theorem idxF_any {α : Type} (P : α → Bool) (xs : List α) : decide (0 ≤ idxF P xs) = xs.any P := by
  unfold idxF
  cases h : xs.findIdx? P with
  | none =>
    rw [List.findIdx?_eq_none_iff] at h
    have : xs.any P = false := by rw [List.any_eq_false]; intro x hx; rw [h x hx]; simp
    rw [this]; rfl
  | some k =>
    rw [List.findIdx?_eq_some_iff_getElem] at h
    obtain ⟨hk, hp, _⟩ := h
    have : xs.any P = true := List.any_eq_true.2 ⟨_, List.getElem_mem hk, hp⟩
    rw [this]
    simp
theorem not_all {α : Type} (P : α → Bool) (xs : List α) : xs.any (fun x => !P x) = !xs.all P := by
  induction xs with
  | nil => rfl
  | cons x xs ih => simp only [List.any_cons, List.all_cons, ih]; cases P x <;> simp
set_option maxHeartbeats 1000000 in
theorem IndexFuncC_any (f : Nat) (he : ∀ args w, (callFunc f args).run Try.prog w = .ok (.enter f args) w) (P : Cp → Bool) (hf : ∀ k o r b w, Calls Try.prog f #[capv k o r b] w fun e w' => e = .returned (.bool (P (k, o, r, b))) ∧ Below w.heap.size w w')
    (B T n c : Nat) (A : Option Addr) (cs : List Cp) (w : World) (hr : Rd w B T 4 A n (caps cs)) (hn : n ≤ 1048576) :
    Calls Try.prog 73 #[.slice A n c, .func (.func f) #[] #[]] w fun e w' => e = .returned (.int .i64 (idxF P cs)) ∧ Below w.heap.size w w' := by
  have hl := caps_len hr
  have HL := Lib.hid hl
  clear hl
  go_enter Try.func73, Try.ntmps73
  go_wp2
  go_loopw [8] (fun i wr => ∃ k : Nat, k ≤ n ∧ i = .int .i64 k ∧ Hid (∀ j y, j < k → cs[j]? = some y → P y = false) ∧ Below w.heap.size w wr) (fun i _ => n - (intOf i).toNat)
  case atStart => exact ⟨0, by omega, rfl, Lib.hid (fun j zs hj => absurd hj (by omega)), Below.refl _ _⟩
  case round =>
    obtain ⟨k, hk, rfl, ht, hb⟩ := hrel
    by_cases hlt : k < n
    · obtain ⟨b, o, kk, oo, rr, bb, rfl, hbl, hx, q0, q1, q2, q3⟩ := cap_at (hr.below hb) hlt
      have hkk : (k : Int) < (n : Int) := by omega
      have hk0 : (0 : Int) ≤ (k : Int) := by omega
      have HX := Lib.hid hx
      clear hr hx
      cases hm : P (kk, oo, rr, bb)
      · have HM := Lib.hid hm
        clear hm
        go_wp2_with fail
        refine (hf _ _ _ _ _).mono ?_
        rintro e w1 ⟨rfl, hb1⟩
        rw [HM.out]
        go_wp2
        go_roundw
        case rel =>
          refine ⟨k + 1, by omega, by go_num, Lib.hid (fun j zs hj hz => ?_), Below.via hb hb1⟩
          by_cases hjk : j = k
          · subst hjk
            have := HX.out
            rw [hz] at this
            injection this with this
            rw [this]
            exact HM.out
          · exact ht.out j zs (by omega) hz
        case measure => simp [intOf]; omega
      · have HV := Lib.hid (idxF_at ht.out HX.out hm)
        have HM := Lib.hid hm
        clear hm
        go_wp2_with fail
        refine (hf _ _ _ _ _).mono ?_
        rintro e w1 ⟨rfl, hb1⟩
        rw [HM.out]
        go_wp2
        go_ret
        exact ⟨by rw [HV.out]; rfl, Below.via hb hb1⟩
    · have hkn : k = n := by omega
      subst hkn
      have HV := Lib.hid (idxF_none (P := P) (xs := cs) fun j zs hz => ht.out j zs (by have := (List.getElem?_eq_some_iff.1 hz).1; have := HL.out; omega) hz)
      clear hr
      go_wp2
      go_ret
      exact ⟨by rw [HV.out]; rfl, hb⟩
set_option maxHeartbeats 400000 in
theorem ContainsFuncC_any (f : Nat) (he : ∀ args w, (callFunc f args).run Try.prog w = .ok (.enter f args) w) (P : Cp → Bool) (hf : ∀ k o r b w, Calls Try.prog f #[capv k o r b] w fun e w' => e = .returned (.bool (P (k, o, r, b))) ∧ Below w.heap.size w w')
    (B T n c : Nat) (A : Option Addr) (cs : List Cp) (w : World) (hr : Rd w B T 4 A n (caps cs)) (hn : n ≤ 1048576) :
    Calls Try.prog 49 #[.slice A n c, .func (.func f) #[] #[]] w fun e w' => e = .returned (.bool (cs.any P)) ∧ Below w.heap.size w w' := by
  have HV := Lib.hid (idxF_any P cs)
  go_enter Try.func49, Try.ntmps49
  go_wp2_with fail
  refine (IndexFuncC_any f he P hf _ _ _ _ _ cs _ hr hn).mono ?_
  rintro e w1 ⟨rfl, hb⟩
  go_wp2
  go_ret
  exact ⟨by rw [← HV.out]; rfl, hb⟩
set_option maxHeartbeats 1000000 in
theorem IndexFuncW_any (f : Nat) (he : ∀ args w, (callFunc f args).run Try.prog w = .ok (.enter f args) w) (P : Int → Bool) (hf : ∀ x w, Calls Try.prog f #[.int .i64 x] w fun e w' => e = .returned (.bool (P x)) ∧ Below w.heap.size w w')
    (B T n c : Nat) (A : Option Addr) (cs : List Int) (w : World) (hr : Rd w B T 1 A n (ints cs)) (hn : n ≤ 1048576) :
    Calls Try.prog 72 #[.slice A n c, .func (.func f) #[] #[]] w fun e w' => e = .returned (.int .i64 (idxF P cs)) ∧ Below w.heap.size w w' := by
  have hl := ints_len hr
  have HL := Lib.hid hl
  clear hl
  go_enter Try.func72, Try.ntmps72
  go_wp2
  go_loopw [8] (fun i wr => ∃ k : Nat, k ≤ n ∧ i = .int .i64 k ∧ Hid (∀ j y, j < k → cs[j]? = some y → P y = false) ∧ Below w.heap.size w wr) (fun i _ => n - (intOf i).toNat)
  case atStart => exact ⟨0, by omega, rfl, Lib.hid (fun j zs hj => absurd hj (by omega)), Below.refl _ _⟩
  case round =>
    obtain ⟨k, hk, rfl, ht, hb⟩ := hrel
    by_cases hlt : k < n
    · obtain ⟨b, o, x, rfl, hbl, hx, q0⟩ := ints_at (hr.below hb) hlt
      have hkk : (k : Int) < (n : Int) := by omega
      have hk0 : (0 : Int) ≤ (k : Int) := by omega
      have HX := Lib.hid hx
      clear hr hx
      cases hm : P x
      · have HM := Lib.hid hm
        clear hm
        go_wp2_with fail
        refine (hf _ _).mono ?_
        rintro e w1 ⟨rfl, hb1⟩
        rw [HM.out]
        go_wp2
        go_roundw
        case rel =>
          refine ⟨k + 1, by omega, by go_num, Lib.hid (fun j zs hj hz => ?_), Below.via hb hb1⟩
          by_cases hjk : j = k
          · subst hjk
            have := HX.out
            rw [hz] at this
            injection this with this
            rw [this]
            exact HM.out
          · exact ht.out j zs (by omega) hz
        case measure => simp [intOf]; omega
      · have HV := Lib.hid (idxF_at ht.out HX.out hm)
        have HM := Lib.hid hm
        clear hm
        go_wp2_with fail
        refine (hf _ _).mono ?_
        rintro e w1 ⟨rfl, hb1⟩
        rw [HM.out]
        go_wp2
        go_ret
        exact ⟨by rw [HV.out]; rfl, Below.via hb hb1⟩
    · have hkn : k = n := by omega
      subst hkn
      have HV := Lib.hid (idxF_none (P := P) (xs := cs) fun j zs hz => ht.out j zs (by have := (List.getElem?_eq_some_iff.1 hz).1; have := HL.out; omega) hz)
      clear hr
      go_wp2
      go_ret
      exact ⟨by rw [HV.out]; rfl, hb⟩
set_option maxHeartbeats 400000 in
theorem ContainsFuncW_any (f : Nat) (he : ∀ args w, (callFunc f args).run Try.prog w = .ok (.enter f args) w) (P : Int → Bool) (hf : ∀ x w, Calls Try.prog f #[.int .i64 x] w fun e w' => e = .returned (.bool (P x)) ∧ Below w.heap.size w w')
    (B T n c : Nat) (A : Option Addr) (cs : List Int) (w : World) (hr : Rd w B T 1 A n (ints cs)) (hn : n ≤ 1048576) :
    Calls Try.prog 47 #[.slice A n c, .func (.func f) #[] #[]] w fun e w' => e = .returned (.bool (cs.any P)) ∧ Below w.heap.size w w' := by
  have HV := Lib.hid (idxF_any P cs)
  go_enter Try.func47, Try.ntmps47
  go_wp2_with fail
  refine (IndexFuncW_any f he P hf _ _ _ _ _ cs _ hr hn).mono ?_
  rintro e w1 ⟨rfl, hb⟩
  go_wp2
  go_ret
  exact ⟨by rw [← HV.out]; rfl, hb⟩
set_option maxHeartbeats 400000 in
theorem bad1_any (k o r b : Int) (w : World) : Calls Try.prog 71 #[capv k o r b] w fun e w' => e = .returned (.bool (!okC (k, o, r, b))) ∧ Below w.heap.size w w' := by
  go_enter Try.func71, Try.ntmps71
  go_wp2_with fail
  refine (iCapValid_any _ _ _ _ _).mono ?_
  rintro e w1 ⟨rfl, hb1⟩
  go_wp2
  go_ret
  exact ⟨rfl, Below.via (by (repeat (first | (with_reducible assumption) | (with_reducible exact Below.refl _ _) | (with_reducible refine Below.setCell ?_ (by first | (simp; done) | (simp; omega) | omega) _) | (with_reducible refine Below.alloc ?_ (by first | (simp; done) | (simp; omega) | omega) _) | (with_reducible refine Below.drew ?_) | (with_reducible refine Below.drewN ?_ _))) : Below w.heap.size w _) hb1⟩
set_option maxHeartbeats 400000 in
theorem bad2_any (k o r b : Int) (w : World) : Calls Try.prog 50 #[capv k o r b] w fun e w' => e = .returned (.bool (k == 0)) ∧ Below w.heap.size w w' := by
  go_enter Try.func50, Try.ntmps50
  go_wp2
  go_ret
  exact ⟨rfl, by (repeat (first | (with_reducible assumption) | (with_reducible exact Below.refl _ _) | (with_reducible refine Below.setCell ?_ (by first | (simp; done) | (simp; omega) | omega) _) | (with_reducible refine Below.alloc ?_ (by first | (simp; done) | (simp; omega) | omega) _) | (with_reducible refine Below.drew ?_) | (with_reducible refine Below.drewN ?_ _)))⟩
set_option maxHeartbeats 400000 in
theorem bad0_any (x : Int) (w : World) : Calls Try.prog 48 #[.int .i64 x] w fun e w' => e = .returned (.bool (!inB x 0 9999)) ∧ Below w.heap.size w w' := by
  go_enter Try.func48, Try.ntmps48
  go_wp2_with fail
  refine (in_any _ _ _ _).mono ?_
  rintro e w1 ⟨rfl, rfl⟩
  go_wp2
  go_ret
  exact ⟨rfl, Below.refl _ _⟩
set_option maxHeartbeats 400000 in
theorem anyInvalid_any (B T n c : Nat) (A : Option Addr) (cs : List Cp) (w : World) (hr : Rd w B T 4 A n (caps cs)) (hn : n ≤ 1048576) :
    Calls Try.prog 46 #[.slice A n c] w fun e w' => e = .returned (.bool (!cOk cs)) ∧ Below w.heap.size w w' := by
  have HV := Lib.hid (not_all okC cs)
  go_enter Try.func46, Try.ntmps46
  go_wp2_with fail
  refine (ContainsFuncC_any _ (Go.Proofs.enters_of Try.func71 (by kernel_rfl) rfl) (fun c => !okC c) bad1_any _ _ _ _ _ cs _ hr hn).mono ?_
  rintro e w1 ⟨rfl, hb1⟩
  rw [HV.out]
  go_wp2
  go_ret
  exact ⟨rfl, hb1⟩
set_option maxHeartbeats 1000000 in
theorem toMessage_any (B T n c m d : Nat) (l : Int) (A D : Option Addr) (xs : List Int) (cs : List Cp) (w : World) (hr : Rd w B T 1 A n (ints xs)) (hn : n ≤ 1048576) (hr2 : Rd w B T 4 D m (caps cs)) (hm : m ≤ 1048576) :
    Calls Try.prog 14 #[msg l A n c D m d] w (NewMsg w l xs cs) := by
  replace hr := hr.here Nat.one_pos
  replace hr2 := hr2.here (by omega)
  go_enter Try.func14, Try.ntmps14
  have TP := (Blk.newAt (w := w) (n := w.heap.size) 25 #[.int .i64 l, .slice A n c, .slice D m d] rfl)
  have TR := (Blk.newAt (w := w.alloc (.cells #[.int .i64 l, .slice A n c, .slice D m d] 25)) (n := w.heap.size + 1) 30 #[.int .i64 0, .slice none 0 0, .slice none 0 0] (by simp))
  have TO := (Blk.newAt (w := (w.alloc (.cells #[.int .i64 l, .slice A n c, .slice D m d] 25)).alloc (.cells #[.int .i64 0, .slice none 0 0, .slice none 0 0] 30)) (n := w.heap.size + 1 + 1) 30 #[.int .i64 l, .slice none 0 0, .slice none 0 0] (by simp))
  go_wp2_with fail
  refine (toIntS_any 0 w.heap.size n c A xs _ (by (repeat (first | (with_reducible assumption) | (with_reducible refine Rd.alloc ?_ _) | (with_reducible refine Rd.set ?_ (by first | (simp; done) | (simp; omega) | omega) _)))) hn).mono ?_
  rintro e w1 ⟨A1, c1, rfl, o1, hb1⟩
  have z1 := hb1.size
  simp at z1
  replace TP := ((TP.alloc _).alloc _).below hb1
  replace TR := (TR.alloc _).below hb1
  replace TO := TO.below hb1
  replace o1 := o1.mono (B' := w.heap.size + 1 + 1 + 1) (T' := w1.heap.size) (by simp) (Nat.le_refl _)
  have hB1 := Below.via (by (repeat (first | (with_reducible assumption) | (with_reducible exact Below.refl _ _) | (with_reducible refine Below.setCell ?_ (by first | (simp; done) | (simp; omega) | omega) _) | (with_reducible refine Below.alloc ?_ (by first | (simp; done) | (simp; omega) | omega) _) | (with_reducible refine Below.drew ?_) | (with_reducible refine Below.drewN ?_ _))) : Below w.heap.size w _) hb1
  replace hr2 := hr2.belowT hB1
  have p0 := TP.cell 0 rfl
  have p1 := TP.cell 1 rfl
  have p2 := TP.cell 2 rfl
  have q0 := TO.cell 0 rfl
  have q1 := TO.cell 1 rfl
  have q2 := TO.cell 2 rfl
  have qf := TO.free
  clear hb1 hr
  go_wp2_with fail
  refine (toCapS_any 0 w.heap.size m d D cs _ (by (repeat (first | (with_reducible assumption) | (with_reducible refine Rd.alloc ?_ _) | (with_reducible refine Rd.set ?_ (by first | (simp; done) | (simp; omega) | omega) _)))) hm).mono ?_
  rintro e w2 ⟨D2, d2, rfl, o2, hb2⟩
  have z2 := hb2.size
  simp at z2
  replace o1 := (o1.set (p := ⟨w.heap.size + 1 + 1, 1, none⟩) (.inl (Nat.lt_succ_self _)) (.slice A1 xs.length c1)).below hb2
  replace TR := (TR.other (p := ⟨w.heap.size + 1 + 1, 1, none⟩) (by show w.heap.size + 1 ≠ w.heap.size + 1 + 1; omega) (.slice A1 xs.length c1)).below hb2
  replace TO := (TO.set 1 (.slice A1 xs.length c1)).below hb2
  replace o2 := o2.mono (B' := w1.heap.size) (T' := w2.heap.size) (by simp) (Nat.le_refl _)
  have hB2 := Below.via (by (repeat (first | (with_reducible assumption) | (with_reducible exact Below.refl _ _) | (with_reducible refine Below.setCell ?_ (by first | (simp; done) | (simp; omega) | omega) _) | (with_reducible refine Below.alloc ?_ (by first | (simp; done) | (simp; omega) | omega) _) | (with_reducible refine Below.drew ?_) | (with_reducible refine Below.drewN ?_ _))) : Below w.heap.size w _) hb2
  clear p0 p1 p2 q0 q1 q2 qf hb2 hr2 TP
  have r0 := TR.cell 0 rfl
  have r1 := TR.cell 1 rfl
  have r2 := TR.cell 2 rfl
  have rf := TR.free
  have q0 : w2.cell? ⟨w.heap.size + 1 + 1, 0, none⟩ = some (.int .i64 l) := TO.cell 0 rfl
  have q1 : w2.cell? ⟨w.heap.size + 1 + 1, 1, none⟩ = some (.slice A1 xs.length c1) := TO.cell 1 rfl
  have q2 : w2.cell? ⟨w.heap.size + 1 + 1, 2, none⟩ = some (.slice none 0 0) := TO.cell 2 rfl
  have qf := TO.free
  clear TR TO
  go_wp2
  refine bodyPost_ret (v := msg l A1 xs.length c1 D2 cs.length d2) (by simp [results, Try.results14, go_sem, *]) rfl ⟨A1, c1, D2, d2, w1.heap.size, rfl, Own.mono (B := w.heap.size + 1 + 1 + 1) (T := w1.heap.size) (by (repeat (first | (with_reducible assumption) | (with_reducible refine Own.alloc ?_ _) | (with_reducible refine Own.drew ?_) | (with_reducible refine Own.set ?_ (by first | (simp; done) | (simp; omega) | omega) _)))) (by omega) (Nat.le_refl _), Own.mono (B := w1.heap.size) (T := w2.heap.size) (by (repeat (first | (with_reducible assumption) | (with_reducible refine Own.alloc ?_ _) | (with_reducible refine Own.drew ?_) | (with_reducible refine Own.set ?_ (by first | (simp; done) | (simp; omega) | omega) _)))) (Nat.le_refl _) (by simp), by omega, by simp; omega, by (repeat (first | (with_reducible assumption) | (with_reducible exact Below.refl _ _) | (with_reducible refine Below.setCell ?_ (by first | (simp; done) | (simp; omega) | omega) _) | (with_reducible refine Below.alloc ?_ (by first | (simp; done) | (simp; omega) | omega) _) | (with_reducible refine Below.drew ?_) | (with_reducible refine Below.drewN ?_ _)))⟩
set_option maxHeartbeats 1000000 in
theorem eqMessage_any (B T B2 T2 n c m d n' c' m' d' : Nat) (l l' : Int) (A D A' D' : Option Addr) (xs xs' : List Int) (cs cs' : List Cp) (w : World) (hr : Rd w B T 1 A n (ints xs)) (hn : n ≤ 1048576) (hr2 : Rd w B T 4 D m (caps cs)) (hm : m ≤ 1048576) (hr' : Rd w B2 T2 1 A' n' (ints xs')) (hr2' : Rd w B2 T2 4 D' m' (caps cs')) :
    Calls Try.prog 16 #[msg l A n c D m d, msg l' A' n' c' D' m' d'] w fun e w' => e = .returned (.bool (decide (l = l' ∧ xs = xs' ∧ cs = cs'))) ∧ Below w.heap.size w w' := by
  by_cases hl : l = l'
  · subst hl
    have TA := (Blk.newAt (w := w) (n := w.heap.size) 30 #[.int .i64 l, .slice A n c, .slice D m d] rfl).alloc (.cells #[.int .i64 l, .slice A' n' c', .slice D' m' d'] 30)
    have TB := (Blk.newAt (w := w.alloc (.cells #[.int .i64 l, .slice A n c, .slice D m d] 30)) (n := w.heap.size + 1) 30 #[.int .i64 l, .slice A' n' c', .slice D' m' d'] (by simp))
    by_cases hx : xs = xs'
    · have HD := Lib.hid (decide_eq_true hx)
      have HX := Lib.hid hx
      clear hx
      go_enter Try.func16, Try.ntmps16
      go_wp2_with fail
      refine (eqIntS_any _ _ _ _ n c n' c' A A' xs xs' _ ((hr.alloc _).alloc _) ((hr'.alloc _).alloc _) hn).mono ?_
      rintro e w1 ⟨rfl, hb1⟩
      rw [HD.out]
      replace TA := TA.below hb1
      replace TB := TB.below hb1
      have p2 := TA.cell 2 rfl
      have q2 := TB.cell 2 rfl
      have h2 := ((hr2.alloc (.cells #[.int .i64 l, .slice A n c, .slice D m d] 30)).alloc (.cells #[.int .i64 l, .slice A' n' c', .slice D' m' d'] 30)).below hb1
      have h2' := ((hr2'.alloc (.cells #[.int .i64 l, .slice A n c, .slice D m d] 30)).alloc (.cells #[.int .i64 l, .slice A' n' c', .slice D' m' d'] 30)).below hb1
      have hB := Below.via (by (repeat (first | (with_reducible assumption) | (with_reducible exact Below.refl _ _) | (with_reducible refine Below.setCell ?_ (by first | (simp; done) | (simp; omega) | omega) _) | (with_reducible refine Below.alloc ?_ (by first | (simp; done) | (simp; omega) | omega) _) | (with_reducible refine Below.drew ?_) | (with_reducible refine Below.drewN ?_ _))) : Below w.heap.size w _) hb1
      clear hr hr2 hr' hr2' hb1 TA TB
      by_cases hc : cs = cs'
      · have HV := Lib.hid (show decide (l = l ∧ xs = xs' ∧ cs = cs') = true from decide_eq_true ⟨rfl, HX.out, hc⟩)
        have HC := Lib.hid (decide_eq_true hc)
        clear hc
        go_wp2_with fail
        refine (eqCapS_any _ _ _ _ _ _ _ _ _ _ cs cs' _ h2 h2' hm).mono ?_
        rintro e w2 ⟨rfl, hb2⟩
        rw [HC.out]
        go_wp2
        go_ret
        exact ⟨by first | rfl | (rw [HV.out]; rfl), Below.via hB hb2⟩
      · have HV := Lib.hid (show decide (l = l ∧ xs = xs' ∧ cs = cs') = false from decide_eq_false (fun h => hc h.2.2))
        have HC := Lib.hid (decide_eq_false hc)
        clear hc
        go_wp2_with fail
        refine (eqCapS_any _ _ _ _ _ _ _ _ _ _ cs cs' _ h2 h2' hm).mono ?_
        rintro e w2 ⟨rfl, hb2⟩
        rw [HC.out]
        go_wp2
        go_ret
        exact ⟨by rw [HV.out]; rfl, Below.via hB hb2⟩
    · have HV := Lib.hid (show decide (l = l ∧ xs = xs' ∧ cs = cs') = false from decide_eq_false (fun h => hx h.2.1))
      have HD := Lib.hid (decide_eq_false hx)
      clear hx
      go_enter Try.func16, Try.ntmps16
      go_wp2_with fail
      refine (eqIntS_any _ _ _ _ n c n' c' A A' xs xs' _ ((hr.alloc _).alloc _) ((hr'.alloc _).alloc _) hn).mono ?_
      rintro e w1 ⟨rfl, hb1⟩
      rw [HD.out]
      go_wp2
      go_ret
      exact ⟨by rw [HV.out]; rfl, Below.via (by (repeat (first | (with_reducible assumption) | (with_reducible exact Below.refl _ _) | (with_reducible refine Below.setCell ?_ (by first | (simp; done) | (simp; omega) | omega) _) | (with_reducible refine Below.alloc ?_ (by first | (simp; done) | (simp; omega) | omega) _) | (with_reducible refine Below.drew ?_) | (with_reducible refine Below.drewN ?_ _))) : Below w.heap.size w _) hb1⟩
  · have HV := Lib.hid (show decide (l = l' ∧ xs = xs' ∧ cs = cs') = false from decide_eq_false (fun h => hl h.1))
    have hl' : (l == l') = false := by simp [hl]
    clear hl
    go_enter Try.func16, Try.ntmps16
    go_wp2
    go_ret
    exact ⟨by rw [HV.out]; rfl, by (repeat (first | (with_reducible assumption) | (with_reducible exact Below.refl _ _) | (with_reducible refine Below.setCell ?_ (by first | (simp; done) | (simp; omega) | omega) _) | (with_reducible refine Below.alloc ?_ (by first | (simp; done) | (simp; omega) | omega) _) | (with_reducible refine Below.drew ?_) | (with_reducible refine Below.drewN ?_ _)))⟩
set_option maxHeartbeats 400000 in
theorem szMessage_ok (l : Int) (n c m d : Nat) (A D : Option Addr) (w : World) (h : n + m ≤ 1048576) :
    Calls Try.prog 12 #[msg l A n c D m d, .int .i64 1048576] w fun e w' => e = .returned (.int .i64 (1048576 - (n : Int) - (m : Int))) ∧ Below w.heap.size w w' := by
  have h1 : ¬ (1048576 - (n : Int)) < 0 := by omega
  have h2 : ¬ (1048576 - (n : Int) - (m : Int)) < 0 := by omega
  have HE := Lib.hid (szLeft_yes (l := 1048576) (n := n) (by omega))
  have HE2 := Lib.hid (szLeft_yes (l := 1048576 - (n : Int)) (n := m) (by omega))
  go_enter Try.func12, Try.ntmps12
  go_wp2_with fail
  refine (szIntS_left _ _ _ _ _ (by omega) (by omega) (by omega)).mono ?_
  rintro e w1 ⟨rfl, rfl⟩
  rw [HE.out]
  go_wp2_with fail
  refine (szCapS_left _ _ _ _ _ (by omega) (by omega) (by omega)).mono ?_
  rintro e w2 ⟨rfl, rfl⟩
  rw [HE2.out]
  go_wp2
  go_ret
  exact ⟨rfl, by (repeat (first | (with_reducible assumption) | (with_reducible exact Below.refl _ _) | (with_reducible refine Below.setCell ?_ (by first | (simp; done) | (simp; omega) | omega) _) | (with_reducible refine Below.alloc ?_ (by first | (simp; done) | (simp; omega) | omega) _) | (with_reducible refine Below.drew ?_) | (with_reducible refine Below.drewN ?_ _)))⟩
set_option maxHeartbeats 400000 in
theorem szMessage_big (l : Int) (n c m d : Nat) (A D : Option Addr) (w : World) (h : ¬ n + m ≤ 1048576) (hn : n ≤ 9223372036854775807) (hm : m ≤ 9223372036854775807) :
    Calls Try.prog 12 #[msg l A n c D m d, .int .i64 1048576] w fun e w' => e = .returned (.int .i64 (-1)) ∧ Below w.heap.size w w' := by
  by_cases h0 : n ≤ 1048576
  · have h1 : ¬ (1048576 - (n : Int)) < 0 := by omega
    have HE := Lib.hid (szLeft_yes (l := 1048576) (n := n) (by omega))
    have HE2 := Lib.hid (szLeft_no (l := 1048576 - (n : Int)) (n := m) (by omega))
    go_enter Try.func12, Try.ntmps12
    go_wp2_with fail
    refine (szIntS_left _ _ _ _ _ (by omega) (by omega) (by omega)).mono ?_
    rintro e w1 ⟨rfl, rfl⟩
    rw [HE.out]
    go_wp2_with fail
    refine (szCapS_left _ _ _ _ _ (by omega) (by omega) (by omega)).mono ?_
    rintro e w2 ⟨rfl, rfl⟩
    rw [HE2.out]
    go_wp2
    go_ret
    exact ⟨rfl, by (repeat (first | (with_reducible assumption) | (with_reducible exact Below.refl _ _) | (with_reducible refine Below.setCell ?_ (by first | (simp; done) | (simp; omega) | omega) _) | (with_reducible refine Below.alloc ?_ (by first | (simp; done) | (simp; omega) | omega) _) | (with_reducible refine Below.drew ?_) | (with_reducible refine Below.drewN ?_ _)))⟩
  · have HE := Lib.hid (szLeft_no (l := 1048576) (n := n) (by omega))
    go_enter Try.func12, Try.ntmps12
    go_wp2_with fail
    refine (szIntS_left _ _ _ _ _ (by omega) (by omega) (by omega)).mono ?_
    rintro e w1 ⟨rfl, rfl⟩
    rw [HE.out]
    go_wp2
    go_ret
    exact ⟨rfl, by (repeat (first | (with_reducible assumption) | (with_reducible exact Below.refl _ _) | (with_reducible refine Below.setCell ?_ (by first | (simp; done) | (simp; omega) | omega) _) | (with_reducible refine Below.alloc ?_ (by first | (simp; done) | (simp; omega) | omega) _) | (with_reducible refine Below.drew ?_) | (with_reducible refine Below.drewN ?_ _)))⟩
end Go.Proofs.Ythbfpgdfigilaaa
