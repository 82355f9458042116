/- What MintCap, RemoveCap, DeriveCap (spec) do to memory; the values are left open. -/
import Derived.Test.YtpgmfjipkhldmaaLwRevHead
namespace Go.Proofs.Ytpgmfjipkhldmaa
set_option linter.unusedVariables false
open Go.RowKit
/-- A slice of entries of the call's own, of at most n entries. -/
def SomeTree (w : World) (n : Nat) (e : Ending) (w' : World) : Prop :=
  ∃ (A : Option Addr) (m c : Nat) (es : List En), e = .returned (.slice A m c) ∧ m ≤ n ∧ Own w' w.heap.size w'.heap.size 39 6 A m c (ents es) ∧ Below w.heap.size w w'
def SomeTree3 (w : World) (n : Nat) (e : Ending) (w' : World) : Prop :=
  ∃ (A : Option Addr) (m c : Nat) (es : List En) (i : Int) (b : Bool), e = .returned (.tuple #[.slice A m c, .int .i64 i, .bool b]) ∧ m ≤ n ∧ Own w' w.heap.size w'.heap.size 39 6 A m c (ents es) ∧ Below w.heap.size w w'
theorem ent_new (w : World) (b : Nat) (e : TypeId) (hb : w.heap.size = b) (d : En) : Rd (w.alloc (.cells #[.int .i64 d.1.1, .int .i64 d.1.2.1, .int .i64 d.1.2.2.1, .int .i64 d.1.2.2.2, .int .i64 d.2.1, .bool d.2.2] e)) b (b + 1) 6 (some ⟨b, 0, none⟩) 1 (entC d) := by
  subst hb
  exact (Own.new (e := e) (size := 6) w #[.int .i64 d.1.1, .int .i64 d.1.2.1, .int .i64 d.1.2.2.1, .int .i64 d.1.2.2.2, .int .i64 d.2.1, .bool d.2.2] 1 (by unfold maxLen; omega) rfl).rd
def SomeCap (w : World) (e : Ending) (w' : World) : Prop := ∃ (k o r b : Int) (ok : Bool), e = .returned (.tuple #[capv k o r b, .bool ok]) ∧ Below w.heap.size w w'
set_option maxHeartbeats 8000000 in
theorem sMintCap_any (k o r b v bd : Int) (w : World) : Calls Try.prog 67 #[capv k o r b, .int .i64 v, .int .i64 bd] w (SomeCap w) := by
  have TP := (Blk.new w 37 #[.int .i64 k, .int .i64 o, .int .i64 r, .int .i64 b]).alloc (.cells #[.int .i64 0, .int .i64 0, .int .i64 0, .int .i64 0] 37)
  have TR := Blk.newAt (w := w.alloc (.cells #[.int .i64 k, .int .i64 o, .int .i64 r, .int .i64 b] 37)) (n := w.heap.size + 1) 37 #[.int .i64 0, .int .i64 0, .int .i64 0, .int .i64 0] (by simp)
  go_enter Try.func67, Try.ntmps67
  go_wp2_with fail
  refine (sCapValid_any k o r b _).mono ?_
  rintro e w1 ⟨rfl, hb1⟩
  have z1 := hb1.size
  simp at z1
  replace TP := TP.below hb1
  replace TR := TR.below hb1
  have hB := Below.via (by (repeat (first | (with_reducible assumption) | (with_reducible exact Below.refl _ _) | (with_reducible refine Below.setCell ?_ (by first | (simp; done) | (simp; omega) | omega) _) | (with_reducible refine Below.alloc ?_ (by first | (simp; done) | (simp; omega) | omega) _) | (with_reducible refine Below.drew ?_) | (with_reducible refine Below.drewN ?_ _))) : Below w.heap.size w _) hb1
  clear hb1
  obtain ⟨p0, p1, p2, p3⟩ := TP.four
  obtain ⟨r0, r1, r2, r3⟩ := TR.four
  have rf := TR.free
  have lP := TP.lt
  have lR := TR.lt
  clear TP TR
  generalize capOk k o r b = c1
  cases c1
  · skip
    go_wp2
    refine bodyPost_ret (v := .tuple #[capv 0 0 0 0, .bool false]) (by simp [results, Try.results67, go_sem, *]) rfl ⟨0, 0, 0, 0, false, rfl, by (repeat (first | (with_reducible assumption) | (with_reducible exact Below.refl _ _) | (with_reducible refine Below.setCell ?_ (by first | (simp; done) | (simp; omega) | omega) _) | (with_reducible refine Below.alloc ?_ (by first | (simp; done) | (simp; omega) | omega) _) | (with_reducible refine Below.drew ?_) | (with_reducible refine Below.drewN ?_ _)))⟩
  · skip
    go_wp2_with fail
    refine (sRightsValid_any v _).mono ?_
    rintro e w2 ⟨rfl, rfl⟩
    generalize inB v 0 15 = c2
    cases c2
    · skip
      go_wp2
      refine bodyPost_ret (v := .tuple #[capv 0 0 0 0, .bool false]) (by simp [results, Try.results67, go_sem, *]) rfl ⟨0, 0, 0, 0, false, rfl, by (repeat (first | (with_reducible assumption) | (with_reducible exact Below.refl _ _) | (with_reducible refine Below.setCell ?_ (by first | (simp; done) | (simp; omega) | omega) _) | (with_reducible refine Below.alloc ?_ (by first | (simp; done) | (simp; omega) | omega) _) | (with_reducible refine Below.drew ?_) | (with_reducible refine Below.drewN ?_ _)))⟩
    · skip
      go_wp2_with fail
      refine (l1In_any bd 0 999 _).mono ?_
      rintro e w3 ⟨rfl, rfl⟩
      cases hc3 : inB bd 0 999
      · skip
        go_wp2
        refine bodyPost_ret (v := .tuple #[capv 0 0 0 0, .bool false]) (by simp [results, Try.results67, go_sem, *]) rfl ⟨0, 0, 0, 0, false, rfl, by (repeat (first | (with_reducible assumption) | (with_reducible exact Below.refl _ _) | (with_reducible refine Below.setCell ?_ (by first | (simp; done) | (simp; omega) | omega) _) | (with_reducible refine Below.alloc ?_ (by first | (simp; done) | (simp; omega) | omega) _) | (with_reducible refine Below.drew ?_) | (with_reducible refine Below.drewN ?_ _)))⟩
      · have hbd := inB_true.1 hc3
        by_cases hk0 : k = 0
        · subst hk0
          go_wp2
          refine bodyPost_ret (v := .tuple #[capv 0 0 0 0, .bool false]) (by simp [results, Try.results67, go_sem, *]) rfl ⟨0, 0, 0, 0, false, rfl, by (repeat (first | (with_reducible assumption) | (with_reducible exact Below.refl _ _) | (with_reducible refine Below.setCell ?_ (by first | (simp; done) | (simp; omega) | omega) _) | (with_reducible refine Below.alloc ?_ (by first | (simp; done) | (simp; omega) | omega) _) | (with_reducible refine Below.drew ?_) | (with_reducible refine Below.drewN ?_ _)))⟩
        have hkb0 : (k == 0) = false := beq_eq_false_iff_ne.2 hk0
        by_cases hk1 : k = 1
        · subst hk1
          go_wp2
          refine bodyPost_ret (v := .tuple #[capv 0 0 0 0, .bool false]) (by simp [results, Try.results67, go_sem, *]) rfl ⟨0, 0, 0, 0, false, rfl, by (repeat (first | (with_reducible assumption) | (with_reducible exact Below.refl _ _) | (with_reducible refine Below.setCell ?_ (by first | (simp; done) | (simp; omega) | omega) _) | (with_reducible refine Below.alloc ?_ (by first | (simp; done) | (simp; omega) | omega) _) | (with_reducible refine Below.drew ?_) | (with_reducible refine Below.drewN ?_ _)))⟩
        have hkb1 : (k == 1) = false := beq_eq_false_iff_ne.2 hk1
        by_cases hk7 : k = 7
        · subst hk7
          go_wp2
          refine bodyPost_ret (v := .tuple #[capv 0 0 0 0, .bool false]) (by simp [results, Try.results67, go_sem, *]) rfl ⟨0, 0, 0, 0, false, rfl, by (repeat (first | (with_reducible assumption) | (with_reducible exact Below.refl _ _) | (with_reducible refine Below.setCell ?_ (by first | (simp; done) | (simp; omega) | omega) _) | (with_reducible refine Below.alloc ?_ (by first | (simp; done) | (simp; omega) | omega) _) | (with_reducible refine Below.drew ?_) | (with_reducible refine Below.drewN ?_ _)))⟩
        have hkb7 : (k == 7) = false := beq_eq_false_iff_ne.2 hk7
        clear hk0 hk1 hk7 hc3
        by_cases hpos : 0 < bd
        · skip
          go_wp2_with fail
          refine (l2Badged_any k _).mono ?_
          rintro e w4 ⟨rfl, rfl⟩
          generalize bdg k = c4
          cases c4
          · skip
            go_wp2
            refine bodyPost_ret (v := .tuple #[capv 0 0 0 0, .bool false]) (by simp [results, Try.results67, go_sem, *]) rfl ⟨0, 0, 0, 0, false, rfl, by (repeat (first | (with_reducible assumption) | (with_reducible exact Below.refl _ _) | (with_reducible refine Below.setCell ?_ (by first | (simp; done) | (simp; omega) | omega) _) | (with_reducible refine Below.alloc ?_ (by first | (simp; done) | (simp; omega) | omega) _) | (with_reducible refine Below.drew ?_) | (with_reducible refine Below.drewN ?_ _)))⟩
          · by_cases hbz : b = 0
            · subst hbz
              go_wp2
              refine bodyPost_ret (v := .tuple #[capv k o (bits .and .i64 r v) bd, .bool true]) (by simp [results, Try.results67, go_sem, *]) rfl ⟨_, _, _, _, true, rfl, by (repeat (first | (with_reducible assumption) | (with_reducible exact Below.refl _ _) | (with_reducible refine Below.setCell ?_ (by first | (simp; done) | (simp; omega) | omega) _) | (with_reducible refine Below.alloc ?_ (by first | (simp; done) | (simp; omega) | omega) _) | (with_reducible refine Below.drew ?_) | (with_reducible refine Below.drewN ?_ _)))⟩
            · have hbb : (b == 0) = false := beq_eq_false_iff_ne.2 hbz
              clear hbz
              go_wp2
              refine bodyPost_ret (v := .tuple #[capv 0 0 0 0, .bool false]) (by simp [results, Try.results67, go_sem, *]) rfl ⟨0, 0, 0, 0, false, rfl, by (repeat (first | (with_reducible assumption) | (with_reducible exact Below.refl _ _) | (with_reducible refine Below.setCell ?_ (by first | (simp; done) | (simp; omega) | omega) _) | (with_reducible refine Below.alloc ?_ (by first | (simp; done) | (simp; omega) | omega) _) | (with_reducible refine Below.drew ?_) | (with_reducible refine Below.drewN ?_ _)))⟩
        · obtain rfl : bd = 0 := by omega
          clear hpos hbd
          go_wp2
          refine bodyPost_ret (v := .tuple #[capv k o (bits .and .i64 r v) b, .bool true]) (by simp [results, Try.results67, go_sem, *]) rfl ⟨_, _, _, _, true, rfl, by (repeat (first | (with_reducible assumption) | (with_reducible exact Below.refl _ _) | (with_reducible refine Below.setCell ?_ (by first | (simp; done) | (simp; omega) | omega) _) | (with_reducible refine Below.alloc ?_ (by first | (simp; done) | (simp; omega) | omega) _) | (with_reducible refine Below.drew ?_) | (with_reducible refine Below.drewN ?_ _)))⟩
set_option maxHeartbeats 4000000 in
theorem sRemoveCap_mem (B T m c : Nat) (A : Option Addr) (es : List En) (n : Nat) (w : World) (hr : Rd w B T 6 A m (ents es)) (hm : m ≤ 1048576) (hnm : n < m) :
    Calls Try.prog 57 #[.slice A m c, .int .i64 n] w (SomeTree w m) := by
  obtain ⟨j0, hj0, hy0, hy1, hy2⟩ := info_parts Try.infoEntry
  have hnm' : (n : Int) < (m : Int) := by omega
  have hn0 : (0 : Int) ≤ (n : Int) := by omega
  have hr0 := hr.here (by omega)
  cases hl : liveV es (n : Int)
  · skip
    go_enter Try.func57, Try.ntmps57
    go_wp2_with fail
    refine (l5Live_any _ _ _ _ _ es (n : Int) _ hr hm).mono ?_
    rintro e w1 ⟨rfl, hb1⟩
    rw [hl]
    have zb1 := hb1.size
    clear hr
    go_wp2
    go_ret
    exact ⟨_, 0, 0, [], rfl, Nat.zero_le _, Own.nil _ _ _ _ _ _, by (repeat (first | (with_reducible assumption) | (with_reducible exact Below.refl _ _) | (with_reducible refine Below.setCell ?_ (by first | (simp; done) | (simp; omega) | omega) _) | (with_reducible refine Below.alloc ?_ (by first | (simp; done) | (simp; omega) | omega) _) | (with_reducible refine Below.drew ?_) | (with_reducible refine Below.drewN ?_ _)))⟩
  · have HL := Lib.hid hl
    clear hl
    go_enter Try.func57, Try.ntmps57
    go_wp2_with fail
    refine (l5Live_any _ _ _ _ _ es (n : Int) _ hr hm).mono ?_
    rintro e w1 ⟨rfl, hb1⟩
    rw [HL.out]
    have hr1 := hr.below hb1
    have zb1 := hb1.size
    have nw : IntKind.i64.wrap ((n : Int) + 1) = (n : Int) + 1 := wr64s (by omega) (by omega)
    go_wp2_with (at_builtin; refine wpList_appg _ (by rfl) (.tmp 12) (.tmp 13) 23 rfl 39 j0 (entv 0 0 0 0 0 false) 6 48 Try.underlying23 hj0 hy0 hy1 hy2 rfl (by omega) w1.heap.size 0 B T (some ⟨w1.heap.size, 0, none⟩) A 0 0 m c [] (ents es) rfl rfl (Own.nil _ _ _ _ _ _) (hr1.alloc _) (ents_one es) (by unfold maxLen; omega) (by omega) (by simp) ?_; intro A3 c3 w3 o3 f3; rw [List.nil_append] at o3; rw [Nat.zero_add] at o3 ⊢; have hb3 := f3.below0; have hr3 := (hr1.alloc (.cells #[] 39)).below hb3; have hB3 := Below.via (by (repeat (first | (with_reducible assumption) | (with_reducible exact Below.refl _ _) | (with_reducible refine Below.setCell ?_ (by first | (simp; done) | (simp; omega) | omega) _) | (with_reducible refine Below.alloc ?_ (by first | (simp; done) | (simp; omega) | omega) _) | (with_reducible refine Below.drew ?_) | (with_reducible refine Below.drewN ?_ _))) : Below w.heap.size w (w1.alloc (.cells #[] 39))) hb3; have z3 := f3.size; (try simp at z3); have HO3 := Lib.hid (o3.mono (B' := w.heap.size) (T' := w3.heap.size) zb1 (Nat.le_refl _)); clear f3 hb3 o3 hr hr1)
    go_loopw [6] (fun i wr => ∃ k : Nat, n + 1 ≤ k ∧ k ≤ m ∧ i = .int .i64 k ∧ ∃ ds : List En, Own wr w.heap.size w3.heap.size 39 6 A3 m c3 (ents ds) ∧ Below w.heap.size w wr ∧ w3.heap.size ≤ wr.heap.size) (fun i _ => m - (intOf i).toNat)
    case atStart => exact ⟨n + 1, by omega, by omega, by go_num, es, HO3.out, hB3, Nat.le_refl _⟩
    case round =>
      clear HO3 hB3
      obtain ⟨k, hnk, hk, rfl, ds, ho, hB, hz⟩ := hrel
      have hdl := ents_len ho.rd
      by_cases hlt : k < m
      · have hkk : (k : Int) < (m : Int) := by omega
        have hk0 : (0 : Int) ≤ (k : Int) := by omega
        obtain ⟨g, a, kk, oo, rr, bb, pp, gg, hA, hgl, hx, q0, q1, q2, q3, q4, q5⟩ := ent_at ho.rd hlt
        obtain ⟨g2, a2, hA2, x1, x2, x3, x4, ⟨u4, x5⟩, ⟨u5, x6⟩, x7, x8⟩ := ho.ent hx
        rw [hA] at hA2
        injection hA2 with hA2
        injection hA2 with hg ha
        subst hg
        subst ha
        subst hA
        obtain ⟨g9, a9, k9, o9, r9, b9, p9, gg9, rfl, hgl9, hx9, t0, t1, t2, t3, t4, t5⟩ := ent_at (hr0.below hB) (show n < m by omega)
        have hset := Lib.hid (x7 p9)
        have hfz := x4 (a + k * 6 + 4)
        have HO := Lib.hid ho
        clear hx hx9 x4 x5 x6 x7 x8 ho hr3 hdl t0 t1 t2 t3 t5 q0 q1 q2 q3 hr0
        by_cases hpn : pp = (n : Int)
        · subst hpn
          cases gg
          · skip
            go_wp2
            go_roundw
            case rel => exact ⟨k + 1, by omega, by omega, by go_num, _, hset.out, by (repeat (first | (with_reducible assumption) | (with_reducible exact Below.refl _ _) | (with_reducible refine Below.setCell ?_ (by first | (simp; done) | (simp; omega) | omega) _) | (with_reducible refine Below.alloc ?_ (by first | (simp; done) | (simp; omega) | omega) _) | (with_reducible refine Below.drew ?_) | (with_reducible refine Below.drewN ?_ _))), by simp; omega⟩
            case measure => simp [intOf]; omega
          · skip
            go_wp2
            go_roundw
            case rel => exact ⟨k + 1, by omega, by omega, by go_num, ds, HO.out, hB, hz⟩
            case measure => simp [intOf]; omega
        · have hpb : (pp == (n : Int)) = false := beq_eq_false_iff_ne.2 hpn
          clear hpn
          go_wp2
          go_roundw
          case rel => exact ⟨k + 1, by omega, by omega, by go_num, ds, HO.out, hB, hz⟩
          case measure => simp [intOf]; omega
      · have hkm : k = m := by omega
        subst hkm
        obtain ⟨⟨cp, pp, gg⟩, hx⟩ : ∃ e, ds[n]? = some e := ⟨_, List.getElem?_eq_getElem (by omega)⟩
        obtain ⟨g2, a2, rfl, x1, x2, x3, x4, ⟨u4, x5⟩, ⟨u5, x6⟩, x7, x8⟩ := ho.ent hx
        have hset := Lib.hid (x8 true)
        have hfz := x4 (a2 + n * 6 + 5)
        clear hx x4 x5 x7 x8 ho hr3 hdl hr0
        go_wp2
        go_ret
        exact ⟨_, k, c3, _, rfl, Nat.le_refl _, hset.out.mono (Nat.le_refl _) (by simp; omega), by (repeat (first | (with_reducible assumption) | (with_reducible exact Below.refl _ _) | (with_reducible refine Below.setCell ?_ (by first | (simp; done) | (simp; omega) | omega) _) | (with_reducible refine Below.alloc ?_ (by first | (simp; done) | (simp; omega) | omega) _) | (with_reducible refine Below.drew ?_) | (with_reducible refine Below.drewN ?_ _)))⟩
set_option maxHeartbeats 4000000 in
theorem sDeriveCap_mem (B T m c : Nat) (A : Option Addr) (es : List En) (n : Nat) (v bd : Int) (w : World) (hr : Rd w B T 6 A m (ents es)) (hm : m ≤ 100000) (hnm : n < m) :
    Calls Try.prog 58 #[.slice A m c, .int .i64 n, .int .i64 v, .int .i64 bd] w (SomeTree3 w (m + 1)) := by
  obtain ⟨j0, hj0, hy0, hy1, hy2⟩ := info_parts Try.infoEntry
  have hnm' : (n : Int) < (m : Int) := by omega
  have hn0 : (0 : Int) ≤ (n : Int) := by omega
  have hr0 := hr.here (by omega)
  cases hl : liveV es (n : Int)
  · skip
    go_enter Try.func58, Try.ntmps58
    go_wp2_with fail
    refine (l5Live_any _ _ _ _ _ es (n : Int) _ hr (by omega)).mono ?_
    rintro e w1 ⟨rfl, hb1⟩
    rw [hl]
    have zb1 := hb1.size
    clear hr hr0
    go_wp2
    refine bodyPost_ret (v := .tuple #[.slice (some ⟨w1.heap.size, 0, none⟩) 0 0, .int .i64 (-1), .bool false]) (by simp [results, Try.results58, go_sem, *]) rfl ⟨_, 0, 0, [], -1, false, rfl, Nat.zero_le _, Own.nil _ _ _ _ _ _, by (repeat (first | (with_reducible assumption) | (with_reducible exact Below.refl _ _) | (with_reducible refine Below.setCell ?_ (by first | (simp; done) | (simp; omega) | omega) _) | (with_reducible refine Below.alloc ?_ (by first | (simp; done) | (simp; omega) | omega) _) | (with_reducible refine Below.drew ?_) | (with_reducible refine Below.drewN ?_ _)))⟩
  · have HL := Lib.hid hl
    clear hl
    obtain ⟨g, a, kk, oo, rr, bb, pp, gg, rfl, hgl, hx, q0, q1, q2, q3, q4, q5⟩ := ent_at hr0 hnm
    go_enter Try.func58, Try.ntmps58
    go_wp2_with fail
    refine (l5Live_any _ _ _ _ _ es (n : Int) _ hr (by omega)).mono ?_
    rintro e w1 ⟨rfl, hb1⟩
    rw [HL.out]
    have hr1 := hr.below hb1
    have zb1 := hb1.size
    have p0 := (hb1.cell (p := ⟨g, a + n * 6, none⟩) hgl).trans q0
    clear hx hr0
    go_wp2_with (at_builtin; refine wpList_appg _ (by rfl) (.tmp 19) (.tmp 20) 23 rfl 39 j0 (entv 0 0 0 0 0 false) 6 48 Try.underlying23 hj0 hy0 hy1 hy2 rfl (by omega) w1.heap.size 0 B T (some ⟨w1.heap.size, 0, none⟩) (some ⟨g, a, none⟩) 0 0 m c [] (ents es) rfl rfl (Own.nil _ _ _ _ _ _) (hr1.alloc _) (ents_one es) (by unfold maxLen; omega) (by omega) (by simp) ?_; intro A3 c3 w3 o3 f3; rw [List.nil_append] at o3; rw [Nat.zero_add] at o3 ⊢; have hb3 := f3.below0; have hB3 := Below.via (by (repeat (first | (with_reducible assumption) | (with_reducible exact Below.refl _ _) | (with_reducible refine Below.setCell ?_ (by first | (simp; done) | (simp; omega) | omega) _) | (with_reducible refine Below.alloc ?_ (by first | (simp; done) | (simp; omega) | omega) _) | (with_reducible refine Below.drew ?_) | (with_reducible refine Below.drewN ?_ _))) : Below w.heap.size w (w1.alloc (.cells #[] 39))) hb3; have z3 := f3.size; (try simp at z3); replace o3 := o3.mono (B' := w.heap.size) (T' := w3.heap.size) zb1 (Nat.le_refl _); have s0 := (hB3.cell (p := ⟨g, a + n * 6, none⟩) hgl).trans q0; have s1 := (hB3.cell (p := ⟨g, a + n * 6 + 1, none⟩) hgl).trans q1; have s2 := (hB3.cell (p := ⟨g, a + n * 6 + 2, none⟩) hgl).trans q2; have s3 := (hB3.cell (p := ⟨g, a + n * 6 + 3, none⟩) hgl).trans q3; clear f3 hb3 hr hr1 p0)
    refine (sMintCap_any kk oo rr bb v bd _).mono ?_
    rintro e w4 ⟨k4, o4, r4, b4, ok, rfl, hb4⟩
    have hB4 := Below.via hB3 hb4
    have z4 := hb4.size
    have oo4 := (o3.below hb4).mono (B' := w.heap.size) (T' := w4.heap.size) (Nat.le_refl _) hb4.size
    have zz := hB4.size
    clear o3 hB3 hb4 s0 s1 s2 s3 q0 q1 q2 q3 q4 q5
    cases ok
    · have HO := Lib.hid oo4
      clear oo4
      go_wp2
      refine bodyPost_ret (v := .tuple #[.slice A3 m c3, .int .i64 (-1), .bool false]) (by simp [results, Try.results58, go_sem, *]) rfl ⟨A3, m, c3, es, -1, false, rfl, by omega, (HO.out.alloc _).mono (Nat.le_refl _) (by simp), by (repeat (first | (with_reducible assumption) | (with_reducible exact Below.refl _ _) | (with_reducible refine Below.setCell ?_ (by first | (simp; done) | (simp; omega) | omega) _) | (with_reducible refine Below.alloc ?_ (by first | (simp; done) | (simp; omega) | omega) _) | (with_reducible refine Below.drew ?_) | (with_reducible refine Below.drewN ?_ _)))⟩
    · by_cases h30 : m = 30
      · subst h30
        have HO := Lib.hid oo4
        clear oo4
        go_wp2
        refine bodyPost_ret (v := .tuple #[.slice A3 30 c3, .int .i64 (-1), .bool false]) (by simp [results, Try.results58, go_sem, *]) rfl ⟨A3, 30, c3, es, -1, false, rfl, by omega, (HO.out.alloc _).mono (Nat.le_refl _) (by simp), by (repeat (first | (with_reducible assumption) | (with_reducible exact Below.refl _ _) | (with_reducible refine Below.setCell ?_ (by first | (simp; done) | (simp; omega) | omega) _) | (with_reducible refine Below.alloc ?_ (by first | (simp; done) | (simp; omega) | omega) _) | (with_reducible refine Below.drew ?_) | (with_reducible refine Below.drewN ?_ _)))⟩
      · have h30b : ((m : Int) == 30) = false := beq_eq_false_iff_ne.2 (by omega)
        have oo5 := oo4.alloc (.cells #[.int .i64 k4, .int .i64 o4, .int .i64 r4, .int .i64 b4] 37)
        clear h30 oo4
        go_wp2_with (at_builtin; refine wpList_appg _ (by rfl) (.tmp 41) (.tmp 45) 23 rfl 39 j0 (entv 0 0 0 0 0 false) 6 48 Try.underlying23 hj0 hy0 hy1 hy2 rfl (by omega) w.heap.size w4.heap.size (w4.heap.size + 1) (w4.heap.size + 1 + 1) A3 (some ⟨w4.heap.size + 1, 0, none⟩) m c3 1 1 (ents es) (entC ((k4, o4, r4, b4), (n : Int), false)) rfl rfl (oo5.alloc _) (ent_new _ _ 39 (by simp) ((k4, o4, r4, b4), (n : Int), false)) (ents_one [((k4, o4, r4, b4), (n : Int), false)]) (by unfold maxLen; omega) (by omega) (by simp; omega) ?_; intro A6 c6 w6 o6 f6; have hB6 := Below.trans (by (repeat (first | (with_reducible assumption) | (with_reducible exact Below.refl _ _) | (with_reducible refine Below.setCell ?_ (by first | (simp; done) | (simp; omega) | omega) _) | (with_reducible refine Below.alloc ?_ (by first | (simp; done) | (simp; omega) | omega) _) | (with_reducible refine Below.drew ?_) | (with_reducible refine Below.drewN ?_ _))) : Below w.heap.size w ((w4.alloc (.cells #[.int .i64 k4, .int .i64 o4, .int .i64 r4, .int .i64 b4] 37)).alloc (.cells #[.int .i64 k4, .int .i64 o4, .int .i64 r4, .int .i64 b4, .int .i64 (n : Int), .bool false] 39))) (f6.below (W := w.heap.size) (Nat.le_refl _) (by simp; omega)); have HO6 := Lib.hid o6; clear o6)
        refine bodyPost_ret (v := .tuple #[.slice A6 (m + 1) c6, .int .i64 (m : Int), .bool true]) (by simp [results, Try.results58, go_sem, *]) rfl ⟨A6, m + 1, c6, es ++ [((k4, o4, r4, b4), (n : Int), false)], _, true, rfl, Nat.le_refl _, ?_, hB6⟩
        have h := HO6.out
        rw [ents_append]
        simpa [ents] using h
end Go.Proofs.Ytpgmfjipkhldmaa
