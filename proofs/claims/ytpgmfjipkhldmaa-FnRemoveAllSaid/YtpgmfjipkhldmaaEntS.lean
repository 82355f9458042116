/- Contracts on slices of entries: toEntry, toEntryS, eqEntry, eqEntryS, szEntryS, markEntryS, heldEntryS. -/
import Derived.Test.YtpgmfjipkhldmaaCaps3
import Derived.Test.YtpgmfjipkhldmaaEnts2
import Derived.Deep.Cut
import Derived.Deep.DeepCutAuto
namespace Go.Proofs.Ytpgmfjipkhldmaa
set_option linter.unusedVariables false
open Go.RowKit
theorem Try.infoEntry : (Try.prog.info? 39).map (fun i => (i.zero, i.size, i.bytes)) = some (some (entv 0 0 0 0 0 false), 6, 48) := by kernel_rfl
/-- A slice of entries in new memory. -/
def NewEnts (w : World) (es : List En) (e : Ending) (w' : World) : Prop :=
  ∃ A c, e = .returned (.slice A es.length c) ∧ Own w' w.heap.size w'.heap.size 39 6 A es.length c (ents es) ∧ Below w.heap.size w w'
theorem Blk.six {w : World} {b : Nat} {T : TypeId} {x y z u v t : Value} (h : Blk w b T #[x, y, z, u, v, t]) : w.cell? ⟨b, 0, none⟩ = some x ∧ w.cell? ⟨b, 1, none⟩ = some y ∧ w.cell? ⟨b, 2, none⟩ = some z ∧ w.cell? ⟨b, 3, none⟩ = some u ∧ w.cell? ⟨b, 4, none⟩ = some v ∧ w.cell? ⟨b, 5, none⟩ = some t := ⟨h.cell 0 rfl, h.cell 1 rfl, h.cell 2 rfl, h.cell 3 rfl, h.cell 4 rfl, h.cell 5 rfl⟩
def entEq (e d : En) : Bool := decide (e = d)
set_option maxHeartbeats 4000000 in
theorem toEntry_any (k o r b p : Int) (g : Bool) (w : World) : Calls Try.prog 48 #[entv k o r b p g] w fun e w' => e = .returned (entv k o r b p g) ∧ Below w.heap.size w w' := by
  have TA := ((Blk.new w 63 #[.int .i64 k, .int .i64 o, .int .i64 r, .int .i64 b, .int .i64 p, .bool g]).alloc (.cells #[.int .i64 0, .int .i64 0, .int .i64 0, .int .i64 0, .int .i64 0, .bool false] 39)).alloc (.cells #[.int .i64 0, .int .i64 0, .int .i64 0, .int .i64 0, .int .i64 0, .bool false] 39)
  have TR := (Blk.newAt (w := w.alloc (.cells #[.int .i64 k, .int .i64 o, .int .i64 r, .int .i64 b, .int .i64 p, .bool g] 63)) (n := w.heap.size + 1) 39 #[.int .i64 0, .int .i64 0, .int .i64 0, .int .i64 0, .int .i64 0, .bool false] (by simp)).alloc (.cells #[.int .i64 0, .int .i64 0, .int .i64 0, .int .i64 0, .int .i64 0, .bool false] 39)
  have TO := Blk.newAt (w := (w.alloc (.cells #[.int .i64 k, .int .i64 o, .int .i64 r, .int .i64 b, .int .i64 p, .bool g] 63)).alloc (.cells #[.int .i64 0, .int .i64 0, .int .i64 0, .int .i64 0, .int .i64 0, .bool false] 39)) (n := w.heap.size + 1 + 1) 39 #[.int .i64 0, .int .i64 0, .int .i64 0, .int .i64 0, .int .i64 0, .bool false] (by simp)
  go_enter Try.func48, Try.ntmps48
  go_wp2_with fail
  refine (toCap_any k o r b _).mono ?_
  rintro e w1 ⟨rfl, hb1⟩
  have z1 := hb1.size
  simp at z1
  replace TA := TA.below hb1
  replace TR := TR.below hb1
  replace TO := TO.below hb1
  have hB := Below.via (by (repeat (first | (with_reducible assumption) | (with_reducible exact Below.refl _ _) | (with_reducible refine Below.setCell ?_ (by first | (simp; done) | (simp; omega) | omega) _) | (with_reducible refine Below.alloc ?_ (by first | (simp; done) | (simp; omega) | omega) _) | (with_reducible refine Below.drew ?_) | (with_reducible refine Below.drewN ?_ _))) : Below w.heap.size w _) hb1
  clear hb1
  obtain ⟨a0, a1, a2, a3, a4, a5⟩ := TA.six
  obtain ⟨d0, d1, d2, d3, d4, d5⟩ := TO.six
  have df := TO.free
  have lA := TA.lt
  have lR := TR.lt
  have lO := TO.lt
  go_upto_region 3 with (fail)
  obtain ⟨w2, hw2⟩ : ∃ w2, w2 = ((((w1.setCell ⟨w.heap.size + 1 + 1, 0, none⟩ (.int .i64 k)).setCell ⟨w.heap.size + 1 + 1, 1, none⟩ (.int .i64 o)).setCell ⟨w.heap.size + 1 + 1, 2, none⟩ (.int .i64 r)).setCell ⟨w.heap.size + 1 + 1, 3, none⟩ (.int .i64 b)) := ⟨_, rfl⟩
  rw [← hw2]
  have TA2 : Blk w2 w.heap.size 63 #[.int .i64 k, .int .i64 o, .int .i64 r, .int .i64 b, .int .i64 p, .bool g] := by rw [hw2]; exact (((TA.other (by show w.heap.size ≠ w.heap.size + 1 + 1; omega) _).other (by show w.heap.size ≠ w.heap.size + 1 + 1; omega) _).other (by show w.heap.size ≠ w.heap.size + 1 + 1; omega) _).other (by show w.heap.size ≠ w.heap.size + 1 + 1; omega) _
  have TR2 : Blk w2 (w.heap.size + 1) 39 #[.int .i64 0, .int .i64 0, .int .i64 0, .int .i64 0, .int .i64 0, .bool false] := by rw [hw2]; exact (((TR.other (by show w.heap.size + 1 ≠ w.heap.size + 1 + 1; omega) _).other (by show w.heap.size + 1 ≠ w.heap.size + 1 + 1; omega) _).other (by show w.heap.size + 1 ≠ w.heap.size + 1 + 1; omega) _).other (by show w.heap.size + 1 ≠ w.heap.size + 1 + 1; omega) _
  have TO2 : Blk w2 (w.heap.size + 1 + 1) 39 #[.int .i64 k, .int .i64 o, .int .i64 r, .int .i64 b, .int .i64 0, .bool false] := by rw [hw2]; exact (((TO.set 0 _).set 1 _).set 2 _).set 3 _
  have hB2 : Below w.heap.size w w2 := by rw [hw2]; (repeat (first | (with_reducible assumption) | (with_reducible exact Below.refl _ _) | (with_reducible refine Below.setCell ?_ (by first | (simp; done) | (simp; omega) | omega) _) | (with_reducible refine Below.alloc ?_ (by first | (simp; done) | (simp; omega) | omega) _) | (with_reducible refine Below.drew ?_) | (with_reducible refine Below.drewN ?_ _)))
  clear hw2 hB TA TR TO a0 a1 a2 a3 a4 a5 d0 d1 d2 d3 d4 d5 df lA lR lO
  obtain ⟨a0, a1, a2, a3, a4, a5⟩ := TA2.six
  obtain ⟨d0, d1, d2, d3, d4, d5⟩ := TO2.six
  have df := TO2.free
  have lA := TA2.lt
  have lR := TR2.lt
  have lO := TO2.lt
  go_upto_region 5 with (fail)
  obtain ⟨w3, hw3⟩ : ∃ w3, w3 = (w2.setCell ⟨w.heap.size + 1 + 1, 4, none⟩ (.int .i64 p)).setCell ⟨w.heap.size + 1 + 1, 5, none⟩ (.bool g) := ⟨_, rfl⟩
  rw [← hw3]
  have TR3 : Blk w3 (w.heap.size + 1) 39 #[.int .i64 0, .int .i64 0, .int .i64 0, .int .i64 0, .int .i64 0, .bool false] := by rw [hw3]; exact (TR2.other (by show w.heap.size + 1 ≠ w.heap.size + 1 + 1; omega) _).other (by show w.heap.size + 1 ≠ w.heap.size + 1 + 1; omega) _
  have TO3 : Blk w3 (w.heap.size + 1 + 1) 39 #[.int .i64 k, .int .i64 o, .int .i64 r, .int .i64 b, .int .i64 p, .bool g] := by rw [hw3]; exact (TO2.set 4 _).set 5 _
  have hB3 : Below w.heap.size w w3 := by rw [hw3]; (repeat (first | (with_reducible assumption) | (with_reducible exact Below.refl _ _) | (with_reducible refine Below.setCell ?_ (by first | (simp; done) | (simp; omega) | omega) _) | (with_reducible refine Below.alloc ?_ (by first | (simp; done) | (simp; omega) | omega) _) | (with_reducible refine Below.drew ?_) | (with_reducible refine Below.drewN ?_ _)))
  clear hw3 hB2 TA2 TR2 TO2 a0 a1 a2 a3 a4 a5 d0 d1 d2 d3 d4 d5 df lA lR lO
  obtain ⟨c0, c1, c2, c3, c4, c5⟩ := TR3.six
  obtain ⟨d0, d1, d2, d3, d4, d5⟩ := TO3.six
  have rf := TR3.free
  have lR := TR3.lt
  have lO := TO3.lt
  clear TR3 TO3
  go_wp2
  refine bodyPost_ret (v := entv k o r b p g) (by simp [results, Try.results48, go_sem, *]) rfl ⟨rfl, by (repeat (first | (with_reducible assumption) | (with_reducible exact Below.refl _ _) | (with_reducible refine Below.setCell ?_ (by first | (simp; done) | (simp; omega) | omega) _) | (with_reducible refine Below.alloc ?_ (by first | (simp; done) | (simp; omega) | omega) _) | (with_reducible refine Below.drew ?_) | (with_reducible refine Below.drewN ?_ _)))⟩
set_option maxHeartbeats 4000000 in
theorem eqEntry_any (k o r b p k2 o2 r2 b2 p2 : Int) (g g2 : Bool) (w : World) : Calls Try.prog 49 #[entv k o r b p g, entv k2 o2 r2 b2 p2 g2] w fun e w' => e = .returned (.bool (entEq ((k, o, r, b), p, g) ((k2, o2, r2, b2), p2, g2))) ∧ Below w.heap.size w w' := by
  have TP := (Blk.new w 39 #[.int .i64 k, .int .i64 o, .int .i64 r, .int .i64 b, .int .i64 p, .bool g]).alloc (.cells #[.int .i64 k2, .int .i64 o2, .int .i64 r2, .int .i64 b2, .int .i64 p2, .bool g2] 39)
  have TQ := Blk.newAt (w := w.alloc (.cells #[.int .i64 k, .int .i64 o, .int .i64 r, .int .i64 b, .int .i64 p, .bool g] 39)) (n := w.heap.size + 1) 39 #[.int .i64 k2, .int .i64 o2, .int .i64 r2, .int .i64 b2, .int .i64 p2, .bool g2] (by simp)
  go_enter Try.func49, Try.ntmps49
  go_wp2_with fail
  refine (eqCap_any k o r b k2 o2 r2 b2 _).mono ?_
  rintro e w1 ⟨rfl, hb1⟩
  have z1 := hb1.size
  simp at z1
  replace TP := TP.below hb1
  replace TQ := TQ.below hb1
  have hB := Below.via (by (repeat (first | (with_reducible assumption) | (with_reducible exact Below.refl _ _) | (with_reducible refine Below.setCell ?_ (by first | (simp; done) | (simp; omega) | omega) _) | (with_reducible refine Below.alloc ?_ (by first | (simp; done) | (simp; omega) | omega) _) | (with_reducible refine Below.drew ?_) | (with_reducible refine Below.drewN ?_ _))) : Below w.heap.size w _) hb1
  clear hb1
  obtain ⟨c0, c1, c2, c3, c4, c5⟩ := TP.six
  obtain ⟨d0, d1, d2, d3, d4, d5⟩ := TQ.six
  have lP := TP.lt
  have lQ := TQ.lt
  clear TP TQ
  by_cases hc : ((k, o, r, b) : Cp) = (k2, o2, r2, b2)
  case neg =>
    have HV := Lib.hid (show entEq ((k, o, r, b), p, g) ((k2, o2, r2, b2), p2, g2) = false from decide_eq_false (fun h => hc (by injection h)))
    rw [show capEq (k, o, r, b) (k2, o2, r2, b2) = false from decide_eq_false hc]
    clear hc
    go_wp2
    go_ret
    exact ⟨by rw [HV.out]; rfl, hB⟩
  rw [show capEq (k, o, r, b) (k2, o2, r2, b2) = true from decide_eq_true hc]
  by_cases hp : p = p2
  case neg =>
    have HV := Lib.hid (show entEq ((k, o, r, b), p, g) ((k2, o2, r2, b2), p2, g2) = false from decide_eq_false (fun h => hp (by injection h with _ h; injection h)))
    have hp2 : (p == p2) = false := beq_eq_false_iff_ne.2 hp
    clear hp hc
    go_wp2
    go_ret
    exact ⟨by rw [HV.out]; rfl, hB⟩
  subst hp
  have HV := Lib.hid (show entEq ((k, o, r, b), p, g) ((k2, o2, r2, b2), p, g2) = (g == g2) by unfold entEq; rw [hc, Bool.eq_iff_iff, decide_eq_true_eq, beq_iff_eq]; simp)
  clear hc
  cases g <;> cases g2
  all_goals go_wp2
  all_goals go_ret
  all_goals exact ⟨by rw [HV.out]; rfl, hB⟩
set_option maxHeartbeats 4000000 in
theorem toEntryS_any (B T n c : Nat) (A : Option Addr) (es : List En) (w : World) (hr : Rd w B T 6 A n (ents es)) (hn : n ≤ 1048576) :
    Calls Try.prog 24 #[.slice A n c] w (NewEnts w es) := by
  obtain ⟨i0, hi0, hz0, hz1, hz2⟩ := info_parts Try.infoEntry
  have hl := ents_len hr
  have HL := Lib.hid hl
  clear hl
  go_enter Try.func24, Try.ntmps24
  go_wp2_with (at_make; refine wpList_mk _ rfl _ _ 23 rfl 39 i0 (entv 0 0 0 0 0 false) 6 Try.underlying23 hi0 hz0 hz1 _ _ _ _ n rfl rfl rfl rfl (by rw [hz2]; omega) (by unfold maxLen; omega) ?_; intro w1 hown hb1 hs1)
  rw [made_ents] at hown
  have HS := Lib.hid hs1
  clear hs1
  go_loopw [4] (fun i wr => ∃ k : Nat, k ≤ n ∧ i = .int .i64 k ∧ Own wr w.heap.size (w.heap.size + 1) 39 6 (some ⟨w.heap.size, 0, none⟩) n n (ents (es.take k ++ List.replicate (n - k) e0)) ∧ Below w.heap.size w wr ∧ w.heap.size < wr.heap.size) (fun i _ => n - (intOf i).toNat)
  case atStart => exact ⟨0, by omega, rfl, by simpa using hown, hb1, by rw [HS.out]; omega⟩
  case round =>
    clear hown
    obtain ⟨k, hk, rfl, ho, hb, hs⟩ := hrel
    by_cases hlt : k < n
    · obtain ⟨b, o, kk, oo, rr, bb, pp, gg, rfl, hbl, hx, q0, q1, q2, q3, q4, q5⟩ := ent_at (hr.below hb) hlt
      have hkk : (k : Int) < (n : Int) := by omega
      have hk0 : (0 : Int) ≤ (k : Int) := by omega
      have HX := Lib.hid hx
      clear hr hx
      go_wp2_with fail
      refine (toEntry_any _ _ _ _ _ _ _).mono ?_
      rintro e w2 ⟨rfl, hb2⟩
      obtain ⟨g, o', h1, h2, h3, h4, h5, h6, h7⟩ := (ho.below hb2).put6 hlt ((kk, oo, rr, bb), pp, gg)
      injection h1 with h1
      injection h1 with hg ho'
      subst hg
      subst ho'
      obtain ⟨u0, g0⟩ := h5 0 (by omega)
      obtain ⟨u1, g1⟩ := h5 1 (by omega)
      obtain ⟨u2, g2⟩ := h5 2 (by omega)
      obtain ⟨u3, g3⟩ := h5 3 (by omega)
      obtain ⟨u4, g4⟩ := h5 4 (by omega)
      obtain ⟨u5, g5⟩ := h5 5 (by omega)
      rw [take_rep_setE es n k _ HL.out hlt HX.out] at h7
      simp only [Nat.zero_add, Nat.add_zero] at g0 g1 g2 g3 g4 g5 h7
      have hB2 := Below.via hb hb2
      have z2 := hb2.size
      clear h5 ho hb hb2 q0 q1 q2 q3 q4 q5
      go_wp2
      go_roundw
      case rel => exact ⟨k + 1, by omega, by go_num, h7, by (repeat (first | (with_reducible assumption) | (with_reducible exact Below.refl _ _) | (with_reducible refine Below.setCell ?_ (by first | (simp; done) | (simp; omega) | omega) _) | (with_reducible refine Below.alloc ?_ (by first | (simp; done) | (simp; omega) | omega) _) | (with_reducible refine Below.drew ?_) | (with_reducible refine Below.drewN ?_ _))), by simp; omega⟩
      case measure => simp [intOf]; omega
    · have hkn : k = n := by omega
      subst hkn
      clear hr
      go_wp2
      go_ret
      refine ⟨some ⟨w.heap.size, 0, none⟩, k, by rw [HL.out]; rfl, ?_, hb⟩
      rw [HL.out]
      have h := ho.mono (B' := w.heap.size) (T' := wr.heap.size) (Nat.le_refl _) (by omega)
      simpa [List.take_of_length_le (by rw [HL.out]; exact Nat.le_refl _ : es.length ≤ k)] using h
end Go.Proofs.Ytpgmfjipkhldmaa
