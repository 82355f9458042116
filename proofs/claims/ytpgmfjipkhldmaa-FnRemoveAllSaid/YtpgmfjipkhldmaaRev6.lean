/- The contract of RevokeSome (spec). -/
import Derived.Test.YtpgmfjipkhldmaaRev5
namespace Go.Proofs.Ytpgmfjipkhldmaa
set_option linter.unusedVariables false
open Go.RowKit
set_option maxHeartbeats 4000000 in
theorem sRevokeSome_any (B T m c : Nat) (A : Option Addr) (es : List En) (n most : Int) (w : World) (hr : Rd w B T 6 A m (ents es)) (hm : m ≤ 1048576) :
    Calls Try.prog 16 #[.slice A m c, .int .i64 n, .int .i64 most] w (NewSome w es n most) := by
  have hlen := ents_len hr
  cases hl : liveV es n
  · obtain ⟨s1, s2, s3⟩ := some_no (ds := es) (n := n) (most := most) (by unfold someO; rw [hl]; rfl)
    have HS := Lib.hid (And.intro s1 (And.intro s2 s3))
    clear s1 s2 s3 hlen
    go_enter Try.func16, Try.ntmps16
    go_wp2_with fail
    refine (l5Live_any _ _ _ _ _ es n _ hr hm).mono ?_
    rintro e w1 ⟨rfl, hb1⟩
    rw [hl]
    have zb1 := hb1.size
    go_wp2
    refine bodyPost_ret (v := .tuple #[.slice (some ⟨w1.heap.size, 0, none⟩) 0 0, .int .i64 0, .bool false]) (by simp [results, Try.results16, go_sem, *]) rfl ⟨some ⟨w1.heap.size, 0, none⟩, 0, by rw [HS.out.1, HS.out.2.1, HS.out.2.2]; rfl, by rw [HS.out.2.1]; exact Own.nil _ _ _ _ _ _, by (repeat (first | (with_reducible assumption) | (with_reducible exact Below.refl _ _) | (with_reducible refine Below.setCell ?_ (by first | (simp; done) | (simp; omega) | omega) _) | (with_reducible refine Below.alloc ?_ (by first | (simp; done) | (simp; omega) | omega) _) | (with_reducible refine Below.drew ?_) | (with_reducible refine Below.drewN ?_ _)))⟩
  cases hi : inB most 0 30
  · obtain ⟨s1, s2, s3⟩ := some_no (ds := es) (n := n) (most := most) (by unfold someO; rw [hl, hi]; rfl)
    have HS := Lib.hid (And.intro s1 (And.intro s2 s3))
    clear s1 s2 s3 hlen
    go_enter Try.func16, Try.ntmps16
    go_wp2_with fail
    refine (l5Live_any _ _ _ _ _ es n _ hr hm).mono ?_
    rintro e w1 ⟨rfl, hb1⟩
    rw [hl]
    go_wp2_with fail
    refine (l1In_any _ _ _ _).mono ?_
    rintro e w2 ⟨rfl, rfl⟩
    rw [hi]
    have zb1 := hb1.size
    go_wp2
    refine bodyPost_ret (v := .tuple #[.slice (some ⟨w1.heap.size, 0, none⟩) 0 0, .int .i64 0, .bool false]) (by simp [results, Try.results16, go_sem, *]) rfl ⟨some ⟨w1.heap.size, 0, none⟩, 0, by rw [HS.out.1, HS.out.2.1, HS.out.2.2]; rfl, by rw [HS.out.2.1]; exact Own.nil _ _ _ _ _ _, by (repeat (first | (with_reducible assumption) | (with_reducible exact Below.refl _ _) | (with_reducible refine Below.setCell ?_ (by first | (simp; done) | (simp; omega) | omega) _) | (with_reducible refine Below.alloc ?_ (by first | (simp; done) | (simp; omega) | omega) _) | (with_reducible refine Below.drew ?_) | (with_reducible refine Below.drewN ?_ _)))⟩
  obtain ⟨k, rfl⟩ := Int.eq_ofNat_of_zero_le (liveV_iff.1 hl).2.1
  obtain ⟨L, q, M, f1, f2, f3, f4, f5, f6, f7, f8, f9, f10⟩ := some_facts hl hi
  obtain ⟨j0, hj0, hy0, hy1, hy2⟩ := info_parts Try.infoEntry
  rw [hlen] at f4
  have HF := Lib.hid (And.intro f6 (And.intro f7 (And.intro f8 (And.intro f1 f2))))
  have HL := Lib.hid (And.intro hl (And.intro hi hlen))
  have H4 := Lib.hid f4
  have hm0 := (inB_true.1 hi).1
  clear f1 f2 f4 f6 f7 f8 hl hi hlen
  go_enter Try.func16, Try.ntmps16
  go_wp2_with fail
  refine (l5Live_any _ _ _ _ _ es (k : Int) _ hr hm).mono ?_
  rintro e w1 ⟨rfl, hb1⟩
  rw [HL.out.1]
  go_wp2_with fail
  refine (l1In_any _ _ _ _).mono ?_
  rintro e w2 ⟨rfl, rfl⟩
  rw [HL.out.2.1]
  have hr1 := hr.below hb1
  have zb1 := hb1.size
  go_wp2_with (at_builtin; refine wpList_appg _ (by rfl) (.tmp 23) (.tmp 24) 23 rfl 39 j0 (entv 0 0 0 0 0 false) 6 48 Try.underlying23 hj0 hy0 hy1 hy2 rfl (by omega) w1.heap.size 0 B T (some ⟨w1.heap.size, 0, none⟩) A 0 0 m c [] (ents es) rfl rfl (Own.nil _ _ _ _ _ _) (hr1.alloc _) (ents_one es) (by unfold maxLen; omega) (by omega) (by simp) ?_; intro A3 c3 w3 o3 f3; rw [List.nil_append] at o3; rw [Nat.zero_add] at o3 ⊢; have hb3 := f3.below0; have hr3 := (hr1.alloc (.cells #[] 39)).below hb3; have hB3 := Below.via (by (repeat (first | (with_reducible assumption) | (with_reducible exact Below.refl _ _) | (with_reducible refine Below.setCell ?_ (by first | (simp; done) | (simp; omega) | omega) _) | (with_reducible refine Below.alloc ?_ (by first | (simp; done) | (simp; omega) | omega) _) | (with_reducible refine Below.drew ?_) | (with_reducible refine Below.drewN ?_ _))) : Below w.heap.size w (w1.alloc (.cells #[] 39))) hb3; have z3 := f3.size; (try simp at z3); clear f3 hb3)
  refine (sDescendants_any _ _ _ _ _ es k _ hr3 hm HL.out.1).mono ?_
  rintro e w4 ⟨A4, c4, rfl, o4, hb4⟩
  rw [HF.out.2.2.2.1, dI_len, HF.out.2.2.2.2] at o4 ⊢
  have hz4 := hb4.size
  have oo := (o3.below hb4).mono (B' := w.heap.size) (T' := w3.heap.size) (by have := hb1.size; omega) (Nat.le_refl _)
  have hB4 := Below.via hB3 hb4
  have hqM : IntKind.i64.wrap ((q : Int) - (M : Int)) = ((q - M : Nat) : Int) := by rw [wr64s (by omega) (by omega)]; omega
  have hqw : IntKind.i64.wrap (0 : Int) = 0 := wr64s (by omega) (by omega)
  obtain ⟨X, hX⟩ : ∃ X, L.drop (q - M) = X := ⟨_, rfl⟩
  have hXl : X.length = M := by rw [← hX, List.length_drop, HF.out.2.2.2.2]; omega
  have hXg : ∀ j, X[j]? = L[q - M + j]? := fun j => by rw [← hX, List.getElem?_drop]
  obtain ⟨t, ht⟩ : ∃ t, decide (M = q) = t := ⟨_, rfl⟩
  have ht2 : ((M : Int) == (q : Int)) = t := by rw [← ht, Bool.eq_iff_iff, beq_iff_eq, decide_eq_true_eq]; omega
  have ht3 : M = q → t = true := fun h => by rw [← ht]; exact decide_eq_true h
  have HT := Lib.hid ht
  have hX0 := hX
  have HX := Lib.hid (And.intro hX (And.intro hXl hXg))
  have H3 := Lib.hid ht3
  have HO := Lib.hid oo
  clear hr hb1 hr1 hr3 hB3 hb4 o3 ht hX hXl hXg ht3 oo
  have HX0 := Lib.hid hX0
  clear hX0
  by_cases hmin : most ≤ (q : Int)
  · have hMm := f9 hmin
    subst hMm
    clear f9 f10
    go_wp2
    go_loopw [12] (fun i wr => ∃ j : Nat, j ≤ M ∧ i = .int .i64 ((q - M + j : Nat) : Int) ∧ Own wr w.heap.size w3.heap.size 39 6 A3 m c3 (ents (removed es (X.take j))) ∧ Fr w.heap.size w3.heap.size w4 wr) (fun i _ => q - (intOf i).toNat)
    case atStart => exact ⟨0, by omega, by simp, by rw [List.take_zero, removed_nil]; exact HO.out, Fr.refl _ _ _⟩
    case round =>
      clear HO
      obtain ⟨j, hj, rfl, ho, hf⟩ := hrel
      have hz := hf.size
      by_cases hlt : j < M
      · obtain ⟨b, o, x, rfl, hbl, hx, hc⟩ := ints_at (o4.rd.fr hf (.inr (Nat.le_refl _))) (show q - M + j < q by omega)
        unfold dI at hx
        rw [List.getElem?_map] at hx
        obtain ⟨y, hy, rfl⟩ := Option.map_eq_some_iff.1 hx
        have hy2 : X[j]? = some y := by rw [HX.out.2.2 j, ← hy]
        have hym := H4.out y (List.mem_of_getElem? hy)
        have hjj : ((q - M + j : Nat) : Int) < (q : Int) := by omega
        have hj0 : (0 : Int) ≤ ((q - M + j : Nat) : Int) := by omega
        have hym' : (y : Int) < (m : Int) := by omega
        have hy0 : (0 : Int) ≤ (y : Int) := by omega
        have hlen2 : (removed es (X.take j)).length = m := by rw [removed_len, HL.out.2.2]
        obtain ⟨⟨cp, pp, gg⟩, he⟩ : ∃ e, (removed es (X.take j))[y]? = some e := ⟨_, List.getElem?_eq_getElem (by omega)⟩
        obtain ⟨g, a, rfl, h1, h2, h3, h4, ⟨u4, h5⟩, ⟨u5, h6⟩, h7, h8⟩ := ho.ent he
        have hset := h8 true
        rw [removed_step hy2 he] at hset
        have HS := Lib.hid hset
        have hfz := h4 (a + y * 6 + 5)
        have hiw : IntKind.i64.wrap (((q - M + j : Nat) : Int) + 1) = ((q - M + j : Nat) : Int) + 1 := wr64s (by omega) (by omega)
        clear ho hx hy hy2 he hlen2 h4 h5 h7 h8 hset
        go_wp2
        go_roundw
        case rel => exact ⟨j + 1, by omega, by go_num, HS.out, hf.setCell (by assumption) (by assumption) _⟩
        case measure => simp [intOf]; omega
      · have hjM : j = M := by omega
        subst hjM
        have HO2 := Lib.hid (show Own wr w.heap.size w3.heap.size 39 6 A3 m c3 (ents (removed es X)) by rwa [List.take_of_length_le (by rw [HX.out.2.1]; exact Nat.le_refl _)] at ho)
        have hl2 := Lib.hid (show (removed es X).length = m by rw [removed_len, HL.out.2.2])
        have hB9 := Below.trans hB4 (hf.below (W := w.heap.size) (Nat.le_refl _) (by omega))
        have hjn : ¬ ((q - j + j : Nat) : Int) < (q : Int) := by omega
        clear ho o4 HX
        go_wp2
        refine bodyPost_ret (v := .tuple #[.slice A3 m c3, .int .i64 (j : Int), .bool t]) (by simp [results, Try.results16, go_sem, *]) rfl ?_
        refine ⟨A3, c3, by rw [HF.out.1, HF.out.2.1, HF.out.2.2.1, HX0.out, hl2.out, HT.out] <;> rfl, ?_, hB9⟩
        rw [HF.out.2.1, HX0.out, hl2.out]
        exact HO2.out.mono (Nat.le_refl _) (by omega)
  · obtain rfl := f10 (by omega)
    have hlt2 : (M : Int) < most := by omega
    obtain rfl := H3.out rfl
    clear f9 f10 hqM
    go_wp2
    go_loopw [12] (fun i wr => ∃ j : Nat, j ≤ M ∧ i = .int .i64 (j : Int) ∧ Own wr w.heap.size w3.heap.size 39 6 A3 m c3 (ents (removed es (X.take j))) ∧ Fr w.heap.size w3.heap.size w4 wr) (fun i _ => M - (intOf i).toNat)
    case atStart => exact ⟨0, by omega, by simp, by rw [List.take_zero, removed_nil]; exact HO.out, Fr.refl _ _ _⟩
    case round =>
      clear HO
      obtain ⟨j, hj, rfl, ho, hf⟩ := hrel
      have hz := hf.size
      by_cases hlt : j < M
      · obtain ⟨b, o, x, rfl, hbl, hx, hc⟩ := ints_at (o4.rd.fr hf (.inr (Nat.le_refl _))) (show j < M by omega)
        unfold dI at hx
        rw [List.getElem?_map] at hx
        obtain ⟨y, hy, rfl⟩ := Option.map_eq_some_iff.1 hx
        have hy2 : X[j]? = some y := by rw [HX.out.2.2 j, ← hy]; simp
        have hym := H4.out y (List.mem_of_getElem? hy)
        have hjj : (j : Int) < (M : Int) := by omega
        have hj0 : (0 : Int) ≤ (j : Int) := by omega
        have hym' : (y : Int) < (m : Int) := by omega
        have hy0 : (0 : Int) ≤ (y : Int) := by omega
        have hlen2 : (removed es (X.take j)).length = m := by rw [removed_len, HL.out.2.2]
        obtain ⟨⟨cp, pp, gg⟩, he⟩ : ∃ e, (removed es (X.take j))[y]? = some e := ⟨_, List.getElem?_eq_getElem (by omega)⟩
        obtain ⟨g, a, rfl, h1, h2, h3, h4, ⟨u4, h5⟩, ⟨u5, h6⟩, h7, h8⟩ := ho.ent he
        have hset := h8 true
        rw [removed_step hy2 he] at hset
        have HS := Lib.hid hset
        have hfz := h4 (a + y * 6 + 5)
        have hiw : IntKind.i64.wrap ((j : Int) + 1) = (j : Int) + 1 := wr64s (by omega) (by omega)
        clear ho hx hy hy2 he hlen2 h4 h5 h7 h8 hset
        go_wp2
        go_roundw
        case rel => exact ⟨j + 1, by omega, by go_num, HS.out, hf.setCell (by assumption) (by assumption) _⟩
        case measure => simp [intOf]; omega
      · have hjM : j = M := by omega
        subst hjM
        have HO2 := Lib.hid (show Own wr w.heap.size w3.heap.size 39 6 A3 m c3 (ents (removed es X)) by rwa [List.take_of_length_le (by rw [HX.out.2.1]; exact Nat.le_refl _)] at ho)
        have hl2 := Lib.hid (show (removed es X).length = m by rw [removed_len, HL.out.2.2])
        have hB9 := Below.trans hB4 (hf.below (W := w.heap.size) (Nat.le_refl _) (by omega))
        have hjn : ¬ (j : Int) < (j : Int) := by omega
        clear ho o4 HX
        go_wp2
        refine bodyPost_ret (v := .tuple #[.slice A3 m c3, .int .i64 (j : Int), .bool true]) (by simp [results, Try.results16, go_sem, *]) rfl ?_
        refine ⟨A3, c3, by rw [HF.out.1, HF.out.2.1, HF.out.2.2.1, HX0.out, hl2.out, HT.out] <;> rfl, ?_, hB9⟩
        rw [HF.out.2.1, HX0.out, hl2.out]
        exact HO2.out.mono (Nat.le_refl _) (by omega)
end Go.Proofs.Ytpgmfjipkhldmaa
