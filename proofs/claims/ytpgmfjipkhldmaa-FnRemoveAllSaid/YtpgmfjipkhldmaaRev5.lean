/- Contracts of RevokeSome (impl and spec). -/
import Derived.Test.YtpgmfjipkhldmaaRev4
namespace Go.Proofs.Ytpgmfjipkhldmaa
set_option linter.unusedVariables false
open Go.RowKit
/-- What RevokeSome answers, in new memory. -/
def NewSome (w : World) (es : List En) (n most : Int) (e : Ending) (w' : World) : Prop :=
  ∃ A c, e = .returned (.tuple #[.slice A (someL es n most).length c, .int .i64 (someM es n most : Nat), .bool (someB es n most)]) ∧ Own w' w.heap.size w'.heap.size 39 6 A (someL es n most).length c (ents (someL es n most)) ∧ Below w.heap.size w w'
/-- The numbers as RevokeSome reckons them. -/
theorem some_facts {es : List En} {k : Nat} {most : Int} (hl : liveV es (k : Int) = true) (hm : inB most 0 30 = true) : ∃ (L : List Nat) (q M : Nat), descL es k = L ∧ L.length = q ∧ q ≤ 30 ∧ (∀ x ∈ L, x < es.length) ∧ M ≤ q ∧ someM es (k : Int) most = M ∧ someL es (k : Int) most = removed es (L.drop (q - M)) ∧ someB es (k : Int) most = decide (M = q) ∧ (most ≤ (q : Int) → (M : Int) = most) ∧ (¬ most ≤ (q : Int) → M = q) := by
  have h30 := (treeV_iff.1 (live_tree hl)).2
  have ho : someO es (k : Int) most = true := by unfold someO; rw [hl, hm]; rfl
  obtain ⟨h1, h2, h3⟩ := some_yes ho
  have hb := inB_true.1 hm
  have hle : cntF es (k : Int) ≤ es.length := cnt_le
  have hc : cntF es (k : Int) = (descL es k).length := rfl
  refine ⟨descL es k, (descL es k).length, someM es (k : Int) most, rfl, rfl, by omega, fun x hx => (mem_descL.1 hx).1, by omega, rfl, ?_, ?_, fun h => ?_, fun h => ?_⟩
  · rw [h2]; rfl
  · rw [h3]; rfl
  · rw [hc] at h1; omega
  · rw [hc] at h1; omega
set_option maxHeartbeats 4000000 in
theorem iRevokeSome_any (B T m c : Nat) (A : Option Addr) (es : List En) (n most : Int) (w : World) (hr : Rd w B T 6 A m (ents es)) (hm : m ≤ 1048576) :
    Calls Try.prog 12 #[.slice A m c, .int .i64 n, .int .i64 most] w (NewSome w es n most) := by
  have hlen := ents_len hr
  cases hl : liveV es n
  · obtain ⟨s1, s2, s3⟩ := some_no (ds := es) (n := n) (most := most) (by unfold someO; rw [hl]; rfl)
    have HS := Lib.hid (And.intro s1 (And.intro s2 s3))
    clear s1 s2 s3 hlen
    go_enter Try.func12, Try.ntmps12
    go_wp2_with fail
    refine (iAlive_any _ _ _ _ _ es n _ hr hm).mono ?_
    rintro e w1 ⟨rfl, hb1⟩
    rw [hl]
    go_wp2
    refine bodyPost_ret (v := .tuple #[.slice none 0 0, .int .i64 0, .bool false]) (by simp [results, Try.results12, go_sem, *]) rfl ⟨none, 0, by rw [HS.out.1, HS.out.2.1, HS.out.2.2]; rfl, by rw [HS.out.2.1]; exact Own.nil _ _ _ _ _ _, hb1⟩
  cases hi : inB most 0 30
  · obtain ⟨s1, s2, s3⟩ := some_no (ds := es) (n := n) (most := most) (by unfold someO; rw [hl, hi]; rfl)
    have HS := Lib.hid (And.intro s1 (And.intro s2 s3))
    clear s1 s2 s3 hlen
    go_enter Try.func12, Try.ntmps12
    go_wp2_with fail
    refine (iAlive_any _ _ _ _ _ es n _ hr hm).mono ?_
    rintro e w1 ⟨rfl, hb1⟩
    rw [hl]
    go_wp2_with fail
    refine (in_any _ _ _ _).mono ?_
    rintro e w2 ⟨rfl, rfl⟩
    rw [hi]
    go_wp2
    refine bodyPost_ret (v := .tuple #[.slice none 0 0, .int .i64 0, .bool false]) (by simp [results, Try.results12, go_sem, *]) rfl ⟨none, 0, by rw [HS.out.1, HS.out.2.1, HS.out.2.2]; rfl, by rw [HS.out.2.1]; exact Own.nil _ _ _ _ _ _, hb1⟩
  obtain ⟨k, rfl⟩ := Int.eq_ofNat_of_zero_le (liveV_iff.1 hl).2.1
  obtain ⟨L, q, M, f1, f2, f3, f4, f5, f6, f7, f8, f9, f10⟩ := some_facts hl hi
  rw [hlen] at f4
  have HF := Lib.hid (And.intro f6 (And.intro f7 (And.intro f8 (And.intro f1 f2))))
  have HL := Lib.hid (And.intro hl hi)
  have H4 := Lib.hid f4
  have hm0 := (inB_true.1 hi).1
  clear f1 f2 f4 f6 f7 f8 hl hi hlen
  go_enter Try.func12, Try.ntmps12
  go_wp2_with fail
  refine (iAlive_any _ _ _ _ _ es (k : Int) _ hr hm).mono ?_
  rintro e w1 ⟨rfl, hb1⟩
  rw [HL.out.1]
  go_wp2_with fail
  refine (in_any _ _ _ _).mono ?_
  rintro e w2 ⟨rfl, rfl⟩
  rw [HL.out.2]
  go_wp2_with fail
  refine (descendants_any _ _ _ _ _ es k _ (hr.below hb1) hm HL.out.1).mono ?_
  rintro e w3 ⟨A2, c2, rfl, o2, hb2⟩
  rw [HF.out.2.2.2.1, dI_len, HF.out.2.2.2.2] at o2 ⊢
  have hle := o2.le
  have hr2 := (hr.below hb1).below hb2
  have hB2 := Below.via hb1 hb2
  have hz2 := hB2.size
  have hqM : IntKind.i64.wrap ((q : Int) - (M : Int)) = ((q - M : Nat) : Int) := by rw [wr64s (by omega) (by omega)]; omega
  have hcut := o2.rd.cut (k := q - M) (cap := c2) (by omega) hle
  rw [Nat.mul_one] at hcut
  rw [show q - (q - M) = M by omega, show (ints (dI L)).drop (q - M) = ints (dI (L.drop (q - M))) by unfold ints dI; simp] at hcut
  have hLd : ∀ x ∈ L.drop (q - M), x < m := fun x hx => H4.out x (List.mem_of_mem_drop hx)
  clear hr hb1 hb2
  by_cases hmin : most ≤ (q : Int)
  · have hMm := f9 hmin
    subst hMm
    clear f9 f10
    by_cases hcc : c2 = q - M
    · obtain rfl : M = 0 := by omega
      obtain rfl : c2 = q := by omega
      have hqw : IntKind.i64.wrap (c2 : Int) = (c2 : Int) := wr64s (by omega) (by omega)
      have HX := Lib.hid (show L.drop (c2 - 0) = [] from List.drop_eq_nil_of_le (by rw [HF.out.2.2.2.2]; omega))
      obtain ⟨t, ht⟩ : ∃ t, decide (0 = c2) = t := ⟨_, rfl⟩
      have ht2 : ((0 : Int) == (c2 : Int)) = t := by rw [← ht, Bool.eq_iff_iff, beq_iff_eq, decide_eq_true_eq]; omega
      have HT := Lib.hid ht
      clear hcut hqM hcc o2 ht
      go_wp2_with fail
      refine (removed_any _ _ _ _ 0 0 0 0 _ A2 es [] _ hr2 hm (Rd.nil _ _ _ _ _) (by omega) (fun x hx => by simp at hx)).mono ?_
      rintro e w4 ⟨A5, c5, rfl, o5, hb5⟩
      obtain ⟨ys, hys⟩ : ∃ ys, removed es ([]) = ys := ⟨_, rfl⟩
      rw [hys] at o5 ⊢
      obtain ⟨n5, hn5⟩ : ∃ n5, ys.length = n5 := ⟨_, rfl⟩
      rw [hn5] at o5 ⊢
      have HY := Lib.hid (And.intro hys hn5)
      have HO := Lib.hid o5
      have hB5 := Below.via hB2 hb5
      clear hys hn5 o5 hb5 hr2
      go_wp2
      refine bodyPost_ret (v := .tuple #[.slice A5 n5 c5, .int .i64 (0), .bool t]) (by simp [results, Try.results12, go_sem, *]) rfl ?_
      refine ⟨A5, c5, by rw [HF.out.1, HF.out.2.1, HF.out.2.2.1, HX.out, HY.out.1, HY.out.2, HT.out] <;> rfl, ?_, hB5⟩
      rw [HF.out.2.1, HX.out, HY.out.1, HY.out.2]
      exact HO.out.mono hz2 (Nat.le_refl _)
    · rw [if_neg hcc] at hcut
      obtain ⟨t, ht⟩ : ∃ t, decide (M = q) = t := ⟨_, rfl⟩
      have ht2 : ((M : Int) == (q : Int)) = t := by rw [← ht, Bool.eq_iff_iff, beq_iff_eq, decide_eq_true_eq]; omega
      have HT := Lib.hid ht
      have HC := Lib.hid hcut
      clear ht o2 hcut
      go_wp2_with fail
      refine (removed_any _ _ _ _ w1.heap.size w3.heap.size _ _ _ _ es (L.drop (q - M)) _ hr2 hm (by rw [show q - (q - M) = M by omega]; exact HC.out) (by omega) hLd).mono ?_
      rintro e w4 ⟨A5, c5, rfl, o5, hb5⟩
      obtain ⟨ys, hys⟩ : ∃ ys, removed es (L.drop (q - M)) = ys := ⟨_, rfl⟩
      rw [hys] at o5 ⊢
      obtain ⟨n5, hn5⟩ : ∃ n5, ys.length = n5 := ⟨_, rfl⟩
      rw [hn5] at o5 ⊢
      have HY := Lib.hid (And.intro hys hn5)
      have HO := Lib.hid o5
      have hB5 := Below.via hB2 hb5
      clear hys hn5 o5 hb5 hr2
      go_wp2
      refine bodyPost_ret (v := .tuple #[.slice A5 n5 c5, .int .i64 (M), .bool t]) (by simp [results, Try.results12, go_sem, *]) rfl ?_
      refine ⟨A5, c5, by rw [HF.out.1, HF.out.2.1, HF.out.2.2.1, HY.out.1, HY.out.2, HT.out] <;> rfl, ?_, hB5⟩
      rw [HF.out.2.1, HY.out.1, HY.out.2]
      exact HO.out.mono hz2 (Nat.le_refl _)
  · obtain rfl := f10 (by omega)
    have hqw : IntKind.i64.wrap (0 : Int) = 0 := wr64s (by omega) (by omega)
    have hmin2 : (M : Int) ≤ most := by omega
    have HX := Lib.hid (show L.drop (M - M) = L by rw [Nat.sub_self, List.drop_zero])
    have HO2 := Lib.hid o2
    obtain ⟨t, ht⟩ : ∃ t, decide (M = M) = t := ⟨_, rfl⟩
    have ht2 : t = true := by rw [← ht]; exact decide_eq_true rfl
    have HT := Lib.hid ht
    clear f9 f10 hcut hqM o2 ht
    subst ht2
    go_wp2_with fail
    refine (removed_any _ _ _ _ _ _ M c2 _ A2 es L _ hr2 hm HO2.out.rd (by omega) H4.out).mono ?_
    rintro e w4 ⟨A5, c5, rfl, o5, hb5⟩
    obtain ⟨ys, hys⟩ : ∃ ys, removed es (L) = ys := ⟨_, rfl⟩
    rw [hys] at o5 ⊢
    obtain ⟨n5, hn5⟩ : ∃ n5, ys.length = n5 := ⟨_, rfl⟩
    rw [hn5] at o5 ⊢
    have HY := Lib.hid (And.intro hys hn5)
    have HO := Lib.hid o5
    have hB5 := Below.via hB2 hb5
    clear hys hn5 o5 hb5 hr2
    go_wp2
    refine bodyPost_ret (v := .tuple #[.slice A5 n5 c5, .int .i64 (M), .bool true]) (by simp [results, Try.results12, go_sem, *]) rfl ?_
    refine ⟨A5, c5, by rw [HF.out.1, HF.out.2.1, HF.out.2.2.1, HX.out, HY.out.1, HY.out.2, HT.out] <;> rfl, ?_, hB5⟩
    rw [HF.out.2.1, HX.out, HY.out.1, HY.out.2]
    exact HO.out.mono hz2 (Nat.le_refl _)
end Go.Proofs.Ytpgmfjipkhldmaa
