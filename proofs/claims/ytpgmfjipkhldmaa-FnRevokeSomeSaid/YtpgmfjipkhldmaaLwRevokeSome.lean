/- The walk of the law FnRevokeSome: it returns true and leaves all that was in memory as it was, for every code (the draw's contract is a hypothesis here; the row's text joins it). -/
import Derived.Test.YtpgmfjipkhldmaaLwRevHead
namespace Go.Proofs.Ytpgmfjipkhldmaa
set_option linter.unusedVariables false
open Go.RowKit
set_option maxHeartbeats 8000000 in
theorem lawc_RevokeSome (hdraw : DrawsT 15) (B T n c : Nat) (A : Option Addr) (bs : List Value) (w : World) (hr : Rd w B T 1 A n bs) (hb : Bytes bs) (hnc : n ≤ c) :
    Calls Try.prog 4 #[.slice A n c] w fun e w' => e = .returned (.bool true) ∧ Below w.heap.size w w' := by
  by_cases hbig : 1048576 < n
  · have hd : (1048576 : Int) < (n : Int) := by omega
    go_enter Try.func4, Try.ntmps4
    go_wp2_with fail
    go_ret
    exact ⟨rfl, Below.refl _ _⟩
  have hn : n ≤ 1048576 := by omega
  have hd : ¬ (1048576 : Int) < (n : Int) := by omega
  have hB := Below.refl w.heap.size w
  go_enter Try.func4, Try.ntmps4
  go_wp2_with fail
  refine (hdraw B T n c A bs _ hr hb hn hnc).mono ?_
  rintro e w1 ⟨A1, m, c1, es, v1, v2, rfl, r1, hm, hb1⟩
  have hm1 : m ≤ 1048576 := by omega
  have hlen := ents_len r1
  replace r1 := r1.here (by omega)
  replace hB := Below.via hB hb1
  have HLN := Lib.hid hlen
  clear hb1 hlen hr hb
  obtain ⟨gs, h1⟩ : ∃ gs, someL es v1 v2 = gs := ⟨_, rfl⟩
  obtain ⟨ng, h2⟩ : ∃ ng, gs.length = ng := ⟨_, rfl⟩
  obtain ⟨M, h3⟩ : ∃ M, someM es v1 v2 = M := ⟨_, rfl⟩
  obtain ⟨t, h4⟩ : ∃ t, someB es v1 v2 = t := ⟨_, rfl⟩
  have HG := Lib.hid (And.intro h1 (And.intro h2 (And.intro h3 h4)))
  have hng : ng ≤ 1048576 := by have := someL_len (es := es) (n := v1) (most := v2); rw [h1, h2] at this; have := HLN.out; omega
  cases ho : someO es v1 v2
  · obtain ⟨s1, s2, s3⟩ := some_no ho
    obtain rfl : gs = [] := by rw [← h1]; exact s2
    obtain rfl : ng = 0 := by rw [← h2]; rfl
    obtain rfl : M = 0 := by rw [← h3]; exact s1
    obtain rfl : t = false := by rw [← h4]; exact s3
    clear h1 h2 h3 h4 s1 s2 s3 ho
    go_wp2_with fail
    refine (iRevokeSome_any _ _ _ _ _ es v1 v2 _ r1 hm1).mono ?_
    rintro e w2 ⟨A2, c2, rfl, o2, hb2⟩
    have z2 := hb2.size
    replace hB := Below.via hB hb2
    replace r1 := r1.below hb2
    rw [HG.out.1, HG.out.2.1] at o2
    rw [HG.out.1, HG.out.2.1, HG.out.2.2.1, HG.out.2.2.2]
    go_wp2_with fail
    refine (sRevokeSome_any _ _ _ _ _ es v1 v2 _ r1 hm1).mono ?_
    rintro e w3 ⟨A3, c3, rfl, o3, hb3⟩
    have z3 := hb3.size
    replace hB := Below.via hB hb3
    replace r1 := r1.below hb3
    replace o2 := o2.below hb3
    rw [HG.out.1, HG.out.2.1] at o3
    rw [HG.out.1, HG.out.2.1, HG.out.2.2.1, HG.out.2.2.2]
    go_wp2_with fail
    refine (sameTree_same _ _ _ _ _ _ _ _ _ [] _ o2.rd o3.rd (by omega)).mono ?_
    rintro e w4 ⟨rfl, hb4⟩
    have z4 := hb4.size
    replace hB := Below.via hB hb4
    go_wp2_with fail
    refine (alive_any _).mono ?_
    rintro e w5 ⟨rfl, hb5⟩
    have z5 := hb5.size
    replace hB := Below.via hB hb5
    go_wp2
    go_ret
    exact ⟨rfl, hB⟩
  · obtain ⟨g1, g2, g3, g4, g5, g6, g7⟩ := some_law ho
    rw [h1] at g1 g2 g3 g5 g6 g7
    rw [h3] at g4 g6
    rw [h4] at g5
    have hl : liveV es v1 = true := by unfold someO at ho; rw [Bool.and_eq_true] at ho; exact ho.1
    obtain ⟨h5, h6, h7, -⟩ := liveV_iff.1 hl
    obtain ⟨k, rfl⟩ := Int.eq_ofNat_of_zero_le h6
    have hng0 : ((ng : Int) == 0) = false := beq_eq_false_iff_ne.2 (by rw [h2] at g3; omega)
    obtain ⟨q2, hq2⟩ : ∃ q, (descL gs k).length = q := ⟨_, rfl⟩
    obtain ⟨q1, hq1⟩ : ∃ q, (descL es k).length = q := ⟨_, rfl⟩
    have hq1b : q1 ≤ 100 := by have : (descL es k).length ≤ es.length := descTo_len; have := HLN.out; omega
    unfold cntF at g5 g6
    rw [Int.toNat_natCast] at g5 g6
    rw [hq2] at g5 g6
    rw [hq1] at g6
    obtain ⟨ys, hys⟩ : ∃ ys, revL es (k : Int) = ys := ⟨_, rfl⟩
    have hyl : ys.length = m := by rw [← hys, (rev_tree hl).2]; exact HLN.out
    rw [hys] at g7
    have e1 : IntKind.i64.wrap ((M : Int) + (q2 : Int)) = (M : Int) + (q2 : Int) := wr64s (by omega) (by omega)
    have e2 : ((M : Int) + (q2 : Int) == (q1 : Int)) = true := by rw [beq_iff_eq]; omega
    have HK := Lib.hid (And.intro hl (And.intro g1 (And.intro g2 (And.intro g7 (And.intro hys (And.intro hyl (And.intro hq1 hq2)))))))
    have G5 := Lib.hid g5
    have G6 := Lib.hid g6
    have eM : IntKind.i64.wrap (M : Int) = (M : Int) := wr64s (by omega) (by omega)
    clear h1 h2 h3 h4 ho g1 g2 g3 g5 g6 g7 hl h5 h6 h7 hq2 hq1 hys hyl
    go_wp2_with fail
    refine (iRevokeSome_any _ _ _ _ _ es (k : Int) v2 _ r1 hm1).mono ?_
    rintro e w2 ⟨A2, c2, rfl, o2, hb2⟩
    have z2 := hb2.size
    replace hB := Below.via hB hb2
    replace r1 := r1.below hb2
    rw [HG.out.1, HG.out.2.1] at o2
    rw [HG.out.1, HG.out.2.1, HG.out.2.2.1, HG.out.2.2.2]
    go_wp2_with fail
    refine (sRevokeSome_any _ _ _ _ _ es (k : Int) v2 _ r1 hm1).mono ?_
    rintro e w3 ⟨A3, c3, rfl, o3, hb3⟩
    have z3 := hb3.size
    replace hB := Below.via hB hb3
    replace r1 := r1.below hb3
    replace o2 := o2.below hb3
    rw [HG.out.1, HG.out.2.1] at o3
    rw [HG.out.1, HG.out.2.1, HG.out.2.2.1, HG.out.2.2.2]
    go_wp2_with fail
    refine (sameTree_same _ _ _ _ _ _ _ _ _ gs _ o2.rd o3.rd hng).mono ?_
    rintro e w4 ⟨rfl, hb4⟩
    have z4 := hb4.size
    replace hB := Below.via hB hb4
    replace r1 := r1.below hb4
    replace o2 := o2.below hb4
    go_wp2_with fail
    refine (iDescendants_any _ _ _ _ _ gs k _ o2.rd hng HK.out.2.2.1).mono ?_
    rintro e w5 ⟨A5, c5, rfl, o5, hb5⟩
    have z5 := hb5.size
    replace hB := Below.via hB hb5
    replace r1 := r1.below hb5
    replace o2 := o2.below hb5
    rw [dI_len, HK.out.2.2.2.2.2.2.2]
    clear o5 o3
    go_wp2_with fail
    refine (iDerivationValid_any _ _ _ _ _ gs _ o2.rd hng).mono ?_
    rintro e w6 ⟨rfl, hb6⟩
    have z6 := hb6.size
    replace hB := Below.via hB hb6
    replace r1 := r1.below hb6
    replace o2 := o2.below hb6
    rw [HK.out.2.1]
    have g4' := g4
    by_cases hz : q2 = 0
    · subst hz
      have hMq : M = q1 := by have := G6.out; omega
      subst hMq
      clear e1 e2
      obtain rfl : t = true := by rw [G5.out]; exact decide_eq_true rfl
      go_wp2_with fail
      refine (iDescendants_any _ _ _ _ _ es k _ r1 hm1 HK.out.1).mono ?_
      rintro e w7 ⟨A7, c7, rfl, o7, hb7⟩
      have z7 := hb7.size
      replace hB := Below.via hB hb7
      replace r1 := r1.below hb7
      replace o2 := o2.below hb7
      rw [dI_len, HK.out.2.2.2.2.2.2.1]
      clear o7
      go_wp2_with fail
      refine (iRevokeCap_any _ _ _ _ _ gs k _ o2.rd hng HK.out.2.2.1).mono ?_
      rintro e w8 ⟨A8, c8, rfl, o8, hb8⟩
      have z8 := hb8.size
      replace hB := Below.via hB hb8
      replace r1 := r1.below hb8
      rw [HK.out.2.2.2.1, HK.out.2.2.2.2.2.1] at o8 ⊢
      go_wp2_with fail
      refine (iRevokeCap_any _ _ _ _ _ es k _ r1 hm1 HK.out.1).mono ?_
      rintro e w9 ⟨A9, c9, rfl, o9, hb9⟩
      have z9 := hb9.size
      replace hB := Below.via hB hb9
      replace o8 := o8.below hb9
      rw [HK.out.2.2.2.2.1, HK.out.2.2.2.2.2.1] at o9 ⊢
      go_wp2_with fail
      refine (sameTree_same _ _ _ _ _ _ _ _ _ ys _ o8.rd o9.rd hm1).mono ?_
      rintro e w10 ⟨rfl, hb10⟩
      have z10 := hb10.size
      replace hB := Below.via hB hb10
      go_wp2
      go_ret
      exact ⟨rfl, hB⟩
    · have hzb : ((q2 : Int) == 0) = false := beq_eq_false_iff_ne.2 (by omega)
      obtain rfl : t = false := by rw [G5.out]; exact decide_eq_false hz
      clear hz
      go_wp2_with fail
      refine (iDescendants_any _ _ _ _ _ es k _ r1 hm1 HK.out.1).mono ?_
      rintro e w7 ⟨A7, c7, rfl, o7, hb7⟩
      have z7 := hb7.size
      replace hB := Below.via hB hb7
      replace r1 := r1.below hb7
      replace o2 := o2.below hb7
      rw [dI_len, HK.out.2.2.2.2.2.2.1]
      clear o7
      go_wp2_with fail
      refine (iRevokeCap_any _ _ _ _ _ gs k _ o2.rd hng HK.out.2.2.1).mono ?_
      rintro e w8 ⟨A8, c8, rfl, o8, hb8⟩
      have z8 := hb8.size
      replace hB := Below.via hB hb8
      replace r1 := r1.below hb8
      rw [HK.out.2.2.2.1, HK.out.2.2.2.2.2.1] at o8 ⊢
      go_wp2_with fail
      refine (iRevokeCap_any _ _ _ _ _ es k _ r1 hm1 HK.out.1).mono ?_
      rintro e w9 ⟨A9, c9, rfl, o9, hb9⟩
      have z9 := hb9.size
      replace hB := Below.via hB hb9
      replace o8 := o8.below hb9
      rw [HK.out.2.2.2.2.1, HK.out.2.2.2.2.2.1] at o9 ⊢
      go_wp2_with fail
      refine (sameTree_same _ _ _ _ _ _ _ _ _ ys _ o8.rd o9.rd hm1).mono ?_
      rintro e w10 ⟨rfl, hb10⟩
      have z10 := hb10.size
      replace hB := Below.via hB hb10
      go_wp2
      go_ret
      exact ⟨rfl, hB⟩
end Go.Proofs.Ytpgmfjipkhldmaa
