/- The walk of the law FnStrongestLeft: it returns true and leaves all that was in memory as it was, for every code (the draw's contract is a hypothesis here; the row's text joins it). -/
import Derived.Test.YtpgmfjipkhldmaaLwRevHead
namespace Go.Proofs.Ytpgmfjipkhldmaa
set_option linter.unusedVariables false
open Go.RowKit
set_option maxHeartbeats 8000000 in
theorem lawc_StrongestLeft (hdraw : DrawsT 19) (B T n c : Nat) (A : Option Addr) (bs : List Value) (w : World) (hr : Rd w B T 1 A n bs) (hb : Bytes bs) (hnc : n ≤ c) :
    Calls Try.prog 7 #[.slice A n c] w fun e w' => e = .returned (.bool true) ∧ Below w.heap.size w w' := by
  by_cases hbig : 1048576 < n
  · have hd : (1048576 : Int) < (n : Int) := by omega
    go_enter Try.func7, Try.ntmps7
    go_wp2_with fail
    go_ret
    exact ⟨rfl, Below.refl _ _⟩
  have hn : n ≤ 1048576 := by omega
  have hd : ¬ (1048576 : Int) < (n : Int) := by omega
  have hB := Below.refl w.heap.size w
  go_enter Try.func7, Try.ntmps7
  go_wp2_with fail
  refine (hdraw B T n c A bs _ hr hb hn hnc).mono ?_
  rintro e w1 ⟨A1, m, c1, es, v1, v2, rfl, r1, hm, hb1⟩
  have hm1 : m ≤ 1048576 := by omega
  have hlen := ents_len r1
  replace r1 := r1.here (by omega)
  replace hB := Below.via hB hb1
  have HLN := Lib.hid hlen
  clear hb1 hlen hr hb
  obtain ⟨s, hs⟩ : ∃ s, strF es v1 v2 = s := ⟨_, rfl⟩
  have hr4 : R4 s := by rw [← hs]; exact strF_r4
  have hsv : inB s 0 15 = true := inB_true.2 hr4
  have HSV := Lib.hid hsv
  have HS := Lib.hid hs
  clear hs hsv
  go_wp2_with fail
  refine (iStrongestLeft_any _ _ _ _ _ es v1 v2 _ r1 hm1).mono ?_
  rintro e w2 ⟨rfl, hb2⟩
  have z2 := hb2.size
  replace hB := Below.via hB hb2
  replace r1 := r1.below hb2
  rw [HS.out]
  go_wp2_with fail
  refine (sStrongestLeft_any _ _ _ _ _ es v1 v2 _ r1 hm1).mono ?_
  rintro e w3 ⟨rfl, hb3⟩
  have z3 := hb3.size
  replace hB := Below.via hB hb3
  replace r1 := r1.below hb3
  rw [HS.out]
  go_wp2
  go_loopw [7] (fun i wr => ∃ k : Nat, k ≤ m ∧ i = .int .i64 k ∧ Rd wr 0 w1.heap.size 6 A1 m (ents es) ∧ Below w.heap.size w wr) (fun i _ => m - (intOf i).toNat)
  case atStart => exact ⟨0, by omega, rfl, r1, hB⟩
  case round =>
    clear r1 hB
    obtain ⟨k, hk, rfl, r1, hB⟩ := hrel
    by_cases hlt : k < m
    · have hkk : (k : Int) < (m : Int) := by omega
      have hk0 : (0 : Int) ≤ (k : Int) := by omega
      go_wp2_with fail
      refine (sDerivationValid_any _ _ _ _ _ es _ r1 hm1).mono ?_
      rintro e w4 ⟨rfl, hb4⟩
      have z4 := hb4.size
      replace hB := Below.via hB hb4
      replace r1 := r1.below hb4
      cases hv : treeV es
      · skip
        go_wp2_with fail
        refine (iRightsValid_any _ _).mono ?_
        rintro e w5 ⟨rfl, rfl⟩
        rw [HSV.out]
        go_wp2_with fail
        refine (alive_any _).mono ?_
        rintro e w6 ⟨rfl, hb6⟩
        replace hB := Below.via hB hb6
        go_wp2
        go_ret
        exact ⟨rfl, hB⟩
      · obtain ⟨g, o, kk, oo, rr, bb, pp, gg, rfl, hgl, hx, q0, q1, q2, q3, q4, q5⟩ := ent_at r1 hlt
        cases gg
        · have hlv := live_of hv hx rfl
          have HL := Lib.hid (And.intro hlv (And.intro (rev_less (kd := v1) (ob := v2) hlv) (And.intro (cut_less (kd := v1) (ob := v2) hlv) (And.intro (rev_tree hlv) (cut_tree hlv)))))
          have HV := Lib.hid hv
          clear hx hlv q0 q1 q2 q3 q4 hv
          go_wp2_with fail
          refine (iRevokeCap_any _ _ _ _ _ es k _ r1 hm1 HL.out.1).mono ?_
          rintro e w5 ⟨A5, c5, rfl, o5, hb5⟩
          rw [HL.out.2.2.2.1.2, HLN.out] at o5 ⊢
          replace r1 := r1.below hb5
          replace hB := Below.via hB hb5
          clear hb5 q5
          go_wp2_with fail
          refine (iStrongestLeft_any _ _ _ _ _ _ v1 v2 _ o5.rd hm1).mono ?_
          rintro e w6 ⟨rfl, hb6⟩
          replace r1 := r1.below hb6
          replace hB := Below.via hB hb6
          clear hb6 o5
          obtain ⟨s1, hs1⟩ : ∃ s1, strF (revL es (k : Int)) v1 v2 = s1 := ⟨_, rfl⟩
          have h41 : R4 s1 := by rw [← hs1]; exact strF_r4
          have hw1 : andN s1 s = 0 := by have h := HL.out.2.1; rw [hs1, HS.out] at h; exact h
          rw [hs1]
          clear hs1
          go_wp2_with fail
          refine (RightsWithin_yes s1 s _ h41 hr4 hw1).mono ?_
          rintro e w7 ⟨rfl, rfl⟩
          go_wp2_with fail
          refine (iRemoveCap_any _ _ _ _ _ es k _ r1 hm1 HL.out.1).mono ?_
          rintro e w8 ⟨A8, c8, rfl, o8, hb8⟩
          rw [HL.out.2.2.2.2.2, HLN.out] at o8 ⊢
          replace r1 := r1.below hb8
          replace hB := Below.via hB hb8
          clear hb8
          go_wp2_with fail
          refine (iStrongestLeft_any _ _ _ _ _ _ v1 v2 _ o8.rd hm1).mono ?_
          rintro e w9 ⟨rfl, hb9⟩
          replace r1 := r1.below hb9
          replace hB := Below.via hB hb9
          clear hb9 o8
          obtain ⟨s2, hs2⟩ : ∃ s2, strF (cutL es (k : Int)) v1 v2 = s2 := ⟨_, rfl⟩
          have h42 : R4 s2 := by rw [← hs2]; exact strF_r4
          have hw2 : andN s2 s = 0 := by have h := HL.out.2.2.1; rw [hs2, HS.out] at h; exact h
          rw [hs2]
          clear hs2
          go_wp2_with fail
          refine (RightsWithin_yes s2 s _ h42 hr4 hw2).mono ?_
          rintro e w10 ⟨rfl, rfl⟩
          have HR := Lib.hid r1
          clear r1
          go_wp2
          go_roundw
          case rel => exact ⟨k + 1, by omega, by go_num, HR.out, hB⟩
          case measure => simp [intOf]; omega
        · have HR := Lib.hid r1
          clear r1 hx q0 q1 q2 q3 q4
          go_wp2
          go_roundw
          case rel => exact ⟨k + 1, by omega, by go_num, HR.out, hB⟩
          case measure => simp [intOf]; omega
    · have hkm : k = m := by omega
      subst hkm
      clear r1
      go_wp2_with fail
      refine (iRightsValid_any _ _).mono ?_
      rintro e w5 ⟨rfl, rfl⟩
      rw [HSV.out]
      go_wp2_with fail
      refine (alive_any _).mono ?_
      rintro e w6 ⟨rfl, hb6⟩
      replace hB := Below.via hB hb6
      go_wp2
      go_ret
      exact ⟨rfl, hB⟩
end Go.Proofs.Ytpgmfjipkhldmaa
