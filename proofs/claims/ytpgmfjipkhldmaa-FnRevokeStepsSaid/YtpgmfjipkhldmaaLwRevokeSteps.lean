/- The walk of the law FnRevokeSteps: it returns true and leaves all that was in memory as it was, for every code (the draw's contract is a hypothesis here; the row's text joins it). -/
import Derived.Test.YtpgmfjipkhldmaaLwRevHead
namespace Go.Proofs.Ytpgmfjipkhldmaa
set_option linter.unusedVariables false
open Go.RowKit
set_option maxHeartbeats 8000000 in
theorem lawc_RevokeSteps (hdraw : DrawsT 8) (B T n c : Nat) (A : Option Addr) (bs : List Value) (w : World) (hr : Rd w B T 1 A n bs) (hb : Bytes bs) (hnc : n ≤ c) :
    Calls Try.prog 3 #[.slice A n c] w fun e w' => e = .returned (.bool true) ∧ Below w.heap.size w w' := by
  by_cases hbig : 1048576 < n
  · have hd : (1048576 : Int) < (n : Int) := by omega
    go_enter Try.func3, Try.ntmps3
    go_wp2_with fail
    go_ret
    exact ⟨rfl, Below.refl _ _⟩
  have hn : n ≤ 1048576 := by omega
  have hd : ¬ (1048576 : Int) < (n : Int) := by omega
  have hB := Below.refl w.heap.size w
  go_enter Try.func3, Try.ntmps3
  go_wp2_with fail
  refine (hdraw B T n c A bs _ hr hb hn hnc).mono ?_
  rintro e w1 ⟨A1, m, c1, es, v1, v2, rfl, r1, hm, hb1⟩
  have hm1 : m ≤ 1048576 := by omega
  have hlen := ents_len r1
  replace r1 := r1.here (by omega)
  replace hB := Below.via hB hb1
  have HLN := Lib.hid hlen
  clear hb1 hlen hr hb
  cases hc : liveV es v1 && inB v2 1 30
  · have HV := Lib.hid (show stepsF es v1 v2 = -1 by unfold stepsF; rw [hc]; rfl)
    clear hc
    go_wp2_with fail
    refine (iRevokeSteps_any _ _ _ _ _ es v1 v2 _ r1 hm1).mono ?_
    rintro e w2 ⟨rfl, hb2⟩
    have z2 := hb2.size
    replace hB := Below.via hB hb2
    replace r1 := r1.below hb2
    rw [HV.out]
    go_wp2_with fail
    refine (sRevokeSteps_any _ _ _ _ _ es v1 v2 _ r1 hm1).mono ?_
    rintro e w3 ⟨rfl, hb3⟩
    have z3 := hb3.size
    replace hB := Below.via hB hb3
    rw [HV.out]
    go_wp2_with fail
    refine (alive_any _).mono ?_
    rintro e w4 ⟨rfl, hb4⟩
    have z4 := hb4.size
    replace hB := Below.via hB hb4
    go_wp2
    go_ret
    exact ⟨rfl, hB⟩
  · rw [Bool.and_eq_true] at hc
    obtain ⟨hl, hi⟩ := hc
    have hmb := inB_true.1 hi
    obtain ⟨k, h1, h2, h3, h4, h5⟩ := steps_law hl hmb
    obtain ⟨mo, rfl⟩ := Int.eq_ofNat_of_zero_le (show 0 ≤ v2 by omega)
    obtain ⟨p, rfl⟩ := Int.eq_ofNat_of_zero_le (liveV_iff.1 hl).2.1
    rw [Int.toNat_natCast] at h4 h5
    obtain ⟨cn, hcn⟩ : ∃ cn, cntF es (p : Int) = cn := ⟨_, rfl⟩
    have hcm : cn ≤ 100 := by have : cntF es (p : Int) ≤ es.length := cnt_le; have := HLN.out; omega
    rw [hcn] at h3 h4 h5
    have hk100 : k ≤ 101 := by omega
    have HV := Lib.hid h1
    have HL := Lib.hid (And.intro hl (And.intro hcn (And.intro h4 h5)))
    have HE := Lib.hid (show es = leftF es (p : Int) cn by rw [← hcn, left_all])
    have hkw : IntKind.i64.wrap ((k : Int) - 1) = (k : Int) - 1 := wr64s (by omega) (by omega)
    have hk1 : (1 : Int) ≤ (k : Int) := by omega
    have hkn : ¬ (k : Int) < 0 := by omega
    clear hl hi h1 h4 h5 hcn
    go_wp2_with fail
    refine (iRevokeSteps_any _ _ _ _ _ es (p : Int) (mo : Int) _ r1 hm1).mono ?_
    rintro e w2 ⟨rfl, hb2⟩
    have z2 := hb2.size
    replace hB := Below.via hB hb2
    replace r1 := r1.below hb2
    rw [HV.out]
    go_wp2_with fail
    refine (sRevokeSteps_any _ _ _ _ _ es (p : Int) (mo : Int) _ r1 hm1).mono ?_
    rintro e w3 ⟨rfl, hb3⟩
    have z3 := hb3.size
    replace hB := Below.via hB hb3
    replace r1 := r1.below hb3
    rw [HV.out]
    have r3 := r1.here (by omega)
    go_wp2
    go_loopw [7, 8] (fun z i wr => ∃ j : Nat, j ≤ k ∧ i = .int .i64 j ∧ ∃ (A2 : Option Addr) (c2 : Nat), z = .slice A2 m c2 ∧ Rd wr 0 wr.heap.size 6 A2 m (ents (leftF es (p : Int) (cn - j * mo))) ∧ Rd wr 0 w1.heap.size 6 A1 m (ents es) ∧ Below w.heap.size w wr) (fun _ i _ => k - (intOf i).toNat)
    case atStart => exact ⟨0, by omega, rfl, A1, c1, rfl, by rw [Nat.zero_mul, Nat.sub_zero, ← HE.out]; exact r3, r1, hB⟩
    case round =>
      clear r1 r3 hB
      obtain ⟨j, hj, rfl, A2, c2, rfl, r2, r1, hB⟩ := hrel
      by_cases hlt : j < k
      · have hjj : (j : Int) < (k : Int) := by omega
        obtain ⟨a, ha⟩ : ∃ a, cn - j * mo = a := ⟨_, rfl⟩
        have hac : a ≤ cntF es (p : Int) := by rw [HL.out.2.1]; omega
        obtain ⟨s1, s2, s3⟩ := some_step (most := (mo : Int)) HL.out.1 ⟨by omega, by omega⟩ hac
        rw [Int.toNat_natCast] at s2 s3
        have hd := HL.out.2.2.2 j hlt
        rw [ha] at hd r2
        rw [hd] at s3
        have hnx : cn - (j + 1) * mo = a - mo := by rw [Nat.add_mul, Nat.one_mul, ← ha]; omega
        have HS := Lib.hid (And.intro s2 (And.intro s3 hnx))
        clear s1 s2 s3 hd ha hac hnx
        go_wp2_with fail
        refine (iRevokeSome_any _ _ _ _ _ _ (p : Int) (mo : Int) _ r2 hm1).mono ?_
        rintro e w4 ⟨A4, c4, rfl, o4, hb4⟩
        rw [HS.out.1, left_len, HLN.out] at o4
        rw [HS.out.1, HS.out.2.1, left_len, HLN.out]
        replace r1 := r1.below hb4
        replace hB := Below.via hB hb4
        have HO := Lib.hid (o4.rd.here (by omega))
        have HR := Lib.hid r1
        clear hb4 o4 r2 r1
        by_cases hjk : j = k - 1
        · have hjb : ((j : Int) == (k : Int) - 1) = true := by rw [beq_iff_eq]; omega
          rw [show decide (j = k - 1) = true from decide_eq_true hjk]
          clear hjk
          go_wp2
          go_roundw
          case rel => exact ⟨j + 1, by omega, by go_num, A4, c4, rfl, by rw [HS.out.2.2]; exact HO.out, HR.out, hB⟩
          case measure => simp [intOf]; omega
        · have hjb : ((j : Int) == (k : Int) - 1) = false := beq_eq_false_iff_ne.2 (by omega)
          rw [show decide (j = k - 1) = false from decide_eq_false hjk]
          clear hjk
          go_wp2
          go_roundw
          case rel => exact ⟨j + 1, by omega, by go_num, A4, c4, rfl, by rw [HS.out.2.2]; exact HO.out, HR.out, hB⟩
          case measure => simp [intOf]; omega
      · have hjk : j = k := by omega
        subst hjk
        rw [HL.out.2.2.1] at r2
        have HZ := Lib.hid (left_none HL.out.1)
        have HT := Lib.hid (rev_tree HL.out.1).2
        go_wp2_with fail
        refine (iRevokeCap_any _ _ _ _ _ es p _ r1 hm1 HL.out.1).mono ?_
        rintro e w4 ⟨A4, c4, rfl, o4, hb4⟩
        rw [HT.out, HLN.out] at o4 ⊢
        rw [HZ.out] at o4
        replace r2 := r2.below hb4
        replace hB := Below.via hB hb4
        clear hb4 r1
        go_wp2_with fail
        refine (sameTree_same _ _ _ _ _ _ _ _ _ _ _ r2 o4.rd hm1).mono ?_
        rintro e w5 ⟨rfl, hb5⟩
        replace hB := Below.via hB hb5
        go_wp2
        go_ret
        exact ⟨rfl, hB⟩
end Go.Proofs.Ytpgmfjipkhldmaa
