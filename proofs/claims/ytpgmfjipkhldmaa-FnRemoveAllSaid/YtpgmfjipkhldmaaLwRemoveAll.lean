/- The walk of the law FnRemoveAll: it returns true and leaves all that was in memory as it was, for every code (the draw's contract is a hypothesis here; the row's text joins it). -/
import Derived.Test.YtpgmfjipkhldmaaLwRevHead
namespace Go.Proofs.Ytpgmfjipkhldmaa
set_option linter.unusedVariables false
open Go.RowKit
set_option maxHeartbeats 8000000 in
theorem lawc_RemoveAll (hdraw : DrawsT 19) (B T n c : Nat) (A : Option Addr) (bs : List Value) (w : World) (hr : Rd w B T 1 A n bs) (hb : Bytes bs) (hnc : n ≤ c) :
    Calls Try.prog 5 #[.slice A n c] w fun e w' => e = .returned (.bool true) ∧ Below w.heap.size w w' := by
  by_cases hbig : 1048576 < n
  · have hd : (1048576 : Int) < (n : Int) := by omega
    go_enter Try.func5, Try.ntmps5
    go_wp2_with fail
    go_ret
    exact ⟨rfl, Below.refl _ _⟩
  have hn : n ≤ 1048576 := by omega
  have hd : ¬ (1048576 : Int) < (n : Int) := by omega
  have hB := Below.refl w.heap.size w
  go_enter Try.func5, Try.ntmps5
  go_wp2_with fail
  refine (hdraw B T n c A bs _ hr hb hn hnc).mono ?_
  rintro e w1 ⟨A1, m, c1, es, v1, v2, rfl, r1, hm, hb1⟩
  have hm1 : m ≤ 1048576 := by omega
  have hlen := ents_len r1
  replace r1 := r1.here (by omega)
  replace hB := Below.via hB hb1
  have HLN := Lib.hid hlen
  clear hb1 hlen hr hb
  go_wp2_with fail
  refine (iDerivationValid_any _ _ _ _ _ es _ r1 hm1).mono ?_
  rintro e w2 ⟨rfl, hb2⟩
  have z2 := hb2.size
  replace hB := Below.via hB hb2
  replace r1 := r1.below hb2
  go_wp2_with fail
  refine (sDerivationValid_any _ _ _ _ _ es _ r1 hm1).mono ?_
  rintro e w3 ⟨rfl, hb3⟩
  have z3 := hb3.size
  replace hB := Below.via hB hb3
  replace r1 := r1.below hb3
  cases hv : treeV es
  · skip
    go_wp2_with fail
    refine (sDerivationValid_any _ _ _ _ _ es _ r1 hm1).mono ?_
    rintro e w4 ⟨rfl, hb4⟩
    have z4 := hb4.size
    replace hB := Below.via hB hb4
    rw [hv]
    go_wp2_with fail
    refine (alive_any _).mono ?_
    rintro e w5 ⟨rfl, hb5⟩
    have z5 := hb5.size
    replace hB := Below.via hB hb5
    go_wp2
    go_ret
    exact ⟨rfl, hB⟩
  · skip
    go_wp2_with fail
    refine (sDerivationValid_any _ _ _ _ _ es _ r1 hm1).mono ?_
    rintro e w4 ⟨rfl, hb4⟩
    have z4 := hb4.size
    replace hB := Below.via hB hb4
    replace r1 := r1.below hb4
    rw [hv]
    replace r1 := r1.here (by omega)
    have HV := Lib.hid hv
    clear hv
    go_wp2
    go_loopw [3, 7] (fun z i wr => ∃ k : Nat, k ≤ m ∧ i = .int .i64 k ∧ ∃ (A2 : Option Addr) (c2 : Nat) (ds : List En), z = .slice A2 m c2 ∧ Rd wr 0 wr.heap.size 6 A2 m (ents ds) ∧ Hid (treeV ds = true) ∧ Hid (GoneTo ds k) ∧ Below w.heap.size w wr) (fun _ i _ => m - (intOf i).toNat)
    case atStart => exact ⟨0, by omega, rfl, A1, c1, es, rfl, r1, HV, Lib.hid (fun j e hj => absurd hj (by omega)), hB⟩
    case round =>
      clear r1 hB HV
      obtain ⟨k, hk, rfl, A2, c2, ds, rfl, r2, hv, hg, hB⟩ := hrel
      have hlen := ents_len r2
      have HLD := Lib.hid hlen
      clear hlen
      by_cases hlt : k < m
      · have hkk : (k : Int) < (m : Int) := by omega
        have hk0 : (0 : Int) ≤ (k : Int) := by omega
        obtain ⟨g, o, kk, oo, rr, bb, pp, gg, rfl, hgl, hx, q0, q1, q2, q3, q4, q5⟩ := ent_at r2 hlt
        cases gg
        · have hlv := live_of hv.out hx rfl
          have HC := Lib.hid (And.intro (cut_tree hlv) (gone_cut hlv hg.out))
          have HL := Lib.hid hlv
          clear hx hlv q0 q1 q2 q3 q4
          go_wp2_with fail
          refine (iRemoveCap_any _ _ _ _ _ ds k _ r2 hm1 HL.out).mono ?_
          rintro e w5 ⟨A5, c5, rfl, o5, hb5⟩
          rw [HC.out.1.2, HLD.out] at o5 ⊢
          replace hB := Below.via hB hb5
          have HO := Lib.hid (o5.rd.here (by omega))
          clear o5 r2 q5 hb5
          go_wp2
          go_roundw
          case rel => exact ⟨k + 1, by omega, by go_num, A5, c5, _, rfl, HO.out, Lib.hid HC.out.1.1, Lib.hid HC.out.2, hB⟩
          case measure => simp [intOf]; omega
        · have HS := Lib.hid (gone_skip hx rfl hg.out)
          have HR := Lib.hid r2
          clear hx r2 q0 q1 q2 q3 q4
          go_wp2
          go_roundw
          case rel => exact ⟨k + 1, by omega, by go_num, _, c2, ds, rfl, HR.out, hv, HS, hB⟩
          case measure => simp [intOf]; omega
      · have hkm : k = m := by omega
        subst hkm
        have HZ := Lib.hid (gone_all (kd := v1) (ob := v2) (ds := ds) (by rw [HLD.out]; exact hg.out))
        go_wp2_with fail
        refine (iDerivationValid_any _ _ _ _ _ ds _ r2 hm1).mono ?_
        rintro e w5 ⟨rfl, hb5⟩
        rw [hv.out]
        replace r2 := r2.below hb5
        replace hB := Below.via hB hb5
        clear hb5
        go_wp2_with fail
        refine (iStrongestLeft_any _ _ _ _ _ ds v1 v2 _ r2 hm1).mono ?_
        rintro e w6 ⟨rfl, hb6⟩
        rw [HZ.out]
        replace hB := Below.via hB hb6
        go_wp2
        go_ret
        exact ⟨rfl, hB⟩
end Go.Proofs.Ytpgmfjipkhldmaa
