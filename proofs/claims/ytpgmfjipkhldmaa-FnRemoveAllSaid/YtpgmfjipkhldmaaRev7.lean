/- Contracts of RevokeSteps and StrongestLeft (impl and spec), and of RemoveCap (impl). -/
import Derived.Test.YtpgmfjipkhldmaaRev5
namespace Go.Proofs.Ytpgmfjipkhldmaa
set_option linter.unusedVariables false
open Go.RowKit
/-- What is left of a removal behind the first i entries. -/
def cutTo (es : List En) (n : Nat) (p : Int) (i : Nat) : List En := es.mapIdx (fun (k : Nat) (e : En) => (e.1, if k < i ∧ e.2.1 = (n : Int) ∧ e.2.2 = false then p else e.2.1, e.2.2 || decide (k = n)))
theorem cutTo_len {es : List En} {n i : Nat} {p : Int} : (cutTo es n p i).length = es.length := by unfold cutTo; simp
theorem cutTo_get {es : List En} {n i k : Nat} {p : Int} {e : En} (h : es[k]? = some e) : (cutTo es n p i)[k]? = some (e.1, if k < i ∧ e.2.1 = (n : Int) ∧ e.2.2 = false then p else e.2.1, e.2.2 || decide (k = n)) := by unfold cutTo; rw [List.getElem?_mapIdx, h]; rfl
theorem cutTo_start {es : List En} {n : Nat} {p q : Int} {c : Cp} {g : Bool} (h : es[n]? = some (c, q, g)) : es.set n (c, q, true) = cutTo es n p 0 := by
  apply List.ext_getElem?
  intro k
  unfold cutTo
  rw [List.getElem?_mapIdx]
  by_cases hk : k = n
  · subst hk
    rw [List.getElem?_set_self (List.getElem?_eq_some_iff.1 h).1, h]
    simp
  · rw [List.getElem?_set_ne (by omega)]
    cases es[k]? with
    | none => rfl
    | some e => simp [hk]
theorem cutTo_all {es : List En} {n : Nat} : cutTo es n (es.getD n dfE).2.1 es.length = cutF es n := by
  apply List.ext_getElem?
  intro k
  unfold cutTo cutF cutE
  rw [List.getElem?_mapIdx, List.getElem?_mapIdx]
  cases h : es[k]? with
  | none => rfl
  | some e =>
    have hk := (List.getElem?_eq_some_iff.1 h).1
    simp [hk]
theorem cutTo_keep {es : List En} {n i : Nat} {p : Int} {e : En} (h : es[i]? = some e) (hc : ¬ (e.2.1 = (n : Int) ∧ e.2.2 = false)) : cutTo es n p (i + 1) = cutTo es n p i := by
  apply List.ext_getElem?
  intro k
  unfold cutTo
  rw [List.getElem?_mapIdx, List.getElem?_mapIdx]
  cases hk : es[k]? with
  | none => rfl
  | some d =>
    by_cases hki : k = i
    · subst hki
      rw [h] at hk
      injection hk with hk
      subst hk
      simp [hc]
    · have : (k < i + 1) = (k < i) := by rw [eq_iff_iff]; omega
      simp [this]
theorem cutTo_put {es : List En} {n i : Nat} {p : Int} {e d : En} (h : es[i]? = some e) (hc : e.2.1 = (n : Int) ∧ e.2.2 = false) (hd : (cutTo es n p i)[i]? = some d) : (cutTo es n p i).set i (d.1, p, d.2.2) = cutTo es n p (i + 1) := by
  rw [cutTo_get h] at hd
  injection hd with hd
  apply List.ext_getElem?
  intro k
  by_cases hki : k = i
  · subst hki
    rw [List.getElem?_set_self (by rw [cutTo_len]; exact (List.getElem?_eq_some_iff.1 h).1), cutTo_get h, ← hd]
    simp [hc]
  · rw [List.getElem?_set_ne (by omega)]
    unfold cutTo
    rw [List.getElem?_mapIdx, List.getElem?_mapIdx]
    cases es[k]? with
    | none => rfl
    | some d =>
      have : (k < i + 1) = (k < i) := by rw [eq_iff_iff]; omega
      simp [this]
set_option maxHeartbeats 2000000 in
theorem iRevokeSteps_any (B T m c : Nat) (A : Option Addr) (es : List En) (n most : Int) (w : World) (hr : Rd w B T 6 A m (ents es)) (hm : m ≤ 1048576) :
    Calls Try.prog 9 #[.slice A m c, .int .i64 n, .int .i64 most] w fun e w' => e = .returned (.int .i64 (stepsF es n most)) ∧ Below w.heap.size w w' := by
  cases hl : liveV es n
  · have HV := Lib.hid (show stepsF es n most = -1 by unfold stepsF; rw [hl]; rfl)
    go_enter Try.func9, Try.ntmps9
    go_wp2_with fail
    refine (iAlive_any _ _ _ _ _ es n _ hr hm).mono ?_
    rintro e w1 ⟨rfl, hb1⟩
    rw [hl]
    go_wp2
    go_ret
    exact ⟨by rw [HV.out]; rfl, hb1⟩
  cases hi : inB most 1 30
  · have HV := Lib.hid (show stepsF es n most = -1 by unfold stepsF; rw [hl, hi]; rfl)
    go_enter Try.func9, Try.ntmps9
    go_wp2_with fail
    refine (iAlive_any _ _ _ _ _ es n _ hr hm).mono ?_
    rintro e w1 ⟨rfl, hb1⟩
    rw [hl]
    go_wp2_with fail
    refine (in_any _ _ _ _).mono ?_
    rintro e w2 ⟨rfl, rfl⟩
    rw [hi]
    go_wp2
    go_ret
    exact ⟨by rw [HV.out]; rfl, hb1⟩
  obtain ⟨k, rfl⟩ := Int.eq_ofNat_of_zero_le (liveV_iff.1 hl).2.1
  have h30 := (treeV_iff.1 (live_tree hl)).2
  obtain ⟨q, hq⟩ : ∃ q, (descL es k).length = q := ⟨_, rfl⟩
  have hq30 : q ≤ 30 := by have : (descL es k).length ≤ es.length := descTo_len; omega
  have hmb := inB_true.1 hi
  have hv : stepsF es (k : Int) most = max 1 (((q : Int) + most - 1) / most) := by unfold stepsF; rw [if_pos (by rw [hl, hi]; rfl)]; unfold cntF; rw [Int.toNat_natCast, hq]
  have HV := Lib.hid hv
  have HQ := Lib.hid hq
  have HL := Lib.hid (And.intro hl hi)
  have e1 : IntKind.i64.wrap ((q : Int) + most) = (q : Int) + most := wr64s (by omega) (by omega)
  have e2 : IntKind.i64.wrap ((q : Int) + most - 1) = (q : Int) + most - 1 := wr64s (by omega) (by omega)
  have hd0 : 0 ≤ ((q : Int) + most - 1) / most := Int.ediv_nonneg (by omega) (by omega)
  have hd1 : ((q : Int) + most - 1) / most ≤ (q : Int) + most - 1 := Int.ediv_le_self _ (by omega)
  have e3 : IntKind.i64.wrap (((q : Int) + most - 1) / most) = ((q : Int) + most - 1) / most := wr64s (by omega) (by omega)
  have e4 : ((q : Int) + most - 1).tdiv most = ((q : Int) + most - 1) / most := Int.tdiv_eq_ediv_of_nonneg (by omega)
  have hm1 : ¬ most = 0 := by omega
  have hm1b : (most == 0) = false := beq_eq_false_iff_ne.2 hm1
  have hmx : max (1 : Int) (((q : Int) + most - 1) / most) = if ((q : Int) + most - 1) / most ≤ 1 then 1 else ((q : Int) + most - 1) / most := by split <;> omega
  have HX := Lib.hid hmx
  clear hv hq hl hi hmb hmx
  go_enter Try.func9, Try.ntmps9
  go_wp2_with fail
  refine (iAlive_any _ _ _ _ _ es (k : Int) _ hr hm).mono ?_
  rintro e w1 ⟨rfl, hb1⟩
  rw [HL.out.1]
  go_wp2_with fail
  refine (in_any _ _ _ _).mono ?_
  rintro e w2 ⟨rfl, rfl⟩
  rw [HL.out.2]
  go_wp2_with fail
  refine (descendants_any _ _ _ _ _ es k _ (hr.below hb1) hm HL.out.1).mono ?_
  rintro e w3 ⟨A2, c2, rfl, o2, hb2⟩
  rw [dI_len, HQ.out] at o2 ⊢
  have hB2 := Below.via hb1 hb2
  clear hr o2 hb1 hb2
  by_cases hone : ((q : Int) + most - 1) / most ≤ 1
  · have HR := Lib.hid (show stepsF es (k : Int) most = 1 by rw [HV.out, HX.out, if_pos hone])
    clear HX
    go_wp2
    go_ret
    exact ⟨by rw [HR.out] <;> first | rfl | (congr 2; omega), hB2⟩
  · have HR := Lib.hid (show stepsF es (k : Int) most = ((q : Int) + most - 1) / most by rw [HV.out, HX.out, if_neg hone])
    have hone2 : 1 < ((q : Int) + most - 1) / most := by omega
    clear HX
    go_wp2
    go_ret
    exact ⟨by rw [HR.out] <;> first | rfl | (congr 2; omega), hB2⟩
set_option maxHeartbeats 2000000 in
theorem sRevokeSteps_any (B T m c : Nat) (A : Option Addr) (es : List En) (n most : Int) (w : World) (hr : Rd w B T 6 A m (ents es)) (hm : m ≤ 1048576) :
    Calls Try.prog 10 #[.slice A m c, .int .i64 n, .int .i64 most] w fun e w' => e = .returned (.int .i64 (stepsF es n most)) ∧ Below w.heap.size w w' := by
  cases hl : liveV es n
  · have HV := Lib.hid (show stepsF es n most = -1 by unfold stepsF; rw [hl]; rfl)
    go_enter Try.func10, Try.ntmps10
    go_wp2_with fail
    refine (l5Live_any _ _ _ _ _ es n _ hr hm).mono ?_
    rintro e w1 ⟨rfl, hb1⟩
    rw [hl]
    go_wp2
    go_ret
    exact ⟨by rw [HV.out]; rfl, hb1⟩
  cases hi : inB most 1 30
  · have HV := Lib.hid (show stepsF es n most = -1 by unfold stepsF; rw [hl, hi]; rfl)
    go_enter Try.func10, Try.ntmps10
    go_wp2_with fail
    refine (l5Live_any _ _ _ _ _ es n _ hr hm).mono ?_
    rintro e w1 ⟨rfl, hb1⟩
    rw [hl]
    go_wp2_with fail
    refine (l1In_any _ _ _ _).mono ?_
    rintro e w2 ⟨rfl, rfl⟩
    rw [hi]
    go_wp2
    go_ret
    exact ⟨by rw [HV.out]; rfl, hb1⟩
  obtain ⟨k, rfl⟩ := Int.eq_ofNat_of_zero_le (liveV_iff.1 hl).2.1
  have h30 := (treeV_iff.1 (live_tree hl)).2
  obtain ⟨q, hq⟩ : ∃ q, (descL es k).length = q := ⟨_, rfl⟩
  have hq30 : q ≤ 30 := by have : (descL es k).length ≤ es.length := descTo_len; omega
  have hmb := inB_true.1 hi
  have hv : stepsF es (k : Int) most = max 1 (((q : Int) + most - 1) / most) := by unfold stepsF; rw [if_pos (by rw [hl, hi]; rfl)]; unfold cntF; rw [Int.toNat_natCast, hq]
  have HV := Lib.hid hv
  have HQ := Lib.hid hq
  have HL := Lib.hid (And.intro hl hi)
  have e1 : IntKind.i64.wrap ((q : Int) + most) = (q : Int) + most := wr64s (by omega) (by omega)
  have e2 : IntKind.i64.wrap ((q : Int) + most - 1) = (q : Int) + most - 1 := wr64s (by omega) (by omega)
  have hd0 : 0 ≤ ((q : Int) + most - 1) / most := Int.ediv_nonneg (by omega) (by omega)
  have hd1 : ((q : Int) + most - 1) / most ≤ (q : Int) + most - 1 := Int.ediv_le_self _ (by omega)
  have e3 : IntKind.i64.wrap (((q : Int) + most - 1) / most) = ((q : Int) + most - 1) / most := wr64s (by omega) (by omega)
  have e4 : ((q : Int) + most - 1).tdiv most = ((q : Int) + most - 1) / most := Int.tdiv_eq_ediv_of_nonneg (by omega)
  have hm1 : ¬ most = 0 := by omega
  have hm1b : (most == 0) = false := beq_eq_false_iff_ne.2 hm1
  have hmx : max (1 : Int) (((q : Int) + most - 1) / most) = if ((q : Int) + most - 1) / most ≤ 1 then 1 else ((q : Int) + most - 1) / most := by split <;> omega
  have HX := Lib.hid hmx
  clear hv hq hl hi hmb hmx
  go_enter Try.func10, Try.ntmps10
  go_wp2_with fail
  refine (l5Live_any _ _ _ _ _ es (k : Int) _ hr hm).mono ?_
  rintro e w1 ⟨rfl, hb1⟩
  rw [HL.out.1]
  go_wp2_with fail
  refine (l1In_any _ _ _ _).mono ?_
  rintro e w2 ⟨rfl, rfl⟩
  rw [HL.out.2]
  go_wp2_with fail
  refine (sDescendants_any _ _ _ _ _ es k _ (hr.below hb1) hm HL.out.1).mono ?_
  rintro e w3 ⟨A2, c2, rfl, o2, hb2⟩
  rw [dI_len, HQ.out] at o2 ⊢
  have hB2 := Below.via hb1 hb2
  clear hr o2 hb1 hb2
  by_cases hone : ((q : Int) + most - 1) / most ≤ 1
  · have HR := Lib.hid (show stepsF es (k : Int) most = 1 by rw [HV.out, HX.out, if_pos hone])
    clear HX
    go_wp2
    go_ret
    exact ⟨by rw [HR.out] <;> first | rfl | (congr 2; omega), hB2⟩
  · have HR := Lib.hid (show stepsF es (k : Int) most = ((q : Int) + most - 1) / most by rw [HV.out, HX.out, if_neg hone])
    have hone2 : 1 < ((q : Int) + most - 1) / most := by omega
    clear HX
    go_wp2
    go_ret
    exact ⟨by rw [HR.out] <;> first | rfl | (congr 2; omega), hB2⟩
set_option maxHeartbeats 4000000 in
theorem iStrongestLeft_any (B T m c : Nat) (A : Option Addr) (es : List En) (kd ob : Int) (w : World) (hr : Rd w B T 6 A m (ents es)) (hm : m ≤ 1048576) :
    Calls Try.prog 22 #[.slice A m c, .int .i64 kd, .int .i64 ob] w fun e w' => e = .returned (.int .i64 (strF es kd ob)) ∧ Below w.heap.size w w' := by
  have hlen := ents_len hr
  replace hr := hr.here (by omega)
  cases hv : treeV es
  · have HV := Lib.hid (show strF es kd ob = 0 by unfold strF; rw [hv]; rfl)
    clear hlen
    go_enter Try.func22, Try.ntmps22
    go_wp2_with fail
    refine (iDerivationValid_any _ _ _ _ _ es _ hr hm).mono ?_
    rintro e w1 ⟨rfl, hb1⟩
    rw [hv]
    go_wp2
    go_ret
    exact ⟨by rw [HV.out]; rfl, hb1⟩
  have HV := Lib.hid (show strF es kd ob = strTo es kd ob by unfold strF; rw [hv]; rfl)
  have HL := Lib.hid hlen
  clear hlen
  go_enter Try.func22, Try.ntmps22
  go_wp2_with fail
  refine (iDerivationValid_any _ _ _ _ _ es _ hr hm).mono ?_
  rintro e w1 ⟨rfl, hb1⟩
  rw [hv]
  go_wp2
  go_loopw [7, 15] (fun a i wr => ∃ (k : Nat) (s : Int), k ≤ m ∧ i = .int .i64 k ∧ a = .int .i64 s ∧ Hid (s = strTo (es.take k) kd ob) ∧ Below w.heap.size w wr) (fun _ i _ => m - (intOf i).toNat)
  case atStart => exact ⟨0, 0, by omega, rfl, rfl, Lib.hid rfl, hb1⟩
  case round =>
    clear hb1
    obtain ⟨k, s, hk, rfl, rfl, hs, hb⟩ := hrel
    have zb := hb.size
    by_cases hlt : k < m
    · have hkk : (k : Int) < (m : Int) := by omega
      have hk0 : (0 : Int) ≤ (k : Int) := by omega
      obtain ⟨g, o, kk, oo, rr, bb, pp, gg, rfl, hgl, hx, q0, q1, q2, q3, q4, q5⟩ := ent_at hr hlt
      have HS := Lib.hid (show strTo (es.take (k + 1)) kd ob = strS kd ob s ((kk, oo, rr, bb), pp, gg) by rw [strTo_succ hx, ← hs.out])
      have p0 := (hb.cell (p := ⟨g, o + k * 6, none⟩) hgl).trans q0
      have p1 := (hb.cell (p := ⟨g, o + k * 6 + 1, none⟩) hgl).trans q1
      have p2 := (hb.cell (p := ⟨g, o + k * 6 + 2, none⟩) hgl).trans q2
      have p3 := (hb.cell (p := ⟨g, o + k * 6 + 3, none⟩) hgl).trans q3
      have p4 := (hb.cell (p := ⟨g, o + k * 6 + 4, none⟩) hgl).trans q4
      have p5 := (hb.cell (p := ⟨g, o + k * 6 + 5, none⟩) hgl).trans q5
      have zb2 := hb.size
      clear hr hx q0 q1 q2 q3 q4 q5
      cases gg
      · by_cases hkd : kk = kd
        · by_cases hob : oo = ob
          · have HE := Lib.hid (show strTo (es.take (k + 1)) kd ob = bits .or .i64 s rr by rw [HS.out]; unfold strS; rw [if_pos ⟨rfl, hkd, hob⟩]; rfl)
            subst hkd
            subst hob
            clear HS
            go_wp2
            go_roundw
            case rel => exact ⟨k + 1, _, by omega, by go_num, rfl, Lib.hid HE.out.symm, by (repeat (first | (with_reducible assumption) | (with_reducible exact Below.refl _ _) | (with_reducible refine Below.setCell ?_ (by first | (simp; done) | (simp; omega) | omega) _) | (with_reducible refine Below.alloc ?_ (by first | (simp; done) | (simp; omega) | omega) _) | (with_reducible refine Below.drew ?_) | (with_reducible refine Below.drewN ?_ _)))⟩
            case measure => simp [intOf]; omega
          · have HE := Lib.hid (show strTo (es.take (k + 1)) kd ob = s by rw [HS.out]; unfold strS; rw [if_neg (fun h => hob h.2.2)])
            have hobb : (oo == ob) = false := beq_eq_false_iff_ne.2 hob
            subst hkd
            clear HS hob
            go_wp2
            go_roundw
            case rel => exact ⟨k + 1, s, by omega, by go_num, rfl, Lib.hid HE.out.symm, by (repeat (first | (with_reducible assumption) | (with_reducible exact Below.refl _ _) | (with_reducible refine Below.setCell ?_ (by first | (simp; done) | (simp; omega) | omega) _) | (with_reducible refine Below.alloc ?_ (by first | (simp; done) | (simp; omega) | omega) _) | (with_reducible refine Below.drew ?_) | (with_reducible refine Below.drewN ?_ _)))⟩
            case measure => simp [intOf]; omega
        · have HE := Lib.hid (show strTo (es.take (k + 1)) kd ob = s by rw [HS.out]; unfold strS; rw [if_neg (fun h => hkd h.2.1)])
          have hkb : (kk == kd) = false := beq_eq_false_iff_ne.2 hkd
          clear HS hkd
          go_wp2
          go_roundw
          case rel => exact ⟨k + 1, s, by omega, by go_num, rfl, Lib.hid HE.out.symm, by (repeat (first | (with_reducible assumption) | (with_reducible exact Below.refl _ _) | (with_reducible refine Below.setCell ?_ (by first | (simp; done) | (simp; omega) | omega) _) | (with_reducible refine Below.alloc ?_ (by first | (simp; done) | (simp; omega) | omega) _) | (with_reducible refine Below.drew ?_) | (with_reducible refine Below.drewN ?_ _)))⟩
          case measure => simp [intOf]; omega
      · have HE := Lib.hid (show strTo (es.take (k + 1)) kd ob = s by rw [HS.out]; unfold strS; rw [if_neg (fun h => by cases h.1)])
        clear HS
        go_wp2
        go_roundw
        case rel => exact ⟨k + 1, s, by omega, by go_num, rfl, Lib.hid HE.out.symm, by (repeat (first | (with_reducible assumption) | (with_reducible exact Below.refl _ _) | (with_reducible refine Below.setCell ?_ (by first | (simp; done) | (simp; omega) | omega) _) | (with_reducible refine Below.alloc ?_ (by first | (simp; done) | (simp; omega) | omega) _) | (with_reducible refine Below.drew ?_) | (with_reducible refine Below.drewN ?_ _)))⟩
        case measure => simp [intOf]; omega
    · have hkn : k = m := by omega
      subst hkn
      have HE := Lib.hid (show strTo es kd ob = s by rw [hs.out, List.take_of_length_le (by rw [HL.out]; exact Nat.le_refl _)])
      clear hr
      go_wp2
      go_ret
      exact ⟨by rw [HV.out, HE.out]; rfl, hb⟩
set_option maxHeartbeats 4000000 in
theorem sStrongestLeft_any (B T m c : Nat) (A : Option Addr) (es : List En) (kd ob : Int) (w : World) (hr : Rd w B T 6 A m (ents es)) (hm : m ≤ 1048576) :
    Calls Try.prog 28 #[.slice A m c, .int .i64 kd, .int .i64 ob] w fun e w' => e = .returned (.int .i64 (strF es kd ob)) ∧ Below w.heap.size w w' := by
  have hlen := ents_len hr
  replace hr := hr.here (by omega)
  cases hv : treeV es
  · have HV := Lib.hid (show strF es kd ob = 0 by unfold strF; rw [hv]; rfl)
    clear hlen
    go_enter Try.func28, Try.ntmps28
    go_wp2
    go_loopw [7, 8] (fun a i wr => ∃ k : Nat, k ≤ m ∧ i = .int .i64 k ∧ a = .int .i64 0 ∧ Below w.heap.size w wr) (fun _ i _ => m - (intOf i).toNat)
    case atStart => exact ⟨0, by omega, rfl, rfl, Below.refl _ _⟩
    case round =>
      obtain ⟨k, hk, rfl, rfl, hb⟩ := hrel
      by_cases hlt : k < m
      · have hkk : (k : Int) < (m : Int) := by omega
        go_wp2_with fail
        refine (sDerivationValid_any _ _ _ _ _ es _ (hr.below hb) hm).mono ?_
        rintro e w1 ⟨rfl, hb1⟩
        rw [hv]
        go_wp2
        go_ret
        exact ⟨by rw [HV.out]; rfl, Below.via hb hb1⟩
      · have hkn : k = m := by omega
        subst hkn
        go_wp2
        go_ret
        exact ⟨by rw [HV.out]; rfl, hb⟩
  have HV := Lib.hid (show strF es kd ob = strTo es kd ob by unfold strF; rw [hv]; rfl)
  have HL := Lib.hid hlen
  clear hlen
  go_enter Try.func28, Try.ntmps28
  go_wp2
  go_loopw [7, 8] (fun a i wr => ∃ (k : Nat) (s : Int), k ≤ m ∧ i = .int .i64 k ∧ a = .int .i64 s ∧ Hid (s = strTo (es.take k) kd ob) ∧ Below w.heap.size w wr) (fun _ i _ => m - (intOf i).toNat)
  case atStart => exact ⟨0, 0, by omega, rfl, rfl, Lib.hid rfl, Below.refl _ _⟩
  case round =>
    obtain ⟨k, s, hk, rfl, rfl, hs, hb⟩ := hrel
    have zb := hb.size
    by_cases hlt : k < m
    · have hkk : (k : Int) < (m : Int) := by omega
      have hk0 : (0 : Int) ≤ (k : Int) := by omega
      obtain ⟨g, o, kk, oo, rr, bb, pp, gg, rfl, hgl, hx, q0, q1, q2, q3, q4, q5⟩ := ent_at hr hlt
      have HS := Lib.hid (show strTo (es.take (k + 1)) kd ob = strS kd ob s ((kk, oo, rr, bb), pp, gg) by rw [strTo_succ hx, ← hs.out])
      go_wp2_with fail
      refine (sDerivationValid_any _ _ _ _ _ es _ (hr.below hb) hm).mono ?_
      rintro e w1 ⟨rfl, hb1⟩
      rw [hv]
      replace hb := Below.via hb hb1
      clear hb1
      have p0 := (hb.cell (p := ⟨g, o + k * 6, none⟩) hgl).trans q0
      have p1 := (hb.cell (p := ⟨g, o + k * 6 + 1, none⟩) hgl).trans q1
      have p2 := (hb.cell (p := ⟨g, o + k * 6 + 2, none⟩) hgl).trans q2
      have p3 := (hb.cell (p := ⟨g, o + k * 6 + 3, none⟩) hgl).trans q3
      have p4 := (hb.cell (p := ⟨g, o + k * 6 + 4, none⟩) hgl).trans q4
      have p5 := (hb.cell (p := ⟨g, o + k * 6 + 5, none⟩) hgl).trans q5
      have zb2 := hb.size
      clear hr hx q0 q1 q2 q3 q4 q5
      cases gg
      · by_cases hkd : kk = kd
        · by_cases hob : oo = ob
          · have HE := Lib.hid (show strTo (es.take (k + 1)) kd ob = bits .or .i64 s rr by rw [HS.out]; unfold strS; rw [if_pos ⟨rfl, hkd, hob⟩]; rfl)
            subst hkd
            subst hob
            clear HS
            go_wp2
            go_roundw
            case rel => exact ⟨k + 1, _, by omega, by go_num, rfl, Lib.hid HE.out.symm, by (repeat (first | (with_reducible assumption) | (with_reducible exact Below.refl _ _) | (with_reducible refine Below.setCell ?_ (by first | (simp; done) | (simp; omega) | omega) _) | (with_reducible refine Below.alloc ?_ (by first | (simp; done) | (simp; omega) | omega) _) | (with_reducible refine Below.drew ?_) | (with_reducible refine Below.drewN ?_ _)))⟩
            case measure => simp [intOf]; omega
          · have HE := Lib.hid (show strTo (es.take (k + 1)) kd ob = s by rw [HS.out]; unfold strS; rw [if_neg (fun h => hob h.2.2)])
            have hobb : (oo == ob) = false := beq_eq_false_iff_ne.2 hob
            subst hkd
            clear HS hob
            go_wp2
            go_roundw
            case rel => exact ⟨k + 1, s, by omega, by go_num, rfl, Lib.hid HE.out.symm, by (repeat (first | (with_reducible assumption) | (with_reducible exact Below.refl _ _) | (with_reducible refine Below.setCell ?_ (by first | (simp; done) | (simp; omega) | omega) _) | (with_reducible refine Below.alloc ?_ (by first | (simp; done) | (simp; omega) | omega) _) | (with_reducible refine Below.drew ?_) | (with_reducible refine Below.drewN ?_ _)))⟩
            case measure => simp [intOf]; omega
        · have HE := Lib.hid (show strTo (es.take (k + 1)) kd ob = s by rw [HS.out]; unfold strS; rw [if_neg (fun h => hkd h.2.1)])
          have hkb : (kk == kd) = false := beq_eq_false_iff_ne.2 hkd
          clear HS hkd
          go_wp2
          go_roundw
          case rel => exact ⟨k + 1, s, by omega, by go_num, rfl, Lib.hid HE.out.symm, by (repeat (first | (with_reducible assumption) | (with_reducible exact Below.refl _ _) | (with_reducible refine Below.setCell ?_ (by first | (simp; done) | (simp; omega) | omega) _) | (with_reducible refine Below.alloc ?_ (by first | (simp; done) | (simp; omega) | omega) _) | (with_reducible refine Below.drew ?_) | (with_reducible refine Below.drewN ?_ _)))⟩
          case measure => simp [intOf]; omega
      · have HE := Lib.hid (show strTo (es.take (k + 1)) kd ob = s by rw [HS.out]; unfold strS; rw [if_neg (fun h => by cases h.1)])
        clear HS
        go_wp2
        go_roundw
        case rel => exact ⟨k + 1, s, by omega, by go_num, rfl, Lib.hid HE.out.symm, by (repeat (first | (with_reducible assumption) | (with_reducible exact Below.refl _ _) | (with_reducible refine Below.setCell ?_ (by first | (simp; done) | (simp; omega) | omega) _) | (with_reducible refine Below.alloc ?_ (by first | (simp; done) | (simp; omega) | omega) _) | (with_reducible refine Below.drew ?_) | (with_reducible refine Below.drewN ?_ _)))⟩
        case measure => simp [intOf]; omega
    · have hkn : k = m := by omega
      subst hkn
      have HE := Lib.hid (show strTo es kd ob = s by rw [hs.out, List.take_of_length_le (by rw [HL.out]; exact Nat.le_refl _)])
      clear hr
      go_wp2
      go_ret
      exact ⟨by rw [HV.out, HE.out]; rfl, hb⟩
set_option maxHeartbeats 4000000 in
theorem iRemoveCap_any (B T m c : Nat) (A : Option Addr) (es : List En) (n : Nat) (w : World) (hr : Rd w B T 6 A m (ents es)) (hm : m ≤ 1048576) (hl : liveV es (n : Int) = true) :
    Calls Try.prog 21 #[.slice A m c, .int .i64 n] w (NewEnts w (cutL es (n : Int))) := by
  have hlen := ents_len hr
  obtain ⟨-, h2, h3, en, h4, h5⟩ := liveV_iff.1 hl
  rw [Int.toNat_natCast] at h4
  obtain ⟨cn, pn, gn⟩ := en
  simp only at h5
  subst h5
  have hnm : n < m := by omega
  have hnm' : (n : Int) < (m : Int) := by omega
  have hn0 : (0 : Int) ≤ (n : Int) := by omega
  have hv : cutL es (n : Int) = cutTo es n pn m := by unfold cutL; rw [if_pos hl, Int.toNat_natCast, ← cutTo_all, getD_of h4, hlen]
  have HV := Lib.hid (And.intro hv (And.intro hlen hl))
  have HN := Lib.hid h4
  replace hr := hr.here (by omega)
  clear hv hlen hl h2 h3 h4
  go_enter Try.func21, Try.ntmps21
  go_wp2_with fail
  refine (iAlive_any _ _ _ _ _ es (n : Int) _ hr hm).mono ?_
  rintro e w1 ⟨rfl, hb1⟩
  rw [HV.out.2.2]
  go_wp2_with fail
  refine (cloneE_any _ _ _ _ _ es _ (hr.below hb1) hm).mono ?_
  rintro e w2 ⟨A2, c2, rfl, o2, hb2⟩
  rw [HV.out.2.1] at o2 ⊢
  have hB2 := Below.via hb1 hb2
  have hz1 := hb1.size
  obtain ⟨g2, a2, rfl, x1, x2, x3, x4, ⟨u4, x5⟩, ⟨u5, x6⟩, x7, x8⟩ := o2.ent HN.out
  have hset := x8 true
  rw [cutTo_start (p := pn) HN.out] at hset
  have HO := Lib.hid (hset.mono (B' := w.heap.size) (T' := w2.heap.size) hz1 (by simp))
  have hfz := x4 (a2 + n * 6 + 5)
  have hBk : Below w.heap.size w (w2.setCell ⟨g2, a2 + n * 6 + 5, none⟩ (.bool true)) := by (repeat (first | (with_reducible assumption) | (with_reducible exact Below.refl _ _) | (with_reducible refine Below.setCell ?_ (by first | (simp; done) | (simp; omega) | omega) _) | (with_reducible refine Below.alloc ?_ (by first | (simp; done) | (simp; omega) | omega) _) | (with_reducible refine Below.drew ?_) | (with_reducible refine Below.drewN ?_ _)))
  have hz2 := hB2.size
  clear o2 hset x4 x5 x7 x8 hb1 hb2
  go_wp2
  go_loopw [20] (fun i wr => ∃ k : Nat, k ≤ m ∧ i = .int .i64 k ∧ Own wr w.heap.size w2.heap.size 39 6 (some ⟨g2, a2, none⟩) m c2 (ents (cutTo es n pn k)) ∧ Below w.heap.size w wr ∧ w2.heap.size ≤ wr.heap.size) (fun i _ => m - (intOf i).toNat)
  case atStart => exact ⟨0, by omega, rfl, HO.out, hBk, by simp⟩
  case round =>
    clear HO hBk hB2 x1 x2 x3 x6 hfz
    obtain ⟨k, hk, rfl, ho, hb, hz⟩ := hrel
    by_cases hlt : k < m
    · have hkk : (k : Int) < (m : Int) := by omega
      have hk0 : (0 : Int) ≤ (k : Int) := by omega
      obtain ⟨g, o, kk, oo, rr, bb, pp, gg, rfl, hgl, hx, q0, q1, q2, q3, q4, q5⟩ := ent_at hr hlt
      obtain ⟨g9, o9, kn, on, rn, bn, pn', gn', e9, hgn, hxn, t0, t1, t2, t3, t4, t5⟩ := ent_at hr hnm
      injection e9 with e9
      injection e9 with eg eo
      subst eg
      subst eo
      have hpn : pn' = pn := by have h := HN.out; rw [hxn] at h; injection h with h; injection h with _ h; injection h
      subst hpn
      have p0 := (hb.cell (p := ⟨g, o + k * 6, none⟩) hgl).trans q0
      have p1 := (hb.cell (p := ⟨g, o + k * 6 + 1, none⟩) hgl).trans q1
      have p2 := (hb.cell (p := ⟨g, o + k * 6 + 2, none⟩) hgl).trans q2
      have p3 := (hb.cell (p := ⟨g, o + k * 6 + 3, none⟩) hgl).trans q3
      have p4 := (hb.cell (p := ⟨g, o + k * 6 + 4, none⟩) hgl).trans q4
      have p5 := (hb.cell (p := ⟨g, o + k * 6 + 5, none⟩) hgl).trans q5
      have s4 := (hb.cell (p := ⟨g, o + n * 6 + 4, none⟩) hgl).trans t4
      have zb := hb.size
      have hglw : g < wr.heap.size := by omega
      by_cases hc : pp = (n : Int) ∧ gg = false
      · obtain ⟨hc1, hc2⟩ := hc
        obtain ⟨⟨dc, dp, dg⟩, hd⟩ : ∃ d, (cutTo es n pn' k)[k]? = some d := ⟨_, List.getElem?_eq_getElem (by rw [cutTo_len, HV.out.2.1]; exact hlt)⟩
        obtain ⟨y, z, e8, x1, x2, x3, x4, ⟨u4, x5⟩, ⟨u5, x6⟩, x7, x8⟩ := ho.ent hd
        injection e8 with e8
        injection e8 with ey ez
        subst ey
        subst ez
        have hset := x7 pn'
        have hput := cutTo_put hx ⟨hc1, hc2⟩ hd
        simp only at hput
        rw [hput] at hset
        have HO := Lib.hid hset
        have hfz := x4 (a2 + k * 6 + 4)
        obtain ⟨y, z, e8, y1, y2, y3, y4, ⟨u6, y5⟩, ⟨u7, y6⟩, y7, y8⟩ := (ho.alloc (.cells #[.int .i64 kk, .int .i64 oo, .int .i64 rr, .int .i64 bb, .int .i64 (n : Int), .bool false] 39)).ent hd
        injection e8 with e8
        injection e8 with ey ez
        subst ey
        subst ez
        have hset2 := y7 pn'
        rw [hput] at hset2
        have HO2 := Lib.hid hset2
        subst hc1
        subst hc2
        have hg2 : g2 ≠ g := by omega
        clear ho hset hset2 hput hd x4 x6 x7 x8 y1 y2 y3 y4 y5 y6 y7 y8 hr hx hxn q0 q1 q2 q3 q4 q5 t0 t1 t2 t3 t4 t5
        go_wp2
        go_roundw
        case rel => exact ⟨k + 1, by omega, by go_num, by first | exact HO.out.alloc _ | exact HO2.out, by (repeat (first | (with_reducible assumption) | (with_reducible exact Below.refl _ _) | (with_reducible refine Below.setCell ?_ (by first | (simp; done) | (simp; omega) | omega) _) | (with_reducible refine Below.alloc ?_ (by first | (simp; done) | (simp; omega) | omega) _) | (with_reducible refine Below.drew ?_) | (with_reducible refine Below.drewN ?_ _))), by simp; omega⟩
        case measure => simp [intOf]; omega
      · have hkp := cutTo_keep (p := pn') hx hc
        have HK := Lib.hid hkp
        have HO := Lib.hid ho
        clear hkp ho hr hx hxn q0 q1 q2 q3 q4 q5 t0 t1 t2 t3 t4 t5
        cases gg
        · have hpb : (pp == (n : Int)) = false := beq_eq_false_iff_ne.2 (fun h => hc ⟨h, rfl⟩)
          clear hc
          go_wp2
          go_roundw
          case rel => exact ⟨k + 1, by omega, by go_num, by rw [HK.out]; exact HO.out.alloc _, by (repeat (first | (with_reducible assumption) | (with_reducible exact Below.refl _ _) | (with_reducible refine Below.setCell ?_ (by first | (simp; done) | (simp; omega) | omega) _) | (with_reducible refine Below.alloc ?_ (by first | (simp; done) | (simp; omega) | omega) _) | (with_reducible refine Below.drew ?_) | (with_reducible refine Below.drewN ?_ _))), by simp; omega⟩
          case measure => simp [intOf]; omega
        · clear hc
          by_cases hpp : pp = (n : Int)
          · have HPP := Lib.hid hpp
            subst hpp
            go_wp2
            go_roundw
            case rel => exact ⟨k + 1, by omega, by go_num, by rw [HK.out]; exact HO.out.alloc _, by (repeat (first | (with_reducible assumption) | (with_reducible exact Below.refl _ _) | (with_reducible refine Below.setCell ?_ (by first | (simp; done) | (simp; omega) | omega) _) | (with_reducible refine Below.alloc ?_ (by first | (simp; done) | (simp; omega) | omega) _) | (with_reducible refine Below.drew ?_) | (with_reducible refine Below.drewN ?_ _))), by simp; omega⟩
            case measure => simp [intOf]; omega
          · have hpb : (pp == (n : Int)) = false := beq_eq_false_iff_ne.2 hpp
            clear hpp
            go_wp2
            go_roundw
            case rel => exact ⟨k + 1, by omega, by go_num, by rw [HK.out]; exact HO.out.alloc _, by (repeat (first | (with_reducible assumption) | (with_reducible exact Below.refl _ _) | (with_reducible refine Below.setCell ?_ (by first | (simp; done) | (simp; omega) | omega) _) | (with_reducible refine Below.alloc ?_ (by first | (simp; done) | (simp; omega) | omega) _) | (with_reducible refine Below.drew ?_) | (with_reducible refine Below.drewN ?_ _))), by simp; omega⟩
            case measure => simp [intOf]; omega
    · have hkm : k = m := by omega
      subst hkm
      have hl2 := Lib.hid (show (cutTo es n pn k).length = k by rw [cutTo_len, HV.out.2.1])
      have HO := Lib.hid ho
      clear hr ho
      go_wp2
      go_ret
      exact ⟨_, c2, by rw [HV.out.1, hl2.out]; rfl, by rw [HV.out.1, hl2.out]; exact HO.out.mono (Nat.le_refl _) hz, hb⟩
end Go.Proofs.Ytpgmfjipkhldmaa
