/- Contracts of l5Below and Descendants (spec), Descendants and RevokeCap (impl). -/
import Derived.Test.YtpgmfjipkhldmaaRev3
import Derived.Test.YtpgmfjipkhldmaaTree3
namespace Go.Proofs.Ytpgmfjipkhldmaa
set_option linter.unusedVariables false
open Go.RowKit
set_option maxHeartbeats 2000000 in
theorem l5Below_any (B T m c : Nat) (A : Option Addr) (es : List En) (n k : Nat) (w : World) (hr : Rd w B T 6 A m (ents es)) (hm : m ≤ 1048576) (ht : TreeOk es) (hnk : n < k) (hk : k < m) :
    Calls Try.prog 51 #[.slice A m c, .int .i64 k, .int .i64 n] w fun e w' => e = .returned (.bool (fr es n k)) ∧ w = w' := by
  have hlen := ents_len hr
  obtain ⟨g, o, kk, oo, rr, bb, pp, gg, rfl, hgl, hx, q0, q1, q2, q3, q4, q5⟩ := ent_at hr hk
  have hkm : (k : Int) < (m : Int) := by omega
  have hk0 : (0 : Int) ≤ (k : Int) := by omega
  have hfs := fr_step ht hnk hx
  have hpt := ht k _ hx
  simp only at hfs hpt
  have HT := Lib.hid (And.intro ht hlen)
  cases gg
  · have hinv : (pp < 0 ∧ fr es n k = false) ∨ ∃ y : Nat, pp = (y : Int) ∧ fr es n k = fr es n y ∧ ∃ e, es[y]? = some e ∧ e.2.2 = false := by
      by_cases hp : 0 ≤ pp
      · obtain ⟨y, rfl⟩ := Int.eq_ofNat_of_zero_le hp
        obtain ⟨q, h1, h2, -⟩ := hpt.2.2.2.2 hp rfl
        rw [Int.toNat_natCast] at h1 hfs
        exact .inr ⟨y, rfl, by rw [hfs, decide_eq_true hp]; rfl, q, h1, h2⟩
      · exact .inl ⟨by omega, by rw [hfs, decide_eq_false hp]; rfl⟩
    have hp1 : -1 ≤ pp := hpt.2.2.1
    have hp2 : pp < (m : Int) := by have := hpt.2.2.2.1; omega
    have HI := Lib.hid hinv
    have HR := Lib.hid hr
    clear hfs hpt hinv hx ht hlen hr
    go_enter Try.func51, Try.ntmps51
    go_wp2
    go_loopw [1] (fun i wr => ∃ x : Int, i = .int .i64 x ∧ -1 ≤ x ∧ x < (m : Int) ∧ Hid ((x < 0 ∧ fr es n k = false) ∨ ∃ y : Nat, x = (y : Int) ∧ fr es n k = fr es n y ∧ ∃ e, es[y]? = some e ∧ e.2.2 = false) ∧ w = wr) (fun i _ => (intOf i + 1).toNat)
    case atStart => exact ⟨pp, rfl, hp1, hp2, HI, rfl⟩
    case round =>
      clear HI hp1 hp2 q0 q1 q2 q3 q4 q5
      obtain ⟨x, rfl, hx1, hx2, HI, rfl⟩ := hrel
      by_cases hgt : (n : Int) < x
      · have hstep : ∃ y : Nat, x = (y : Int) ∧ fr es n k = fr es n y ∧ ∃ e, es[y]? = some e ∧ e.2.2 = false := by
          rcases HI.out with ⟨h1, _⟩ | h
          · omega
          · exact h
        obtain ⟨y, rfl, hfy, ey, hey, hgy⟩ := hstep
        obtain ⟨g2, o2, k2, oo2, r2, b2, p2, gg2, e9, hg2, hx', q0, q1, q2, q3, q4, q5⟩ := ent_at HR.out (show y < m by omega)
        injection e9 with e9
        injection e9 with eg eo
        subst eg
        subst eo
        rw [hx'] at hey
        injection hey with hey
        subst hey
        simp only at hgy
        subst hgy
        have hfs := fr_step HT.out.1 (show n < y by omega) hx'
        have hpt := HT.out.1 y _ hx'
        simp only at hfs hpt
        have hinv : (p2 < 0 ∧ fr es n k = false) ∨ ∃ z : Nat, p2 = (z : Int) ∧ fr es n k = fr es n z ∧ ∃ e, es[z]? = some e ∧ e.2.2 = false := by
          by_cases hp : 0 ≤ p2
          · obtain ⟨z, rfl⟩ := Int.eq_ofNat_of_zero_le hp
            obtain ⟨q, h1, h2, -⟩ := hpt.2.2.2.2 hp (by trivial)
            rw [Int.toNat_natCast] at h1 hfs
            exact .inr ⟨z, rfl, by rw [hfy, hfs, decide_eq_true hp]; rfl, q, h1, h2⟩
          · exact .inl ⟨by omega, by rw [hfy, hfs, decide_eq_false hp]; rfl⟩
        have hp1 : -1 ≤ p2 := hpt.2.2.1
        have hp2 : p2 < (y : Int) := hpt.2.2.2.1
        have HI2 := Lib.hid hinv
        have hym : (y : Int) < (m : Int) := by omega
        have hy0 : (0 : Int) ≤ (y : Int) := by omega
        clear hfs hpt hinv hx' hfy HI
        go_wp2
        go_roundw
        case rel => exact ⟨p2, rfl, hp1, by omega, HI2, by trivial⟩
        case measure => simp [intOf]; omega
      · by_cases hxn : x = (n : Int)
        · have HV := Lib.hid (show fr es n k = true by
            rcases HI.out with ⟨h1, _⟩ | ⟨y, h1, h2, _⟩
            · omega
            · rw [h2, show y = n by omega, fr_self])
          subst hxn
          clear HI
          go_wp2
          go_ret
          exact ⟨by rw [HV.out]; rfl, rfl⟩
        · have HV := Lib.hid (show fr es n k = false by
            rcases HI.out with ⟨_, h1⟩ | ⟨y, h1, h2, _⟩
            · exact h1
            · rw [h2, fr_low (by omega)])
          have hxb : (x == (n : Int)) = false := beq_eq_false_iff_ne.2 hxn
          clear HI hxn
          go_wp2
          go_ret
          exact ⟨by rw [HV.out]; rfl, rfl⟩
  · have HV := Lib.hid (show fr es n k = false by rw [hfs]; rfl)
    clear hfs hpt hx ht hlen hr
    go_enter Try.func51, Try.ntmps51
    go_wp2
    go_ret
    exact ⟨by rw [HV.out]; rfl, rfl⟩
set_option maxHeartbeats 4000000 in
theorem sDescendants_any (B T m c : Nat) (A : Option Addr) (es : List En) (n : Nat) (w : World) (hr : Rd w B T 6 A m (ents es)) (hm : m ≤ 1048576) (hl : liveV es (n : Int) = true) :
    Calls Try.prog 36 #[.slice A m c, .int .i64 n] w (NewInts w (dI (descL es n))) := by
  obtain ⟨i0, hi0, hz0, hz1, hz2⟩ := info_parts Try.infoInt
  have hlen := ents_len hr
  obtain ⟨h1, h2, h3, e, h4, h5⟩ := liveV_iff.1 hl
  have htr := (treeV_iff.1 h1).1
  have h30 := (treeV_iff.1 h1).2
  have hnm : n < m := by omega
  have HT := Lib.hid (And.intro htr (And.intro hlen hl))
  replace hr := hr.here (by omega)
  clear hl h1 h2 h3 h4 h5 htr
  go_enter Try.func36, Try.ntmps36
  go_wp2
  go_loopw [5, 6] (fun a i wr => ∃ k : Nat, n + 1 ≤ k ∧ k ≤ m ∧ i = .int .i64 k ∧ ∃ (A2 : Option Addr) (q c2 : Nat), a = .slice A2 q c2 ∧ q ≤ k ∧ Own wr w.heap.size wr.heap.size 3 1 A2 q c2 (ints (dI (descTo es n k))) ∧ Below w.heap.size w wr) (fun _ i _ => m - (intOf i).toNat)
  case atStart => exact ⟨n + 1, by omega, by omega, by go_num, _, 0, 0, rfl, by omega, by rw [descTo_low (by omega)]; exact Own.nil _ _ _ _ _ _, by (repeat (first | (with_reducible assumption) | (with_reducible exact Below.refl _ _) | (with_reducible refine Below.setCell ?_ (by first | (simp; done) | (simp; omega) | omega) _) | (with_reducible refine Below.alloc ?_ (by first | (simp; done) | (simp; omega) | omega) _) | (with_reducible refine Below.drew ?_) | (with_reducible refine Below.drewN ?_ _)))⟩
  case round =>
    obtain ⟨k, hnk, hk, rfl, A2, q, c2, rfl, hqk, hoo, hb⟩ := hrel
    by_cases hlt : k < m
    · have hkk : (k : Int) < (m : Int) := by omega
      have hk0 : (0 : Int) ≤ (k : Int) := by omega
      obtain ⟨ds, hds⟩ : ∃ ds, dI (descTo es n k) = ds := ⟨_, rfl⟩
      rw [hds] at hoo
      have HDS := Lib.hid hds
      clear hds
      go_wp2_with fail
      refine (l5Live_any _ _ _ _ _ es (n : Int) _ (hr.below hb) hm).mono ?_
      rintro e w2 ⟨rfl, hb2⟩
      rw [HT.out.2.2]
      have hb3 := Below.via hb hb2
      have hoo2 := (hoo.below hb2).mono (B' := w.heap.size) (T' := w2.heap.size) (Nat.le_refl _) hb2.size
      clear hb2 hoo
      go_wp2_with fail
      refine (l5Below_any _ _ _ _ _ es n k _ (hr.below hb3) hm HT.out.1 (by omega) hlt).mono ?_
      rintro e w4 ⟨rfl, rfl⟩
      cases hf : fr es n k
      · have HD := Lib.hid (show descTo es n (k + 1) = descTo es n k by rw [descTo_succ]; unfold isD; rw [hf]; simp)
        have HF := Lib.hid hf
        clear hr hf
        go_wp2
        go_roundw
        case rel => exact ⟨k + 1, by omega, by omega, by go_num, A2, q, c2, rfl, by omega, by rw [HD.out, HDS.out]; exact hoo2, hb3⟩
        case measure => simp [intOf]; omega
      · have HD := Lib.hid (show descTo es n (k + 1) = descTo es n k ++ [k] by rw [descTo_succ]; unfold isD; rw [hf, decide_eq_true (show n < k by omega)]; rfl)
        have HF := Lib.hid hf
        have z2 := hb3.size
        clear hr hf
        go_wp2_with (at_builtin; refine wpList_appg _ (by rfl) (.tmp 25) (.tmp 27) 33 rfl 3 i0 (.int .i64 0) 1 8 Try.underlying33 hi0 hz0 hz1 hz2 rfl (by omega) w.heap.size w2.heap.size w2.heap.size (w2.heap.size + 1) A2 (some ⟨w2.heap.size, 0, none⟩) q c2 1 1 (ints ds) (ints [(k : Int)]) rfl rfl (by (repeat (first | (with_reducible assumption) | (with_reducible refine Own.alloc ?_ _) | (with_reducible refine Own.drew ?_) | (with_reducible refine Own.set ?_ (by first | (simp; done) | (simp; omega) | omega) _)))) (lit_rd _ #[.int .i64 (k : Int)] 3 1 _ (by simp) rfl (by unfold maxLen; omega)) (ints_one _) (by unfold maxLen; omega) (by omega) (by simp; omega) ?_; intro A3 c3 w3 o3 f3; have B3 := Below.trans (by (repeat (first | (with_reducible assumption) | (with_reducible exact Below.refl _ _) | (with_reducible refine Below.setCell ?_ (by first | (simp; done) | (simp; omega) | omega) _) | (with_reducible refine Below.alloc ?_ (by first | (simp; done) | (simp; omega) | omega) _) | (with_reducible refine Below.drew ?_) | (with_reducible refine Below.drewN ?_ _))) : Below w.heap.size w (w2.alloc (.cells #[.int .i64 (k : Int)] 3))) (f3.below (W := w.heap.size) (by omega) (by (try simp) <;> omega)); have HO3 := Lib.hid o3; clear o3)
        go_roundw
        case rel => exact ⟨k + 1, by omega, by omega, by go_num, A3, q + 1, c3, rfl, by omega, by have h := HO3.out; rw [HD.out]; rw [← HDS.out, ← ints_append] at h; simpa [dI] using h, B3⟩
        case measure => simp [intOf]; omega
    · have hkm : k = m := by omega
      subst hkm
      have HD := Lib.hid (show descTo es n k = descL es n by unfold descL; rw [HT.out.2.1])
      rw [HD.out] at hoo
      have hlq : (dI (descL es n)).length = q := ints_len hoo.rd
      have HO := Lib.hid hoo
      have HQ := Lib.hid hlq
      clear hr hlq hoo
      go_wp2
      go_ret
      exact ⟨A2, c2, by rw [HQ.out]; rfl, by rw [HQ.out]; exact HO.out, hb⟩
set_option maxHeartbeats 1000000 in
theorem iDescendants_any (B T m c : Nat) (A : Option Addr) (es : List En) (n : Nat) (w : World) (hr : Rd w B T 6 A m (ents es)) (hm : m ≤ 1048576) (hl : liveV es (n : Int) = true) :
    Calls Try.prog 17 #[.slice A m c, .int .i64 n] w (NewInts w (dI (descL es n))) := by
  go_enter Try.func17, Try.ntmps17
  go_wp2_with fail
  refine (iAlive_any _ _ _ _ _ es (n : Int) _ hr hm).mono ?_
  rintro e w1 ⟨rfl, hb1⟩
  rw [hl]
  go_wp2_with fail
  refine (descendants_any _ _ _ _ _ es n _ (hr.below hb1) hm hl).mono ?_
  rintro e w2 ⟨A2, c2, rfl, o2, hb2⟩
  have hz := hb1.size
  have HO := Lib.hid o2
  clear o2 hr
  go_wp2
  go_ret
  exact ⟨A2, c2, rfl, HO.out.mono hz (Nat.le_refl _), Below.via hb1 hb2⟩
set_option maxHeartbeats 1000000 in
theorem iRevokeCap_any (B T m c : Nat) (A : Option Addr) (es : List En) (n : Nat) (w : World) (hr : Rd w B T 6 A m (ents es)) (hm : m ≤ 1048576) (hl : liveV es (n : Int) = true) :
    Calls Try.prog 14 #[.slice A m c, .int .i64 n] w (NewEnts w (revL es (n : Int))) := by
  have hlen := ents_len hr
  have h30 := (treeV_iff.1 (live_tree hl)).2
  have hv : revL es (n : Int) = removed es (descL es n) := by unfold revL; rw [if_pos hl, Int.toNat_natCast]
  have hq : (descL es n).length ≤ 30 := Nat.le_trans descTo_len (by omega)
  have hL : ∀ x ∈ descL es n, x < m := fun x hx => by have := (mem_descL.1 hx).1; omega
  have HV := Lib.hid hv
  have HQ := Lib.hid (And.intro hq hL)
  clear hv hq hL hlen
  go_enter Try.func14, Try.ntmps14
  go_wp2_with fail
  refine (iAlive_any _ _ _ _ _ es (n : Int) _ hr hm).mono ?_
  rintro e w1 ⟨rfl, hb1⟩
  rw [hl]
  go_wp2_with fail
  refine (descendants_any _ _ _ _ _ es n _ (hr.below hb1) hm hl).mono ?_
  rintro e w2 ⟨A2, c2, rfl, o2, hb2⟩
  have hr2 := (hr.below hb1).below hb2
  go_wp2_with fail
  refine (removed_any _ _ _ _ _ _ _ c2 _ A2 es (descL es n) _ hr2 hm o2.rd (by rw [dI_len]; have := HQ.out.1; omega) HQ.out.2).mono ?_
  rintro e w3 ⟨A3, c3, rfl, o3, hb3⟩
  have hz := Below.size (Below.via hb1 hb2)
  have HO := Lib.hid o3
  clear o3 hr o2 hr2
  go_wp2
  go_ret
  exact ⟨A3, c3, by rw [HV.out]; rfl, by rw [HV.out]; exact HO.out.mono hz (Nat.le_refl _), Below.via (Below.via hb1 hb2) hb3⟩
end Go.Proofs.Ytpgmfjipkhldmaa
