/- Contracts of SendOver (impl and spec). -/
import Derived.Test.YthbfpgdfigilaaaSend1
import Derived.Deep.Cut
import Derived.Deep.DeepCutAuto
namespace Go.Proofs.Ythbfpgdfigilaaa
set_option linter.unusedVariables false
open Go.RowKit
theorem msgOk_small {l : Int} {xs : List Int} {cs : List Cp} (h : msgOk l xs cs = true) : xs.length ≤ 8 ∧ cs.length ≤ 3 := by
  unfold msgOk at h
  simp only [Bool.and_eq_true, decide_eq_true_eq] at h
  omega
theorem cap_new (w : World) (n : Nat) (e : TypeId) (h : w.heap.size = n) (c : Cp) : Rd (w.alloc (.cells #[.int .i64 c.1, .int .i64 c.2.1, .int .i64 c.2.2.1, .int .i64 c.2.2.2] e)) n (n + 1) 4 (some ⟨n, 0, none⟩) 1 (capC c) :=
  h ▸ (Own.new (e := e) (size := 4) w #[.int .i64 c.1, .int .i64 c.2.1, .int .i64 c.2.2.1, .int .i64 c.2.2.2] 1 (by unfold maxLen; omega) rfl).rd
/-- Behind 'out := ..': the message's block, its words. -/
def CutO (w w2 : World) (l : Int) (A : Option Addr) (n c : Nat) (D : Option Addr) (m d : Nat) (k o r b : Int) (xs : List Int) (u6 : Value) (wx : World) : Prop :=
  ∃ (g : Nat) (A3 : Option Addr) (c3 B3 T3 : Nat), u6 = .pointer (some ⟨g, 0, none⟩) ∧ Blk wx g 30 #[.int .i64 l, .slice A3 n c3, .slice none 0 0] ∧ Own wx B3 T3 3 1 A3 n c3 (ints xs) ∧ (T3 ≤ g ∨ g < B3) ∧ w2.heap.size ≤ g ∧ g < wx.heap.size ∧ w2.heap.size ≤ B3 ∧ T3 ≤ wx.heap.size ∧
    Blk wx w.heap.size 30 #[.int .i64 l, .slice A n c, .slice D m d] ∧ Blk wx (w.heap.size + 1) 45 #[.int .i64 k, .int .i64 o, .int .i64 r, .int .i64 b] ∧ Blk wx (w.heap.size + 1 + 1) 30 #[.int .i64 0, .slice none 0 0, .slice none 0 0] ∧ Below w.heap.size w wx
set_option maxRecDepth 10000 in
set_option maxHeartbeats 8000000 in
theorem iSendOver_any (B T n c m d : Nat) (l : Int) (A D : Option Addr) (xs : List Int) (cs : List Cp) (k o r b : Int) (w : World) (hr : Rd w B T 1 A n (ints xs)) (hn : n ≤ 1048576) (hr2 : Rd w B T 4 D m (caps cs)) (hm : m ≤ 1048576) :
    Calls Try.prog 29 #[msg l A n c D m d, capv k o r b] w (NewMsgB w (sendB l xs cs k o r b) (sendX l xs cs k o r b) (sendC l xs cs k o r b) (sendOk l xs cs k o r b)) := by
  obtain ⟨i0, hi0, hz0, hz1, hz2⟩ := info_parts Try.infoInt
  obtain ⟨j0, hj0, hy0, hy1, hy2⟩ := info_parts Try.infoCap
  have HL := Lib.hid (ints_len hr)
  have HM := Lib.hid (caps_len hr2)
  replace hr := hr.here Nat.one_pos
  replace hr2 := hr2.here (by omega)
  have TP := ((Blk.new w 30 #[.int .i64 l, .slice A n c, .slice D m d]).alloc (.cells #[.int .i64 k, .int .i64 o, .int .i64 r, .int .i64 b] 45)).alloc (.cells #[.int .i64 0, .slice none 0 0, .slice none 0 0] 30)
  have TC := (Blk.newAt (w := w.alloc (.cells #[.int .i64 l, .slice A n c, .slice D m d] 30)) (n := w.heap.size + 1) 45 #[.int .i64 k, .int .i64 o, .int .i64 r, .int .i64 b] (by simp)).alloc (.cells #[.int .i64 0, .slice none 0 0, .slice none 0 0] 30)
  have TR := Blk.newAt (w := (w.alloc (.cells #[.int .i64 l, .slice A n c, .slice D m d] 30)).alloc (.cells #[.int .i64 k, .int .i64 o, .int .i64 r, .int .i64 b] 45)) (n := w.heap.size + 1 + 1) 30 #[.int .i64 0, .slice none 0 0, .slice none 0 0] (by simp)
  have hB : Below w.heap.size w (((w.alloc (.cells #[.int .i64 l, .slice A n c, .slice D m d] 30)).alloc (.cells #[.int .i64 k, .int .i64 o, .int .i64 r, .int .i64 b] 45)).alloc (.cells #[.int .i64 0, .slice none 0 0, .slice none 0 0] 30)) := by (repeat (first | (with_reducible assumption) | (with_reducible exact Below.refl _ _) | (with_reducible refine Below.setCell ?_ (by first | (simp; done) | (simp; omega) | omega) _) | (with_reducible refine Below.alloc ?_ (by first | (simp; done) | (simp; omega) | omega) _) | (with_reducible refine Below.drew ?_) | (with_reducible refine Below.drewN ?_ _)))
  cases h1 : msgOk l xs cs
  · have HP := Lib.hid (send_no (k := k) (o := o) (r := r) (b := b) (send_no1 h1))
    go_enter Try.func29, Try.ntmps29
    go_wp2_with fail
    refine (iMessageValid_any _ _ _ _ _ _ l _ _ xs cs _ (hr.belowT hB) hn (hr2.belowT hB) hm).mono ?_
    rintro e w1 ⟨rfl, hb1⟩
    rw [h1]
    have z1 := hb1.size
    simp at z1
    replace TP := TP.below hb1
    replace TC := TC.below hb1
    replace TR := TR.below hb1
    replace hB := Below.via hB hb1
    clear hb1
    obtain ⟨e0, e1, e2, e3⟩ := TC.four
    have r0 := TR.cell 0 rfl
    have r1 := TR.cell 1 rfl
    have r2 := TR.cell 2 rfl
    have rf := TR.free
    have lR := TR.lt
    clear hr hr2 TP TC TR
    go_wp2
    refine bodyPost_ret (v := .tuple #[msg 0 none 0 0 none 0 0, .bool false]) (by simp [results, Try.results29, go_sem, *]) rfl ?_
    rw [HP.out.1, HP.out.2.1, HP.out.2.2.1, HP.out.2.2.2]
    exact newMsgB_nil (by (repeat (first | (with_reducible assumption) | (with_reducible exact Below.refl _ _) | (with_reducible refine Below.setCell ?_ (by first | (simp; done) | (simp; omega) | omega) _) | (with_reducible refine Below.alloc ?_ (by first | (simp; done) | (simp; omega) | omega) _) | (with_reducible refine Below.drew ?_) | (with_reducible refine Below.drewN ?_ _))))
  · skip
    cases h2 : capOk k o r b
    · have HP := Lib.hid (send_no (l := l) (xs := xs) (cs := cs) (send_no2 h2))
      go_enter Try.func29, Try.ntmps29
      go_wp2_with fail
      refine (iMessageValid_any _ _ _ _ _ _ l _ _ xs cs _ (hr.belowT hB) hn (hr2.belowT hB) hm).mono ?_
      rintro e w1 ⟨rfl, hb1⟩
      rw [h1]
      have z1 := hb1.size
      simp at z1
      replace TP := TP.below hb1
      replace TC := TC.below hb1
      replace TR := TR.below hb1
      replace hB := Below.via hB hb1
      clear hb1
      obtain ⟨e0, e1, e2, e3⟩ := TC.four
      go_wp2_with fail
      refine (iCapValid_any _ _ _ _ _).mono ?_
      rintro e w2 ⟨rfl, hb2⟩
      rw [h2]
      have z2 := hb2.size
      replace TP := TP.below hb2
      replace TC := TC.below hb2
      replace TR := TR.below hb2
      replace hB := Below.via hB hb2
      clear hb2 e0 e1 e2 e3
      obtain ⟨e0, e1, e2, e3⟩ := TC.four
      have r0 := TR.cell 0 rfl
      have r1 := TR.cell 1 rfl
      have r2 := TR.cell 2 rfl
      have rf := TR.free
      have lR := TR.lt
      clear hr hr2 TP TC TR
      go_wp2
      refine bodyPost_ret (v := .tuple #[msg 0 none 0 0 none 0 0, .bool false]) (by simp [results, Try.results29, go_sem, *]) rfl ?_
      rw [HP.out.1, HP.out.2.1, HP.out.2.2.1, HP.out.2.2.2]
      exact newMsgB_nil (by (repeat (first | (with_reducible assumption) | (with_reducible exact Below.refl _ _) | (with_reducible refine Below.setCell ?_ (by first | (simp; done) | (simp; omega) | omega) _) | (with_reducible refine Below.alloc ?_ (by first | (simp; done) | (simp; omega) | omega) _) | (with_reducible refine Below.drew ?_) | (with_reducible refine Below.drewN ?_ _))))
    · skip
      by_cases hk : k = 4
      case neg =>
        have hk4 : (k == 4) = false := by simp [hk]
        have HP := Lib.hid (send_no (l := l) (xs := xs) (cs := cs) (o := o) (r := r) (b := b) (send_no3 hk4))
        clear hk
        go_enter Try.func29, Try.ntmps29
        go_wp2_with fail
        refine (iMessageValid_any _ _ _ _ _ _ l _ _ xs cs _ (hr.belowT hB) hn (hr2.belowT hB) hm).mono ?_
        rintro e w1 ⟨rfl, hb1⟩
        rw [h1]
        have z1 := hb1.size
        simp at z1
        replace TP := TP.below hb1
        replace TC := TC.below hb1
        replace TR := TR.below hb1
        replace hB := Below.via hB hb1
        clear hb1
        obtain ⟨e0, e1, e2, e3⟩ := TC.four
        go_wp2_with fail
        refine (iCapValid_any _ _ _ _ _).mono ?_
        rintro e w2 ⟨rfl, hb2⟩
        rw [h2]
        have z2 := hb2.size
        replace TP := TP.below hb2
        replace TC := TC.below hb2
        replace TR := TR.below hb2
        replace hB := Below.via hB hb2
        clear hb2 e0 e1 e2 e3
        obtain ⟨e0, e1, e2, e3⟩ := TC.four
        have r0 := TR.cell 0 rfl
        have r1 := TR.cell 1 rfl
        have r2 := TR.cell 2 rfl
        have rf := TR.free
        have lR := TR.lt
        clear hr hr2 TP TC TR
        go_wp2
        refine bodyPost_ret (v := .tuple #[msg 0 none 0 0 none 0 0, .bool false]) (by simp [results, Try.results29, go_sem, *]) rfl ?_
        rw [HP.out.1, HP.out.2.1, HP.out.2.2.1, HP.out.2.2.2]
        exact newMsgB_nil (by (repeat (first | (with_reducible assumption) | (with_reducible exact Below.refl _ _) | (with_reducible refine Below.setCell ?_ (by first | (simp; done) | (simp; omega) | omega) _) | (with_reducible refine Below.alloc ?_ (by first | (simp; done) | (simp; omega) | omega) _) | (with_reducible refine Below.drew ?_) | (with_reducible refine Below.drewN ?_ _))))
      subst hk
      cases h3 : (andI r 2 == 0)
      case true =>
        have HP := Lib.hid (send_no (l := l) (xs := xs) (cs := cs) (k := 4) (o := o) (b := b) (send_no4 h3))
        unfold andI at h3
        go_enter Try.func29, Try.ntmps29
        go_wp2_with fail
        refine (iMessageValid_any _ _ _ _ _ _ l _ _ xs cs _ (hr.belowT hB) hn (hr2.belowT hB) hm).mono ?_
        rintro e w1 ⟨rfl, hb1⟩
        rw [h1]
        have z1 := hb1.size
        simp at z1
        replace TP := TP.below hb1
        replace TC := TC.below hb1
        replace TR := TR.below hb1
        replace hB := Below.via hB hb1
        clear hb1
        obtain ⟨e0, e1, e2, e3⟩ := TC.four
        go_wp2_with fail
        refine (iCapValid_any _ _ _ _ _).mono ?_
        rintro e w2 ⟨rfl, hb2⟩
        rw [h2]
        have z2 := hb2.size
        replace TP := TP.below hb2
        replace TC := TC.below hb2
        replace TR := TR.below hb2
        replace hB := Below.via hB hb2
        clear hb2 e0 e1 e2 e3
        obtain ⟨e0, e1, e2, e3⟩ := TC.four
        have r0 := TR.cell 0 rfl
        have r1 := TR.cell 1 rfl
        have r2 := TR.cell 2 rfl
        have rf := TR.free
        have lR := TR.lt
        clear hr hr2 TP TC TR
        go_wp2
        refine bodyPost_ret (v := .tuple #[msg 0 none 0 0 none 0 0, .bool false]) (by simp [results, Try.results29, go_sem, *]) rfl ?_
        rw [HP.out.1, HP.out.2.1, HP.out.2.2.1, HP.out.2.2.2]
        exact newMsgB_nil (by (repeat (first | (with_reducible assumption) | (with_reducible exact Below.refl _ _) | (with_reducible refine Below.setCell ?_ (by first | (simp; done) | (simp; omega) | omega) _) | (with_reducible refine Below.alloc ?_ (by first | (simp; done) | (simp; omega) | omega) _) | (with_reducible refine Below.drew ?_) | (with_reducible refine Below.drewN ?_ _))))
      have HO := Lib.hid (send_ok h1 h2 h3)
      have HLEN := Lib.hid (msgOk_small h1)
      have hlen := HLEN.out
      rw [HL.out, HM.out] at hlen
      obtain ⟨hn8, hm3⟩ := hlen
      cases h4 : (andI r 4 == 0)
      · skip
        have HP := Lib.hid (send_yes1 HO.out h4)
        unfold andI at h3 h4
        go_enter Try.func29, Try.ntmps29
        go_wp2_with fail
        refine (iMessageValid_any _ _ _ _ _ _ l _ _ xs cs _ (hr.belowT hB) hn (hr2.belowT hB) hm).mono ?_
        rintro e w1 ⟨rfl, hb1⟩
        rw [h1]
        have z1 := hb1.size
        simp at z1
        replace TP := TP.below hb1
        replace TC := TC.below hb1
        replace TR := TR.below hb1
        replace hB := Below.via hB hb1
        clear hb1
        obtain ⟨e0, e1, e2, e3⟩ := TC.four
        go_wp2_with fail
        refine (iCapValid_any _ _ _ _ _).mono ?_
        rintro e w2 ⟨rfl, hb2⟩
        rw [h2]
        have z2 := hb2.size
        replace TP := TP.below hb2
        replace TC := TC.below hb2
        replace TR := TR.below hb2
        replace hB := Below.via hB hb2
        clear hb2 e0 e1 e2 e3
        obtain ⟨e0, e1, e2, e3⟩ := TC.four
        have p0 := TP.cell 0 rfl
        have p1 := TP.cell 1 rfl
        have p2 := TP.cell 2 rfl
        have lP := TP.lt
        have lR := TR.lt
        have hrw := hr.belowT hB
        go_upto_region 3 with (fail)
        go_cut [6] (fun u6 wx => CutO w w2 l A n c D m d 4 o r b xs u6 wx)
        case first =>
          refine wp_region_noPanic ?_
          refine wp_region_held_drew (S := (fun W => W.cell? ⟨w.heap.size, 0, none⟩ = some (.int .i64 l) ∧ W.cell? ⟨w.heap.size, 1, none⟩ = some (.slice A n c))) (by kernel_rfl) ?_ (fun hHeld => ?_)
          focus (first | exact trivial | ((try dsimp only); ((repeat' (first | assumption | with_reducible refine And.intro ?_ ?_)) <;> go_keep))); done
          refine wpAnyH_take (i := 0) (v := ?_) (by rw [List.getElem?_toArray]; rfl) (by kernel_rfl) (by kernel_rfl) (by kernel_rfl) (fun _ _ _ h => h) (Or.inl ⟨by rfl, ?_⟩) (by assumption) ?_
          rotate_left
          focus (intro wS hSw; (try dsimp only at hSw); go_simp; (try with_reducible rfl)); done
          (try simp only [Act.put, List.setIfInBounds_toArray, List.set_cons_zero, List.set_cons_succ])
          refine wpAnyH_take (i := 1) (v := ?_) (by rw [List.getElem?_toArray]; rfl) (by kernel_rfl) (by kernel_rfl) (by kernel_rfl) (fun _ _ _ h => h) (Or.inl ⟨by rfl, ?_⟩) (by assumption) ?_
          rotate_left
          focus (intro wS hSw; (try dsimp only at hSw); go_simp; (try with_reducible rfl)); done
          (try simp only [Act.put, List.setIfInBounds_toArray, List.set_cons_zero, List.set_cons_succ])
          refine wpAnyH_take (i := 2) (v := ?_) (by rw [List.getElem?_toArray]; rfl) (by kernel_rfl) (by kernel_rfl) (by kernel_rfl) (fun _ _ _ h => h) (Or.inl ⟨by rfl, ?_⟩) (by assumption) ?_
          rotate_left
          focus (intro wS hSw; (try dsimp only at hSw); go_simp; (try with_reducible rfl)); done
          (try simp only [Act.put, List.setIfInBounds_toArray, List.set_cons_zero, List.set_cons_succ])
          refine wpAnyH_take (i := 3) (v := ?_) (by rw [List.getElem?_toArray]; rfl) (by kernel_rfl) (by kernel_rfl) (by kernel_rfl) (fun _ _ _ h => h) (Or.inl ⟨by rfl, ?_⟩) (by assumption) ?_
          rotate_left
          focus (intro wS hSw; (try dsimp only at hSw); go_simp; (try with_reducible rfl)); done
          (try simp only [Act.put, List.setIfInBounds_toArray, List.set_cons_zero, List.set_cons_succ])
          refine wpAnyH_ready (rs := [4, 6]) (by kernel_rfl) (by simp) ?_
          refine AllReadyH.cons (by rw [List.getElem?_toArray]; rfl) (fun K hK => ?_) (AllReadyH.cons (by rw [List.getElem?_toArray]; rfl) (fun K hK => ?_) AllReadyH.nil)
          · go_simp
            refine (clone_any _ _ _ _ _ xs _ hrw.drew hn).mono ?_; rintro e w3 ⟨A3, c3, rfl, o3, hb3⟩; rw [HL.out] at o3 ⊢; replace hB := Below.via (by (repeat (first | (with_reducible assumption) | (with_reducible exact Below.refl _ _) | (with_reducible refine Below.setCell ?_ (by first | (simp; done) | (simp; omega) | omega) _) | (with_reducible refine Below.alloc ?_ (by first | (simp; done) | (simp; omega) | omega) _) | (with_reducible refine Below.drew ?_) | (with_reducible refine Below.drewN ?_ _))) : Below w.heap.size w _) hb3; have z3 := hb3.size; (try simp at z3); replace TP := (TP.drew).below hb3; replace TC := (TC.drew).below hb3; replace TR := (TR.drew).below hb3; clear e0 e1 e2 e3 p0 p1 p2 lP; have lP := TP.lt; have lR3 := TR.lt; replace o3 := o3.mono (B' := w2.heap.size) (T' := w3.heap.size) (by simp) (Nat.le_refl _)
            refine hK.out _ _ ?_ (fun hHeld => ?_)
            focus (first | exact trivial | ((try dsimp only); (exact ⟨TP.cell 0 rfl, TP.cell 1 rfl⟩))); done
            clear hK K
            (try simp only [Act.put, List.setIfInBounds_toArray, List.set_cons_zero, List.set_cons_succ])
            refine wpAnyH_take (i := 5) (v := ?_) (by rw [List.getElem?_toArray]; rfl) (by kernel_rfl) (by kernel_rfl) (by kernel_rfl) (fun _ _ _ h => h) (Or.inl ⟨by rfl, ?_⟩) (by assumption) ?_
            rotate_left
            focus (intro wS hSw; (try dsimp only at hSw); go_simp; (try with_reducible rfl)); done
            (try simp only [Act.put, List.setIfInBounds_toArray, List.set_cons_zero, List.set_cons_succ])
            refine wpAnyH_ready (rs := [6]) (by kernel_rfl) (by simp) ?_
            refine AllReadyH.cons (by rw [List.getElem?_toArray]; rfl) (fun K hK => ?_) AllReadyH.nil
            go_simp
            skip
            refine hK.out _ _ ?_ (fun hHeld => ?_)
            focus (first | exact trivial | ((try dsimp only); (exact ⟨(TP.alloc _).cell 0 rfl, (TP.alloc _).cell 1 rfl⟩))); done
            clear hK K
            (try simp only [Act.put, List.setIfInBounds_toArray, List.set_cons_zero, List.set_cons_succ])
            refine wpAnyH_ready (rs := [7]) (by kernel_rfl) (by simp) ?_
            refine AllReadyH.cons (by rw [List.getElem?_toArray]; rfl) (fun K hK => ?_) AllReadyH.nil
            go_simp
            skip
            refine hK.out _ _ ?_ (fun hHeld => ?_)
            focus (first | exact trivial | ((try dsimp only); ((refine ⟨?_, ?_⟩ <;> go_keep)))); done
            clear hK K
            (try simp only [Act.put, List.setIfInBounds_toArray, List.set_cons_zero, List.set_cons_succ])
            refine wpAnyH_done (by kernel_rfl) ?_ _
            refine NoPanic.normal ?_
            go_wp2_with fail
            go_meet
            exact ⟨w3.heap.size, A3, c3, w2.heap.size, w3.heap.size, rfl, Blk.newAt _ _ rfl, o3.alloc _, .inl (Nat.le_refl _), (by first | omega | (simp; done) | (simp; omega)), (by first | omega | (simp; done) | (simp; omega)), (by first | omega | (simp; done) | (simp; omega)), (by first | omega | (simp; done) | (simp; omega)), TP.alloc _, TC.alloc _, TR.alloc _, by (repeat (first | (with_reducible assumption) | (with_reducible exact Below.refl _ _) | (with_reducible refine Below.setCell ?_ (by first | (simp; done) | (simp; omega) | omega) _) | (with_reducible refine Below.alloc ?_ (by first | (simp; done) | (simp; omega) | omega) _) | (with_reducible refine Below.drew ?_) | (with_reducible refine Below.drewN ?_ _)))⟩
          · go_simp
            skip
            refine hK.out _ _ ?_ (fun hHeld => ?_)
            focus (first | exact trivial | ((try dsimp only); (exact ⟨(TP.drew.alloc (.cells #[.int .i64 0, .slice none 0 0, .slice none 0 0] 30)).cell 0 rfl, (TP.drew.alloc (.cells #[.int .i64 0, .slice none 0 0, .slice none 0 0] 30)).cell 1 rfl⟩))); done
            clear hK K
            (try simp only [Act.put, List.setIfInBounds_toArray, List.set_cons_zero, List.set_cons_succ])
            refine wpAnyH_ready (rs := [4]) (by kernel_rfl) (by simp) ?_
            refine AllReadyH.cons (by rw [List.getElem?_toArray]; rfl) (fun K hK => ?_) AllReadyH.nil
            go_simp
            refine (clone_any _ _ _ _ _ xs _ (hrw.drew.alloc _) hn).mono ?_; rintro e w3 ⟨A3, c3, rfl, o3, hb3⟩; rw [HL.out] at o3 ⊢; have TO := (Blk.newAt (w := w2.drew) (n := w2.heap.size) 30 #[.int .i64 0, .slice none 0 0, .slice none 0 0] rfl).below hb3; replace hB := Below.via (by (repeat (first | (with_reducible assumption) | (with_reducible exact Below.refl _ _) | (with_reducible refine Below.setCell ?_ (by first | (simp; done) | (simp; omega) | omega) _) | (with_reducible refine Below.alloc ?_ (by first | (simp; done) | (simp; omega) | omega) _) | (with_reducible refine Below.drew ?_) | (with_reducible refine Below.drewN ?_ _))) : Below w.heap.size w _) hb3; have z3 := hb3.size; (try simp at z3); replace TP := (TP.drew.alloc (.cells #[.int .i64 0, .slice none 0 0, .slice none 0 0] 30)).below hb3; replace TC := (TC.drew.alloc (.cells #[.int .i64 0, .slice none 0 0, .slice none 0 0] 30)).below hb3; replace TR := (TR.drew.alloc (.cells #[.int .i64 0, .slice none 0 0, .slice none 0 0] 30)).below hb3; clear e0 e1 e2 e3 p0 p1 p2 lP; have lP := TP.lt; have lR3 := TR.lt; have lO := TO.lt; have ofr := TO.free; have y0 := TO.cell 0 rfl; have y1 := TO.cell 1 rfl; have y2 := TO.cell 2 rfl; replace o3 := o3.mono (B' := w2.heap.size + 1) (T' := w3.heap.size) (by simp) (Nat.le_refl _)
            refine hK.out _ _ ?_ (fun hHeld => ?_)
            focus (first | exact trivial | ((try dsimp only); (exact ⟨TP.cell 0 rfl, TP.cell 1 rfl⟩))); done
            clear hK K
            (try simp only [Act.put, List.setIfInBounds_toArray, List.set_cons_zero, List.set_cons_succ])
            refine wpAnyH_take (i := 5) (v := ?_) (by rw [List.getElem?_toArray]; rfl) (by kernel_rfl) (by kernel_rfl) (by kernel_rfl) (fun _ _ _ h => h) (Or.inl ⟨by rfl, ?_⟩) (by assumption) ?_
            rotate_left
            focus (intro wS hSw; (try dsimp only at hSw); go_simp; (try with_reducible rfl)); done
            (try simp only [Act.put, List.setIfInBounds_toArray, List.set_cons_zero, List.set_cons_succ])
            refine wpAnyH_ready (rs := [7]) (by kernel_rfl) (by simp) ?_
            refine AllReadyH.cons (by rw [List.getElem?_toArray]; rfl) (fun K hK => ?_) AllReadyH.nil
            go_simp
            skip
            refine hK.out _ _ ?_ (fun hHeld => ?_)
            focus (first | exact trivial | ((try dsimp only); (exact ⟨(((TP.other (p := ⟨w2.heap.size, 0, none⟩) (by show w.heap.size ≠ w2.heap.size; omega) _).other (p := ⟨w2.heap.size, 1, none⟩) (by show w.heap.size ≠ w2.heap.size; omega) _).other (p := ⟨w2.heap.size, 2, none⟩) (by show w.heap.size ≠ w2.heap.size; omega) _).cell 0 rfl, (((TP.other (p := ⟨w2.heap.size, 0, none⟩) (by show w.heap.size ≠ w2.heap.size; omega) _).other (p := ⟨w2.heap.size, 1, none⟩) (by show w.heap.size ≠ w2.heap.size; omega) _).other (p := ⟨w2.heap.size, 2, none⟩) (by show w.heap.size ≠ w2.heap.size; omega) _).cell 1 rfl⟩))); done
            clear hK K
            (try simp only [Act.put, List.setIfInBounds_toArray, List.set_cons_zero, List.set_cons_succ])
            refine wpAnyH_done (by kernel_rfl) ?_ _
            refine NoPanic.normal ?_
            go_wp2_with fail
            go_meet
            exact ⟨w2.heap.size, A3, c3, w2.heap.size + 1, w3.heap.size, rfl, ((TO.set 0 (.int .i64 l)).set 1 (.slice A3 n c3)).set 2 (.slice none 0 0), ((o3.set (.inl (Nat.lt_succ_self _)) _).set (.inl (Nat.lt_succ_self _)) _).set (.inl (Nat.lt_succ_self _)) _, .inr (Nat.lt_succ_self _), (by first | omega | (simp; done) | (simp; omega)), (by first | omega | (simp; done) | (simp; omega)), (by first | omega | (simp; done) | (simp; omega)), (by first | omega | (simp; done) | (simp; omega)), by (repeat (first | (with_reducible assumption) | (with_reducible refine Blk.drew ?_) | (with_reducible refine Blk.other ?_ (by first | (simp; done) | (simp; omega) | omega) _) | (with_reducible refine Blk.alloc ?_ _))), by (repeat (first | (with_reducible assumption) | (with_reducible refine Blk.drew ?_) | (with_reducible refine Blk.other ?_ (by first | (simp; done) | (simp; omega) | omega) _) | (with_reducible refine Blk.alloc ?_ _))), by (repeat (first | (with_reducible assumption) | (with_reducible refine Blk.drew ?_) | (with_reducible refine Blk.other ?_ (by first | (simp; done) | (simp; omega) | omega) _) | (with_reducible refine Blk.alloc ?_ _))), by (repeat (first | (with_reducible assumption) | (with_reducible exact Below.refl _ _) | (with_reducible refine Below.setCell ?_ (by first | (simp; done) | (simp; omega) | omega) _) | (with_reducible refine Below.alloc ?_ (by first | (simp; done) | (simp; omega) | omega) _) | (with_reducible refine Below.drew ?_) | (with_reducible refine Below.drewN ?_ _)))⟩
        case rest =>
          clear TP TC TR hB e0 e1 e2 e3 p0 p1 p2 lP lR hrw
          obtain ⟨g, A3, c3, B3, T3, rfl, TO, o3, hsep, hg0, hg1, hB3, hT3, TP, TC, TR, hB⟩ := hcut
          have lO := TO.lt
          have lR := TR.lt
          have zc := hB.size
          have e2 := TC.cell 2 rfl
          have r0 := TR.cell 0 rfl
          have r1 := TR.cell 1 rfl
          have r2 := TR.cell 2 rfl
          have rf := TR.free
          have of := TO.free
          have p2 := TP.cell 2 rfl
          have lP := TP.lt
          have o0 := TO.cell 0 rfl
          have o1 := TO.cell 1 rfl
          have o2 := TO.cell 2 rfl
          go_wp2_with fail
          refine (cloneC_any _ _ _ _ _ cs _ (hr2.belowT hB) hm).mono ?_
          rintro e w4 ⟨D4, rfl, o4, hb4⟩
          rw [HM.out] at o4 ⊢
          have z4 := hb4.size
          replace TO := TO.below hb4
          replace TC := TC.below hb4
          replace TR := TR.below hb4
          replace o3 := o3.fr (Fr.of_below hb4 T3 T3) (.inl (Nat.le_refl _))
          replace hB := Below.via hB hb4
          clear p2 o0 o1 o2 r0 r1 r2 rf of e2 hb4 TP hr hr2 lP
          have o0 := TO.cell 0 rfl
          have o1 := TO.cell 1 rfl
          have o2 := TO.cell 2 rfl
          have of := TO.free
          have lO4 := TO.lt
          go_wp2
          clear o0 o1 o2
          go_loopw [45] (fun i wr => ∃ q : Nat, q ≤ m ∧ i = .int .i64 q ∧ Own wr wc.heap.size w4.heap.size 45 4 D4 m m (caps ((cs.take q).map (mask r) ++ cs.drop q)) ∧ Blk wr g 30 #[.int .i64 l, .slice A3 n c3, .slice D4 m m] ∧ Blk wr (w.heap.size + 1) 45 #[.int .i64 4, .int .i64 o, .int .i64 r, .int .i64 b] ∧ Blk wr (w.heap.size + 1 + 1) 30 #[.int .i64 0, .slice none 0 0, .slice none 0 0] ∧ Own wr B3 T3 3 1 A3 n c3 (ints xs) ∧ Below w.heap.size w wr ∧ w4.heap.size ≤ wr.heap.size) (fun i _ => m - (intOf i).toNat)
          case atStart => exact ⟨0, by omega, rfl, by simpa using o4.set (p := ⟨g, 2, none⟩) (.inl hg1) (.slice D4 m m), TO.set 2 (.slice D4 m m), TC.other (p := ⟨g, 2, none⟩) (by show w.heap.size + 1 ≠ g; omega) _, TR.other (p := ⟨g, 2, none⟩) (by show w.heap.size + 1 + 1 ≠ g; omega) _, o3.set (p := ⟨g, 2, none⟩) hsep.symm _, by (repeat (first | (with_reducible assumption) | (with_reducible exact Below.refl _ _) | (with_reducible refine Below.setCell ?_ (by first | (simp; done) | (simp; omega) | omega) _) | (with_reducible refine Below.alloc ?_ (by first | (simp; done) | (simp; omega) | omega) _) | (with_reducible refine Below.drew ?_) | (with_reducible refine Below.drewN ?_ _))), by simp⟩
          case round =>
            clear o4 TO TC TR o3 hB lO lR zc of lO4
            obtain ⟨q, hq, rfl, o4, TO, TC, TR, o3, hB, zr⟩ := hrel
            have o0 := TO.cell 0 rfl
            have o1 := TO.cell 1 rfl
            have o2 := TO.cell 2 rfl
            have lO := TO.lt
            have lR := TR.lt
            by_cases hlt : q < m
            · obtain ⟨x, hx⟩ : ∃ x, cs[q]? = some x := ⟨_, List.getElem?_eq_getElem (by rw [HM.out]; exact hlt)⟩
              obtain ⟨kk, oo, rr, bb⟩ := x
              obtain ⟨gD, oD, rfl, k2, k3, k4, k5, k6, k7⟩ := o4.at_ (by omega)
              have hel := k5 (q * 4 + 2) (.int .i64 rr) (by rw [caps_get (map_drop_get hx) (by omega)]; rfl)
              have hfr := k6 (oD + (q * 4 + 2))
              have hset := k7 (q * 4 + 2) (.int .i64 (andI rr r)) (by rw [o4.1]; omega)
              rw [← caps_setR (map_drop_get hx), show (kk, oo, andI rr r, bb) = mask r (kk, oo, rr, bb) from rfl, map_drop_set hx] at hset
              rw [← Nat.add_assoc] at hel hfr hset
              unfold andI at hset
              have hqq : (q : Int) < (m : Int) := by omega
              have hq0 : (0 : Int) ≤ (q : Int) := by omega
              have c2 := TC.cell 2 rfl
              have lC := TC.lt
              clear k5 k6 k7 o4 hx
              go_wp2_with fail
              refine wp_region_noPanic ?_
              refine wp_region_held_drew (S := (fun W => W.cell? ⟨g, 2, none⟩ = some (.slice (some ⟨gD, oD, none⟩) m m) ∧ W.cell? ⟨w.heap.size + 1, 2, none⟩ = some (.int .i64 r))) (by kernel_rfl) ?_ (fun hHeld => ?_)
              focus (first | exact trivial | ((try dsimp only); ((repeat' (first | assumption | with_reducible refine And.intro ?_ ?_)) <;> go_keep))); done
              refine wpAnyH_take (i := 0) (v := ?_) (by rw [List.getElem?_toArray]; rfl) (by kernel_rfl) (by kernel_rfl) (by kernel_rfl) (fun _ _ _ h => h) (Or.inl ⟨by rfl, ?_⟩) (by assumption) ?_
              rotate_left
              focus (intro wS hSw; (try dsimp only at hSw); go_simp; (try with_reducible rfl)); done
              (try simp only [Act.put, List.setIfInBounds_toArray, List.set_cons_zero, List.set_cons_succ])
              refine wpAnyH_take (i := 1) (v := ?_) (by rw [List.getElem?_toArray]; rfl) (by kernel_rfl) (by kernel_rfl) (by kernel_rfl) (fun _ _ _ h => h) (Or.inl ⟨by rfl, ?_⟩) (by assumption) ?_
              rotate_left
              focus (intro wS hSw; (try dsimp only at hSw); go_simp; (try with_reducible rfl)); done
              (try simp only [Act.put, List.setIfInBounds_toArray, List.set_cons_zero, List.set_cons_succ])
              refine wpAnyH_take (i := 2) (v := ?_) (by rw [List.getElem?_toArray]; rfl) (by kernel_rfl) (by kernel_rfl) (by kernel_rfl) (fun _ _ _ h => h) (Or.inl ⟨by rfl, ?_⟩) (by assumption) ?_
              rotate_left
              focus (intro wS hSw; (try dsimp only at hSw); go_simp; (try with_reducible rfl)); done
              (try simp only [Act.put, List.setIfInBounds_toArray, List.set_cons_zero, List.set_cons_succ])
              refine wpAnyH_take (i := 3) (v := ?_) (by rw [List.getElem?_toArray]; rfl) (by kernel_rfl) (by kernel_rfl) (by kernel_rfl) (fun _ _ _ h => h) (Or.inl ⟨by rfl, ?_⟩) (by assumption) ?_
              rotate_left
              focus (intro wS hSw; (try dsimp only at hSw); go_simp; (try with_reducible rfl)); done
              (try simp only [Act.put, List.setIfInBounds_toArray, List.set_cons_zero, List.set_cons_succ])
              refine wpAnyH_take (i := 4) (v := ?_) (by rw [List.getElem?_toArray]; rfl) (by kernel_rfl) (by kernel_rfl) (by kernel_rfl) (fun _ _ _ h => h) (Or.inl ⟨by rfl, ?_⟩) (by assumption) ?_
              rotate_left
              focus (intro wS hSw; (try dsimp only at hSw); go_simp; (try with_reducible rfl)); done
              (try simp only [Act.put, List.setIfInBounds_toArray, List.set_cons_zero, List.set_cons_succ])
              refine wpAnyH_take (i := 6) (v := ?_) (by rw [List.getElem?_toArray]; rfl) (by kernel_rfl) (by kernel_rfl) (by kernel_rfl) (fun _ _ _ h => h) (Or.inl ⟨by rfl, ?_⟩) (by assumption) ?_
              rotate_left
              focus (intro wS hSw; (try dsimp only at hSw); go_simp; (try with_reducible rfl)); done
              (try simp only [Act.put, List.setIfInBounds_toArray, List.set_cons_zero, List.set_cons_succ])
              refine wpAnyH_take (i := 7) (v := ?_) (by rw [List.getElem?_toArray]; rfl) (by kernel_rfl) (by kernel_rfl) (by kernel_rfl) (fun _ _ _ h => h) (Or.inl ⟨by rfl, ?_⟩) (by assumption) ?_
              rotate_left
              focus (intro wS hSw; (try dsimp only at hSw); go_simp; (try with_reducible rfl)); done
              (try simp only [Act.put, List.setIfInBounds_toArray, List.set_cons_zero, List.set_cons_succ])
              refine wpAnyH_ready (rs := [5]) (by kernel_rfl) (by simp) ?_
              refine AllReadyH.cons (by rw [List.getElem?_toArray]; rfl) (fun K hK => ?_) AllReadyH.nil
              go_simp
              skip
              refine hK.out _ _ ?_ (fun hHeld => ?_)
              focus (first | exact trivial | ((try dsimp only); (exact ⟨o2, c2⟩))); done
              clear hK K
              (try simp only [Act.put, List.setIfInBounds_toArray, List.set_cons_zero, List.set_cons_succ])
              refine wpAnyH_take (i := 8) (v := ?_) (by rw [List.getElem?_toArray]; rfl) (by kernel_rfl) (by kernel_rfl) (by kernel_rfl) (fun _ _ _ h => h) (Or.inl ⟨by rfl, ?_⟩) (by assumption) ?_
              rotate_left
              focus (intro wS hSw; (try dsimp only at hSw); go_simp; (try with_reducible rfl)); done
              (try simp only [Act.put, List.setIfInBounds_toArray, List.set_cons_zero, List.set_cons_succ])
              refine wpAnyH_take (i := 9) (v := ?_) (by rw [List.getElem?_toArray]; rfl) (by kernel_rfl) (by kernel_rfl) (by kernel_rfl) (fun _ _ _ h => h) (Or.inl ⟨by rfl, ?_⟩) (by assumption) ?_
              rotate_left
              focus (intro wS hSw; (try dsimp only at hSw); go_simp; (try with_reducible rfl)); done
              (try simp only [Act.put, List.setIfInBounds_toArray, List.set_cons_zero, List.set_cons_succ])
              refine wpAnyH_take (i := 10) (v := ?_) (by rw [List.getElem?_toArray]; rfl) (by kernel_rfl) (by kernel_rfl) (by kernel_rfl) (fun _ _ _ h => h) (Or.inl ⟨by rfl, ?_⟩) (by assumption) ?_
              rotate_left
              focus (intro wS hSw; (try dsimp only at hSw); go_simp; (try with_reducible rfl)); done
              (try simp only [Act.put, List.setIfInBounds_toArray, List.set_cons_zero, List.set_cons_succ])
              refine wpAnyH_ready (rs := [11]) (by kernel_rfl) (by simp) ?_
              refine AllReadyH.cons (by rw [List.getElem?_toArray]; rfl) (fun K hK => ?_) AllReadyH.nil
              go_simp
              skip
              refine hK.out _ _ ?_ (fun hHeld => ?_)
              focus (first | exact trivial | ((try dsimp only); (exact ⟨(TO.other (p := ⟨gD, _, none⟩) (by show g ≠ gD; omega) _).cell 2 rfl, (TC.other (p := ⟨gD, _, none⟩) (by show w.heap.size + 1 ≠ gD; omega) _).cell 2 rfl⟩))); done
              clear hK K
              (try simp only [Act.put, List.setIfInBounds_toArray, List.set_cons_zero, List.set_cons_succ])
              refine wpAnyH_done (by kernel_rfl) ?_ _
              refine NoPanic.normal ?_
              go_wp2
              go_roundw
              case rel => exact ⟨q + 1, by omega, by go_num, hset, TO.other (by show g ≠ gD; omega) _, TC.other (by show w.heap.size + 1 ≠ gD; omega) _, TR.other (by show w.heap.size + 1 + 1 ≠ gD; omega) _, o3.set (.inr (by show T3 ≤ gD; omega)) _, by (repeat (first | (with_reducible assumption) | (with_reducible exact Below.refl _ _) | (with_reducible refine Below.setCell ?_ (by first | (simp; done) | (simp; omega) | omega) _) | (with_reducible refine Below.alloc ?_ (by first | (simp; done) | (simp; omega) | omega) _) | (with_reducible refine Below.drew ?_) | (with_reducible refine Below.drewN ?_ _))), by simp; omega⟩
              case measure => simp [intOf]; omega
            · have hkn : q = m := by omega
              subst hkn
              rw [List.take_of_length_le (by rw [HM.out]; exact Nat.le_refl _), List.drop_of_length_le (by rw [HM.out]; exact Nat.le_refl _), List.append_nil] at o4
              have r0 := TR.cell 0 rfl
              have r1 := TR.cell 1 rfl
              have r2 := TR.cell 2 rfl
              have rf := TR.free
              clear TO TC TR
              go_wp2
              refine bodyPost_ret (v := .tuple #[msg l A3 n c3 D4 q q, .bool true]) (by simp [results, Try.results29, go_sem, *]) rfl ?_
              rw [HP.out.1, HP.out.2.1, HP.out.2.2.1, HP.out.2.2.2]
              exact ⟨A3, c3, D4, q, wc.heap.size, by first | rw [HL.out, List.length_map, HM.out] | (rw [HL.out, List.length_map, HM.out]; rfl), by rw [HL.out]; exact Own.mono (B := B3) (T := T3) (by (repeat (first | (with_reducible assumption) | (with_reducible refine Own.alloc ?_ _) | (with_reducible refine Own.drew ?_) | (with_reducible refine Own.set ?_ (by first | (simp; done) | (simp; omega) | omega) _)))) (by omega) (by first | omega | (simp; done) | (simp; omega)), by rw [List.length_map, HM.out]; exact Own.mono (B := wc.heap.size) (T := w4.heap.size) (by (repeat (first | (with_reducible assumption) | (with_reducible refine Own.alloc ?_ _) | (with_reducible refine Own.drew ?_) | (with_reducible refine Own.set ?_ (by first | (simp; done) | (simp; omega) | omega) _)))) (Nat.le_refl _) (by first | omega | (simp; done) | (simp; omega)), by first | omega | (simp; omega), by first | omega | (simp; done) | (simp; omega), by (repeat (first | (with_reducible assumption) | (with_reducible exact Below.refl _ _) | (with_reducible refine Below.setCell ?_ (by first | (simp; done) | (simp; omega) | omega) _) | (with_reducible refine Below.alloc ?_ (by first | (simp; done) | (simp; omega) | omega) _) | (with_reducible refine Below.drew ?_) | (with_reducible refine Below.drewN ?_ _)))⟩
      · skip
        have HP := Lib.hid (send_yes0 HO.out h4)
        unfold andI at h3 h4
        go_enter Try.func29, Try.ntmps29
        go_wp2_with fail
        refine (iMessageValid_any _ _ _ _ _ _ l _ _ xs cs _ (hr.belowT hB) hn (hr2.belowT hB) hm).mono ?_
        rintro e w1 ⟨rfl, hb1⟩
        rw [h1]
        have z1 := hb1.size
        simp at z1
        replace TP := TP.below hb1
        replace TC := TC.below hb1
        replace TR := TR.below hb1
        replace hB := Below.via hB hb1
        clear hb1
        obtain ⟨e0, e1, e2, e3⟩ := TC.four
        go_wp2_with fail
        refine (iCapValid_any _ _ _ _ _).mono ?_
        rintro e w2 ⟨rfl, hb2⟩
        rw [h2]
        have z2 := hb2.size
        replace TP := TP.below hb2
        replace TC := TC.below hb2
        replace TR := TR.below hb2
        replace hB := Below.via hB hb2
        clear hb2 e0 e1 e2 e3
        obtain ⟨e0, e1, e2, e3⟩ := TC.four
        have p0 := TP.cell 0 rfl
        have p1 := TP.cell 1 rfl
        have p2 := TP.cell 2 rfl
        have lP := TP.lt
        have lR := TR.lt
        have hrw := hr.belowT hB
        go_upto_region 3 with (fail)
        go_cut [6] (fun u6 wx => CutO w w2 l A n c D m d 4 o r b xs u6 wx)
        case first =>
          refine wp_region_noPanic ?_
          refine wp_region_held_drew (S := (fun W => W.cell? ⟨w.heap.size, 0, none⟩ = some (.int .i64 l) ∧ W.cell? ⟨w.heap.size, 1, none⟩ = some (.slice A n c))) (by kernel_rfl) ?_ (fun hHeld => ?_)
          focus (first | exact trivial | ((try dsimp only); ((repeat' (first | assumption | with_reducible refine And.intro ?_ ?_)) <;> go_keep))); done
          refine wpAnyH_take (i := 0) (v := ?_) (by rw [List.getElem?_toArray]; rfl) (by kernel_rfl) (by kernel_rfl) (by kernel_rfl) (fun _ _ _ h => h) (Or.inl ⟨by rfl, ?_⟩) (by assumption) ?_
          rotate_left
          focus (intro wS hSw; (try dsimp only at hSw); go_simp; (try with_reducible rfl)); done
          (try simp only [Act.put, List.setIfInBounds_toArray, List.set_cons_zero, List.set_cons_succ])
          refine wpAnyH_take (i := 1) (v := ?_) (by rw [List.getElem?_toArray]; rfl) (by kernel_rfl) (by kernel_rfl) (by kernel_rfl) (fun _ _ _ h => h) (Or.inl ⟨by rfl, ?_⟩) (by assumption) ?_
          rotate_left
          focus (intro wS hSw; (try dsimp only at hSw); go_simp; (try with_reducible rfl)); done
          (try simp only [Act.put, List.setIfInBounds_toArray, List.set_cons_zero, List.set_cons_succ])
          refine wpAnyH_take (i := 2) (v := ?_) (by rw [List.getElem?_toArray]; rfl) (by kernel_rfl) (by kernel_rfl) (by kernel_rfl) (fun _ _ _ h => h) (Or.inl ⟨by rfl, ?_⟩) (by assumption) ?_
          rotate_left
          focus (intro wS hSw; (try dsimp only at hSw); go_simp; (try with_reducible rfl)); done
          (try simp only [Act.put, List.setIfInBounds_toArray, List.set_cons_zero, List.set_cons_succ])
          refine wpAnyH_take (i := 3) (v := ?_) (by rw [List.getElem?_toArray]; rfl) (by kernel_rfl) (by kernel_rfl) (by kernel_rfl) (fun _ _ _ h => h) (Or.inl ⟨by rfl, ?_⟩) (by assumption) ?_
          rotate_left
          focus (intro wS hSw; (try dsimp only at hSw); go_simp; (try with_reducible rfl)); done
          (try simp only [Act.put, List.setIfInBounds_toArray, List.set_cons_zero, List.set_cons_succ])
          refine wpAnyH_ready (rs := [4, 6]) (by kernel_rfl) (by simp) ?_
          refine AllReadyH.cons (by rw [List.getElem?_toArray]; rfl) (fun K hK => ?_) (AllReadyH.cons (by rw [List.getElem?_toArray]; rfl) (fun K hK => ?_) AllReadyH.nil)
          · go_simp
            refine (clone_any _ _ _ _ _ xs _ hrw.drew hn).mono ?_; rintro e w3 ⟨A3, c3, rfl, o3, hb3⟩; rw [HL.out] at o3 ⊢; replace hB := Below.via (by (repeat (first | (with_reducible assumption) | (with_reducible exact Below.refl _ _) | (with_reducible refine Below.setCell ?_ (by first | (simp; done) | (simp; omega) | omega) _) | (with_reducible refine Below.alloc ?_ (by first | (simp; done) | (simp; omega) | omega) _) | (with_reducible refine Below.drew ?_) | (with_reducible refine Below.drewN ?_ _))) : Below w.heap.size w _) hb3; have z3 := hb3.size; (try simp at z3); replace TP := (TP.drew).below hb3; replace TC := (TC.drew).below hb3; replace TR := (TR.drew).below hb3; clear e0 e1 e2 e3 p0 p1 p2 lP; have lP := TP.lt; have lR3 := TR.lt; replace o3 := o3.mono (B' := w2.heap.size) (T' := w3.heap.size) (by simp) (Nat.le_refl _)
            refine hK.out _ _ ?_ (fun hHeld => ?_)
            focus (first | exact trivial | ((try dsimp only); (exact ⟨TP.cell 0 rfl, TP.cell 1 rfl⟩))); done
            clear hK K
            (try simp only [Act.put, List.setIfInBounds_toArray, List.set_cons_zero, List.set_cons_succ])
            refine wpAnyH_take (i := 5) (v := ?_) (by rw [List.getElem?_toArray]; rfl) (by kernel_rfl) (by kernel_rfl) (by kernel_rfl) (fun _ _ _ h => h) (Or.inl ⟨by rfl, ?_⟩) (by assumption) ?_
            rotate_left
            focus (intro wS hSw; (try dsimp only at hSw); go_simp; (try with_reducible rfl)); done
            (try simp only [Act.put, List.setIfInBounds_toArray, List.set_cons_zero, List.set_cons_succ])
            refine wpAnyH_ready (rs := [6]) (by kernel_rfl) (by simp) ?_
            refine AllReadyH.cons (by rw [List.getElem?_toArray]; rfl) (fun K hK => ?_) AllReadyH.nil
            go_simp
            skip
            refine hK.out _ _ ?_ (fun hHeld => ?_)
            focus (first | exact trivial | ((try dsimp only); (exact ⟨(TP.alloc _).cell 0 rfl, (TP.alloc _).cell 1 rfl⟩))); done
            clear hK K
            (try simp only [Act.put, List.setIfInBounds_toArray, List.set_cons_zero, List.set_cons_succ])
            refine wpAnyH_ready (rs := [7]) (by kernel_rfl) (by simp) ?_
            refine AllReadyH.cons (by rw [List.getElem?_toArray]; rfl) (fun K hK => ?_) AllReadyH.nil
            go_simp
            skip
            refine hK.out _ _ ?_ (fun hHeld => ?_)
            focus (first | exact trivial | ((try dsimp only); ((refine ⟨?_, ?_⟩ <;> go_keep)))); done
            clear hK K
            (try simp only [Act.put, List.setIfInBounds_toArray, List.set_cons_zero, List.set_cons_succ])
            refine wpAnyH_done (by kernel_rfl) ?_ _
            refine NoPanic.normal ?_
            go_wp2_with fail
            go_meet
            exact ⟨w3.heap.size, A3, c3, w2.heap.size, w3.heap.size, rfl, Blk.newAt _ _ rfl, o3.alloc _, .inl (Nat.le_refl _), (by first | omega | (simp; done) | (simp; omega)), (by first | omega | (simp; done) | (simp; omega)), (by first | omega | (simp; done) | (simp; omega)), (by first | omega | (simp; done) | (simp; omega)), TP.alloc _, TC.alloc _, TR.alloc _, by (repeat (first | (with_reducible assumption) | (with_reducible exact Below.refl _ _) | (with_reducible refine Below.setCell ?_ (by first | (simp; done) | (simp; omega) | omega) _) | (with_reducible refine Below.alloc ?_ (by first | (simp; done) | (simp; omega) | omega) _) | (with_reducible refine Below.drew ?_) | (with_reducible refine Below.drewN ?_ _)))⟩
          · go_simp
            skip
            refine hK.out _ _ ?_ (fun hHeld => ?_)
            focus (first | exact trivial | ((try dsimp only); (exact ⟨(TP.drew.alloc (.cells #[.int .i64 0, .slice none 0 0, .slice none 0 0] 30)).cell 0 rfl, (TP.drew.alloc (.cells #[.int .i64 0, .slice none 0 0, .slice none 0 0] 30)).cell 1 rfl⟩))); done
            clear hK K
            (try simp only [Act.put, List.setIfInBounds_toArray, List.set_cons_zero, List.set_cons_succ])
            refine wpAnyH_ready (rs := [4]) (by kernel_rfl) (by simp) ?_
            refine AllReadyH.cons (by rw [List.getElem?_toArray]; rfl) (fun K hK => ?_) AllReadyH.nil
            go_simp
            refine (clone_any _ _ _ _ _ xs _ (hrw.drew.alloc _) hn).mono ?_; rintro e w3 ⟨A3, c3, rfl, o3, hb3⟩; rw [HL.out] at o3 ⊢; have TO := (Blk.newAt (w := w2.drew) (n := w2.heap.size) 30 #[.int .i64 0, .slice none 0 0, .slice none 0 0] rfl).below hb3; replace hB := Below.via (by (repeat (first | (with_reducible assumption) | (with_reducible exact Below.refl _ _) | (with_reducible refine Below.setCell ?_ (by first | (simp; done) | (simp; omega) | omega) _) | (with_reducible refine Below.alloc ?_ (by first | (simp; done) | (simp; omega) | omega) _) | (with_reducible refine Below.drew ?_) | (with_reducible refine Below.drewN ?_ _))) : Below w.heap.size w _) hb3; have z3 := hb3.size; (try simp at z3); replace TP := (TP.drew.alloc (.cells #[.int .i64 0, .slice none 0 0, .slice none 0 0] 30)).below hb3; replace TC := (TC.drew.alloc (.cells #[.int .i64 0, .slice none 0 0, .slice none 0 0] 30)).below hb3; replace TR := (TR.drew.alloc (.cells #[.int .i64 0, .slice none 0 0, .slice none 0 0] 30)).below hb3; clear e0 e1 e2 e3 p0 p1 p2 lP; have lP := TP.lt; have lR3 := TR.lt; have lO := TO.lt; have ofr := TO.free; have y0 := TO.cell 0 rfl; have y1 := TO.cell 1 rfl; have y2 := TO.cell 2 rfl; replace o3 := o3.mono (B' := w2.heap.size + 1) (T' := w3.heap.size) (by simp) (Nat.le_refl _)
            refine hK.out _ _ ?_ (fun hHeld => ?_)
            focus (first | exact trivial | ((try dsimp only); (exact ⟨TP.cell 0 rfl, TP.cell 1 rfl⟩))); done
            clear hK K
            (try simp only [Act.put, List.setIfInBounds_toArray, List.set_cons_zero, List.set_cons_succ])
            refine wpAnyH_take (i := 5) (v := ?_) (by rw [List.getElem?_toArray]; rfl) (by kernel_rfl) (by kernel_rfl) (by kernel_rfl) (fun _ _ _ h => h) (Or.inl ⟨by rfl, ?_⟩) (by assumption) ?_
            rotate_left
            focus (intro wS hSw; (try dsimp only at hSw); go_simp; (try with_reducible rfl)); done
            (try simp only [Act.put, List.setIfInBounds_toArray, List.set_cons_zero, List.set_cons_succ])
            refine wpAnyH_ready (rs := [7]) (by kernel_rfl) (by simp) ?_
            refine AllReadyH.cons (by rw [List.getElem?_toArray]; rfl) (fun K hK => ?_) AllReadyH.nil
            go_simp
            skip
            refine hK.out _ _ ?_ (fun hHeld => ?_)
            focus (first | exact trivial | ((try dsimp only); (exact ⟨(((TP.other (p := ⟨w2.heap.size, 0, none⟩) (by show w.heap.size ≠ w2.heap.size; omega) _).other (p := ⟨w2.heap.size, 1, none⟩) (by show w.heap.size ≠ w2.heap.size; omega) _).other (p := ⟨w2.heap.size, 2, none⟩) (by show w.heap.size ≠ w2.heap.size; omega) _).cell 0 rfl, (((TP.other (p := ⟨w2.heap.size, 0, none⟩) (by show w.heap.size ≠ w2.heap.size; omega) _).other (p := ⟨w2.heap.size, 1, none⟩) (by show w.heap.size ≠ w2.heap.size; omega) _).other (p := ⟨w2.heap.size, 2, none⟩) (by show w.heap.size ≠ w2.heap.size; omega) _).cell 1 rfl⟩))); done
            clear hK K
            (try simp only [Act.put, List.setIfInBounds_toArray, List.set_cons_zero, List.set_cons_succ])
            refine wpAnyH_done (by kernel_rfl) ?_ _
            refine NoPanic.normal ?_
            go_wp2_with fail
            go_meet
            exact ⟨w2.heap.size, A3, c3, w2.heap.size + 1, w3.heap.size, rfl, ((TO.set 0 (.int .i64 l)).set 1 (.slice A3 n c3)).set 2 (.slice none 0 0), ((o3.set (.inl (Nat.lt_succ_self _)) _).set (.inl (Nat.lt_succ_self _)) _).set (.inl (Nat.lt_succ_self _)) _, .inr (Nat.lt_succ_self _), (by first | omega | (simp; done) | (simp; omega)), (by first | omega | (simp; done) | (simp; omega)), (by first | omega | (simp; done) | (simp; omega)), (by first | omega | (simp; done) | (simp; omega)), by (repeat (first | (with_reducible assumption) | (with_reducible refine Blk.drew ?_) | (with_reducible refine Blk.other ?_ (by first | (simp; done) | (simp; omega) | omega) _) | (with_reducible refine Blk.alloc ?_ _))), by (repeat (first | (with_reducible assumption) | (with_reducible refine Blk.drew ?_) | (with_reducible refine Blk.other ?_ (by first | (simp; done) | (simp; omega) | omega) _) | (with_reducible refine Blk.alloc ?_ _))), by (repeat (first | (with_reducible assumption) | (with_reducible refine Blk.drew ?_) | (with_reducible refine Blk.other ?_ (by first | (simp; done) | (simp; omega) | omega) _) | (with_reducible refine Blk.alloc ?_ _))), by (repeat (first | (with_reducible assumption) | (with_reducible exact Below.refl _ _) | (with_reducible refine Below.setCell ?_ (by first | (simp; done) | (simp; omega) | omega) _) | (with_reducible refine Below.alloc ?_ (by first | (simp; done) | (simp; omega) | omega) _) | (with_reducible refine Below.drew ?_) | (with_reducible refine Below.drewN ?_ _)))⟩
        case rest =>
          clear TP TC TR hB e0 e1 e2 e3 p0 p1 p2 lP lR hrw
          obtain ⟨g, A3, c3, B3, T3, rfl, TO, o3, hsep, hg0, hg1, hB3, hT3, TP, TC, TR, hB⟩ := hcut
          have lO := TO.lt
          have lR := TR.lt
          have zc := hB.size
          have e2 := TC.cell 2 rfl
          have r0 := TR.cell 0 rfl
          have r1 := TR.cell 1 rfl
          have r2 := TR.cell 2 rfl
          have rf := TR.free
          have of := TO.free
          have o0 := TO.cell 0 rfl
          have o1 := TO.cell 1 rfl
          have o2 := TO.cell 2 rfl
          clear hr hr2 TP TC TR TO
          go_wp2
          refine bodyPost_ret (v := .tuple #[msg l A3 n c3 none 0 0, .bool true]) (by simp [results, Try.results29, go_sem, *]) rfl ?_
          rw [HP.out.1, HP.out.2.1, HP.out.2.2.1, HP.out.2.2.2]
          exact ⟨A3, c3, none, 0, wc.heap.size, by rw [HL.out]; rfl, by rw [HL.out]; exact Own.mono (B := B3) (T := T3) (by (repeat (first | (with_reducible assumption) | (with_reducible refine Own.alloc ?_ _) | (with_reducible refine Own.drew ?_) | (with_reducible refine Own.set ?_ (by first | (simp; done) | (simp; omega) | omega) _)))) (by omega) (by first | omega | (simp; done) | (simp; omega)), Own.nil _ _ _ _ _ _, by first | omega | (simp; omega), by first | omega | (simp; done) | (simp; omega), by (repeat (first | (with_reducible assumption) | (with_reducible exact Below.refl _ _) | (with_reducible refine Below.setCell ?_ (by first | (simp; done) | (simp; omega) | omega) _) | (with_reducible refine Below.alloc ?_ (by first | (simp; done) | (simp; omega) | omega) _) | (with_reducible refine Below.drew ?_) | (with_reducible refine Below.drewN ?_ _)))⟩
set_option maxRecDepth 10000 in
set_option maxHeartbeats 8000000 in
theorem sSendOver_any (B T n c m d : Nat) (l : Int) (A D : Option Addr) (xs : List Int) (cs : List Cp) (k o r b : Int) (w : World) (hr : Rd w B T 1 A n (ints xs)) (hn : n ≤ 1048576) (hr2 : Rd w B T 4 D m (caps cs)) (hm : m ≤ 1048576) :
    Calls Try.prog 27 #[msg l A n c D m d, capv k o r b] w (NewMsgB w (sendB l xs cs k o r b) (sendX l xs cs k o r b) (sendC l xs cs k o r b) (sendOk l xs cs k o r b)) := by
  obtain ⟨i0, hi0, hz0, hz1, hz2⟩ := info_parts Try.infoInt
  obtain ⟨j0, hj0, hy0, hy1, hy2⟩ := info_parts Try.infoCap
  have HL := Lib.hid (ints_len hr)
  have HM := Lib.hid (caps_len hr2)
  replace hr := hr.here Nat.one_pos
  replace hr2 := hr2.here (by omega)
  have TP := ((Blk.new w 30 #[.int .i64 l, .slice A n c, .slice D m d]).alloc (.cells #[.int .i64 k, .int .i64 o, .int .i64 r, .int .i64 b] 45)).alloc (.cells #[.int .i64 0, .slice none 0 0, .slice none 0 0] 30)
  have TC := (Blk.newAt (w := w.alloc (.cells #[.int .i64 l, .slice A n c, .slice D m d] 30)) (n := w.heap.size + 1) 45 #[.int .i64 k, .int .i64 o, .int .i64 r, .int .i64 b] (by simp)).alloc (.cells #[.int .i64 0, .slice none 0 0, .slice none 0 0] 30)
  have TR := Blk.newAt (w := (w.alloc (.cells #[.int .i64 l, .slice A n c, .slice D m d] 30)).alloc (.cells #[.int .i64 k, .int .i64 o, .int .i64 r, .int .i64 b] 45)) (n := w.heap.size + 1 + 1) 30 #[.int .i64 0, .slice none 0 0, .slice none 0 0] (by simp)
  have hB : Below w.heap.size w (((w.alloc (.cells #[.int .i64 l, .slice A n c, .slice D m d] 30)).alloc (.cells #[.int .i64 k, .int .i64 o, .int .i64 r, .int .i64 b] 45)).alloc (.cells #[.int .i64 0, .slice none 0 0, .slice none 0 0] 30)) := by (repeat (first | (with_reducible assumption) | (with_reducible exact Below.refl _ _) | (with_reducible refine Below.setCell ?_ (by first | (simp; done) | (simp; omega) | omega) _) | (with_reducible refine Below.alloc ?_ (by first | (simp; done) | (simp; omega) | omega) _) | (with_reducible refine Below.drew ?_) | (with_reducible refine Below.drewN ?_ _)))
  cases h1 : msgOk l xs cs
  · have HP := Lib.hid (send_no (k := k) (o := o) (r := r) (b := b) (send_no1 h1))
    go_enter Try.func27, Try.ntmps27
    go_wp2_with fail
    refine (sMessageValid_any _ _ _ _ _ _ l _ _ xs cs _ (hr.belowT hB) hn (hr2.belowT hB) hm).mono ?_
    rintro e w1 ⟨rfl, hb1⟩
    rw [h1]
    have z1 := hb1.size
    simp at z1
    replace TP := TP.below hb1
    replace TC := TC.below hb1
    replace TR := TR.below hb1
    replace hB := Below.via hB hb1
    clear hb1
    obtain ⟨e0, e1, e2, e3⟩ := TC.four
    have r0 := TR.cell 0 rfl
    have r1 := TR.cell 1 rfl
    have r2 := TR.cell 2 rfl
    have rf := TR.free
    have lR := TR.lt
    clear hr hr2 TP TC TR
    go_wp2
    refine bodyPost_ret (v := .tuple #[msg 0 none 0 0 none 0 0, .bool false]) (by simp [results, Try.results27, go_sem, *]) rfl ?_
    rw [HP.out.1, HP.out.2.1, HP.out.2.2.1, HP.out.2.2.2]
    exact newMsgB_nil (by (repeat (first | (with_reducible assumption) | (with_reducible exact Below.refl _ _) | (with_reducible refine Below.setCell ?_ (by first | (simp; done) | (simp; omega) | omega) _) | (with_reducible refine Below.alloc ?_ (by first | (simp; done) | (simp; omega) | omega) _) | (with_reducible refine Below.drew ?_) | (with_reducible refine Below.drewN ?_ _))))
  · skip
    cases h2 : capOk k o r b
    · have HP := Lib.hid (send_no (l := l) (xs := xs) (cs := cs) (send_no2 h2))
      go_enter Try.func27, Try.ntmps27
      go_wp2_with fail
      refine (sMessageValid_any _ _ _ _ _ _ l _ _ xs cs _ (hr.belowT hB) hn (hr2.belowT hB) hm).mono ?_
      rintro e w1 ⟨rfl, hb1⟩
      rw [h1]
      have z1 := hb1.size
      simp at z1
      replace TP := TP.below hb1
      replace TC := TC.below hb1
      replace TR := TR.below hb1
      replace hB := Below.via hB hb1
      clear hb1
      obtain ⟨e0, e1, e2, e3⟩ := TC.four
      go_wp2_with fail
      refine (sCapValid_any _ _ _ _ _).mono ?_
      rintro e w2 ⟨rfl, hb2⟩
      rw [h2]
      have z2 := hb2.size
      replace TP := TP.below hb2
      replace TC := TC.below hb2
      replace TR := TR.below hb2
      replace hB := Below.via hB hb2
      clear hb2 e0 e1 e2 e3
      obtain ⟨e0, e1, e2, e3⟩ := TC.four
      have r0 := TR.cell 0 rfl
      have r1 := TR.cell 1 rfl
      have r2 := TR.cell 2 rfl
      have rf := TR.free
      have lR := TR.lt
      clear hr hr2 TP TC TR
      go_wp2
      refine bodyPost_ret (v := .tuple #[msg 0 none 0 0 none 0 0, .bool false]) (by simp [results, Try.results27, go_sem, *]) rfl ?_
      rw [HP.out.1, HP.out.2.1, HP.out.2.2.1, HP.out.2.2.2]
      exact newMsgB_nil (by (repeat (first | (with_reducible assumption) | (with_reducible exact Below.refl _ _) | (with_reducible refine Below.setCell ?_ (by first | (simp; done) | (simp; omega) | omega) _) | (with_reducible refine Below.alloc ?_ (by first | (simp; done) | (simp; omega) | omega) _) | (with_reducible refine Below.drew ?_) | (with_reducible refine Below.drewN ?_ _))))
    · skip
      by_cases hk : k = 4
      case neg =>
        have hk4 : (k == 4) = false := by simp [hk]
        have HP := Lib.hid (send_no (l := l) (xs := xs) (cs := cs) (o := o) (r := r) (b := b) (send_no3 hk4))
        clear hk
        go_enter Try.func27, Try.ntmps27
        go_wp2_with fail
        refine (sMessageValid_any _ _ _ _ _ _ l _ _ xs cs _ (hr.belowT hB) hn (hr2.belowT hB) hm).mono ?_
        rintro e w1 ⟨rfl, hb1⟩
        rw [h1]
        have z1 := hb1.size
        simp at z1
        replace TP := TP.below hb1
        replace TC := TC.below hb1
        replace TR := TR.below hb1
        replace hB := Below.via hB hb1
        clear hb1
        obtain ⟨e0, e1, e2, e3⟩ := TC.four
        go_wp2_with fail
        refine (sCapValid_any _ _ _ _ _).mono ?_
        rintro e w2 ⟨rfl, hb2⟩
        rw [h2]
        have z2 := hb2.size
        replace TP := TP.below hb2
        replace TC := TC.below hb2
        replace TR := TR.below hb2
        replace hB := Below.via hB hb2
        clear hb2 e0 e1 e2 e3
        obtain ⟨e0, e1, e2, e3⟩ := TC.four
        have r0 := TR.cell 0 rfl
        have r1 := TR.cell 1 rfl
        have r2 := TR.cell 2 rfl
        have rf := TR.free
        have lR := TR.lt
        clear hr hr2 TP TC TR
        go_wp2
        refine bodyPost_ret (v := .tuple #[msg 0 none 0 0 none 0 0, .bool false]) (by simp [results, Try.results27, go_sem, *]) rfl ?_
        rw [HP.out.1, HP.out.2.1, HP.out.2.2.1, HP.out.2.2.2]
        exact newMsgB_nil (by (repeat (first | (with_reducible assumption) | (with_reducible exact Below.refl _ _) | (with_reducible refine Below.setCell ?_ (by first | (simp; done) | (simp; omega) | omega) _) | (with_reducible refine Below.alloc ?_ (by first | (simp; done) | (simp; omega) | omega) _) | (with_reducible refine Below.drew ?_) | (with_reducible refine Below.drewN ?_ _))))
      subst hk
      cases h3 : (andI r 2 == 0)
      case true =>
        have HP := Lib.hid (send_no (l := l) (xs := xs) (cs := cs) (k := 4) (o := o) (b := b) (send_no4 h3))
        unfold andI at h3
        go_enter Try.func27, Try.ntmps27
        go_wp2_with fail
        refine (sMessageValid_any _ _ _ _ _ _ l _ _ xs cs _ (hr.belowT hB) hn (hr2.belowT hB) hm).mono ?_
        rintro e w1 ⟨rfl, hb1⟩
        rw [h1]
        have z1 := hb1.size
        simp at z1
        replace TP := TP.below hb1
        replace TC := TC.below hb1
        replace TR := TR.below hb1
        replace hB := Below.via hB hb1
        clear hb1
        obtain ⟨e0, e1, e2, e3⟩ := TC.four
        go_wp2_with fail
        refine (sCapValid_any _ _ _ _ _).mono ?_
        rintro e w2 ⟨rfl, hb2⟩
        rw [h2]
        have z2 := hb2.size
        replace TP := TP.below hb2
        replace TC := TC.below hb2
        replace TR := TR.below hb2
        replace hB := Below.via hB hb2
        clear hb2 e0 e1 e2 e3
        obtain ⟨e0, e1, e2, e3⟩ := TC.four
        have r0 := TR.cell 0 rfl
        have r1 := TR.cell 1 rfl
        have r2 := TR.cell 2 rfl
        have rf := TR.free
        have lR := TR.lt
        clear hr hr2 TP TC TR
        go_wp2
        refine bodyPost_ret (v := .tuple #[msg 0 none 0 0 none 0 0, .bool false]) (by simp [results, Try.results27, go_sem, *]) rfl ?_
        rw [HP.out.1, HP.out.2.1, HP.out.2.2.1, HP.out.2.2.2]
        exact newMsgB_nil (by (repeat (first | (with_reducible assumption) | (with_reducible exact Below.refl _ _) | (with_reducible refine Below.setCell ?_ (by first | (simp; done) | (simp; omega) | omega) _) | (with_reducible refine Below.alloc ?_ (by first | (simp; done) | (simp; omega) | omega) _) | (with_reducible refine Below.drew ?_) | (with_reducible refine Below.drewN ?_ _))))
      have HO := Lib.hid (send_ok h1 h2 h3)
      have HLEN := Lib.hid (msgOk_small h1)
      have hlen := HLEN.out
      rw [HL.out, HM.out] at hlen
      obtain ⟨hn8, hm3⟩ := hlen
      cases h4 : (andI r 4 == 0)
      · skip
        have HP := Lib.hid (send_yes1 HO.out h4)
        unfold andI at h3 h4
        go_enter Try.func27, Try.ntmps27
        go_wp2_with fail
        refine (sMessageValid_any _ _ _ _ _ _ l _ _ xs cs _ (hr.belowT hB) hn (hr2.belowT hB) hm).mono ?_
        rintro e w1 ⟨rfl, hb1⟩
        rw [h1]
        have z1 := hb1.size
        simp at z1
        replace TP := TP.below hb1
        replace TC := TC.below hb1
        replace TR := TR.below hb1
        replace hB := Below.via hB hb1
        clear hb1
        obtain ⟨e0, e1, e2, e3⟩ := TC.four
        go_wp2_with fail
        refine (sCapValid_any _ _ _ _ _).mono ?_
        rintro e w2 ⟨rfl, hb2⟩
        rw [h2]
        have z2 := hb2.size
        replace TP := TP.below hb2
        replace TC := TC.below hb2
        replace TR := TR.below hb2
        replace hB := Below.via hB hb2
        clear hb2 e0 e1 e2 e3
        obtain ⟨e0, e1, e2, e3⟩ := TC.four
        have p0 := TP.cell 0 rfl
        have p1 := TP.cell 1 rfl
        have p2 := TP.cell 2 rfl
        have lP := TP.lt
        have lR := TR.lt
        have hrw := hr.belowT hB
        go_upto_region 3 with (fail)
        go_cut [6] (fun u6 wx => CutO w w2 l A n c D m d 4 o r b xs u6 wx)
        case first =>
          refine wp_region_noPanic ?_
          refine wp_region_held_drew (S := (fun W => W.cell? ⟨w.heap.size, 0, none⟩ = some (.int .i64 l) ∧ W.cell? ⟨w.heap.size, 1, none⟩ = some (.slice A n c))) (by kernel_rfl) ?_ (fun hHeld => ?_)
          focus (first | exact trivial | ((try dsimp only); ((repeat' (first | assumption | with_reducible refine And.intro ?_ ?_)) <;> go_keep))); done
          refine wpAnyH_take (i := 0) (v := ?_) (by rw [List.getElem?_toArray]; rfl) (by kernel_rfl) (by kernel_rfl) (by kernel_rfl) (fun _ _ _ h => h) (Or.inl ⟨by rfl, ?_⟩) (by assumption) ?_
          rotate_left
          focus (intro wS hSw; (try dsimp only at hSw); go_simp; (try with_reducible rfl)); done
          (try simp only [Act.put, List.setIfInBounds_toArray, List.set_cons_zero, List.set_cons_succ])
          refine wpAnyH_take (i := 1) (v := ?_) (by rw [List.getElem?_toArray]; rfl) (by kernel_rfl) (by kernel_rfl) (by kernel_rfl) (fun _ _ _ h => h) (Or.inl ⟨by rfl, ?_⟩) (by assumption) ?_
          rotate_left
          focus (intro wS hSw; (try dsimp only at hSw); go_simp; (try with_reducible rfl)); done
          (try simp only [Act.put, List.setIfInBounds_toArray, List.set_cons_zero, List.set_cons_succ])
          refine wpAnyH_take (i := 3) (v := ?_) (by rw [List.getElem?_toArray]; rfl) (by kernel_rfl) (by kernel_rfl) (by kernel_rfl) (fun _ _ _ h => h) (Or.inl ⟨by rfl, ?_⟩) (by assumption) ?_
          rotate_left
          focus (intro wS hSw; (try dsimp only at hSw); go_simp; (try with_reducible rfl)); done
          (try simp only [Act.put, List.setIfInBounds_toArray, List.set_cons_zero, List.set_cons_succ])
          refine wpAnyH_take (i := 4) (v := ?_) (by rw [List.getElem?_toArray]; rfl) (by kernel_rfl) (by kernel_rfl) (by kernel_rfl) (fun _ _ _ h => h) (Or.inl ⟨by rfl, ?_⟩) (by assumption) ?_
          rotate_left
          focus (intro wS hSw; (try dsimp only at hSw); go_simp; (try with_reducible rfl)); done
          (try simp only [Act.put, List.setIfInBounds_toArray, List.set_cons_zero, List.set_cons_succ])
          refine wpAnyH_ready (rs := [2, 7]) (by kernel_rfl) (by simp) ?_
          refine AllReadyH.cons (by rw [List.getElem?_toArray]; rfl) (fun K hK => ?_) (AllReadyH.cons (by rw [List.getElem?_toArray]; rfl) (fun K hK => ?_) AllReadyH.nil)
          · go_simp
            skip
            refine hK.out _ _ ?_ (fun hHeld => ?_)
            focus (first | exact trivial | ((try dsimp only); (exact ⟨(TP.drew.alloc (.cells #[] 3)).cell 0 rfl, (TP.drew.alloc (.cells #[] 3)).cell 1 rfl⟩))); done
            clear hK K
            (try simp only [Act.put, List.setIfInBounds_toArray, List.set_cons_zero, List.set_cons_succ])
            refine wpAnyH_ready (rs := [5, 7]) (by kernel_rfl) (by simp) ?_
            refine AllReadyH.cons (by rw [List.getElem?_toArray]; rfl) (fun K hK => ?_) (AllReadyH.cons (by rw [List.getElem?_toArray]; rfl) (fun K hK => ?_) AllReadyH.nil)
            · refine step_app _ rfl (.tmp 31) (.tmp 33) 22 rfl 3 i0 (.int .i64 0) 1 8 Try.underlying22 hi0 hz0 hz1 hz2 rfl (by omega) (w2.heap.size) 0 0 w.heap.size (some ⟨w2.heap.size, 0, none⟩) A 0 0 n c [] (ints xs) rfl (by rfl) (Own.nil _ _ _ _ _ _) (hrw.drew.alloc _) (ints_one _) (by unfold maxLen; omega) (by omega) (by (try simp) <;> omega) ?_; intro A3 c3 w3 o3 f3; rw [Nat.zero_add, List.nil_append] at o3; have hb3 := f3.below0; replace hB := Below.via (by (repeat (first | (with_reducible assumption) | (with_reducible exact Below.refl _ _) | (with_reducible refine Below.setCell ?_ (by first | (simp; done) | (simp; omega) | omega) _) | (with_reducible refine Below.alloc ?_ (by first | (simp; done) | (simp; omega) | omega) _) | (with_reducible refine Below.drew ?_) | (with_reducible refine Below.drewN ?_ _))) : Below w.heap.size w _) hb3; have z3 := hb3.size; (try simp at z3); replace TP := (TP.drew.alloc (.cells #[] 3)).below hb3; replace TC := (TC.drew.alloc (.cells #[] 3)).below hb3; replace TR := (TR.drew.alloc (.cells #[] 3)).below hb3; clear e0 e1 e2 e3 p0 p1 p2 lP; have lP := TP.lt; have lR3 := TR.lt
              refine hK.out _ _ ?_ (fun hHeld => ?_)
              focus (first | exact trivial | ((try dsimp only); (exact ⟨TP.cell 0 rfl, TP.cell 1 rfl⟩))); done
              clear hK K
              (try simp only [Act.put, List.setIfInBounds_toArray, List.set_cons_zero, List.set_cons_succ])
              refine wpAnyH_take (i := 6) (v := ?_) (by rw [List.getElem?_toArray]; rfl) (by kernel_rfl) (by kernel_rfl) (by kernel_rfl) (fun _ _ _ h => h) (Or.inl ⟨by rfl, ?_⟩) (by assumption) ?_
              rotate_left
              focus (intro wS hSw; (try dsimp only at hSw); go_simp; (try with_reducible rfl)); done
              (try simp only [Act.put, List.setIfInBounds_toArray, List.set_cons_zero, List.set_cons_succ])
              refine wpAnyH_ready (rs := [7]) (by kernel_rfl) (by simp) ?_
              refine AllReadyH.cons (by rw [List.getElem?_toArray]; rfl) (fun K hK => ?_) AllReadyH.nil
              go_simp
              skip
              refine hK.out _ _ ?_ (fun hHeld => ?_)
              focus (first | exact trivial | ((try dsimp only); (exact ⟨(TP.alloc _).cell 0 rfl, (TP.alloc _).cell 1 rfl⟩))); done
              clear hK K
              (try simp only [Act.put, List.setIfInBounds_toArray, List.set_cons_zero, List.set_cons_succ])
              refine wpAnyH_ready (rs := [8]) (by kernel_rfl) (by simp) ?_
              refine AllReadyH.cons (by rw [List.getElem?_toArray]; rfl) (fun K hK => ?_) AllReadyH.nil
              go_simp
              skip
              refine hK.out _ _ ?_ (fun hHeld => ?_)
              focus (first | exact trivial | ((try dsimp only); ((refine ⟨?_, ?_⟩ <;> go_keep)))); done
              clear hK K
              (try simp only [Act.put, List.setIfInBounds_toArray, List.set_cons_zero, List.set_cons_succ])
              refine wpAnyH_done (by kernel_rfl) ?_ _
              refine NoPanic.normal ?_
              go_wp2_with fail
              go_meet
              exact ⟨w3.heap.size, A3, c3, w2.heap.size, w3.heap.size, rfl, Blk.newAt _ _ rfl, o3.alloc _, .inl (Nat.le_refl _), (by first | omega | (simp; done) | (simp; omega)), (by first | omega | (simp; done) | (simp; omega)), (by first | omega | (simp; done) | (simp; omega)), (by first | omega | (simp; done) | (simp; omega)), TP.alloc _, TC.alloc _, TR.alloc _, by (repeat (first | (with_reducible assumption) | (with_reducible exact Below.refl _ _) | (with_reducible refine Below.setCell ?_ (by first | (simp; done) | (simp; omega) | omega) _) | (with_reducible refine Below.alloc ?_ (by first | (simp; done) | (simp; omega) | omega) _) | (with_reducible refine Below.drew ?_) | (with_reducible refine Below.drewN ?_ _)))⟩
            · go_simp
              skip
              refine hK.out _ _ ?_ (fun hHeld => ?_)
              focus (first | exact trivial | ((try dsimp only); (exact ⟨((TP.drew.alloc (.cells #[] 3)).alloc (.cells #[.int .i64 0, .slice none 0 0, .slice none 0 0] 30)).cell 0 rfl, ((TP.drew.alloc (.cells #[] 3)).alloc (.cells #[.int .i64 0, .slice none 0 0, .slice none 0 0] 30)).cell 1 rfl⟩))); done
              clear hK K
              (try simp only [Act.put, List.setIfInBounds_toArray, List.set_cons_zero, List.set_cons_succ])
              refine wpAnyH_ready (rs := [5]) (by kernel_rfl) (by simp) ?_
              refine AllReadyH.cons (by rw [List.getElem?_toArray]; rfl) (fun K hK => ?_) AllReadyH.nil
              refine step_app _ rfl (.tmp 31) (.tmp 33) 22 rfl 3 i0 (.int .i64 0) 1 8 Try.underlying22 hi0 hz0 hz1 hz2 rfl (by omega) (w2.heap.size + 1 + 1) 0 0 w.heap.size (some ⟨w2.heap.size, 0, none⟩) A 0 0 n c [] (ints xs) rfl (by rfl) (Own.nil _ _ _ _ _ _) ((hrw.drew.alloc _).alloc _) (ints_one _) (by unfold maxLen; omega) (by omega) (by (try simp) <;> omega) ?_; intro A3 c3 w3 o3 f3; rw [Nat.zero_add, List.nil_append] at o3; have hb3 := f3.below0; have TO := (Blk.newAt (w := w2.drew.alloc (.cells #[] 3)) (n := w2.heap.size + 1) 30 #[.int .i64 0, .slice none 0 0, .slice none 0 0] (by simp)).below hb3; replace hB := Below.via (by (repeat (first | (with_reducible assumption) | (with_reducible exact Below.refl _ _) | (with_reducible refine Below.setCell ?_ (by first | (simp; done) | (simp; omega) | omega) _) | (with_reducible refine Below.alloc ?_ (by first | (simp; done) | (simp; omega) | omega) _) | (with_reducible refine Below.drew ?_) | (with_reducible refine Below.drewN ?_ _))) : Below w.heap.size w _) hb3; have z3 := hb3.size; (try simp at z3); replace TP := ((TP.drew.alloc (.cells #[] 3)).alloc (.cells #[.int .i64 0, .slice none 0 0, .slice none 0 0] 30)).below hb3; replace TC := ((TC.drew.alloc (.cells #[] 3)).alloc (.cells #[.int .i64 0, .slice none 0 0, .slice none 0 0] 30)).below hb3; replace TR := ((TR.drew.alloc (.cells #[] 3)).alloc (.cells #[.int .i64 0, .slice none 0 0, .slice none 0 0] 30)).below hb3; clear e0 e1 e2 e3 p0 p1 p2 lP; have lP := TP.lt; have lR3 := TR.lt; have lO := TO.lt; have ofr := TO.free; have y0 := TO.cell 0 rfl; have y1 := TO.cell 1 rfl; have y2 := TO.cell 2 rfl
              refine hK.out _ _ ?_ (fun hHeld => ?_)
              focus (first | exact trivial | ((try dsimp only); (exact ⟨TP.cell 0 rfl, TP.cell 1 rfl⟩))); done
              clear hK K
              (try simp only [Act.put, List.setIfInBounds_toArray, List.set_cons_zero, List.set_cons_succ])
              refine wpAnyH_take (i := 6) (v := ?_) (by rw [List.getElem?_toArray]; rfl) (by kernel_rfl) (by kernel_rfl) (by kernel_rfl) (fun _ _ _ h => h) (Or.inl ⟨by rfl, ?_⟩) (by assumption) ?_
              rotate_left
              focus (intro wS hSw; (try dsimp only at hSw); go_simp; (try with_reducible rfl)); done
              (try simp only [Act.put, List.setIfInBounds_toArray, List.set_cons_zero, List.set_cons_succ])
              refine wpAnyH_ready (rs := [8]) (by kernel_rfl) (by simp) ?_
              refine AllReadyH.cons (by rw [List.getElem?_toArray]; rfl) (fun K hK => ?_) AllReadyH.nil
              go_simp
              skip
              refine hK.out _ _ ?_ (fun hHeld => ?_)
              focus (first | exact trivial | ((try dsimp only); (exact ⟨(((TP.other (p := ⟨w2.heap.size + 1, 0, none⟩) (by show w.heap.size ≠ w2.heap.size + 1; omega) _).other (p := ⟨w2.heap.size + 1, 1, none⟩) (by show w.heap.size ≠ w2.heap.size + 1; omega) _).other (p := ⟨w2.heap.size + 1, 2, none⟩) (by show w.heap.size ≠ w2.heap.size + 1; omega) _).cell 0 rfl, (((TP.other (p := ⟨w2.heap.size + 1, 0, none⟩) (by show w.heap.size ≠ w2.heap.size + 1; omega) _).other (p := ⟨w2.heap.size + 1, 1, none⟩) (by show w.heap.size ≠ w2.heap.size + 1; omega) _).other (p := ⟨w2.heap.size + 1, 2, none⟩) (by show w.heap.size ≠ w2.heap.size + 1; omega) _).cell 1 rfl⟩))); done
              clear hK K
              (try simp only [Act.put, List.setIfInBounds_toArray, List.set_cons_zero, List.set_cons_succ])
              refine wpAnyH_done (by kernel_rfl) ?_ _
              refine NoPanic.normal ?_
              go_wp2_with fail
              go_meet
              exact ⟨w2.heap.size + 1, A3, c3, w2.heap.size + 1 + 1, w3.heap.size, rfl, ((TO.set 0 (.int .i64 l)).set 1 (.slice A3 n c3)).set 2 (.slice none 0 0), ((o3.set (.inl (Nat.lt_succ_self _)) _).set (.inl (Nat.lt_succ_self _)) _).set (.inl (Nat.lt_succ_self _)) _, .inr (Nat.lt_succ_self _), (by first | omega | (simp; done) | (simp; omega)), (by first | omega | (simp; done) | (simp; omega)), (by first | omega | (simp; done) | (simp; omega)), (by first | omega | (simp; done) | (simp; omega)), by (repeat (first | (with_reducible assumption) | (with_reducible refine Blk.drew ?_) | (with_reducible refine Blk.other ?_ (by first | (simp; done) | (simp; omega) | omega) _) | (with_reducible refine Blk.alloc ?_ _))), by (repeat (first | (with_reducible assumption) | (with_reducible refine Blk.drew ?_) | (with_reducible refine Blk.other ?_ (by first | (simp; done) | (simp; omega) | omega) _) | (with_reducible refine Blk.alloc ?_ _))), by (repeat (first | (with_reducible assumption) | (with_reducible refine Blk.drew ?_) | (with_reducible refine Blk.other ?_ (by first | (simp; done) | (simp; omega) | omega) _) | (with_reducible refine Blk.alloc ?_ _))), by (repeat (first | (with_reducible assumption) | (with_reducible exact Below.refl _ _) | (with_reducible refine Below.setCell ?_ (by first | (simp; done) | (simp; omega) | omega) _) | (with_reducible refine Below.alloc ?_ (by first | (simp; done) | (simp; omega) | omega) _) | (with_reducible refine Below.drew ?_) | (with_reducible refine Below.drewN ?_ _)))⟩
          · go_simp
            skip
            refine hK.out _ _ ?_ (fun hHeld => ?_)
            focus (first | exact trivial | ((try dsimp only); (exact ⟨(TP.drew.alloc (.cells #[.int .i64 0, .slice none 0 0, .slice none 0 0] 30)).cell 0 rfl, (TP.drew.alloc (.cells #[.int .i64 0, .slice none 0 0, .slice none 0 0] 30)).cell 1 rfl⟩))); done
            clear hK K
            (try simp only [Act.put, List.setIfInBounds_toArray, List.set_cons_zero, List.set_cons_succ])
            refine wpAnyH_ready (rs := [2]) (by kernel_rfl) (by simp) ?_
            refine AllReadyH.cons (by rw [List.getElem?_toArray]; rfl) (fun K hK => ?_) AllReadyH.nil
            go_simp
            skip
            refine hK.out _ _ ?_ (fun hHeld => ?_)
            focus (first | exact trivial | ((try dsimp only); (exact ⟨((TP.drew.alloc (.cells #[.int .i64 0, .slice none 0 0, .slice none 0 0] 30)).alloc (.cells #[] 3)).cell 0 rfl, ((TP.drew.alloc (.cells #[.int .i64 0, .slice none 0 0, .slice none 0 0] 30)).alloc (.cells #[] 3)).cell 1 rfl⟩))); done
            clear hK K
            (try simp only [Act.put, List.setIfInBounds_toArray, List.set_cons_zero, List.set_cons_succ])
            refine wpAnyH_ready (rs := [5]) (by kernel_rfl) (by simp) ?_
            refine AllReadyH.cons (by rw [List.getElem?_toArray]; rfl) (fun K hK => ?_) AllReadyH.nil
            refine step_app _ rfl (.tmp 31) (.tmp 33) 22 rfl 3 i0 (.int .i64 0) 1 8 Try.underlying22 hi0 hz0 hz1 hz2 rfl (by omega) (w2.heap.size + 1) 0 0 w.heap.size (some ⟨w2.heap.size + 1, 0, none⟩) A 0 0 n c [] (ints xs) rfl (by rfl) (Own.nil _ _ _ _ _ _) ((hrw.drew.alloc _).alloc _) (ints_one _) (by unfold maxLen; omega) (by omega) (by (try simp) <;> omega) ?_; intro A3 c3 w3 o3 f3; rw [Nat.zero_add, List.nil_append] at o3; have hb3 := f3.below0; have TO := ((Blk.newAt (w := w2.drew) (n := w2.heap.size) 30 #[.int .i64 0, .slice none 0 0, .slice none 0 0] rfl).alloc (.cells #[] 3)).below hb3; replace hB := Below.via (by (repeat (first | (with_reducible assumption) | (with_reducible exact Below.refl _ _) | (with_reducible refine Below.setCell ?_ (by first | (simp; done) | (simp; omega) | omega) _) | (with_reducible refine Below.alloc ?_ (by first | (simp; done) | (simp; omega) | omega) _) | (with_reducible refine Below.drew ?_) | (with_reducible refine Below.drewN ?_ _))) : Below w.heap.size w _) hb3; have z3 := hb3.size; (try simp at z3); replace TP := ((TP.drew.alloc (.cells #[.int .i64 0, .slice none 0 0, .slice none 0 0] 30)).alloc (.cells #[] 3)).below hb3; replace TC := ((TC.drew.alloc (.cells #[.int .i64 0, .slice none 0 0, .slice none 0 0] 30)).alloc (.cells #[] 3)).below hb3; replace TR := ((TR.drew.alloc (.cells #[.int .i64 0, .slice none 0 0, .slice none 0 0] 30)).alloc (.cells #[] 3)).below hb3; clear e0 e1 e2 e3 p0 p1 p2 lP; have lP := TP.lt; have lR3 := TR.lt; have lO := TO.lt; have ofr := TO.free; have y0 := TO.cell 0 rfl; have y1 := TO.cell 1 rfl; have y2 := TO.cell 2 rfl
            refine hK.out _ _ ?_ (fun hHeld => ?_)
            focus (first | exact trivial | ((try dsimp only); (exact ⟨TP.cell 0 rfl, TP.cell 1 rfl⟩))); done
            clear hK K
            (try simp only [Act.put, List.setIfInBounds_toArray, List.set_cons_zero, List.set_cons_succ])
            refine wpAnyH_take (i := 6) (v := ?_) (by rw [List.getElem?_toArray]; rfl) (by kernel_rfl) (by kernel_rfl) (by kernel_rfl) (fun _ _ _ h => h) (Or.inl ⟨by rfl, ?_⟩) (by assumption) ?_
            rotate_left
            focus (intro wS hSw; (try dsimp only at hSw); go_simp; (try with_reducible rfl)); done
            (try simp only [Act.put, List.setIfInBounds_toArray, List.set_cons_zero, List.set_cons_succ])
            refine wpAnyH_ready (rs := [8]) (by kernel_rfl) (by simp) ?_
            refine AllReadyH.cons (by rw [List.getElem?_toArray]; rfl) (fun K hK => ?_) AllReadyH.nil
            go_simp
            skip
            refine hK.out _ _ ?_ (fun hHeld => ?_)
            focus (first | exact trivial | ((try dsimp only); (exact ⟨(((TP.other (p := ⟨w2.heap.size, 0, none⟩) (by show w.heap.size ≠ w2.heap.size; omega) _).other (p := ⟨w2.heap.size, 1, none⟩) (by show w.heap.size ≠ w2.heap.size; omega) _).other (p := ⟨w2.heap.size, 2, none⟩) (by show w.heap.size ≠ w2.heap.size; omega) _).cell 0 rfl, (((TP.other (p := ⟨w2.heap.size, 0, none⟩) (by show w.heap.size ≠ w2.heap.size; omega) _).other (p := ⟨w2.heap.size, 1, none⟩) (by show w.heap.size ≠ w2.heap.size; omega) _).other (p := ⟨w2.heap.size, 2, none⟩) (by show w.heap.size ≠ w2.heap.size; omega) _).cell 1 rfl⟩))); done
            clear hK K
            (try simp only [Act.put, List.setIfInBounds_toArray, List.set_cons_zero, List.set_cons_succ])
            refine wpAnyH_done (by kernel_rfl) ?_ _
            refine NoPanic.normal ?_
            go_wp2_with fail
            go_meet
            exact ⟨w2.heap.size, A3, c3, w2.heap.size + 1, w3.heap.size, rfl, ((TO.set 0 (.int .i64 l)).set 1 (.slice A3 n c3)).set 2 (.slice none 0 0), ((o3.set (.inl (Nat.lt_succ_self _)) _).set (.inl (Nat.lt_succ_self _)) _).set (.inl (Nat.lt_succ_self _)) _, .inr (Nat.lt_succ_self _), (by first | omega | (simp; done) | (simp; omega)), (by first | omega | (simp; done) | (simp; omega)), (by first | omega | (simp; done) | (simp; omega)), (by first | omega | (simp; done) | (simp; omega)), by (repeat (first | (with_reducible assumption) | (with_reducible refine Blk.drew ?_) | (with_reducible refine Blk.other ?_ (by first | (simp; done) | (simp; omega) | omega) _) | (with_reducible refine Blk.alloc ?_ _))), by (repeat (first | (with_reducible assumption) | (with_reducible refine Blk.drew ?_) | (with_reducible refine Blk.other ?_ (by first | (simp; done) | (simp; omega) | omega) _) | (with_reducible refine Blk.alloc ?_ _))), by (repeat (first | (with_reducible assumption) | (with_reducible refine Blk.drew ?_) | (with_reducible refine Blk.other ?_ (by first | (simp; done) | (simp; omega) | omega) _) | (with_reducible refine Blk.alloc ?_ _))), by (repeat (first | (with_reducible assumption) | (with_reducible exact Below.refl _ _) | (with_reducible refine Below.setCell ?_ (by first | (simp; done) | (simp; omega) | omega) _) | (with_reducible refine Below.alloc ?_ (by first | (simp; done) | (simp; omega) | omega) _) | (with_reducible refine Below.drew ?_) | (with_reducible refine Below.drewN ?_ _)))⟩
        case rest =>
          clear TP TC TR hB e0 e1 e2 e3 p0 p1 p2 lP lR hrw
          obtain ⟨g, A3, c3, B3, T3, rfl, TO, o3, hsep, hg0, hg1, hB3, hT3, TP, TC, TR, hB⟩ := hcut
          have lO := TO.lt
          have lR := TR.lt
          have zc := hB.size
          have e2 := TC.cell 2 rfl
          have r0 := TR.cell 0 rfl
          have r1 := TR.cell 1 rfl
          have r2 := TR.cell 2 rfl
          have rf := TR.free
          have of := TO.free
          go_wp2
          go_loopw [7] (fun i wr => ∃ q : Nat, q ≤ m ∧ i = .int .i64 q ∧ ∃ (D5 : Option Addr) (d5 : Nat), Blk wr g 30 #[.int .i64 l, .slice A3 n c3, .slice D5 q d5] ∧ Own wr wc.heap.size wr.heap.size 45 4 D5 q d5 (caps ((cs.take q).map (mask r))) ∧ Blk wr w.heap.size 30 #[.int .i64 l, .slice A n c, .slice D m d] ∧ Blk wr (w.heap.size + 1) 45 #[.int .i64 4, .int .i64 o, .int .i64 r, .int .i64 b] ∧ Blk wr (w.heap.size + 1 + 1) 30 #[.int .i64 0, .slice none 0 0, .slice none 0 0] ∧ Own wr B3 T3 3 1 A3 n c3 (ints xs) ∧ Below w.heap.size w wr ∧ wc.heap.size ≤ wr.heap.size) (fun i _ => m - (intOf i).toNat)
          case atStart => exact ⟨0, by omega, rfl, none, 0, TO, by rw [List.take_zero]; exact Own.nil _ _ _ _ _ _, TP, TC, TR, o3, hB, Nat.le_refl _⟩
          case round =>
            clear TO TP TC TR o3 hB lO lR zc of r0 r1 r2 rf e2
            obtain ⟨q, hq, rfl, D5, d5, TO, o4, TP, TC, TR, o3, hB, zr⟩ := hrel
            have o0 := TO.cell 0 rfl
            have o1 := TO.cell 1 rfl
            have o2 := TO.cell 2 rfl
            have of := TO.free
            have lO := TO.lt
            have lR := TR.lt
            have lP := TP.lt
            have p2 := TP.cell 2 rfl
            have e2 := TC.cell 2 rfl
            have lC := TC.lt
            by_cases hlt : q < m
            · obtain ⟨b9, o9, kk, oo, rr, bb, rfl, hbl, hx, y0, y1, y2, y3⟩ := cap_at (hr2.belowT hB) hlt
              have hqq : (q : Int) < (m : Int) := by omega
              have hq0 : (0 : Int) ≤ (q : Int) := by omega
              have HX := Lib.hid hx
              have hnew := cap_new (wr.alloc (.cells #[.int .i64 kk, .int .i64 oo, .int .i64 (bits .and .i64 rr r), .int .i64 bb] 45)) (wr.heap.size + 1) 45 (by simp) (mask r (kk, oo, rr, bb))
              have hone := caps_one [mask r (kk, oo, rr, bb)]
              rw [caps_cons, caps_nil, List.append_nil] at hone
              unfold mask andI at hnew hone
              dsimp only at hnew hone
              clear hx hr hr2
              go_wp2_with (at_builtin; refine wpList_app _ rfl (.tmp 61) (.tmp 63) 28 rfl 45 j0 (capv 0 0 0 0) 4 32 Try.underlying28 hj0 hy0 hy1 hy2 rfl (by omega) wc.heap.size wr.heap.size (wr.heap.size + 1) (wr.heap.size + 1 + 1) D5 (some ⟨wr.heap.size + 1, 0, none⟩) q d5 1 1 (caps ((cs.take q).map (mask r))) _ rfl rfl ((o4.alloc _).alloc _) hnew hone (by unfold maxLen; omega) (by omega) (by first | omega | (simp; omega)) ?_; intro A7 c7 w7 o7 f7; have z7 := f7.size; (try simp at z7); replace TO := ((TO.alloc (.cells #[.int .i64 kk, .int .i64 oo, .int .i64 (bits .and .i64 rr r), .int .i64 bb] 45)).alloc (.cells #[.int .i64 kk, .int .i64 oo, .int .i64 (bits .and .i64 rr r), .int .i64 bb] 45)).fr f7 (.inl (by omega)); replace TP := ((TP.alloc (.cells #[.int .i64 kk, .int .i64 oo, .int .i64 (bits .and .i64 rr r), .int .i64 bb] 45)).alloc (.cells #[.int .i64 kk, .int .i64 oo, .int .i64 (bits .and .i64 rr r), .int .i64 bb] 45)).fr f7 (.inl (by omega)); replace TC := ((TC.alloc (.cells #[.int .i64 kk, .int .i64 oo, .int .i64 (bits .and .i64 rr r), .int .i64 bb] 45)).alloc (.cells #[.int .i64 kk, .int .i64 oo, .int .i64 (bits .and .i64 rr r), .int .i64 bb] 45)).fr f7 (.inl (by omega)); replace TR := ((TR.alloc (.cells #[.int .i64 kk, .int .i64 oo, .int .i64 (bits .and .i64 rr r), .int .i64 bb] 45)).alloc (.cells #[.int .i64 kk, .int .i64 oo, .int .i64 (bits .and .i64 rr r), .int .i64 bb] 45)).fr f7 (.inl (by omega)); replace o3 := ((o3.alloc (.cells #[.int .i64 kk, .int .i64 oo, .int .i64 (bits .and .i64 rr r), .int .i64 bb] 45)).alloc (.cells #[.int .i64 kk, .int .i64 oo, .int .i64 (bits .and .i64 rr r), .int .i64 bb] 45)).fr f7 (.inl (by omega)); have hB7 := Below.trans (by (repeat (first | (with_reducible assumption) | (with_reducible exact Below.refl _ _) | (with_reducible refine Below.setCell ?_ (by first | (simp; done) | (simp; omega) | omega) _) | (with_reducible refine Below.alloc ?_ (by first | (simp; done) | (simp; omega) | omega) _) | (with_reducible refine Below.drew ?_) | (with_reducible refine Below.drewN ?_ _))) : Below w.heap.size w _) (f7.below (W := w.heap.size) (by omega) (by first | omega | (simp; omega))); clear o0 o1 o2 of lO lR lP p2 e2; have o0 := TO.cell 0 rfl; have o1 := TO.cell 1 rfl; have o2 := TO.cell 2 rfl; have of := TO.free; have lO := TO.lt)
              go_roundw
              case rel => exact ⟨q + 1, by omega, by go_num, A7, c7, TO.set 2 _, by have h := (o7.set (p := ⟨g, 2, none⟩) (.inl (by show g < wc.heap.size; omega)) (.slice A7 (q + 1) c7)); rw [List.take_add_one, HX.out, List.map_append, caps_append]; simpa [capC, caps, mask, andI] using h, TP.other (by show w.heap.size ≠ g; omega) _, TC.other (by show w.heap.size + 1 ≠ g; omega) _, TR.other (by show w.heap.size + 1 + 1 ≠ g; omega) _, o3.set hsep.symm _, by (repeat (first | (with_reducible assumption) | (with_reducible exact Below.refl _ _) | (with_reducible refine Below.setCell ?_ (by first | (simp; done) | (simp; omega) | omega) _) | (with_reducible refine Below.alloc ?_ (by first | (simp; done) | (simp; omega) | omega) _) | (with_reducible refine Below.drew ?_) | (with_reducible refine Below.drewN ?_ _))), by simp; omega⟩
              case measure => simp [intOf]; omega
            · have hkn : q = m := by omega
              subst hkn
              rw [List.take_of_length_le (by rw [HM.out]; exact Nat.le_refl _)] at o4
              have r0 := TR.cell 0 rfl
              have r1 := TR.cell 1 rfl
              have r2 := TR.cell 2 rfl
              have rf := TR.free
              clear TO TP TC TR hr hr2
              go_wp2
              refine bodyPost_ret (v := .tuple #[msg l A3 n c3 D5 q d5, .bool true]) (by simp [results, Try.results27, go_sem, *]) rfl ?_
              rw [HP.out.1, HP.out.2.1, HP.out.2.2.1, HP.out.2.2.2]
              exact ⟨A3, c3, D5, d5, wc.heap.size, by first | rw [HL.out, List.length_map, HM.out] | (rw [HL.out, List.length_map, HM.out]; rfl), by rw [HL.out]; exact Own.mono (B := B3) (T := T3) (by (repeat (first | (with_reducible assumption) | (with_reducible refine Own.alloc ?_ _) | (with_reducible refine Own.drew ?_) | (with_reducible refine Own.set ?_ (by first | (simp; done) | (simp; omega) | omega) _)))) (by omega) (by first | omega | (simp; done) | (simp; omega)), by rw [List.length_map, HM.out]; exact Own.mono (B := wc.heap.size) (T := wr.heap.size) (by (repeat (first | (with_reducible assumption) | (with_reducible refine Own.alloc ?_ _) | (with_reducible refine Own.drew ?_) | (with_reducible refine Own.set ?_ (by first | (simp; done) | (simp; omega) | omega) _)))) (Nat.le_refl _) (by first | omega | (simp; done) | (simp; omega)), by first | omega | (simp; omega), by first | omega | (simp; done) | (simp; omega), by (repeat (first | (with_reducible assumption) | (with_reducible exact Below.refl _ _) | (with_reducible refine Below.setCell ?_ (by first | (simp; done) | (simp; omega) | omega) _) | (with_reducible refine Below.alloc ?_ (by first | (simp; done) | (simp; omega) | omega) _) | (with_reducible refine Below.drew ?_) | (with_reducible refine Below.drewN ?_ _)))⟩
      · skip
        have HP := Lib.hid (send_yes0 HO.out h4)
        unfold andI at h3 h4
        go_enter Try.func27, Try.ntmps27
        go_wp2_with fail
        refine (sMessageValid_any _ _ _ _ _ _ l _ _ xs cs _ (hr.belowT hB) hn (hr2.belowT hB) hm).mono ?_
        rintro e w1 ⟨rfl, hb1⟩
        rw [h1]
        have z1 := hb1.size
        simp at z1
        replace TP := TP.below hb1
        replace TC := TC.below hb1
        replace TR := TR.below hb1
        replace hB := Below.via hB hb1
        clear hb1
        obtain ⟨e0, e1, e2, e3⟩ := TC.four
        go_wp2_with fail
        refine (sCapValid_any _ _ _ _ _).mono ?_
        rintro e w2 ⟨rfl, hb2⟩
        rw [h2]
        have z2 := hb2.size
        replace TP := TP.below hb2
        replace TC := TC.below hb2
        replace TR := TR.below hb2
        replace hB := Below.via hB hb2
        clear hb2 e0 e1 e2 e3
        obtain ⟨e0, e1, e2, e3⟩ := TC.four
        have p0 := TP.cell 0 rfl
        have p1 := TP.cell 1 rfl
        have p2 := TP.cell 2 rfl
        have lP := TP.lt
        have lR := TR.lt
        have hrw := hr.belowT hB
        go_upto_region 3 with (fail)
        go_cut [6] (fun u6 wx => CutO w w2 l A n c D m d 4 o r b xs u6 wx)
        case first =>
          refine wp_region_noPanic ?_
          refine wp_region_held_drew (S := (fun W => W.cell? ⟨w.heap.size, 0, none⟩ = some (.int .i64 l) ∧ W.cell? ⟨w.heap.size, 1, none⟩ = some (.slice A n c))) (by kernel_rfl) ?_ (fun hHeld => ?_)
          focus (first | exact trivial | ((try dsimp only); ((repeat' (first | assumption | with_reducible refine And.intro ?_ ?_)) <;> go_keep))); done
          refine wpAnyH_take (i := 0) (v := ?_) (by rw [List.getElem?_toArray]; rfl) (by kernel_rfl) (by kernel_rfl) (by kernel_rfl) (fun _ _ _ h => h) (Or.inl ⟨by rfl, ?_⟩) (by assumption) ?_
          rotate_left
          focus (intro wS hSw; (try dsimp only at hSw); go_simp; (try with_reducible rfl)); done
          (try simp only [Act.put, List.setIfInBounds_toArray, List.set_cons_zero, List.set_cons_succ])
          refine wpAnyH_take (i := 1) (v := ?_) (by rw [List.getElem?_toArray]; rfl) (by kernel_rfl) (by kernel_rfl) (by kernel_rfl) (fun _ _ _ h => h) (Or.inl ⟨by rfl, ?_⟩) (by assumption) ?_
          rotate_left
          focus (intro wS hSw; (try dsimp only at hSw); go_simp; (try with_reducible rfl)); done
          (try simp only [Act.put, List.setIfInBounds_toArray, List.set_cons_zero, List.set_cons_succ])
          refine wpAnyH_take (i := 3) (v := ?_) (by rw [List.getElem?_toArray]; rfl) (by kernel_rfl) (by kernel_rfl) (by kernel_rfl) (fun _ _ _ h => h) (Or.inl ⟨by rfl, ?_⟩) (by assumption) ?_
          rotate_left
          focus (intro wS hSw; (try dsimp only at hSw); go_simp; (try with_reducible rfl)); done
          (try simp only [Act.put, List.setIfInBounds_toArray, List.set_cons_zero, List.set_cons_succ])
          refine wpAnyH_take (i := 4) (v := ?_) (by rw [List.getElem?_toArray]; rfl) (by kernel_rfl) (by kernel_rfl) (by kernel_rfl) (fun _ _ _ h => h) (Or.inl ⟨by rfl, ?_⟩) (by assumption) ?_
          rotate_left
          focus (intro wS hSw; (try dsimp only at hSw); go_simp; (try with_reducible rfl)); done
          (try simp only [Act.put, List.setIfInBounds_toArray, List.set_cons_zero, List.set_cons_succ])
          refine wpAnyH_ready (rs := [2, 7]) (by kernel_rfl) (by simp) ?_
          refine AllReadyH.cons (by rw [List.getElem?_toArray]; rfl) (fun K hK => ?_) (AllReadyH.cons (by rw [List.getElem?_toArray]; rfl) (fun K hK => ?_) AllReadyH.nil)
          · go_simp
            skip
            refine hK.out _ _ ?_ (fun hHeld => ?_)
            focus (first | exact trivial | ((try dsimp only); (exact ⟨(TP.drew.alloc (.cells #[] 3)).cell 0 rfl, (TP.drew.alloc (.cells #[] 3)).cell 1 rfl⟩))); done
            clear hK K
            (try simp only [Act.put, List.setIfInBounds_toArray, List.set_cons_zero, List.set_cons_succ])
            refine wpAnyH_ready (rs := [5, 7]) (by kernel_rfl) (by simp) ?_
            refine AllReadyH.cons (by rw [List.getElem?_toArray]; rfl) (fun K hK => ?_) (AllReadyH.cons (by rw [List.getElem?_toArray]; rfl) (fun K hK => ?_) AllReadyH.nil)
            · refine step_app _ rfl (.tmp 31) (.tmp 33) 22 rfl 3 i0 (.int .i64 0) 1 8 Try.underlying22 hi0 hz0 hz1 hz2 rfl (by omega) (w2.heap.size) 0 0 w.heap.size (some ⟨w2.heap.size, 0, none⟩) A 0 0 n c [] (ints xs) rfl (by rfl) (Own.nil _ _ _ _ _ _) (hrw.drew.alloc _) (ints_one _) (by unfold maxLen; omega) (by omega) (by (try simp) <;> omega) ?_; intro A3 c3 w3 o3 f3; rw [Nat.zero_add, List.nil_append] at o3; have hb3 := f3.below0; replace hB := Below.via (by (repeat (first | (with_reducible assumption) | (with_reducible exact Below.refl _ _) | (with_reducible refine Below.setCell ?_ (by first | (simp; done) | (simp; omega) | omega) _) | (with_reducible refine Below.alloc ?_ (by first | (simp; done) | (simp; omega) | omega) _) | (with_reducible refine Below.drew ?_) | (with_reducible refine Below.drewN ?_ _))) : Below w.heap.size w _) hb3; have z3 := hb3.size; (try simp at z3); replace TP := (TP.drew.alloc (.cells #[] 3)).below hb3; replace TC := (TC.drew.alloc (.cells #[] 3)).below hb3; replace TR := (TR.drew.alloc (.cells #[] 3)).below hb3; clear e0 e1 e2 e3 p0 p1 p2 lP; have lP := TP.lt; have lR3 := TR.lt
              refine hK.out _ _ ?_ (fun hHeld => ?_)
              focus (first | exact trivial | ((try dsimp only); (exact ⟨TP.cell 0 rfl, TP.cell 1 rfl⟩))); done
              clear hK K
              (try simp only [Act.put, List.setIfInBounds_toArray, List.set_cons_zero, List.set_cons_succ])
              refine wpAnyH_take (i := 6) (v := ?_) (by rw [List.getElem?_toArray]; rfl) (by kernel_rfl) (by kernel_rfl) (by kernel_rfl) (fun _ _ _ h => h) (Or.inl ⟨by rfl, ?_⟩) (by assumption) ?_
              rotate_left
              focus (intro wS hSw; (try dsimp only at hSw); go_simp; (try with_reducible rfl)); done
              (try simp only [Act.put, List.setIfInBounds_toArray, List.set_cons_zero, List.set_cons_succ])
              refine wpAnyH_ready (rs := [7]) (by kernel_rfl) (by simp) ?_
              refine AllReadyH.cons (by rw [List.getElem?_toArray]; rfl) (fun K hK => ?_) AllReadyH.nil
              go_simp
              skip
              refine hK.out _ _ ?_ (fun hHeld => ?_)
              focus (first | exact trivial | ((try dsimp only); (exact ⟨(TP.alloc _).cell 0 rfl, (TP.alloc _).cell 1 rfl⟩))); done
              clear hK K
              (try simp only [Act.put, List.setIfInBounds_toArray, List.set_cons_zero, List.set_cons_succ])
              refine wpAnyH_ready (rs := [8]) (by kernel_rfl) (by simp) ?_
              refine AllReadyH.cons (by rw [List.getElem?_toArray]; rfl) (fun K hK => ?_) AllReadyH.nil
              go_simp
              skip
              refine hK.out _ _ ?_ (fun hHeld => ?_)
              focus (first | exact trivial | ((try dsimp only); ((refine ⟨?_, ?_⟩ <;> go_keep)))); done
              clear hK K
              (try simp only [Act.put, List.setIfInBounds_toArray, List.set_cons_zero, List.set_cons_succ])
              refine wpAnyH_done (by kernel_rfl) ?_ _
              refine NoPanic.normal ?_
              go_wp2_with fail
              go_meet
              exact ⟨w3.heap.size, A3, c3, w2.heap.size, w3.heap.size, rfl, Blk.newAt _ _ rfl, o3.alloc _, .inl (Nat.le_refl _), (by first | omega | (simp; done) | (simp; omega)), (by first | omega | (simp; done) | (simp; omega)), (by first | omega | (simp; done) | (simp; omega)), (by first | omega | (simp; done) | (simp; omega)), TP.alloc _, TC.alloc _, TR.alloc _, by (repeat (first | (with_reducible assumption) | (with_reducible exact Below.refl _ _) | (with_reducible refine Below.setCell ?_ (by first | (simp; done) | (simp; omega) | omega) _) | (with_reducible refine Below.alloc ?_ (by first | (simp; done) | (simp; omega) | omega) _) | (with_reducible refine Below.drew ?_) | (with_reducible refine Below.drewN ?_ _)))⟩
            · go_simp
              skip
              refine hK.out _ _ ?_ (fun hHeld => ?_)
              focus (first | exact trivial | ((try dsimp only); (exact ⟨((TP.drew.alloc (.cells #[] 3)).alloc (.cells #[.int .i64 0, .slice none 0 0, .slice none 0 0] 30)).cell 0 rfl, ((TP.drew.alloc (.cells #[] 3)).alloc (.cells #[.int .i64 0, .slice none 0 0, .slice none 0 0] 30)).cell 1 rfl⟩))); done
              clear hK K
              (try simp only [Act.put, List.setIfInBounds_toArray, List.set_cons_zero, List.set_cons_succ])
              refine wpAnyH_ready (rs := [5]) (by kernel_rfl) (by simp) ?_
              refine AllReadyH.cons (by rw [List.getElem?_toArray]; rfl) (fun K hK => ?_) AllReadyH.nil
              refine step_app _ rfl (.tmp 31) (.tmp 33) 22 rfl 3 i0 (.int .i64 0) 1 8 Try.underlying22 hi0 hz0 hz1 hz2 rfl (by omega) (w2.heap.size + 1 + 1) 0 0 w.heap.size (some ⟨w2.heap.size, 0, none⟩) A 0 0 n c [] (ints xs) rfl (by rfl) (Own.nil _ _ _ _ _ _) ((hrw.drew.alloc _).alloc _) (ints_one _) (by unfold maxLen; omega) (by omega) (by (try simp) <;> omega) ?_; intro A3 c3 w3 o3 f3; rw [Nat.zero_add, List.nil_append] at o3; have hb3 := f3.below0; have TO := (Blk.newAt (w := w2.drew.alloc (.cells #[] 3)) (n := w2.heap.size + 1) 30 #[.int .i64 0, .slice none 0 0, .slice none 0 0] (by simp)).below hb3; replace hB := Below.via (by (repeat (first | (with_reducible assumption) | (with_reducible exact Below.refl _ _) | (with_reducible refine Below.setCell ?_ (by first | (simp; done) | (simp; omega) | omega) _) | (with_reducible refine Below.alloc ?_ (by first | (simp; done) | (simp; omega) | omega) _) | (with_reducible refine Below.drew ?_) | (with_reducible refine Below.drewN ?_ _))) : Below w.heap.size w _) hb3; have z3 := hb3.size; (try simp at z3); replace TP := ((TP.drew.alloc (.cells #[] 3)).alloc (.cells #[.int .i64 0, .slice none 0 0, .slice none 0 0] 30)).below hb3; replace TC := ((TC.drew.alloc (.cells #[] 3)).alloc (.cells #[.int .i64 0, .slice none 0 0, .slice none 0 0] 30)).below hb3; replace TR := ((TR.drew.alloc (.cells #[] 3)).alloc (.cells #[.int .i64 0, .slice none 0 0, .slice none 0 0] 30)).below hb3; clear e0 e1 e2 e3 p0 p1 p2 lP; have lP := TP.lt; have lR3 := TR.lt; have lO := TO.lt; have ofr := TO.free; have y0 := TO.cell 0 rfl; have y1 := TO.cell 1 rfl; have y2 := TO.cell 2 rfl
              refine hK.out _ _ ?_ (fun hHeld => ?_)
              focus (first | exact trivial | ((try dsimp only); (exact ⟨TP.cell 0 rfl, TP.cell 1 rfl⟩))); done
              clear hK K
              (try simp only [Act.put, List.setIfInBounds_toArray, List.set_cons_zero, List.set_cons_succ])
              refine wpAnyH_take (i := 6) (v := ?_) (by rw [List.getElem?_toArray]; rfl) (by kernel_rfl) (by kernel_rfl) (by kernel_rfl) (fun _ _ _ h => h) (Or.inl ⟨by rfl, ?_⟩) (by assumption) ?_
              rotate_left
              focus (intro wS hSw; (try dsimp only at hSw); go_simp; (try with_reducible rfl)); done
              (try simp only [Act.put, List.setIfInBounds_toArray, List.set_cons_zero, List.set_cons_succ])
              refine wpAnyH_ready (rs := [8]) (by kernel_rfl) (by simp) ?_
              refine AllReadyH.cons (by rw [List.getElem?_toArray]; rfl) (fun K hK => ?_) AllReadyH.nil
              go_simp
              skip
              refine hK.out _ _ ?_ (fun hHeld => ?_)
              focus (first | exact trivial | ((try dsimp only); (exact ⟨(((TP.other (p := ⟨w2.heap.size + 1, 0, none⟩) (by show w.heap.size ≠ w2.heap.size + 1; omega) _).other (p := ⟨w2.heap.size + 1, 1, none⟩) (by show w.heap.size ≠ w2.heap.size + 1; omega) _).other (p := ⟨w2.heap.size + 1, 2, none⟩) (by show w.heap.size ≠ w2.heap.size + 1; omega) _).cell 0 rfl, (((TP.other (p := ⟨w2.heap.size + 1, 0, none⟩) (by show w.heap.size ≠ w2.heap.size + 1; omega) _).other (p := ⟨w2.heap.size + 1, 1, none⟩) (by show w.heap.size ≠ w2.heap.size + 1; omega) _).other (p := ⟨w2.heap.size + 1, 2, none⟩) (by show w.heap.size ≠ w2.heap.size + 1; omega) _).cell 1 rfl⟩))); done
              clear hK K
              (try simp only [Act.put, List.setIfInBounds_toArray, List.set_cons_zero, List.set_cons_succ])
              refine wpAnyH_done (by kernel_rfl) ?_ _
              refine NoPanic.normal ?_
              go_wp2_with fail
              go_meet
              exact ⟨w2.heap.size + 1, A3, c3, w2.heap.size + 1 + 1, w3.heap.size, rfl, ((TO.set 0 (.int .i64 l)).set 1 (.slice A3 n c3)).set 2 (.slice none 0 0), ((o3.set (.inl (Nat.lt_succ_self _)) _).set (.inl (Nat.lt_succ_self _)) _).set (.inl (Nat.lt_succ_self _)) _, .inr (Nat.lt_succ_self _), (by first | omega | (simp; done) | (simp; omega)), (by first | omega | (simp; done) | (simp; omega)), (by first | omega | (simp; done) | (simp; omega)), (by first | omega | (simp; done) | (simp; omega)), by (repeat (first | (with_reducible assumption) | (with_reducible refine Blk.drew ?_) | (with_reducible refine Blk.other ?_ (by first | (simp; done) | (simp; omega) | omega) _) | (with_reducible refine Blk.alloc ?_ _))), by (repeat (first | (with_reducible assumption) | (with_reducible refine Blk.drew ?_) | (with_reducible refine Blk.other ?_ (by first | (simp; done) | (simp; omega) | omega) _) | (with_reducible refine Blk.alloc ?_ _))), by (repeat (first | (with_reducible assumption) | (with_reducible refine Blk.drew ?_) | (with_reducible refine Blk.other ?_ (by first | (simp; done) | (simp; omega) | omega) _) | (with_reducible refine Blk.alloc ?_ _))), by (repeat (first | (with_reducible assumption) | (with_reducible exact Below.refl _ _) | (with_reducible refine Below.setCell ?_ (by first | (simp; done) | (simp; omega) | omega) _) | (with_reducible refine Below.alloc ?_ (by first | (simp; done) | (simp; omega) | omega) _) | (with_reducible refine Below.drew ?_) | (with_reducible refine Below.drewN ?_ _)))⟩
          · go_simp
            skip
            refine hK.out _ _ ?_ (fun hHeld => ?_)
            focus (first | exact trivial | ((try dsimp only); (exact ⟨(TP.drew.alloc (.cells #[.int .i64 0, .slice none 0 0, .slice none 0 0] 30)).cell 0 rfl, (TP.drew.alloc (.cells #[.int .i64 0, .slice none 0 0, .slice none 0 0] 30)).cell 1 rfl⟩))); done
            clear hK K
            (try simp only [Act.put, List.setIfInBounds_toArray, List.set_cons_zero, List.set_cons_succ])
            refine wpAnyH_ready (rs := [2]) (by kernel_rfl) (by simp) ?_
            refine AllReadyH.cons (by rw [List.getElem?_toArray]; rfl) (fun K hK => ?_) AllReadyH.nil
            go_simp
            skip
            refine hK.out _ _ ?_ (fun hHeld => ?_)
            focus (first | exact trivial | ((try dsimp only); (exact ⟨((TP.drew.alloc (.cells #[.int .i64 0, .slice none 0 0, .slice none 0 0] 30)).alloc (.cells #[] 3)).cell 0 rfl, ((TP.drew.alloc (.cells #[.int .i64 0, .slice none 0 0, .slice none 0 0] 30)).alloc (.cells #[] 3)).cell 1 rfl⟩))); done
            clear hK K
            (try simp only [Act.put, List.setIfInBounds_toArray, List.set_cons_zero, List.set_cons_succ])
            refine wpAnyH_ready (rs := [5]) (by kernel_rfl) (by simp) ?_
            refine AllReadyH.cons (by rw [List.getElem?_toArray]; rfl) (fun K hK => ?_) AllReadyH.nil
            refine step_app _ rfl (.tmp 31) (.tmp 33) 22 rfl 3 i0 (.int .i64 0) 1 8 Try.underlying22 hi0 hz0 hz1 hz2 rfl (by omega) (w2.heap.size + 1) 0 0 w.heap.size (some ⟨w2.heap.size + 1, 0, none⟩) A 0 0 n c [] (ints xs) rfl (by rfl) (Own.nil _ _ _ _ _ _) ((hrw.drew.alloc _).alloc _) (ints_one _) (by unfold maxLen; omega) (by omega) (by (try simp) <;> omega) ?_; intro A3 c3 w3 o3 f3; rw [Nat.zero_add, List.nil_append] at o3; have hb3 := f3.below0; have TO := ((Blk.newAt (w := w2.drew) (n := w2.heap.size) 30 #[.int .i64 0, .slice none 0 0, .slice none 0 0] rfl).alloc (.cells #[] 3)).below hb3; replace hB := Below.via (by (repeat (first | (with_reducible assumption) | (with_reducible exact Below.refl _ _) | (with_reducible refine Below.setCell ?_ (by first | (simp; done) | (simp; omega) | omega) _) | (with_reducible refine Below.alloc ?_ (by first | (simp; done) | (simp; omega) | omega) _) | (with_reducible refine Below.drew ?_) | (with_reducible refine Below.drewN ?_ _))) : Below w.heap.size w _) hb3; have z3 := hb3.size; (try simp at z3); replace TP := ((TP.drew.alloc (.cells #[.int .i64 0, .slice none 0 0, .slice none 0 0] 30)).alloc (.cells #[] 3)).below hb3; replace TC := ((TC.drew.alloc (.cells #[.int .i64 0, .slice none 0 0, .slice none 0 0] 30)).alloc (.cells #[] 3)).below hb3; replace TR := ((TR.drew.alloc (.cells #[.int .i64 0, .slice none 0 0, .slice none 0 0] 30)).alloc (.cells #[] 3)).below hb3; clear e0 e1 e2 e3 p0 p1 p2 lP; have lP := TP.lt; have lR3 := TR.lt; have lO := TO.lt; have ofr := TO.free; have y0 := TO.cell 0 rfl; have y1 := TO.cell 1 rfl; have y2 := TO.cell 2 rfl
            refine hK.out _ _ ?_ (fun hHeld => ?_)
            focus (first | exact trivial | ((try dsimp only); (exact ⟨TP.cell 0 rfl, TP.cell 1 rfl⟩))); done
            clear hK K
            (try simp only [Act.put, List.setIfInBounds_toArray, List.set_cons_zero, List.set_cons_succ])
            refine wpAnyH_take (i := 6) (v := ?_) (by rw [List.getElem?_toArray]; rfl) (by kernel_rfl) (by kernel_rfl) (by kernel_rfl) (fun _ _ _ h => h) (Or.inl ⟨by rfl, ?_⟩) (by assumption) ?_
            rotate_left
            focus (intro wS hSw; (try dsimp only at hSw); go_simp; (try with_reducible rfl)); done
            (try simp only [Act.put, List.setIfInBounds_toArray, List.set_cons_zero, List.set_cons_succ])
            refine wpAnyH_ready (rs := [8]) (by kernel_rfl) (by simp) ?_
            refine AllReadyH.cons (by rw [List.getElem?_toArray]; rfl) (fun K hK => ?_) AllReadyH.nil
            go_simp
            skip
            refine hK.out _ _ ?_ (fun hHeld => ?_)
            focus (first | exact trivial | ((try dsimp only); (exact ⟨(((TP.other (p := ⟨w2.heap.size, 0, none⟩) (by show w.heap.size ≠ w2.heap.size; omega) _).other (p := ⟨w2.heap.size, 1, none⟩) (by show w.heap.size ≠ w2.heap.size; omega) _).other (p := ⟨w2.heap.size, 2, none⟩) (by show w.heap.size ≠ w2.heap.size; omega) _).cell 0 rfl, (((TP.other (p := ⟨w2.heap.size, 0, none⟩) (by show w.heap.size ≠ w2.heap.size; omega) _).other (p := ⟨w2.heap.size, 1, none⟩) (by show w.heap.size ≠ w2.heap.size; omega) _).other (p := ⟨w2.heap.size, 2, none⟩) (by show w.heap.size ≠ w2.heap.size; omega) _).cell 1 rfl⟩))); done
            clear hK K
            (try simp only [Act.put, List.setIfInBounds_toArray, List.set_cons_zero, List.set_cons_succ])
            refine wpAnyH_done (by kernel_rfl) ?_ _
            refine NoPanic.normal ?_
            go_wp2_with fail
            go_meet
            exact ⟨w2.heap.size, A3, c3, w2.heap.size + 1, w3.heap.size, rfl, ((TO.set 0 (.int .i64 l)).set 1 (.slice A3 n c3)).set 2 (.slice none 0 0), ((o3.set (.inl (Nat.lt_succ_self _)) _).set (.inl (Nat.lt_succ_self _)) _).set (.inl (Nat.lt_succ_self _)) _, .inr (Nat.lt_succ_self _), (by first | omega | (simp; done) | (simp; omega)), (by first | omega | (simp; done) | (simp; omega)), (by first | omega | (simp; done) | (simp; omega)), (by first | omega | (simp; done) | (simp; omega)), by (repeat (first | (with_reducible assumption) | (with_reducible refine Blk.drew ?_) | (with_reducible refine Blk.other ?_ (by first | (simp; done) | (simp; omega) | omega) _) | (with_reducible refine Blk.alloc ?_ _))), by (repeat (first | (with_reducible assumption) | (with_reducible refine Blk.drew ?_) | (with_reducible refine Blk.other ?_ (by first | (simp; done) | (simp; omega) | omega) _) | (with_reducible refine Blk.alloc ?_ _))), by (repeat (first | (with_reducible assumption) | (with_reducible refine Blk.drew ?_) | (with_reducible refine Blk.other ?_ (by first | (simp; done) | (simp; omega) | omega) _) | (with_reducible refine Blk.alloc ?_ _))), by (repeat (first | (with_reducible assumption) | (with_reducible exact Below.refl _ _) | (with_reducible refine Below.setCell ?_ (by first | (simp; done) | (simp; omega) | omega) _) | (with_reducible refine Below.alloc ?_ (by first | (simp; done) | (simp; omega) | omega) _) | (with_reducible refine Below.drew ?_) | (with_reducible refine Below.drewN ?_ _)))⟩
        case rest =>
          clear TP TC TR hB e0 e1 e2 e3 p0 p1 p2 lP lR hrw
          obtain ⟨g, A3, c3, B3, T3, rfl, TO, o3, hsep, hg0, hg1, hB3, hT3, TP, TC, TR, hB⟩ := hcut
          have lO := TO.lt
          have lR := TR.lt
          have zc := hB.size
          have e2 := TC.cell 2 rfl
          have r0 := TR.cell 0 rfl
          have r1 := TR.cell 1 rfl
          have r2 := TR.cell 2 rfl
          have rf := TR.free
          have of := TO.free
          have o0 := TO.cell 0 rfl
          have o1 := TO.cell 1 rfl
          have o2 := TO.cell 2 rfl
          have p2 := TP.cell 2 rfl
          have lP := TP.lt
          go_wp2
          go_loopw [7] (fun i wr => i = .int .i64 0 ∧ wc = wr) (fun i _ => 0)
          case atStart => exact ⟨rfl, rfl⟩
          case round =>
            obtain ⟨rfl, rfl⟩ := hrel
            clear hr hr2 TP TC TR TO
            by_cases hm0 : m = 0
            · subst hm0
              go_wp2
              refine bodyPost_ret (v := .tuple #[msg l A3 n c3 none 0 0, .bool true]) (by simp [results, Try.results27, go_sem, *]) rfl ?_
              rw [HP.out.1, HP.out.2.1, HP.out.2.2.1, HP.out.2.2.2]
              exact ⟨A3, c3, none, 0, wc.heap.size, by rw [HL.out]; rfl, by rw [HL.out]; exact Own.mono (B := B3) (T := T3) (by (repeat (first | (with_reducible assumption) | (with_reducible refine Own.alloc ?_ _) | (with_reducible refine Own.drew ?_) | (with_reducible refine Own.set ?_ (by first | (simp; done) | (simp; omega) | omega) _)))) (by omega) (by first | omega | (simp; done) | (simp; omega)), Own.nil _ _ _ _ _ _, by first | omega | (simp; omega), by first | omega | (simp; done) | (simp; omega), by (repeat (first | (with_reducible assumption) | (with_reducible exact Below.refl _ _) | (with_reducible refine Below.setCell ?_ (by first | (simp; done) | (simp; omega) | omega) _) | (with_reducible refine Below.alloc ?_ (by first | (simp; done) | (simp; omega) | omega) _) | (with_reducible refine Below.drew ?_) | (with_reducible refine Below.drewN ?_ _)))⟩
            · have hm1 : (0 : Int) < (m : Int) := by omega
              go_wp2
              refine bodyPost_ret (v := .tuple #[msg l A3 n c3 none 0 0, .bool true]) (by simp [results, Try.results27, go_sem, *]) rfl ?_
              rw [HP.out.1, HP.out.2.1, HP.out.2.2.1, HP.out.2.2.2]
              exact ⟨A3, c3, none, 0, wc.heap.size, by rw [HL.out]; rfl, by rw [HL.out]; exact Own.mono (B := B3) (T := T3) (by (repeat (first | (with_reducible assumption) | (with_reducible refine Own.alloc ?_ _) | (with_reducible refine Own.drew ?_) | (with_reducible refine Own.set ?_ (by first | (simp; done) | (simp; omega) | omega) _)))) (by omega) (by first | omega | (simp; done) | (simp; omega)), Own.nil _ _ _ _ _ _, by first | omega | (simp; omega), by first | omega | (simp; done) | (simp; omega), by (repeat (first | (with_reducible assumption) | (with_reducible exact Below.refl _ _) | (with_reducible refine Below.setCell ?_ (by first | (simp; done) | (simp; omega) | omega) _) | (with_reducible refine Below.alloc ?_ (by first | (simp; done) | (simp; omega) | omega) _) | (with_reducible refine Below.drew ?_) | (with_reducible refine Below.drewN ?_ _)))⟩
end Go.Proofs.Ythbfpgdfigilaaa
