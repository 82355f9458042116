/- The walk of the law FnExactSendOver: it returns true and leaves all that was in memory as it was, for every message. -/
import Derived.Test.YthbfpgdfigilaaaSend3
namespace Go.Proofs.Ythbfpgdfigilaaa
set_option linter.unusedVariables false
open Go.RowKit
set_option maxRecDepth 100000 in
set_option maxHeartbeats 40000000 in
theorem law_ExactSendOver (B T n c m d : Nat) (l : Int) (A D : Option Addr) (xs : List Int) (cs : List Cp) (k o r b : Int) (w : World) (hr : Rd w B T 1 A n (ints xs)) (hr2 : Rd w B T 4 D m (caps cs)) (hml : n ≤ 9223372036854775807) (hml2 : m ≤ 9223372036854775807) :
    Calls Try.prog 6 #[msg l A n c D m d, capv k o r b] w fun e w' => e = .returned (.bool true) ∧ Below w.heap.size w w' := by
  have hl := ints_len hr
  subst hl
  have hl := caps_len hr2
  subst hl
  have hB := Below.refl w.heap.size w
  replace hr := hr.here Nat.one_pos
  replace hr2 := hr2.here (by omega)
  by_cases hs : xs.length + cs.length ≤ 1048576
  case neg =>
    go_enter Try.func6, Try.ntmps6
    go_wp2_with fail
    refine (szMessage_big _ _ _ _ _ _ _ _ hs hml hml2).mono ?_
    rintro e w1 ⟨rfl, hb1⟩
    go_wp2
    go_ret
    exact ⟨rfl, Below.via (by (repeat (first | (with_reducible assumption) | (with_reducible exact Below.refl _ _) | (with_reducible refine Below.setCell ?_ (by first | (simp; done) | (simp; omega) | omega) _) | (with_reducible refine Below.alloc ?_ (by first | (simp; done) | (simp; omega) | omega) _) | (with_reducible refine Below.drew ?_) | (with_reducible refine Below.drewN ?_ _))) : Below w.heap.size w _) hb1⟩
  have hn : xs.length ≤ 1048576 := by omega
  have hm : cs.length ≤ 1048576 := by omega
  have h0 : ¬ (1048576 - (xs.length : Int) - (cs.length : Int)) < 0 := by omega
  go_enter Try.func6, Try.ntmps6
  have TP := Blk.newAt (w := w) (n := w.heap.size) 25 #[.int .i64 (l), .slice A (xs.length) c, .slice D (cs.length) d] (by simp)
  have TC := Blk.newAt (w := (w.alloc (.cells #[.int .i64 (l), .slice A (xs.length) c, .slice D (cs.length) d] 25))) (n := w.heap.size + 1) 43 #[.int .i64 (k), .int .i64 (o), .int .i64 (r), .int .i64 (b)] (by simp)
  have hx8 : (sendX l xs cs k o r b).length ≤ 8 := sendX_len
  have hc3 : (sendC l xs cs k o r b).length ≤ 3 := sendC_len
  go_wp2_with fail
  refine (szMessage_ok _ _ _ _ _ _ _ _ hs).mono ?_
  rintro e w1 ⟨rfl, hb1⟩
  have z1 := hb1.size
  (try simp at z1)
  replace hr := hr.via hb1 (by (repeat (first | (with_reducible assumption) | (with_reducible exact Below.refl _ _) | (with_reducible refine Below.setCell ?_ (by first | (simp; done) | (simp; omega) | omega) _) | (with_reducible refine Below.alloc ?_ (by first | (simp; done) | (simp; omega) | omega) _) | (with_reducible refine Below.drew ?_) | (with_reducible refine Below.drewN ?_ _))))
  replace hr2 := hr2.via hb1 (by (repeat (first | (with_reducible assumption) | (with_reducible exact Below.refl _ _) | (with_reducible refine Below.setCell ?_ (by first | (simp; done) | (simp; omega) | omega) _) | (with_reducible refine Below.alloc ?_ (by first | (simp; done) | (simp; omega) | omega) _) | (with_reducible refine Below.drew ?_) | (with_reducible refine Below.drewN ?_ _))))
  replace TP := TP.via hb1 (by (repeat (first | (with_reducible assumption) | (with_reducible exact Below.refl _ _) | (with_reducible refine Below.setCell ?_ (by first | (simp; done) | (simp; omega) | omega) _) | (with_reducible refine Below.alloc ?_ (by first | (simp; done) | (simp; omega) | omega) _) | (with_reducible refine Below.drew ?_) | (with_reducible refine Below.drewN ?_ _))))
  replace TC := TC.via hb1 (by (repeat (first | (with_reducible assumption) | (with_reducible exact Below.refl _ _) | (with_reducible refine Below.setCell ?_ (by first | (simp; done) | (simp; omega) | omega) _) | (with_reducible refine Below.alloc ?_ (by first | (simp; done) | (simp; omega) | omega) _) | (with_reducible refine Below.drew ?_) | (with_reducible refine Below.drewN ?_ _))))
  replace hB := Below.via (by (repeat (first | (with_reducible assumption) | (with_reducible exact Below.refl _ _) | (with_reducible refine Below.setCell ?_ (by first | (simp; done) | (simp; omega) | omega) _) | (with_reducible refine Below.alloc ?_ (by first | (simp; done) | (simp; omega) | omega) _) | (with_reducible refine Below.drew ?_) | (with_reducible refine Below.drewN ?_ _))) : Below w.heap.size w _) hb1
  clear hb1
  have cP_0 := TP.cell 0 rfl
  have cP_1 := TP.cell 1 rfl
  have cP_2 := TP.cell 2 rfl
  have lP := TP.lt
  have cC_0 := TC.cell 0 rfl
  have cC_1 := TC.cell 1 rfl
  have cC_2 := TC.cell 2 rfl
  have cC_3 := TC.cell 3 rfl
  have lC := TC.lt
  go_upto_region 5 with (fail)
  go_cut [6, 7] (fun u6 u7 wx => CutM w1 (sendB l xs cs k o r b) (sendX l xs cs k o r b) (sendC l xs cs k o r b) (sendOk l xs cs k o r b) u6 u7 wx)
  case first =>
    have hS0 := Below.refl w1.heap.size w1
    refine wp_region_noPanic ?_
    refine wp_region_held_drew (S := (fun W => W.cell? ⟨w.heap.size, 0, none⟩ = some (.int .i64 (l)) ∧ W.cell? ⟨w.heap.size, 1, none⟩ = some (.slice A (xs.length) c) ∧ W.cell? ⟨w.heap.size, 2, none⟩ = some (.slice D (cs.length) d) ∧ W.cell? ⟨w.heap.size + 1, 0, none⟩ = some (.int .i64 (k)) ∧ W.cell? ⟨w.heap.size + 1, 1, none⟩ = some (.int .i64 (o)) ∧ W.cell? ⟨w.heap.size + 1, 2, none⟩ = some (.int .i64 (r)) ∧ W.cell? ⟨w.heap.size + 1, 3, none⟩ = some (.int .i64 (b)))) (by kernel_rfl) ?_ (fun hHeld => ?_)
    focus (first | exact trivial | ((try dsimp only); ((repeat' (first | assumption | with_reducible refine And.intro ?_ ?_)) <;> go_keep))); done
    refine wpAnyH_take (i := 0) (v := ?_) (by rw [List.getElem?_toArray]; rfl) (by kernel_rfl) (by kernel_rfl) (by kernel_rfl) (fun _ _ _ h => h) (Or.inl ⟨by rfl, ?_⟩) (by assumption) ?_
    rotate_left
    focus (intro wS hSw; (try dsimp only at hSw); go_simp; (try with_reducible rfl)); done
    (try simp only [Act.put, List.setIfInBounds_toArray, List.set_cons_zero, List.set_cons_succ])
    refine wpAnyH_take (i := 2) (v := ?_) (by rw [List.getElem?_toArray]; rfl) (by kernel_rfl) (by kernel_rfl) (by kernel_rfl) (fun _ _ _ h => h) (Or.inl ⟨by rfl, ?_⟩) (by assumption) ?_
    rotate_left
    focus (intro wS hSw; (try dsimp only at hSw); go_simp; (try with_reducible rfl)); done
    (try simp only [Act.put, List.setIfInBounds_toArray, List.set_cons_zero, List.set_cons_succ])
    refine wpAnyH_ready (rs := [1, 8]) (by kernel_rfl) (by simp) ?_
    refine AllReadyH.cons (by rw [List.getElem?_toArray]; rfl) (fun K hK => ?_) (AllReadyH.cons (by rw [List.getElem?_toArray]; rfl) (fun K hK => ?_) AllReadyH.nil)
    · go_simp
      refine (toMessage_any _ _ xs.length c cs.length d l A D xs cs _ (hr.drew) hn (hr2.drew) hm).mono ?_; rintro e w50 ⟨AT, cT, DT, dT, MT, rfl, oT, pT, maT, mbT, hbS⟩; have hS := Below.via (by (repeat (first | (with_reducible assumption) | (with_reducible exact Below.refl _ _) | (with_reducible refine Below.setCell ?_ (by first | (simp; done) | (simp; omega) | omega) _) | (with_reducible refine Below.alloc ?_ (by first | (simp; done) | (simp; omega) | omega) _) | (with_reducible refine Below.drew ?_) | (with_reducible refine Below.drewN ?_ _))) : Below w1.heap.size w1 _) hbS; have zw50 := hS.size; clear hS0; have hS0 := hS; clear hS; replace TP := (TP.drew).below hbS; replace TC := (TC.drew).below hbS; replace hr := (hr.drew).below hbS; replace hr2 := (hr2.drew).below hbS; have zzw50 := hbS.size; (try simp at zzw50); clear hbS
      refine hK.out _ _ ?_ (fun hHeld => ?_)
      focus (first | exact trivial | ((try dsimp only); (exact ⟨TP.cell 0 rfl, TP.cell 1 rfl, TP.cell 2 rfl, TC.cell 0 rfl, TC.cell 1 rfl, TC.cell 2 rfl, TC.cell 3 rfl⟩))); done
      clear hK K
      (try simp only [Act.put, List.setIfInBounds_toArray, List.set_cons_zero, List.set_cons_succ])
      refine wpAnyH_ready (rs := [3, 8]) (by kernel_rfl) (by simp) ?_
      refine AllReadyH.cons (by rw [List.getElem?_toArray]; rfl) (fun K hK => ?_) (AllReadyH.cons (by rw [List.getElem?_toArray]; rfl) (fun K hK => ?_) AllReadyH.nil)
      · go_simp
        refine (toCap_any _ _ _ _ _).mono ?_; rintro e w51 ⟨rfl, hbS⟩; have hS := Below.via (by (repeat (first | (with_reducible assumption) | (with_reducible exact Below.refl _ _) | (with_reducible refine Below.setCell ?_ (by first | (simp; done) | (simp; omega) | omega) _) | (with_reducible refine Below.alloc ?_ (by first | (simp; done) | (simp; omega) | omega) _) | (with_reducible refine Below.drew ?_) | (with_reducible refine Below.drewN ?_ _))) : Below w1.heap.size w1 _) hbS; have zw51 := hS.size; clear hS0; have hS0 := hS; clear hS; replace TP := TP.below hbS; replace TC := TC.below hbS; replace hr := hr.below hbS; replace hr2 := hr2.below hbS; replace oT := oT.below hbS; replace pT := pT.below hbS; have zzw51 := hbS.size; (try simp at zzw51); clear hbS
        refine hK.out _ _ ?_ (fun hHeld => ?_)
        focus (first | exact trivial | ((try dsimp only); (exact ⟨TP.cell 0 rfl, TP.cell 1 rfl, TP.cell 2 rfl, TC.cell 0 rfl, TC.cell 1 rfl, TC.cell 2 rfl, TC.cell 3 rfl⟩))); done
        clear hK K
        (try simp only [Act.put, List.setIfInBounds_toArray, List.set_cons_zero, List.set_cons_succ])
        refine wpAnyH_ready (rs := [4, 8]) (by kernel_rfl) (by simp) ?_
        refine AllReadyH.cons (by rw [List.getElem?_toArray]; rfl) (fun K hK => ?_) (AllReadyH.cons (by rw [List.getElem?_toArray]; rfl) (fun K hK => ?_) AllReadyH.nil)
        · go_simp
          refine (sSendOver_any _ _ _ _ _ _ l _ _ xs cs k o r b _ (oT.rd.here Nat.one_pos) hn (pT.rd.here (by omega)) hm).mono ?_; rintro e w52 ⟨AS, cS, DS, dS, MS, rfl, oS, pS, maS, mbS, hbS⟩; have hS := Below.via (by (repeat (first | (with_reducible assumption) | (with_reducible exact Below.refl _ _) | (with_reducible refine Below.setCell ?_ (by first | (simp; done) | (simp; omega) | omega) _) | (with_reducible refine Below.alloc ?_ (by first | (simp; done) | (simp; omega) | omega) _) | (with_reducible refine Below.drew ?_) | (with_reducible refine Below.drewN ?_ _))) : Below w1.heap.size w1 _) hbS; have zw52 := hS.size; clear hS0; have hS0 := hS; clear hS; replace TP := TP.below hbS; replace TC := TC.below hbS; replace hr := hr.below hbS; replace hr2 := hr2.below hbS; replace oT := oT.below hbS; replace pT := pT.below hbS; have bS0 : w51.heap.size ≤ MS := (by simpa using maS); replace oS := oS.mono (B' := w51.heap.size) (T' := MS) (by simp) (Nat.le_refl _); obtain ⟨bS, hbS0⟩ : ∃ q, q = w51.heap.size := ⟨_, rfl⟩; rw [← hbS0] at oS bS0; clear oT pT; have zzw52 := hbS.size; (try simp at zzw52); clear hbS
          refine hK.out _ _ ?_ (fun hHeld => ?_)
          focus (first | exact trivial | ((try dsimp only); (exact ⟨TP.cell 0 rfl, TP.cell 1 rfl, TP.cell 2 rfl, TC.cell 0 rfl, TC.cell 1 rfl, TC.cell 2 rfl, TC.cell 3 rfl⟩))); done
          clear hK K
          (try simp only [Act.put, List.setIfInBounds_toArray, List.set_cons_zero, List.set_cons_succ])
          refine wpAnyH_take (i := 5) (v := ?_) (by rw [List.getElem?_toArray]; rfl) (by kernel_rfl) (by kernel_rfl) (by kernel_rfl) (fun _ _ _ h => h) (Or.inl ⟨by rfl, ?_⟩) (by assumption) ?_
          rotate_left
          focus (intro wS hSw; (try dsimp only at hSw); go_simp; (try with_reducible rfl)); done
          (try simp only [Act.put, List.setIfInBounds_toArray, List.set_cons_zero, List.set_cons_succ])
          refine wpAnyH_take (i := 6) (v := ?_) (by rw [List.getElem?_toArray]; rfl) (by kernel_rfl) (by kernel_rfl) (by kernel_rfl) (fun _ _ _ h => h) (Or.inl ⟨by rfl, ?_⟩) (by assumption) ?_
          rotate_left
          focus (intro wS hSw; (try dsimp only at hSw); go_simp; (try with_reducible rfl)); done
          (try simp only [Act.put, List.setIfInBounds_toArray, List.set_cons_zero, List.set_cons_succ])
          refine wpAnyH_take (i := 7) (v := ?_) (by rw [List.getElem?_toArray]; rfl) (by kernel_rfl) (by kernel_rfl) (by kernel_rfl) (fun _ _ _ h => h) (Or.inl ⟨by rfl, ?_⟩) (by assumption) ?_
          rotate_left
          focus (intro wS hSw; (try dsimp only at hSw); go_simp; (try with_reducible rfl)); done
          (try simp only [Act.put, List.setIfInBounds_toArray, List.set_cons_zero, List.set_cons_succ])
          refine wpAnyH_ready (rs := [8]) (by kernel_rfl) (by simp) ?_
          refine AllReadyH.cons (by rw [List.getElem?_toArray]; rfl) (fun K hK => ?_) AllReadyH.nil
          go_simp
          skip
          refine hK.out _ _ ?_ (fun hHeld => ?_)
          focus (first | exact trivial | ((try dsimp only); (exact ⟨(TP.alloc (.cells #[.int .i64 0, .slice none 0 0, .slice none 0 0] 30)).cell 0 rfl, (TP.alloc (.cells #[.int .i64 0, .slice none 0 0, .slice none 0 0] 30)).cell 1 rfl, (TP.alloc (.cells #[.int .i64 0, .slice none 0 0, .slice none 0 0] 30)).cell 2 rfl, (TC.alloc (.cells #[.int .i64 0, .slice none 0 0, .slice none 0 0] 30)).cell 0 rfl, (TC.alloc (.cells #[.int .i64 0, .slice none 0 0, .slice none 0 0] 30)).cell 1 rfl, (TC.alloc (.cells #[.int .i64 0, .slice none 0 0, .slice none 0 0] 30)).cell 2 rfl, (TC.alloc (.cells #[.int .i64 0, .slice none 0 0, .slice none 0 0] 30)).cell 3 rfl⟩))); done
          clear hK K
          (try simp only [Act.put, List.setIfInBounds_toArray, List.set_cons_zero, List.set_cons_succ])
          refine wpAnyH_ready (rs := [9]) (by kernel_rfl) (by simp) ?_
          refine AllReadyH.cons (by rw [List.getElem?_toArray]; rfl) (fun K hK => ?_) AllReadyH.nil
          go_simp
          skip
          refine hK.out _ _ ?_ (fun hHeld => ?_)
          focus (first | exact trivial | ((try dsimp only); (exact ⟨(TP.alloc _).cell 0 rfl, (TP.alloc _).cell 1 rfl, (TP.alloc _).cell 2 rfl, (TC.alloc _).cell 0 rfl, (TC.alloc _).cell 1 rfl, (TC.alloc _).cell 2 rfl, (TC.alloc _).cell 3 rfl⟩))); done
          clear hK K
          (try simp only [Act.put, List.setIfInBounds_toArray, List.set_cons_zero, List.set_cons_succ])
          refine wpAnyH_take (i := 10) (v := ?_) (by rw [List.getElem?_toArray]; rfl) (by kernel_rfl) (by kernel_rfl) (by kernel_rfl) (fun _ _ _ h => h) (Or.inl ⟨by rfl, ?_⟩) (by assumption) ?_
          rotate_left
          focus (intro wS hSw; (try dsimp only at hSw); go_simp; (try with_reducible rfl)); done
          (try simp only [Act.put, List.setIfInBounds_toArray, List.set_cons_zero, List.set_cons_succ])
          refine wpAnyH_done (by kernel_rfl) ?_ _
          refine NoPanic.normal ?_
          go_wp2_with fail
          go_meet
          exact ⟨w52.heap.size, AS, cS, DS, dS, bS, MS, w52.heap.size, rfl, rfl, Blk.newAt _ _ rfl, oS.alloc _, pS.alloc _, by omega, by omega, by omega, (by first | omega | (simp; done) | (simp; omega)), .inl (Nat.le_refl _), by omega, (by first | omega | (simp; done) | (simp; omega)), by (repeat (first | (with_reducible assumption) | (with_reducible exact Below.refl _ _) | (with_reducible refine Below.setCell ?_ (by first | (simp; done) | (simp; omega) | omega) _) | (with_reducible refine Below.alloc ?_ (by first | (simp; done) | (simp; omega) | omega) _) | (with_reducible refine Below.drew ?_) | (with_reducible refine Below.drewN ?_ _)))⟩
        · go_simp
          skip
          refine hK.out _ _ ?_ (fun hHeld => ?_)
          focus (first | exact trivial | ((try dsimp only); (exact ⟨(TP.alloc (.cells #[.int .i64 0, .slice none 0 0, .slice none 0 0] 30)).cell 0 rfl, (TP.alloc (.cells #[.int .i64 0, .slice none 0 0, .slice none 0 0] 30)).cell 1 rfl, (TP.alloc (.cells #[.int .i64 0, .slice none 0 0, .slice none 0 0] 30)).cell 2 rfl, (TC.alloc (.cells #[.int .i64 0, .slice none 0 0, .slice none 0 0] 30)).cell 0 rfl, (TC.alloc (.cells #[.int .i64 0, .slice none 0 0, .slice none 0 0] 30)).cell 1 rfl, (TC.alloc (.cells #[.int .i64 0, .slice none 0 0, .slice none 0 0] 30)).cell 2 rfl, (TC.alloc (.cells #[.int .i64 0, .slice none 0 0, .slice none 0 0] 30)).cell 3 rfl⟩))); done
          clear hK K
          (try simp only [Act.put, List.setIfInBounds_toArray, List.set_cons_zero, List.set_cons_succ])
          refine wpAnyH_ready (rs := [4]) (by kernel_rfl) (by simp) ?_
          refine AllReadyH.cons (by rw [List.getElem?_toArray]; rfl) (fun K hK => ?_) AllReadyH.nil
          go_simp
          refine (sSendOver_any _ _ _ _ _ _ l _ _ xs cs k o r b _ ((oT.alloc (.cells #[.int .i64 0, .slice none 0 0, .slice none 0 0] 30)).rd.here Nat.one_pos) hn ((pT.alloc (.cells #[.int .i64 0, .slice none 0 0, .slice none 0 0] 30)).rd.here (by omega)) hm).mono ?_; rintro e w52 ⟨AS, cS, DS, dS, MS, rfl, oS, pS, maS, mbS, hbS⟩; have hS := Below.via (by (repeat (first | (with_reducible assumption) | (with_reducible exact Below.refl _ _) | (with_reducible refine Below.setCell ?_ (by first | (simp; done) | (simp; omega) | omega) _) | (with_reducible refine Below.alloc ?_ (by first | (simp; done) | (simp; omega) | omega) _) | (with_reducible refine Below.drew ?_) | (with_reducible refine Below.drewN ?_ _))) : Below w1.heap.size w1 _) hbS; have zw52 := hS.size; clear hS0; have hS0 := hS; clear hS; have TO := (Blk.newAt (w := w51) (n := w51.heap.size) 30 #[.int .i64 0, .slice none 0 0, .slice none 0 0] (by simp)).below hbS; have ofr := TO.free; have y0 := TO.cell 0 rfl; have y1 := TO.cell 1 rfl; have y2 := TO.cell 2 rfl; replace TP := (TP.alloc (.cells #[.int .i64 0, .slice none 0 0, .slice none 0 0] 30)).below hbS; replace TC := (TC.alloc (.cells #[.int .i64 0, .slice none 0 0, .slice none 0 0] 30)).below hbS; replace hr := (hr.alloc (.cells #[.int .i64 0, .slice none 0 0, .slice none 0 0] 30)).below hbS; replace hr2 := (hr2.alloc (.cells #[.int .i64 0, .slice none 0 0, .slice none 0 0] 30)).below hbS; replace oT := (oT.alloc (.cells #[.int .i64 0, .slice none 0 0, .slice none 0 0] 30)).below hbS; replace pT := (pT.alloc (.cells #[.int .i64 0, .slice none 0 0, .slice none 0 0] 30)).below hbS; have bS0 : w51.heap.size + 1 ≤ MS := (by simpa using maS); replace oS := oS.mono (B' := w51.heap.size + 1) (T' := MS) (by simp) (Nat.le_refl _); obtain ⟨bS, hbS0⟩ : ∃ q, q = w51.heap.size + 1 := ⟨_, rfl⟩; rw [← hbS0] at oS bS0; clear oT pT; have zzw52 := hbS.size; (try simp at zzw52); clear hbS; have hlt : w51.heap.size < bS := (by omega); have hsp : w51.heap.size < bS ∨ MS ≤ w51.heap.size := .inl hlt; have hsq : w51.heap.size < MS ∨ w52.heap.size ≤ w51.heap.size := .inl (by omega)
          refine hK.out _ _ ?_ (fun hHeld => ?_)
          focus (first | exact trivial | ((try dsimp only); (exact ⟨TP.cell 0 rfl, TP.cell 1 rfl, TP.cell 2 rfl, TC.cell 0 rfl, TC.cell 1 rfl, TC.cell 2 rfl, TC.cell 3 rfl⟩))); done
          clear hK K
          (try simp only [Act.put, List.setIfInBounds_toArray, List.set_cons_zero, List.set_cons_succ])
          refine wpAnyH_take (i := 5) (v := ?_) (by rw [List.getElem?_toArray]; rfl) (by kernel_rfl) (by kernel_rfl) (by kernel_rfl) (fun _ _ _ h => h) (Or.inl ⟨by rfl, ?_⟩) (by assumption) ?_
          rotate_left
          focus (intro wS hSw; (try dsimp only at hSw); go_simp; (try with_reducible rfl)); done
          (try simp only [Act.put, List.setIfInBounds_toArray, List.set_cons_zero, List.set_cons_succ])
          refine wpAnyH_take (i := 6) (v := ?_) (by rw [List.getElem?_toArray]; rfl) (by kernel_rfl) (by kernel_rfl) (by kernel_rfl) (fun _ _ _ h => h) (Or.inl ⟨by rfl, ?_⟩) (by assumption) ?_
          rotate_left
          focus (intro wS hSw; (try dsimp only at hSw); go_simp; (try with_reducible rfl)); done
          (try simp only [Act.put, List.setIfInBounds_toArray, List.set_cons_zero, List.set_cons_succ])
          refine wpAnyH_take (i := 7) (v := ?_) (by rw [List.getElem?_toArray]; rfl) (by kernel_rfl) (by kernel_rfl) (by kernel_rfl) (fun _ _ _ h => h) (Or.inl ⟨by rfl, ?_⟩) (by assumption) ?_
          rotate_left
          focus (intro wS hSw; (try dsimp only at hSw); go_simp; (try with_reducible rfl)); done
          (try simp only [Act.put, List.setIfInBounds_toArray, List.set_cons_zero, List.set_cons_succ])
          refine wpAnyH_ready (rs := [9]) (by kernel_rfl) (by simp) ?_
          refine AllReadyH.cons (by rw [List.getElem?_toArray]; rfl) (fun K hK => ?_) AllReadyH.nil
          go_simp
          skip
          refine hK.out _ _ ?_ (fun hHeld => ?_)
          focus (first | exact trivial | ((try dsimp only); (exact ⟨(((TP.other (p := ⟨w51.heap.size, 0, none⟩) (by show w.heap.size ≠ w51.heap.size; omega) _).other (p := ⟨w51.heap.size, 1, none⟩) (by show w.heap.size ≠ w51.heap.size; omega) _).other (p := ⟨w51.heap.size, 2, none⟩) (by show w.heap.size ≠ w51.heap.size; omega) _).cell 0 rfl, (((TP.other (p := ⟨w51.heap.size, 0, none⟩) (by show w.heap.size ≠ w51.heap.size; omega) _).other (p := ⟨w51.heap.size, 1, none⟩) (by show w.heap.size ≠ w51.heap.size; omega) _).other (p := ⟨w51.heap.size, 2, none⟩) (by show w.heap.size ≠ w51.heap.size; omega) _).cell 1 rfl, (((TP.other (p := ⟨w51.heap.size, 0, none⟩) (by show w.heap.size ≠ w51.heap.size; omega) _).other (p := ⟨w51.heap.size, 1, none⟩) (by show w.heap.size ≠ w51.heap.size; omega) _).other (p := ⟨w51.heap.size, 2, none⟩) (by show w.heap.size ≠ w51.heap.size; omega) _).cell 2 rfl, (((TC.other (p := ⟨w51.heap.size, 0, none⟩) (by show w.heap.size + 1 ≠ w51.heap.size; omega) _).other (p := ⟨w51.heap.size, 1, none⟩) (by show w.heap.size + 1 ≠ w51.heap.size; omega) _).other (p := ⟨w51.heap.size, 2, none⟩) (by show w.heap.size + 1 ≠ w51.heap.size; omega) _).cell 0 rfl, (((TC.other (p := ⟨w51.heap.size, 0, none⟩) (by show w.heap.size + 1 ≠ w51.heap.size; omega) _).other (p := ⟨w51.heap.size, 1, none⟩) (by show w.heap.size + 1 ≠ w51.heap.size; omega) _).other (p := ⟨w51.heap.size, 2, none⟩) (by show w.heap.size + 1 ≠ w51.heap.size; omega) _).cell 1 rfl, (((TC.other (p := ⟨w51.heap.size, 0, none⟩) (by show w.heap.size + 1 ≠ w51.heap.size; omega) _).other (p := ⟨w51.heap.size, 1, none⟩) (by show w.heap.size + 1 ≠ w51.heap.size; omega) _).other (p := ⟨w51.heap.size, 2, none⟩) (by show w.heap.size + 1 ≠ w51.heap.size; omega) _).cell 2 rfl, (((TC.other (p := ⟨w51.heap.size, 0, none⟩) (by show w.heap.size + 1 ≠ w51.heap.size; omega) _).other (p := ⟨w51.heap.size, 1, none⟩) (by show w.heap.size + 1 ≠ w51.heap.size; omega) _).other (p := ⟨w51.heap.size, 2, none⟩) (by show w.heap.size + 1 ≠ w51.heap.size; omega) _).cell 3 rfl⟩))); done
          clear hK K
          (try simp only [Act.put, List.setIfInBounds_toArray, List.set_cons_zero, List.set_cons_succ])
          refine wpAnyH_take (i := 10) (v := ?_) (by rw [List.getElem?_toArray]; rfl) (by kernel_rfl) (by kernel_rfl) (by kernel_rfl) (fun _ _ _ h => h) (Or.inl ⟨by rfl, ?_⟩) (by assumption) ?_
          rotate_left
          focus (intro wS hSw; (try dsimp only at hSw); go_simp; (try with_reducible rfl)); done
          (try simp only [Act.put, List.setIfInBounds_toArray, List.set_cons_zero, List.set_cons_succ])
          refine wpAnyH_done (by kernel_rfl) ?_ _
          refine NoPanic.normal ?_
          go_wp2_with fail
          go_meet
          exact ⟨w51.heap.size, AS, cS, DS, dS, bS, MS, w52.heap.size, rfl, rfl, ((TO.set 0 (.int .i64 (sendB l xs cs k o r b))).set 1 (.slice AS (sendX l xs cs k o r b).length cS)).set 2 (.slice DS (sendC l xs cs k o r b).length dS), ((oS.set hsp _).set hsp _).set hsp _, ((pS.set hsq _).set hsq _).set hsq _, by omega, by omega, by omega, (by first | omega | (simp; done) | (simp; omega)), .inr hlt, by omega, (by first | omega | (simp; done) | (simp; omega)), by (repeat (first | (with_reducible assumption) | (with_reducible exact Below.refl _ _) | (with_reducible refine Below.setCell ?_ (by first | (simp; done) | (simp; omega) | omega) _) | (with_reducible refine Below.alloc ?_ (by first | (simp; done) | (simp; omega) | omega) _) | (with_reducible refine Below.drew ?_) | (with_reducible refine Below.drewN ?_ _)))⟩
      · go_simp
        skip
        refine hK.out _ _ ?_ (fun hHeld => ?_)
        focus (first | exact trivial | ((try dsimp only); (exact ⟨(TP.alloc (.cells #[.int .i64 0, .slice none 0 0, .slice none 0 0] 30)).cell 0 rfl, (TP.alloc (.cells #[.int .i64 0, .slice none 0 0, .slice none 0 0] 30)).cell 1 rfl, (TP.alloc (.cells #[.int .i64 0, .slice none 0 0, .slice none 0 0] 30)).cell 2 rfl, (TC.alloc (.cells #[.int .i64 0, .slice none 0 0, .slice none 0 0] 30)).cell 0 rfl, (TC.alloc (.cells #[.int .i64 0, .slice none 0 0, .slice none 0 0] 30)).cell 1 rfl, (TC.alloc (.cells #[.int .i64 0, .slice none 0 0, .slice none 0 0] 30)).cell 2 rfl, (TC.alloc (.cells #[.int .i64 0, .slice none 0 0, .slice none 0 0] 30)).cell 3 rfl⟩))); done
        clear hK K
        (try simp only [Act.put, List.setIfInBounds_toArray, List.set_cons_zero, List.set_cons_succ])
        refine wpAnyH_ready (rs := [3]) (by kernel_rfl) (by simp) ?_
        refine AllReadyH.cons (by rw [List.getElem?_toArray]; rfl) (fun K hK => ?_) AllReadyH.nil
        go_simp
        refine (toCap_any _ _ _ _ _).mono ?_; rintro e w51 ⟨rfl, hbS⟩; have hS := Below.via (by (repeat (first | (with_reducible assumption) | (with_reducible exact Below.refl _ _) | (with_reducible refine Below.setCell ?_ (by first | (simp; done) | (simp; omega) | omega) _) | (with_reducible refine Below.alloc ?_ (by first | (simp; done) | (simp; omega) | omega) _) | (with_reducible refine Below.drew ?_) | (with_reducible refine Below.drewN ?_ _))) : Below w1.heap.size w1 _) hbS; have zw51 := hS.size; clear hS0; have hS0 := hS; clear hS; have TO := (Blk.newAt (w := w50) (n := w50.heap.size) 30 #[.int .i64 0, .slice none 0 0, .slice none 0 0] (by simp)).below hbS; have ofr := TO.free; have y0 := TO.cell 0 rfl; have y1 := TO.cell 1 rfl; have y2 := TO.cell 2 rfl; replace TP := (TP.alloc (.cells #[.int .i64 0, .slice none 0 0, .slice none 0 0] 30)).below hbS; replace TC := (TC.alloc (.cells #[.int .i64 0, .slice none 0 0, .slice none 0 0] 30)).below hbS; replace hr := (hr.alloc (.cells #[.int .i64 0, .slice none 0 0, .slice none 0 0] 30)).below hbS; replace hr2 := (hr2.alloc (.cells #[.int .i64 0, .slice none 0 0, .slice none 0 0] 30)).below hbS; replace oT := (oT.alloc (.cells #[.int .i64 0, .slice none 0 0, .slice none 0 0] 30)).below hbS; replace pT := (pT.alloc (.cells #[.int .i64 0, .slice none 0 0, .slice none 0 0] 30)).below hbS; have zzw51 := hbS.size; (try simp at zzw51); clear hbS
        refine hK.out _ _ ?_ (fun hHeld => ?_)
        focus (first | exact trivial | ((try dsimp only); (exact ⟨TP.cell 0 rfl, TP.cell 1 rfl, TP.cell 2 rfl, TC.cell 0 rfl, TC.cell 1 rfl, TC.cell 2 rfl, TC.cell 3 rfl⟩))); done
        clear hK K
        (try simp only [Act.put, List.setIfInBounds_toArray, List.set_cons_zero, List.set_cons_succ])
        refine wpAnyH_ready (rs := [4]) (by kernel_rfl) (by simp) ?_
        refine AllReadyH.cons (by rw [List.getElem?_toArray]; rfl) (fun K hK => ?_) AllReadyH.nil
        go_simp
        refine (sSendOver_any _ _ _ _ _ _ l _ _ xs cs k o r b _ (oT.rd.here Nat.one_pos) hn (pT.rd.here (by omega)) hm).mono ?_; rintro e w52 ⟨AS, cS, DS, dS, MS, rfl, oS, pS, maS, mbS, hbS⟩; have hS := Below.via (by (repeat (first | (with_reducible assumption) | (with_reducible exact Below.refl _ _) | (with_reducible refine Below.setCell ?_ (by first | (simp; done) | (simp; omega) | omega) _) | (with_reducible refine Below.alloc ?_ (by first | (simp; done) | (simp; omega) | omega) _) | (with_reducible refine Below.drew ?_) | (with_reducible refine Below.drewN ?_ _))) : Below w1.heap.size w1 _) hbS; have zw52 := hS.size; clear hS0; have hS0 := hS; clear hS; replace TO := TO.below hbS; clear ofr y0 y1 y2; have ofr := TO.free; have y0 := TO.cell 0 rfl; have y1 := TO.cell 1 rfl; have y2 := TO.cell 2 rfl; replace TP := TP.below hbS; replace TC := TC.below hbS; replace hr := hr.below hbS; replace hr2 := hr2.below hbS; replace oT := oT.below hbS; replace pT := pT.below hbS; have bS0 : w51.heap.size ≤ MS := (by simpa using maS); replace oS := oS.mono (B' := w51.heap.size) (T' := MS) (by simp) (Nat.le_refl _); obtain ⟨bS, hbS0⟩ : ∃ q, q = w51.heap.size := ⟨_, rfl⟩; rw [← hbS0] at oS bS0; clear oT pT; have zzw52 := hbS.size; (try simp at zzw52); clear hbS; have hlt : w50.heap.size < bS := (by omega); have hsp : w50.heap.size < bS ∨ MS ≤ w50.heap.size := .inl hlt; have hsq : w50.heap.size < MS ∨ w52.heap.size ≤ w50.heap.size := .inl (by omega)
        refine hK.out _ _ ?_ (fun hHeld => ?_)
        focus (first | exact trivial | ((try dsimp only); (exact ⟨TP.cell 0 rfl, TP.cell 1 rfl, TP.cell 2 rfl, TC.cell 0 rfl, TC.cell 1 rfl, TC.cell 2 rfl, TC.cell 3 rfl⟩))); done
        clear hK K
        (try simp only [Act.put, List.setIfInBounds_toArray, List.set_cons_zero, List.set_cons_succ])
        refine wpAnyH_take (i := 5) (v := ?_) (by rw [List.getElem?_toArray]; rfl) (by kernel_rfl) (by kernel_rfl) (by kernel_rfl) (fun _ _ _ h => h) (Or.inl ⟨by rfl, ?_⟩) (by assumption) ?_
        rotate_left
        focus (intro wS hSw; (try dsimp only at hSw); go_simp; (try with_reducible rfl)); done
        (try simp only [Act.put, List.setIfInBounds_toArray, List.set_cons_zero, List.set_cons_succ])
        refine wpAnyH_take (i := 6) (v := ?_) (by rw [List.getElem?_toArray]; rfl) (by kernel_rfl) (by kernel_rfl) (by kernel_rfl) (fun _ _ _ h => h) (Or.inl ⟨by rfl, ?_⟩) (by assumption) ?_
        rotate_left
        focus (intro wS hSw; (try dsimp only at hSw); go_simp; (try with_reducible rfl)); done
        (try simp only [Act.put, List.setIfInBounds_toArray, List.set_cons_zero, List.set_cons_succ])
        refine wpAnyH_take (i := 7) (v := ?_) (by rw [List.getElem?_toArray]; rfl) (by kernel_rfl) (by kernel_rfl) (by kernel_rfl) (fun _ _ _ h => h) (Or.inl ⟨by rfl, ?_⟩) (by assumption) ?_
        rotate_left
        focus (intro wS hSw; (try dsimp only at hSw); go_simp; (try with_reducible rfl)); done
        (try simp only [Act.put, List.setIfInBounds_toArray, List.set_cons_zero, List.set_cons_succ])
        refine wpAnyH_ready (rs := [9]) (by kernel_rfl) (by simp) ?_
        refine AllReadyH.cons (by rw [List.getElem?_toArray]; rfl) (fun K hK => ?_) AllReadyH.nil
        go_simp
        skip
        refine hK.out _ _ ?_ (fun hHeld => ?_)
        focus (first | exact trivial | ((try dsimp only); (exact ⟨(((TP.other (p := ⟨w50.heap.size, 0, none⟩) (by show w.heap.size ≠ w50.heap.size; omega) _).other (p := ⟨w50.heap.size, 1, none⟩) (by show w.heap.size ≠ w50.heap.size; omega) _).other (p := ⟨w50.heap.size, 2, none⟩) (by show w.heap.size ≠ w50.heap.size; omega) _).cell 0 rfl, (((TP.other (p := ⟨w50.heap.size, 0, none⟩) (by show w.heap.size ≠ w50.heap.size; omega) _).other (p := ⟨w50.heap.size, 1, none⟩) (by show w.heap.size ≠ w50.heap.size; omega) _).other (p := ⟨w50.heap.size, 2, none⟩) (by show w.heap.size ≠ w50.heap.size; omega) _).cell 1 rfl, (((TP.other (p := ⟨w50.heap.size, 0, none⟩) (by show w.heap.size ≠ w50.heap.size; omega) _).other (p := ⟨w50.heap.size, 1, none⟩) (by show w.heap.size ≠ w50.heap.size; omega) _).other (p := ⟨w50.heap.size, 2, none⟩) (by show w.heap.size ≠ w50.heap.size; omega) _).cell 2 rfl, (((TC.other (p := ⟨w50.heap.size, 0, none⟩) (by show w.heap.size + 1 ≠ w50.heap.size; omega) _).other (p := ⟨w50.heap.size, 1, none⟩) (by show w.heap.size + 1 ≠ w50.heap.size; omega) _).other (p := ⟨w50.heap.size, 2, none⟩) (by show w.heap.size + 1 ≠ w50.heap.size; omega) _).cell 0 rfl, (((TC.other (p := ⟨w50.heap.size, 0, none⟩) (by show w.heap.size + 1 ≠ w50.heap.size; omega) _).other (p := ⟨w50.heap.size, 1, none⟩) (by show w.heap.size + 1 ≠ w50.heap.size; omega) _).other (p := ⟨w50.heap.size, 2, none⟩) (by show w.heap.size + 1 ≠ w50.heap.size; omega) _).cell 1 rfl, (((TC.other (p := ⟨w50.heap.size, 0, none⟩) (by show w.heap.size + 1 ≠ w50.heap.size; omega) _).other (p := ⟨w50.heap.size, 1, none⟩) (by show w.heap.size + 1 ≠ w50.heap.size; omega) _).other (p := ⟨w50.heap.size, 2, none⟩) (by show w.heap.size + 1 ≠ w50.heap.size; omega) _).cell 2 rfl, (((TC.other (p := ⟨w50.heap.size, 0, none⟩) (by show w.heap.size + 1 ≠ w50.heap.size; omega) _).other (p := ⟨w50.heap.size, 1, none⟩) (by show w.heap.size + 1 ≠ w50.heap.size; omega) _).other (p := ⟨w50.heap.size, 2, none⟩) (by show w.heap.size + 1 ≠ w50.heap.size; omega) _).cell 3 rfl⟩))); done
        clear hK K
        (try simp only [Act.put, List.setIfInBounds_toArray, List.set_cons_zero, List.set_cons_succ])
        refine wpAnyH_take (i := 10) (v := ?_) (by rw [List.getElem?_toArray]; rfl) (by kernel_rfl) (by kernel_rfl) (by kernel_rfl) (fun _ _ _ h => h) (Or.inl ⟨by rfl, ?_⟩) (by assumption) ?_
        rotate_left
        focus (intro wS hSw; (try dsimp only at hSw); go_simp; (try with_reducible rfl)); done
        (try simp only [Act.put, List.setIfInBounds_toArray, List.set_cons_zero, List.set_cons_succ])
        refine wpAnyH_done (by kernel_rfl) ?_ _
        refine NoPanic.normal ?_
        go_wp2_with fail
        go_meet
        exact ⟨w50.heap.size, AS, cS, DS, dS, bS, MS, w52.heap.size, rfl, rfl, ((TO.set 0 (.int .i64 (sendB l xs cs k o r b))).set 1 (.slice AS (sendX l xs cs k o r b).length cS)).set 2 (.slice DS (sendC l xs cs k o r b).length dS), ((oS.set hsp _).set hsp _).set hsp _, ((pS.set hsq _).set hsq _).set hsq _, by omega, by omega, by omega, (by first | omega | (simp; done) | (simp; omega)), .inr hlt, by omega, (by first | omega | (simp; done) | (simp; omega)), by (repeat (first | (with_reducible assumption) | (with_reducible exact Below.refl _ _) | (with_reducible refine Below.setCell ?_ (by first | (simp; done) | (simp; omega) | omega) _) | (with_reducible refine Below.alloc ?_ (by first | (simp; done) | (simp; omega) | omega) _) | (with_reducible refine Below.drew ?_) | (with_reducible refine Below.drewN ?_ _)))⟩
    · go_simp
      skip
      refine hK.out _ _ ?_ (fun hHeld => ?_)
      focus (first | exact trivial | ((try dsimp only); (exact ⟨(TP.drew.alloc (.cells #[.int .i64 0, .slice none 0 0, .slice none 0 0] 30)).cell 0 rfl, (TP.drew.alloc (.cells #[.int .i64 0, .slice none 0 0, .slice none 0 0] 30)).cell 1 rfl, (TP.drew.alloc (.cells #[.int .i64 0, .slice none 0 0, .slice none 0 0] 30)).cell 2 rfl, (TC.drew.alloc (.cells #[.int .i64 0, .slice none 0 0, .slice none 0 0] 30)).cell 0 rfl, (TC.drew.alloc (.cells #[.int .i64 0, .slice none 0 0, .slice none 0 0] 30)).cell 1 rfl, (TC.drew.alloc (.cells #[.int .i64 0, .slice none 0 0, .slice none 0 0] 30)).cell 2 rfl, (TC.drew.alloc (.cells #[.int .i64 0, .slice none 0 0, .slice none 0 0] 30)).cell 3 rfl⟩))); done
      clear hK K
      (try simp only [Act.put, List.setIfInBounds_toArray, List.set_cons_zero, List.set_cons_succ])
      refine wpAnyH_ready (rs := [1]) (by kernel_rfl) (by simp) ?_
      refine AllReadyH.cons (by rw [List.getElem?_toArray]; rfl) (fun K hK => ?_) AllReadyH.nil
      go_simp
      refine (toMessage_any _ _ xs.length c cs.length d l A D xs cs _ ((hr.drew).alloc (.cells #[.int .i64 0, .slice none 0 0, .slice none 0 0] 30)) hn ((hr2.drew).alloc (.cells #[.int .i64 0, .slice none 0 0, .slice none 0 0] 30)) hm).mono ?_; rintro e w50 ⟨AT, cT, DT, dT, MT, rfl, oT, pT, maT, mbT, hbS⟩; have hS := Below.via (by (repeat (first | (with_reducible assumption) | (with_reducible exact Below.refl _ _) | (with_reducible refine Below.setCell ?_ (by first | (simp; done) | (simp; omega) | omega) _) | (with_reducible refine Below.alloc ?_ (by first | (simp; done) | (simp; omega) | omega) _) | (with_reducible refine Below.drew ?_) | (with_reducible refine Below.drewN ?_ _))) : Below w1.heap.size w1 _) hbS; have zw50 := hS.size; clear hS0; have hS0 := hS; clear hS; have TO := (Blk.newAt (w := w1.drew) (n := w1.heap.size) 30 #[.int .i64 0, .slice none 0 0, .slice none 0 0] (by simp)).below hbS; have ofr := TO.free; have y0 := TO.cell 0 rfl; have y1 := TO.cell 1 rfl; have y2 := TO.cell 2 rfl; replace TP := ((TP.drew).alloc (.cells #[.int .i64 0, .slice none 0 0, .slice none 0 0] 30)).below hbS; replace TC := ((TC.drew).alloc (.cells #[.int .i64 0, .slice none 0 0, .slice none 0 0] 30)).below hbS; replace hr := ((hr.drew).alloc (.cells #[.int .i64 0, .slice none 0 0, .slice none 0 0] 30)).below hbS; replace hr2 := ((hr2.drew).alloc (.cells #[.int .i64 0, .slice none 0 0, .slice none 0 0] 30)).below hbS; have zzw50 := hbS.size; (try simp at zzw50); clear hbS
      refine hK.out _ _ ?_ (fun hHeld => ?_)
      focus (first | exact trivial | ((try dsimp only); (exact ⟨TP.cell 0 rfl, TP.cell 1 rfl, TP.cell 2 rfl, TC.cell 0 rfl, TC.cell 1 rfl, TC.cell 2 rfl, TC.cell 3 rfl⟩))); done
      clear hK K
      (try simp only [Act.put, List.setIfInBounds_toArray, List.set_cons_zero, List.set_cons_succ])
      refine wpAnyH_ready (rs := [3]) (by kernel_rfl) (by simp) ?_
      refine AllReadyH.cons (by rw [List.getElem?_toArray]; rfl) (fun K hK => ?_) AllReadyH.nil
      go_simp
      refine (toCap_any _ _ _ _ _).mono ?_; rintro e w51 ⟨rfl, hbS⟩; have hS := Below.via (by (repeat (first | (with_reducible assumption) | (with_reducible exact Below.refl _ _) | (with_reducible refine Below.setCell ?_ (by first | (simp; done) | (simp; omega) | omega) _) | (with_reducible refine Below.alloc ?_ (by first | (simp; done) | (simp; omega) | omega) _) | (with_reducible refine Below.drew ?_) | (with_reducible refine Below.drewN ?_ _))) : Below w1.heap.size w1 _) hbS; have zw51 := hS.size; clear hS0; have hS0 := hS; clear hS; replace TO := TO.below hbS; clear ofr y0 y1 y2; have ofr := TO.free; have y0 := TO.cell 0 rfl; have y1 := TO.cell 1 rfl; have y2 := TO.cell 2 rfl; replace TP := TP.below hbS; replace TC := TC.below hbS; replace hr := hr.below hbS; replace hr2 := hr2.below hbS; replace oT := oT.below hbS; replace pT := pT.below hbS; have zzw51 := hbS.size; (try simp at zzw51); clear hbS
      refine hK.out _ _ ?_ (fun hHeld => ?_)
      focus (first | exact trivial | ((try dsimp only); (exact ⟨TP.cell 0 rfl, TP.cell 1 rfl, TP.cell 2 rfl, TC.cell 0 rfl, TC.cell 1 rfl, TC.cell 2 rfl, TC.cell 3 rfl⟩))); done
      clear hK K
      (try simp only [Act.put, List.setIfInBounds_toArray, List.set_cons_zero, List.set_cons_succ])
      refine wpAnyH_ready (rs := [4]) (by kernel_rfl) (by simp) ?_
      refine AllReadyH.cons (by rw [List.getElem?_toArray]; rfl) (fun K hK => ?_) AllReadyH.nil
      go_simp
      refine (sSendOver_any _ _ _ _ _ _ l _ _ xs cs k o r b _ (oT.rd.here Nat.one_pos) hn (pT.rd.here (by omega)) hm).mono ?_; rintro e w52 ⟨AS, cS, DS, dS, MS, rfl, oS, pS, maS, mbS, hbS⟩; have hS := Below.via (by (repeat (first | (with_reducible assumption) | (with_reducible exact Below.refl _ _) | (with_reducible refine Below.setCell ?_ (by first | (simp; done) | (simp; omega) | omega) _) | (with_reducible refine Below.alloc ?_ (by first | (simp; done) | (simp; omega) | omega) _) | (with_reducible refine Below.drew ?_) | (with_reducible refine Below.drewN ?_ _))) : Below w1.heap.size w1 _) hbS; have zw52 := hS.size; clear hS0; have hS0 := hS; clear hS; replace TO := TO.below hbS; clear ofr y0 y1 y2; have ofr := TO.free; have y0 := TO.cell 0 rfl; have y1 := TO.cell 1 rfl; have y2 := TO.cell 2 rfl; replace TP := TP.below hbS; replace TC := TC.below hbS; replace hr := hr.below hbS; replace hr2 := hr2.below hbS; replace oT := oT.below hbS; replace pT := pT.below hbS; have bS0 : w51.heap.size ≤ MS := (by simpa using maS); replace oS := oS.mono (B' := w51.heap.size) (T' := MS) (by simp) (Nat.le_refl _); obtain ⟨bS, hbS0⟩ : ∃ q, q = w51.heap.size := ⟨_, rfl⟩; rw [← hbS0] at oS bS0; clear oT pT; have zzw52 := hbS.size; (try simp at zzw52); clear hbS; have hlt : w1.heap.size < bS := (by omega); have hsp : w1.heap.size < bS ∨ MS ≤ w1.heap.size := .inl hlt; have hsq : w1.heap.size < MS ∨ w52.heap.size ≤ w1.heap.size := .inl (by omega)
      refine hK.out _ _ ?_ (fun hHeld => ?_)
      focus (first | exact trivial | ((try dsimp only); (exact ⟨TP.cell 0 rfl, TP.cell 1 rfl, TP.cell 2 rfl, TC.cell 0 rfl, TC.cell 1 rfl, TC.cell 2 rfl, TC.cell 3 rfl⟩))); done
      clear hK K
      (try simp only [Act.put, List.setIfInBounds_toArray, List.set_cons_zero, List.set_cons_succ])
      refine wpAnyH_take (i := 5) (v := ?_) (by rw [List.getElem?_toArray]; rfl) (by kernel_rfl) (by kernel_rfl) (by kernel_rfl) (fun _ _ _ h => h) (Or.inl ⟨by rfl, ?_⟩) (by assumption) ?_
      rotate_left
      focus (intro wS hSw; (try dsimp only at hSw); go_simp; (try with_reducible rfl)); done
      (try simp only [Act.put, List.setIfInBounds_toArray, List.set_cons_zero, List.set_cons_succ])
      refine wpAnyH_take (i := 6) (v := ?_) (by rw [List.getElem?_toArray]; rfl) (by kernel_rfl) (by kernel_rfl) (by kernel_rfl) (fun _ _ _ h => h) (Or.inl ⟨by rfl, ?_⟩) (by assumption) ?_
      rotate_left
      focus (intro wS hSw; (try dsimp only at hSw); go_simp; (try with_reducible rfl)); done
      (try simp only [Act.put, List.setIfInBounds_toArray, List.set_cons_zero, List.set_cons_succ])
      refine wpAnyH_take (i := 7) (v := ?_) (by rw [List.getElem?_toArray]; rfl) (by kernel_rfl) (by kernel_rfl) (by kernel_rfl) (fun _ _ _ h => h) (Or.inl ⟨by rfl, ?_⟩) (by assumption) ?_
      rotate_left
      focus (intro wS hSw; (try dsimp only at hSw); go_simp; (try with_reducible rfl)); done
      (try simp only [Act.put, List.setIfInBounds_toArray, List.set_cons_zero, List.set_cons_succ])
      refine wpAnyH_ready (rs := [9]) (by kernel_rfl) (by simp) ?_
      refine AllReadyH.cons (by rw [List.getElem?_toArray]; rfl) (fun K hK => ?_) AllReadyH.nil
      go_simp
      skip
      refine hK.out _ _ ?_ (fun hHeld => ?_)
      focus (first | exact trivial | ((try dsimp only); (exact ⟨(((TP.other (p := ⟨w1.heap.size, 0, none⟩) (by show w.heap.size ≠ w1.heap.size; omega) _).other (p := ⟨w1.heap.size, 1, none⟩) (by show w.heap.size ≠ w1.heap.size; omega) _).other (p := ⟨w1.heap.size, 2, none⟩) (by show w.heap.size ≠ w1.heap.size; omega) _).cell 0 rfl, (((TP.other (p := ⟨w1.heap.size, 0, none⟩) (by show w.heap.size ≠ w1.heap.size; omega) _).other (p := ⟨w1.heap.size, 1, none⟩) (by show w.heap.size ≠ w1.heap.size; omega) _).other (p := ⟨w1.heap.size, 2, none⟩) (by show w.heap.size ≠ w1.heap.size; omega) _).cell 1 rfl, (((TP.other (p := ⟨w1.heap.size, 0, none⟩) (by show w.heap.size ≠ w1.heap.size; omega) _).other (p := ⟨w1.heap.size, 1, none⟩) (by show w.heap.size ≠ w1.heap.size; omega) _).other (p := ⟨w1.heap.size, 2, none⟩) (by show w.heap.size ≠ w1.heap.size; omega) _).cell 2 rfl, (((TC.other (p := ⟨w1.heap.size, 0, none⟩) (by show w.heap.size + 1 ≠ w1.heap.size; omega) _).other (p := ⟨w1.heap.size, 1, none⟩) (by show w.heap.size + 1 ≠ w1.heap.size; omega) _).other (p := ⟨w1.heap.size, 2, none⟩) (by show w.heap.size + 1 ≠ w1.heap.size; omega) _).cell 0 rfl, (((TC.other (p := ⟨w1.heap.size, 0, none⟩) (by show w.heap.size + 1 ≠ w1.heap.size; omega) _).other (p := ⟨w1.heap.size, 1, none⟩) (by show w.heap.size + 1 ≠ w1.heap.size; omega) _).other (p := ⟨w1.heap.size, 2, none⟩) (by show w.heap.size + 1 ≠ w1.heap.size; omega) _).cell 1 rfl, (((TC.other (p := ⟨w1.heap.size, 0, none⟩) (by show w.heap.size + 1 ≠ w1.heap.size; omega) _).other (p := ⟨w1.heap.size, 1, none⟩) (by show w.heap.size + 1 ≠ w1.heap.size; omega) _).other (p := ⟨w1.heap.size, 2, none⟩) (by show w.heap.size + 1 ≠ w1.heap.size; omega) _).cell 2 rfl, (((TC.other (p := ⟨w1.heap.size, 0, none⟩) (by show w.heap.size + 1 ≠ w1.heap.size; omega) _).other (p := ⟨w1.heap.size, 1, none⟩) (by show w.heap.size + 1 ≠ w1.heap.size; omega) _).other (p := ⟨w1.heap.size, 2, none⟩) (by show w.heap.size + 1 ≠ w1.heap.size; omega) _).cell 3 rfl⟩))); done
      clear hK K
      (try simp only [Act.put, List.setIfInBounds_toArray, List.set_cons_zero, List.set_cons_succ])
      refine wpAnyH_take (i := 10) (v := ?_) (by rw [List.getElem?_toArray]; rfl) (by kernel_rfl) (by kernel_rfl) (by kernel_rfl) (fun _ _ _ h => h) (Or.inl ⟨by rfl, ?_⟩) (by assumption) ?_
      rotate_left
      focus (intro wS hSw; (try dsimp only at hSw); go_simp; (try with_reducible rfl)); done
      (try simp only [Act.put, List.setIfInBounds_toArray, List.set_cons_zero, List.set_cons_succ])
      refine wpAnyH_done (by kernel_rfl) ?_ _
      refine NoPanic.normal ?_
      go_wp2_with fail
      go_meet
      exact ⟨w1.heap.size, AS, cS, DS, dS, bS, MS, w52.heap.size, rfl, rfl, ((TO.set 0 (.int .i64 (sendB l xs cs k o r b))).set 1 (.slice AS (sendX l xs cs k o r b).length cS)).set 2 (.slice DS (sendC l xs cs k o r b).length dS), ((oS.set hsp _).set hsp _).set hsp _, ((pS.set hsq _).set hsq _).set hsq _, by omega, by omega, by omega, (by first | omega | (simp; done) | (simp; omega)), .inr hlt, by omega, (by first | omega | (simp; done) | (simp; omega)), by (repeat (first | (with_reducible assumption) | (with_reducible exact Below.refl _ _) | (with_reducible refine Below.setCell ?_ (by first | (simp; done) | (simp; omega) | omega) _) | (with_reducible refine Below.alloc ?_ (by first | (simp; done) | (simp; omega) | omega) _) | (with_reducible refine Below.drew ?_) | (with_reducible refine Below.drewN ?_ _)))⟩
  case rest =>
    obtain ⟨w5, rfl⟩ : ∃ w5 : World, w5 = wc := ⟨_, rfl⟩
    obtain ⟨g5, A5, c5, D5, d5, B5, M5, T5, rfl, rfl, TV, o5, p5, s1_5, s2_5, s3_5, s4_5, s5_5, s6_5, s7_5, hb5⟩ := hcut
    clear cP_0 cP_1 cP_2 lP cC_0 cC_1 cC_2 cC_3 lC
    have z5 := hb5.size
    (try simp at z5)
    replace hr := hr.via hb5 (by (repeat (first | (with_reducible assumption) | (with_reducible exact Below.refl _ _) | (with_reducible refine Below.setCell ?_ (by first | (simp; done) | (simp; omega) | omega) _) | (with_reducible refine Below.alloc ?_ (by first | (simp; done) | (simp; omega) | omega) _) | (with_reducible refine Below.drew ?_) | (with_reducible refine Below.drewN ?_ _))))
    replace hr2 := hr2.via hb5 (by (repeat (first | (with_reducible assumption) | (with_reducible exact Below.refl _ _) | (with_reducible refine Below.setCell ?_ (by first | (simp; done) | (simp; omega) | omega) _) | (with_reducible refine Below.alloc ?_ (by first | (simp; done) | (simp; omega) | omega) _) | (with_reducible refine Below.drew ?_) | (with_reducible refine Below.drewN ?_ _))))
    replace TP := TP.via hb5 (by (repeat (first | (with_reducible assumption) | (with_reducible exact Below.refl _ _) | (with_reducible refine Below.setCell ?_ (by first | (simp; done) | (simp; omega) | omega) _) | (with_reducible refine Below.alloc ?_ (by first | (simp; done) | (simp; omega) | omega) _) | (with_reducible refine Below.drew ?_) | (with_reducible refine Below.drewN ?_ _))))
    replace TC := TC.via hb5 (by (repeat (first | (with_reducible assumption) | (with_reducible exact Below.refl _ _) | (with_reducible refine Below.setCell ?_ (by first | (simp; done) | (simp; omega) | omega) _) | (with_reducible refine Below.alloc ?_ (by first | (simp; done) | (simp; omega) | omega) _) | (with_reducible refine Below.drew ?_) | (with_reducible refine Below.drewN ?_ _))))
    replace hB := Below.via (by (repeat (first | (with_reducible assumption) | (with_reducible exact Below.refl _ _) | (with_reducible refine Below.setCell ?_ (by first | (simp; done) | (simp; omega) | omega) _) | (with_reducible refine Below.alloc ?_ (by first | (simp; done) | (simp; omega) | omega) _) | (with_reducible refine Below.drew ?_) | (with_reducible refine Below.drewN ?_ _))) : Below w.heap.size w _) hb5
    clear hb5
    have cP_0 := TP.cell 0 rfl
    have cP_1 := TP.cell 1 rfl
    have cP_2 := TP.cell 2 rfl
    have lP := TP.lt
    have cC_0 := TC.cell 0 rfl
    have cC_1 := TC.cell 1 rfl
    have cC_2 := TC.cell 2 rfl
    have cC_3 := TC.cell 3 rfl
    have lC := TC.lt
    have cV_0 := TV.cell 0 rfl
    have cV_1 := TV.cell 1 rfl
    have cV_2 := TV.cell 2 rfl
    have lV := TV.lt
    go_wp2_with fail
    refine (toMessage_any _ _ xs.length c cs.length d l A D xs cs _ hr hn hr2 hm).mono ?_
    rintro e w6 ⟨A6, c6, D6, d6, M6, rfl, o6, p6, ma6, mb6, hb6⟩
    clear cP_0 cP_1 cP_2 lP cC_0 cC_1 cC_2 cC_3 lC cV_0 cV_1 cV_2 lV
    have z6 := hb6.size
    (try simp at z6)
    replace hr := hr.via hb6 (by (repeat (first | (with_reducible assumption) | (with_reducible exact Below.refl _ _) | (with_reducible refine Below.setCell ?_ (by first | (simp; done) | (simp; omega) | omega) _) | (with_reducible refine Below.alloc ?_ (by first | (simp; done) | (simp; omega) | omega) _) | (with_reducible refine Below.drew ?_) | (with_reducible refine Below.drewN ?_ _))))
    replace hr2 := hr2.via hb6 (by (repeat (first | (with_reducible assumption) | (with_reducible exact Below.refl _ _) | (with_reducible refine Below.setCell ?_ (by first | (simp; done) | (simp; omega) | omega) _) | (with_reducible refine Below.alloc ?_ (by first | (simp; done) | (simp; omega) | omega) _) | (with_reducible refine Below.drew ?_) | (with_reducible refine Below.drewN ?_ _))))
    replace o5 := o5.via hb6 (by (repeat (first | (with_reducible assumption) | (with_reducible exact Below.refl _ _) | (with_reducible refine Below.setCell ?_ (by first | (simp; done) | (simp; omega) | omega) _) | (with_reducible refine Below.alloc ?_ (by first | (simp; done) | (simp; omega) | omega) _) | (with_reducible refine Below.drew ?_) | (with_reducible refine Below.drewN ?_ _))))
    replace p5 := p5.via hb6 (by (repeat (first | (with_reducible assumption) | (with_reducible exact Below.refl _ _) | (with_reducible refine Below.setCell ?_ (by first | (simp; done) | (simp; omega) | omega) _) | (with_reducible refine Below.alloc ?_ (by first | (simp; done) | (simp; omega) | omega) _) | (with_reducible refine Below.drew ?_) | (with_reducible refine Below.drewN ?_ _))))
    replace TP := TP.via hb6 (by (repeat (first | (with_reducible assumption) | (with_reducible exact Below.refl _ _) | (with_reducible refine Below.setCell ?_ (by first | (simp; done) | (simp; omega) | omega) _) | (with_reducible refine Below.alloc ?_ (by first | (simp; done) | (simp; omega) | omega) _) | (with_reducible refine Below.drew ?_) | (with_reducible refine Below.drewN ?_ _))))
    replace TC := TC.via hb6 (by (repeat (first | (with_reducible assumption) | (with_reducible exact Below.refl _ _) | (with_reducible refine Below.setCell ?_ (by first | (simp; done) | (simp; omega) | omega) _) | (with_reducible refine Below.alloc ?_ (by first | (simp; done) | (simp; omega) | omega) _) | (with_reducible refine Below.drew ?_) | (with_reducible refine Below.drewN ?_ _))))
    replace TV := TV.via hb6 (by (repeat (first | (with_reducible assumption) | (with_reducible exact Below.refl _ _) | (with_reducible refine Below.setCell ?_ (by first | (simp; done) | (simp; omega) | omega) _) | (with_reducible refine Below.alloc ?_ (by first | (simp; done) | (simp; omega) | omega) _) | (with_reducible refine Below.drew ?_) | (with_reducible refine Below.drewN ?_ _))))
    replace hB := Below.via (by (repeat (first | (with_reducible assumption) | (with_reducible exact Below.refl _ _) | (with_reducible refine Below.setCell ?_ (by first | (simp; done) | (simp; omega) | omega) _) | (with_reducible refine Below.alloc ?_ (by first | (simp; done) | (simp; omega) | omega) _) | (with_reducible refine Below.drew ?_) | (with_reducible refine Below.drewN ?_ _))) : Below w.heap.size w _) hb6
    clear hb6
    have cP_0 := TP.cell 0 rfl
    have cP_1 := TP.cell 1 rfl
    have cP_2 := TP.cell 2 rfl
    have lP := TP.lt
    have cC_0 := TC.cell 0 rfl
    have cC_1 := TC.cell 1 rfl
    have cC_2 := TC.cell 2 rfl
    have cC_3 := TC.cell 3 rfl
    have lC := TC.lt
    have cV_0 := TV.cell 0 rfl
    have cV_1 := TV.cell 1 rfl
    have cV_2 := TV.cell 2 rfl
    have lV := TV.lt
    have TX := Blk.newAt (w := w6) (n := w6.heap.size) 30 #[.int .i64 (l), .slice A6 (xs.length) c6, .slice D6 (cs.length) d6] (by simp)
    (try simp at ma6)
    replace TP := TP.alloc (.cells #[.int .i64 (l), .slice A6 (xs.length) c6, .slice D6 (cs.length) d6] 30)
    replace TC := TC.alloc (.cells #[.int .i64 (l), .slice A6 (xs.length) c6, .slice D6 (cs.length) d6] 30)
    replace TV := TV.alloc (.cells #[.int .i64 (l), .slice A6 (xs.length) c6, .slice D6 (cs.length) d6] 30)
    replace hr := hr.alloc (.cells #[.int .i64 (l), .slice A6 (xs.length) c6, .slice D6 (cs.length) d6] 30)
    replace hr2 := hr2.alloc (.cells #[.int .i64 (l), .slice A6 (xs.length) c6, .slice D6 (cs.length) d6] 30)
    replace o5 := o5.alloc (.cells #[.int .i64 (l), .slice A6 (xs.length) c6, .slice D6 (cs.length) d6] 30)
    replace p5 := p5.alloc (.cells #[.int .i64 (l), .slice A6 (xs.length) c6, .slice D6 (cs.length) d6] 30)
    replace o6 := o6.alloc (.cells #[.int .i64 (l), .slice A6 (xs.length) c6, .slice D6 (cs.length) d6] 30)
    replace p6 := p6.alloc (.cells #[.int .i64 (l), .slice A6 (xs.length) c6, .slice D6 (cs.length) d6] 30)
    replace hB := hB.alloc hB.size (.cells #[.int .i64 (l), .slice A6 (xs.length) c6, .slice D6 (cs.length) d6] 30)
    obtain ⟨w60, hw60⟩ : ∃ w60, w60 = w6.alloc (.cells #[.int .i64 (l), .slice A6 (xs.length) c6, .slice D6 (cs.length) d6] 30) := ⟨_, rfl⟩
    go_upto_region 7 with (fail)
    rw [← hw60] at TP TC TV TX hr hr2 o5 p5 o6 p6 hB ⊢
    have z60 : w6.heap.size + 1 ≤ w60.heap.size := by rw [hw60]; simp
    clear hw60
    clear cP_0 cP_1 cP_2 lP cC_0 cC_1 cC_2 cC_3 lC cV_0 cV_1 cV_2 lV
    have cP_0 := TP.cell 0 rfl
    have cP_1 := TP.cell 1 rfl
    have cP_2 := TP.cell 2 rfl
    have lP := TP.lt
    have cC_0 := TC.cell 0 rfl
    have cC_1 := TC.cell 1 rfl
    have cC_2 := TC.cell 2 rfl
    have cC_3 := TC.cell 3 rfl
    have lC := TC.lt
    have cV_0 := TV.cell 0 rfl
    have cV_1 := TV.cell 1 rfl
    have cV_2 := TV.cell 2 rfl
    have lV := TV.lt
    have cX_0 := TX.cell 0 rfl
    have cX_1 := TX.cell 1 rfl
    have cX_2 := TX.cell 2 rfl
    have lX := TX.lt
    go_upto_region 7 with (fail)
    go_cut [9, 10] (fun u6 u7 wx => CutM w60 (sendB l xs cs k o r b) (sendX l xs cs k o r b) (sendC l xs cs k o r b) (sendOk l xs cs k o r b) u6 u7 wx)
    case first =>
      have hS0 := Below.refl w60.heap.size w60
      refine wp_region_noPanic ?_
      refine wp_region_held_drew (S := (fun W => W.cell? ⟨w.heap.size + 1, 0, none⟩ = some (.int .i64 (k)) ∧ W.cell? ⟨w.heap.size + 1, 1, none⟩ = some (.int .i64 (o)) ∧ W.cell? ⟨w.heap.size + 1, 2, none⟩ = some (.int .i64 (r)) ∧ W.cell? ⟨w.heap.size + 1, 3, none⟩ = some (.int .i64 (b)) ∧ W.cell? ⟨w6.heap.size, 0, none⟩ = some (.int .i64 (l)) ∧ W.cell? ⟨w6.heap.size, 1, none⟩ = some (.slice A6 (xs.length) c6) ∧ W.cell? ⟨w6.heap.size, 2, none⟩ = some (.slice D6 (cs.length) d6))) (by kernel_rfl) ?_ (fun hHeld => ?_)
      focus (first | exact trivial | ((try dsimp only); ((repeat' (first | assumption | with_reducible refine And.intro ?_ ?_)) <;> go_keep))); done
      refine wpAnyH_take (i := 0) (v := ?_) (by rw [List.getElem?_toArray]; rfl) (by kernel_rfl) (by kernel_rfl) (by kernel_rfl) (fun _ _ _ h => h) (Or.inl ⟨by rfl, ?_⟩) (by assumption) ?_
      rotate_left
      focus (intro wS hSw; (try dsimp only at hSw); go_simp; (try with_reducible rfl)); done
      (try simp only [Act.put, List.setIfInBounds_toArray, List.set_cons_zero, List.set_cons_succ])
      refine wpAnyH_take (i := 1) (v := ?_) (by rw [List.getElem?_toArray]; rfl) (by kernel_rfl) (by kernel_rfl) (by kernel_rfl) (fun _ _ _ h => h) (Or.inl ⟨by rfl, ?_⟩) (by assumption) ?_
      rotate_left
      focus (intro wS hSw; (try dsimp only at hSw); go_simp; (try with_reducible rfl)); done
      (try simp only [Act.put, List.setIfInBounds_toArray, List.set_cons_zero, List.set_cons_succ])
      refine wpAnyH_ready (rs := [2, 7]) (by kernel_rfl) (by simp) ?_
      refine AllReadyH.cons (by rw [List.getElem?_toArray]; rfl) (fun K hK => ?_) (AllReadyH.cons (by rw [List.getElem?_toArray]; rfl) (fun K hK => ?_) AllReadyH.nil)
      · go_simp
        refine (toCap_any _ _ _ _ _).mono ?_; rintro e w70 ⟨rfl, hbS⟩; have hS := Below.via (by (repeat (first | (with_reducible assumption) | (with_reducible exact Below.refl _ _) | (with_reducible refine Below.setCell ?_ (by first | (simp; done) | (simp; omega) | omega) _) | (with_reducible refine Below.alloc ?_ (by first | (simp; done) | (simp; omega) | omega) _) | (with_reducible refine Below.drew ?_) | (with_reducible refine Below.drewN ?_ _))) : Below w60.heap.size w60 _) hbS; have zw70 := hS.size; clear hS0; have hS0 := hS; clear hS; replace TC := (TC.drew).below hbS; replace TX := (TX.drew).below hbS; replace o6 := (o6.drew).below hbS; replace p6 := (p6.drew).below hbS; have zzw70 := hbS.size; (try simp at zzw70); clear hbS
        refine hK.out _ _ ?_ (fun hHeld => ?_)
        focus (first | exact trivial | ((try dsimp only); (exact ⟨TC.cell 0 rfl, TC.cell 1 rfl, TC.cell 2 rfl, TC.cell 3 rfl, TX.cell 0 rfl, TX.cell 1 rfl, TX.cell 2 rfl⟩))); done
        clear hK K
        (try simp only [Act.put, List.setIfInBounds_toArray, List.set_cons_zero, List.set_cons_succ])
        refine wpAnyH_ready (rs := [3, 7]) (by kernel_rfl) (by simp) ?_
        refine AllReadyH.cons (by rw [List.getElem?_toArray]; rfl) (fun K hK => ?_) (AllReadyH.cons (by rw [List.getElem?_toArray]; rfl) (fun K hK => ?_) AllReadyH.nil)
        · go_simp
          refine (iSendOver_any _ _ _ _ _ _ l _ _ xs cs k o r b _ (o6.rd.here Nat.one_pos) hn (p6.rd.here (by omega)) hm).mono ?_; rintro e w71 ⟨AS, cS, DS, dS, MS, rfl, oS, pS, maS, mbS, hbS⟩; have hS := Below.via (by (repeat (first | (with_reducible assumption) | (with_reducible exact Below.refl _ _) | (with_reducible refine Below.setCell ?_ (by first | (simp; done) | (simp; omega) | omega) _) | (with_reducible refine Below.alloc ?_ (by first | (simp; done) | (simp; omega) | omega) _) | (with_reducible refine Below.drew ?_) | (with_reducible refine Below.drewN ?_ _))) : Below w60.heap.size w60 _) hbS; have zw71 := hS.size; clear hS0; have hS0 := hS; clear hS; replace TC := TC.below hbS; replace TX := TX.below hbS; replace o6 := o6.below hbS; replace p6 := p6.below hbS; have bS0 : w70.heap.size ≤ MS := (by simpa using maS); replace oS := oS.mono (B' := w70.heap.size) (T' := MS) (by simp) (Nat.le_refl _); obtain ⟨bS, hbS0⟩ : ∃ q, q = w70.heap.size := ⟨_, rfl⟩; rw [← hbS0] at oS bS0; have zzw71 := hbS.size; (try simp at zzw71); clear hbS
          refine hK.out _ _ ?_ (fun hHeld => ?_)
          focus (first | exact trivial | ((try dsimp only); (exact ⟨TC.cell 0 rfl, TC.cell 1 rfl, TC.cell 2 rfl, TC.cell 3 rfl, TX.cell 0 rfl, TX.cell 1 rfl, TX.cell 2 rfl⟩))); done
          clear hK K
          (try simp only [Act.put, List.setIfInBounds_toArray, List.set_cons_zero, List.set_cons_succ])
          refine wpAnyH_take (i := 4) (v := ?_) (by rw [List.getElem?_toArray]; rfl) (by kernel_rfl) (by kernel_rfl) (by kernel_rfl) (fun _ _ _ h => h) (Or.inl ⟨by rfl, ?_⟩) (by assumption) ?_
          rotate_left
          focus (intro wS hSw; (try dsimp only at hSw); go_simp; (try with_reducible rfl)); done
          (try simp only [Act.put, List.setIfInBounds_toArray, List.set_cons_zero, List.set_cons_succ])
          refine wpAnyH_take (i := 5) (v := ?_) (by rw [List.getElem?_toArray]; rfl) (by kernel_rfl) (by kernel_rfl) (by kernel_rfl) (fun _ _ _ h => h) (Or.inl ⟨by rfl, ?_⟩) (by assumption) ?_
          rotate_left
          focus (intro wS hSw; (try dsimp only at hSw); go_simp; (try with_reducible rfl)); done
          (try simp only [Act.put, List.setIfInBounds_toArray, List.set_cons_zero, List.set_cons_succ])
          refine wpAnyH_take (i := 6) (v := ?_) (by rw [List.getElem?_toArray]; rfl) (by kernel_rfl) (by kernel_rfl) (by kernel_rfl) (fun _ _ _ h => h) (Or.inl ⟨by rfl, ?_⟩) (by assumption) ?_
          rotate_left
          focus (intro wS hSw; (try dsimp only at hSw); go_simp; (try with_reducible rfl)); done
          (try simp only [Act.put, List.setIfInBounds_toArray, List.set_cons_zero, List.set_cons_succ])
          refine wpAnyH_ready (rs := [7]) (by kernel_rfl) (by simp) ?_
          refine AllReadyH.cons (by rw [List.getElem?_toArray]; rfl) (fun K hK => ?_) AllReadyH.nil
          go_simp
          skip
          refine hK.out _ _ ?_ (fun hHeld => ?_)
          focus (first | exact trivial | ((try dsimp only); (exact ⟨(TC.alloc (.cells #[.int .i64 0, .slice none 0 0, .slice none 0 0] 30)).cell 0 rfl, (TC.alloc (.cells #[.int .i64 0, .slice none 0 0, .slice none 0 0] 30)).cell 1 rfl, (TC.alloc (.cells #[.int .i64 0, .slice none 0 0, .slice none 0 0] 30)).cell 2 rfl, (TC.alloc (.cells #[.int .i64 0, .slice none 0 0, .slice none 0 0] 30)).cell 3 rfl, (TX.alloc (.cells #[.int .i64 0, .slice none 0 0, .slice none 0 0] 30)).cell 0 rfl, (TX.alloc (.cells #[.int .i64 0, .slice none 0 0, .slice none 0 0] 30)).cell 1 rfl, (TX.alloc (.cells #[.int .i64 0, .slice none 0 0, .slice none 0 0] 30)).cell 2 rfl⟩))); done
          clear hK K
          (try simp only [Act.put, List.setIfInBounds_toArray, List.set_cons_zero, List.set_cons_succ])
          refine wpAnyH_ready (rs := [8]) (by kernel_rfl) (by simp) ?_
          refine AllReadyH.cons (by rw [List.getElem?_toArray]; rfl) (fun K hK => ?_) AllReadyH.nil
          go_simp
          skip
          refine hK.out _ _ ?_ (fun hHeld => ?_)
          focus (first | exact trivial | ((try dsimp only); (exact ⟨(TC.alloc _).cell 0 rfl, (TC.alloc _).cell 1 rfl, (TC.alloc _).cell 2 rfl, (TC.alloc _).cell 3 rfl, (TX.alloc _).cell 0 rfl, (TX.alloc _).cell 1 rfl, (TX.alloc _).cell 2 rfl⟩))); done
          clear hK K
          (try simp only [Act.put, List.setIfInBounds_toArray, List.set_cons_zero, List.set_cons_succ])
          refine wpAnyH_take (i := 9) (v := ?_) (by rw [List.getElem?_toArray]; rfl) (by kernel_rfl) (by kernel_rfl) (by kernel_rfl) (fun _ _ _ h => h) (Or.inl ⟨by rfl, ?_⟩) (by assumption) ?_
          rotate_left
          focus (intro wS hSw; (try dsimp only at hSw); go_simp; (try with_reducible rfl)); done
          (try simp only [Act.put, List.setIfInBounds_toArray, List.set_cons_zero, List.set_cons_succ])
          refine wpAnyH_done (by kernel_rfl) ?_ _
          refine NoPanic.normal ?_
          go_wp2_with fail
          go_meet
          exact ⟨w71.heap.size, AS, cS, DS, dS, bS, MS, w71.heap.size, rfl, rfl, Blk.newAt _ _ rfl, oS.alloc _, pS.alloc _, by omega, by omega, by omega, (by first | omega | (simp; done) | (simp; omega)), .inl (Nat.le_refl _), by omega, (by first | omega | (simp; done) | (simp; omega)), by (repeat (first | (with_reducible assumption) | (with_reducible exact Below.refl _ _) | (with_reducible refine Below.setCell ?_ (by first | (simp; done) | (simp; omega) | omega) _) | (with_reducible refine Below.alloc ?_ (by first | (simp; done) | (simp; omega) | omega) _) | (with_reducible refine Below.drew ?_) | (with_reducible refine Below.drewN ?_ _)))⟩
        · go_simp
          skip
          refine hK.out _ _ ?_ (fun hHeld => ?_)
          focus (first | exact trivial | ((try dsimp only); (exact ⟨(TC.alloc (.cells #[.int .i64 0, .slice none 0 0, .slice none 0 0] 30)).cell 0 rfl, (TC.alloc (.cells #[.int .i64 0, .slice none 0 0, .slice none 0 0] 30)).cell 1 rfl, (TC.alloc (.cells #[.int .i64 0, .slice none 0 0, .slice none 0 0] 30)).cell 2 rfl, (TC.alloc (.cells #[.int .i64 0, .slice none 0 0, .slice none 0 0] 30)).cell 3 rfl, (TX.alloc (.cells #[.int .i64 0, .slice none 0 0, .slice none 0 0] 30)).cell 0 rfl, (TX.alloc (.cells #[.int .i64 0, .slice none 0 0, .slice none 0 0] 30)).cell 1 rfl, (TX.alloc (.cells #[.int .i64 0, .slice none 0 0, .slice none 0 0] 30)).cell 2 rfl⟩))); done
          clear hK K
          (try simp only [Act.put, List.setIfInBounds_toArray, List.set_cons_zero, List.set_cons_succ])
          refine wpAnyH_ready (rs := [3]) (by kernel_rfl) (by simp) ?_
          refine AllReadyH.cons (by rw [List.getElem?_toArray]; rfl) (fun K hK => ?_) AllReadyH.nil
          go_simp
          refine (iSendOver_any _ _ _ _ _ _ l _ _ xs cs k o r b _ ((o6.alloc (.cells #[.int .i64 0, .slice none 0 0, .slice none 0 0] 30)).rd.here Nat.one_pos) hn ((p6.alloc (.cells #[.int .i64 0, .slice none 0 0, .slice none 0 0] 30)).rd.here (by omega)) hm).mono ?_; rintro e w71 ⟨AS, cS, DS, dS, MS, rfl, oS, pS, maS, mbS, hbS⟩; have hS := Below.via (by (repeat (first | (with_reducible assumption) | (with_reducible exact Below.refl _ _) | (with_reducible refine Below.setCell ?_ (by first | (simp; done) | (simp; omega) | omega) _) | (with_reducible refine Below.alloc ?_ (by first | (simp; done) | (simp; omega) | omega) _) | (with_reducible refine Below.drew ?_) | (with_reducible refine Below.drewN ?_ _))) : Below w60.heap.size w60 _) hbS; have zw71 := hS.size; clear hS0; have hS0 := hS; clear hS; have TO := (Blk.newAt (w := w70) (n := w70.heap.size) 30 #[.int .i64 0, .slice none 0 0, .slice none 0 0] (by simp)).below hbS; have ofr := TO.free; have y0 := TO.cell 0 rfl; have y1 := TO.cell 1 rfl; have y2 := TO.cell 2 rfl; replace TC := (TC.alloc (.cells #[.int .i64 0, .slice none 0 0, .slice none 0 0] 30)).below hbS; replace TX := (TX.alloc (.cells #[.int .i64 0, .slice none 0 0, .slice none 0 0] 30)).below hbS; replace o6 := (o6.alloc (.cells #[.int .i64 0, .slice none 0 0, .slice none 0 0] 30)).below hbS; replace p6 := (p6.alloc (.cells #[.int .i64 0, .slice none 0 0, .slice none 0 0] 30)).below hbS; have bS0 : w70.heap.size + 1 ≤ MS := (by simpa using maS); replace oS := oS.mono (B' := w70.heap.size + 1) (T' := MS) (by simp) (Nat.le_refl _); obtain ⟨bS, hbS0⟩ : ∃ q, q = w70.heap.size + 1 := ⟨_, rfl⟩; rw [← hbS0] at oS bS0; have zzw71 := hbS.size; (try simp at zzw71); clear hbS; have hlt : w70.heap.size < bS := (by omega); have hsp : w70.heap.size < bS ∨ MS ≤ w70.heap.size := .inl hlt; have hsq : w70.heap.size < MS ∨ w71.heap.size ≤ w70.heap.size := .inl (by omega)
          refine hK.out _ _ ?_ (fun hHeld => ?_)
          focus (first | exact trivial | ((try dsimp only); (exact ⟨TC.cell 0 rfl, TC.cell 1 rfl, TC.cell 2 rfl, TC.cell 3 rfl, TX.cell 0 rfl, TX.cell 1 rfl, TX.cell 2 rfl⟩))); done
          clear hK K
          (try simp only [Act.put, List.setIfInBounds_toArray, List.set_cons_zero, List.set_cons_succ])
          refine wpAnyH_take (i := 4) (v := ?_) (by rw [List.getElem?_toArray]; rfl) (by kernel_rfl) (by kernel_rfl) (by kernel_rfl) (fun _ _ _ h => h) (Or.inl ⟨by rfl, ?_⟩) (by assumption) ?_
          rotate_left
          focus (intro wS hSw; (try dsimp only at hSw); go_simp; (try with_reducible rfl)); done
          (try simp only [Act.put, List.setIfInBounds_toArray, List.set_cons_zero, List.set_cons_succ])
          refine wpAnyH_take (i := 5) (v := ?_) (by rw [List.getElem?_toArray]; rfl) (by kernel_rfl) (by kernel_rfl) (by kernel_rfl) (fun _ _ _ h => h) (Or.inl ⟨by rfl, ?_⟩) (by assumption) ?_
          rotate_left
          focus (intro wS hSw; (try dsimp only at hSw); go_simp; (try with_reducible rfl)); done
          (try simp only [Act.put, List.setIfInBounds_toArray, List.set_cons_zero, List.set_cons_succ])
          refine wpAnyH_take (i := 6) (v := ?_) (by rw [List.getElem?_toArray]; rfl) (by kernel_rfl) (by kernel_rfl) (by kernel_rfl) (fun _ _ _ h => h) (Or.inl ⟨by rfl, ?_⟩) (by assumption) ?_
          rotate_left
          focus (intro wS hSw; (try dsimp only at hSw); go_simp; (try with_reducible rfl)); done
          (try simp only [Act.put, List.setIfInBounds_toArray, List.set_cons_zero, List.set_cons_succ])
          refine wpAnyH_ready (rs := [8]) (by kernel_rfl) (by simp) ?_
          refine AllReadyH.cons (by rw [List.getElem?_toArray]; rfl) (fun K hK => ?_) AllReadyH.nil
          go_simp
          skip
          refine hK.out _ _ ?_ (fun hHeld => ?_)
          focus (first | exact trivial | ((try dsimp only); (exact ⟨(((TC.other (p := ⟨w70.heap.size, 0, none⟩) (by show w.heap.size + 1 ≠ w70.heap.size; omega) _).other (p := ⟨w70.heap.size, 1, none⟩) (by show w.heap.size + 1 ≠ w70.heap.size; omega) _).other (p := ⟨w70.heap.size, 2, none⟩) (by show w.heap.size + 1 ≠ w70.heap.size; omega) _).cell 0 rfl, (((TC.other (p := ⟨w70.heap.size, 0, none⟩) (by show w.heap.size + 1 ≠ w70.heap.size; omega) _).other (p := ⟨w70.heap.size, 1, none⟩) (by show w.heap.size + 1 ≠ w70.heap.size; omega) _).other (p := ⟨w70.heap.size, 2, none⟩) (by show w.heap.size + 1 ≠ w70.heap.size; omega) _).cell 1 rfl, (((TC.other (p := ⟨w70.heap.size, 0, none⟩) (by show w.heap.size + 1 ≠ w70.heap.size; omega) _).other (p := ⟨w70.heap.size, 1, none⟩) (by show w.heap.size + 1 ≠ w70.heap.size; omega) _).other (p := ⟨w70.heap.size, 2, none⟩) (by show w.heap.size + 1 ≠ w70.heap.size; omega) _).cell 2 rfl, (((TC.other (p := ⟨w70.heap.size, 0, none⟩) (by show w.heap.size + 1 ≠ w70.heap.size; omega) _).other (p := ⟨w70.heap.size, 1, none⟩) (by show w.heap.size + 1 ≠ w70.heap.size; omega) _).other (p := ⟨w70.heap.size, 2, none⟩) (by show w.heap.size + 1 ≠ w70.heap.size; omega) _).cell 3 rfl, (((TX.other (p := ⟨w70.heap.size, 0, none⟩) (by show w6.heap.size ≠ w70.heap.size; omega) _).other (p := ⟨w70.heap.size, 1, none⟩) (by show w6.heap.size ≠ w70.heap.size; omega) _).other (p := ⟨w70.heap.size, 2, none⟩) (by show w6.heap.size ≠ w70.heap.size; omega) _).cell 0 rfl, (((TX.other (p := ⟨w70.heap.size, 0, none⟩) (by show w6.heap.size ≠ w70.heap.size; omega) _).other (p := ⟨w70.heap.size, 1, none⟩) (by show w6.heap.size ≠ w70.heap.size; omega) _).other (p := ⟨w70.heap.size, 2, none⟩) (by show w6.heap.size ≠ w70.heap.size; omega) _).cell 1 rfl, (((TX.other (p := ⟨w70.heap.size, 0, none⟩) (by show w6.heap.size ≠ w70.heap.size; omega) _).other (p := ⟨w70.heap.size, 1, none⟩) (by show w6.heap.size ≠ w70.heap.size; omega) _).other (p := ⟨w70.heap.size, 2, none⟩) (by show w6.heap.size ≠ w70.heap.size; omega) _).cell 2 rfl⟩))); done
          clear hK K
          (try simp only [Act.put, List.setIfInBounds_toArray, List.set_cons_zero, List.set_cons_succ])
          refine wpAnyH_take (i := 9) (v := ?_) (by rw [List.getElem?_toArray]; rfl) (by kernel_rfl) (by kernel_rfl) (by kernel_rfl) (fun _ _ _ h => h) (Or.inl ⟨by rfl, ?_⟩) (by assumption) ?_
          rotate_left
          focus (intro wS hSw; (try dsimp only at hSw); go_simp; (try with_reducible rfl)); done
          (try simp only [Act.put, List.setIfInBounds_toArray, List.set_cons_zero, List.set_cons_succ])
          refine wpAnyH_done (by kernel_rfl) ?_ _
          refine NoPanic.normal ?_
          go_wp2_with fail
          go_meet
          exact ⟨w70.heap.size, AS, cS, DS, dS, bS, MS, w71.heap.size, rfl, rfl, ((TO.set 0 (.int .i64 (sendB l xs cs k o r b))).set 1 (.slice AS (sendX l xs cs k o r b).length cS)).set 2 (.slice DS (sendC l xs cs k o r b).length dS), ((oS.set hsp _).set hsp _).set hsp _, ((pS.set hsq _).set hsq _).set hsq _, by omega, by omega, by omega, (by first | omega | (simp; done) | (simp; omega)), .inr hlt, by omega, (by first | omega | (simp; done) | (simp; omega)), by (repeat (first | (with_reducible assumption) | (with_reducible exact Below.refl _ _) | (with_reducible refine Below.setCell ?_ (by first | (simp; done) | (simp; omega) | omega) _) | (with_reducible refine Below.alloc ?_ (by first | (simp; done) | (simp; omega) | omega) _) | (with_reducible refine Below.drew ?_) | (with_reducible refine Below.drewN ?_ _)))⟩
      · go_simp
        skip
        refine hK.out _ _ ?_ (fun hHeld => ?_)
        focus (first | exact trivial | ((try dsimp only); (exact ⟨(TC.drew.alloc (.cells #[.int .i64 0, .slice none 0 0, .slice none 0 0] 30)).cell 0 rfl, (TC.drew.alloc (.cells #[.int .i64 0, .slice none 0 0, .slice none 0 0] 30)).cell 1 rfl, (TC.drew.alloc (.cells #[.int .i64 0, .slice none 0 0, .slice none 0 0] 30)).cell 2 rfl, (TC.drew.alloc (.cells #[.int .i64 0, .slice none 0 0, .slice none 0 0] 30)).cell 3 rfl, (TX.drew.alloc (.cells #[.int .i64 0, .slice none 0 0, .slice none 0 0] 30)).cell 0 rfl, (TX.drew.alloc (.cells #[.int .i64 0, .slice none 0 0, .slice none 0 0] 30)).cell 1 rfl, (TX.drew.alloc (.cells #[.int .i64 0, .slice none 0 0, .slice none 0 0] 30)).cell 2 rfl⟩))); done
        clear hK K
        (try simp only [Act.put, List.setIfInBounds_toArray, List.set_cons_zero, List.set_cons_succ])
        refine wpAnyH_ready (rs := [2]) (by kernel_rfl) (by simp) ?_
        refine AllReadyH.cons (by rw [List.getElem?_toArray]; rfl) (fun K hK => ?_) AllReadyH.nil
        go_simp
        refine (toCap_any _ _ _ _ _).mono ?_; rintro e w70 ⟨rfl, hbS⟩; have hS := Below.via (by (repeat (first | (with_reducible assumption) | (with_reducible exact Below.refl _ _) | (with_reducible refine Below.setCell ?_ (by first | (simp; done) | (simp; omega) | omega) _) | (with_reducible refine Below.alloc ?_ (by first | (simp; done) | (simp; omega) | omega) _) | (with_reducible refine Below.drew ?_) | (with_reducible refine Below.drewN ?_ _))) : Below w60.heap.size w60 _) hbS; have zw70 := hS.size; clear hS0; have hS0 := hS; clear hS; have TO := (Blk.newAt (w := w60.drew) (n := w60.heap.size) 30 #[.int .i64 0, .slice none 0 0, .slice none 0 0] (by simp)).below hbS; have ofr := TO.free; have y0 := TO.cell 0 rfl; have y1 := TO.cell 1 rfl; have y2 := TO.cell 2 rfl; replace TC := ((TC.drew).alloc (.cells #[.int .i64 0, .slice none 0 0, .slice none 0 0] 30)).below hbS; replace TX := ((TX.drew).alloc (.cells #[.int .i64 0, .slice none 0 0, .slice none 0 0] 30)).below hbS; replace o6 := ((o6.drew).alloc (.cells #[.int .i64 0, .slice none 0 0, .slice none 0 0] 30)).below hbS; replace p6 := ((p6.drew).alloc (.cells #[.int .i64 0, .slice none 0 0, .slice none 0 0] 30)).below hbS; have zzw70 := hbS.size; (try simp at zzw70); clear hbS
        refine hK.out _ _ ?_ (fun hHeld => ?_)
        focus (first | exact trivial | ((try dsimp only); (exact ⟨TC.cell 0 rfl, TC.cell 1 rfl, TC.cell 2 rfl, TC.cell 3 rfl, TX.cell 0 rfl, TX.cell 1 rfl, TX.cell 2 rfl⟩))); done
        clear hK K
        (try simp only [Act.put, List.setIfInBounds_toArray, List.set_cons_zero, List.set_cons_succ])
        refine wpAnyH_ready (rs := [3]) (by kernel_rfl) (by simp) ?_
        refine AllReadyH.cons (by rw [List.getElem?_toArray]; rfl) (fun K hK => ?_) AllReadyH.nil
        go_simp
        refine (iSendOver_any _ _ _ _ _ _ l _ _ xs cs k o r b _ (o6.rd.here Nat.one_pos) hn (p6.rd.here (by omega)) hm).mono ?_; rintro e w71 ⟨AS, cS, DS, dS, MS, rfl, oS, pS, maS, mbS, hbS⟩; have hS := Below.via (by (repeat (first | (with_reducible assumption) | (with_reducible exact Below.refl _ _) | (with_reducible refine Below.setCell ?_ (by first | (simp; done) | (simp; omega) | omega) _) | (with_reducible refine Below.alloc ?_ (by first | (simp; done) | (simp; omega) | omega) _) | (with_reducible refine Below.drew ?_) | (with_reducible refine Below.drewN ?_ _))) : Below w60.heap.size w60 _) hbS; have zw71 := hS.size; clear hS0; have hS0 := hS; clear hS; replace TO := TO.below hbS; clear ofr y0 y1 y2; have ofr := TO.free; have y0 := TO.cell 0 rfl; have y1 := TO.cell 1 rfl; have y2 := TO.cell 2 rfl; replace TC := TC.below hbS; replace TX := TX.below hbS; replace o6 := o6.below hbS; replace p6 := p6.below hbS; have bS0 : w70.heap.size ≤ MS := (by simpa using maS); replace oS := oS.mono (B' := w70.heap.size) (T' := MS) (by simp) (Nat.le_refl _); obtain ⟨bS, hbS0⟩ : ∃ q, q = w70.heap.size := ⟨_, rfl⟩; rw [← hbS0] at oS bS0; have zzw71 := hbS.size; (try simp at zzw71); clear hbS; have hlt : w60.heap.size < bS := (by omega); have hsp : w60.heap.size < bS ∨ MS ≤ w60.heap.size := .inl hlt; have hsq : w60.heap.size < MS ∨ w71.heap.size ≤ w60.heap.size := .inl (by omega)
        refine hK.out _ _ ?_ (fun hHeld => ?_)
        focus (first | exact trivial | ((try dsimp only); (exact ⟨TC.cell 0 rfl, TC.cell 1 rfl, TC.cell 2 rfl, TC.cell 3 rfl, TX.cell 0 rfl, TX.cell 1 rfl, TX.cell 2 rfl⟩))); done
        clear hK K
        (try simp only [Act.put, List.setIfInBounds_toArray, List.set_cons_zero, List.set_cons_succ])
        refine wpAnyH_take (i := 4) (v := ?_) (by rw [List.getElem?_toArray]; rfl) (by kernel_rfl) (by kernel_rfl) (by kernel_rfl) (fun _ _ _ h => h) (Or.inl ⟨by rfl, ?_⟩) (by assumption) ?_
        rotate_left
        focus (intro wS hSw; (try dsimp only at hSw); go_simp; (try with_reducible rfl)); done
        (try simp only [Act.put, List.setIfInBounds_toArray, List.set_cons_zero, List.set_cons_succ])
        refine wpAnyH_take (i := 5) (v := ?_) (by rw [List.getElem?_toArray]; rfl) (by kernel_rfl) (by kernel_rfl) (by kernel_rfl) (fun _ _ _ h => h) (Or.inl ⟨by rfl, ?_⟩) (by assumption) ?_
        rotate_left
        focus (intro wS hSw; (try dsimp only at hSw); go_simp; (try with_reducible rfl)); done
        (try simp only [Act.put, List.setIfInBounds_toArray, List.set_cons_zero, List.set_cons_succ])
        refine wpAnyH_take (i := 6) (v := ?_) (by rw [List.getElem?_toArray]; rfl) (by kernel_rfl) (by kernel_rfl) (by kernel_rfl) (fun _ _ _ h => h) (Or.inl ⟨by rfl, ?_⟩) (by assumption) ?_
        rotate_left
        focus (intro wS hSw; (try dsimp only at hSw); go_simp; (try with_reducible rfl)); done
        (try simp only [Act.put, List.setIfInBounds_toArray, List.set_cons_zero, List.set_cons_succ])
        refine wpAnyH_ready (rs := [8]) (by kernel_rfl) (by simp) ?_
        refine AllReadyH.cons (by rw [List.getElem?_toArray]; rfl) (fun K hK => ?_) AllReadyH.nil
        go_simp
        skip
        refine hK.out _ _ ?_ (fun hHeld => ?_)
        focus (first | exact trivial | ((try dsimp only); (exact ⟨(((TC.other (p := ⟨w60.heap.size, 0, none⟩) (by show w.heap.size + 1 ≠ w60.heap.size; omega) _).other (p := ⟨w60.heap.size, 1, none⟩) (by show w.heap.size + 1 ≠ w60.heap.size; omega) _).other (p := ⟨w60.heap.size, 2, none⟩) (by show w.heap.size + 1 ≠ w60.heap.size; omega) _).cell 0 rfl, (((TC.other (p := ⟨w60.heap.size, 0, none⟩) (by show w.heap.size + 1 ≠ w60.heap.size; omega) _).other (p := ⟨w60.heap.size, 1, none⟩) (by show w.heap.size + 1 ≠ w60.heap.size; omega) _).other (p := ⟨w60.heap.size, 2, none⟩) (by show w.heap.size + 1 ≠ w60.heap.size; omega) _).cell 1 rfl, (((TC.other (p := ⟨w60.heap.size, 0, none⟩) (by show w.heap.size + 1 ≠ w60.heap.size; omega) _).other (p := ⟨w60.heap.size, 1, none⟩) (by show w.heap.size + 1 ≠ w60.heap.size; omega) _).other (p := ⟨w60.heap.size, 2, none⟩) (by show w.heap.size + 1 ≠ w60.heap.size; omega) _).cell 2 rfl, (((TC.other (p := ⟨w60.heap.size, 0, none⟩) (by show w.heap.size + 1 ≠ w60.heap.size; omega) _).other (p := ⟨w60.heap.size, 1, none⟩) (by show w.heap.size + 1 ≠ w60.heap.size; omega) _).other (p := ⟨w60.heap.size, 2, none⟩) (by show w.heap.size + 1 ≠ w60.heap.size; omega) _).cell 3 rfl, (((TX.other (p := ⟨w60.heap.size, 0, none⟩) (by show w6.heap.size ≠ w60.heap.size; omega) _).other (p := ⟨w60.heap.size, 1, none⟩) (by show w6.heap.size ≠ w60.heap.size; omega) _).other (p := ⟨w60.heap.size, 2, none⟩) (by show w6.heap.size ≠ w60.heap.size; omega) _).cell 0 rfl, (((TX.other (p := ⟨w60.heap.size, 0, none⟩) (by show w6.heap.size ≠ w60.heap.size; omega) _).other (p := ⟨w60.heap.size, 1, none⟩) (by show w6.heap.size ≠ w60.heap.size; omega) _).other (p := ⟨w60.heap.size, 2, none⟩) (by show w6.heap.size ≠ w60.heap.size; omega) _).cell 1 rfl, (((TX.other (p := ⟨w60.heap.size, 0, none⟩) (by show w6.heap.size ≠ w60.heap.size; omega) _).other (p := ⟨w60.heap.size, 1, none⟩) (by show w6.heap.size ≠ w60.heap.size; omega) _).other (p := ⟨w60.heap.size, 2, none⟩) (by show w6.heap.size ≠ w60.heap.size; omega) _).cell 2 rfl⟩))); done
        clear hK K
        (try simp only [Act.put, List.setIfInBounds_toArray, List.set_cons_zero, List.set_cons_succ])
        refine wpAnyH_take (i := 9) (v := ?_) (by rw [List.getElem?_toArray]; rfl) (by kernel_rfl) (by kernel_rfl) (by kernel_rfl) (fun _ _ _ h => h) (Or.inl ⟨by rfl, ?_⟩) (by assumption) ?_
        rotate_left
        focus (intro wS hSw; (try dsimp only at hSw); go_simp; (try with_reducible rfl)); done
        (try simp only [Act.put, List.setIfInBounds_toArray, List.set_cons_zero, List.set_cons_succ])
        refine wpAnyH_done (by kernel_rfl) ?_ _
        refine NoPanic.normal ?_
        go_wp2_with fail
        go_meet
        exact ⟨w60.heap.size, AS, cS, DS, dS, bS, MS, w71.heap.size, rfl, rfl, ((TO.set 0 (.int .i64 (sendB l xs cs k o r b))).set 1 (.slice AS (sendX l xs cs k o r b).length cS)).set 2 (.slice DS (sendC l xs cs k o r b).length dS), ((oS.set hsp _).set hsp _).set hsp _, ((pS.set hsq _).set hsq _).set hsq _, by omega, by omega, by omega, (by first | omega | (simp; done) | (simp; omega)), .inr hlt, by omega, (by first | omega | (simp; done) | (simp; omega)), by (repeat (first | (with_reducible assumption) | (with_reducible exact Below.refl _ _) | (with_reducible refine Below.setCell ?_ (by first | (simp; done) | (simp; omega) | omega) _) | (with_reducible refine Below.alloc ?_ (by first | (simp; done) | (simp; omega) | omega) _) | (with_reducible refine Below.drew ?_) | (with_reducible refine Below.drewN ?_ _)))⟩
    case rest =>
      obtain ⟨w7, rfl⟩ : ∃ w7 : World, w7 = wc := ⟨_, rfl⟩
      obtain ⟨g7, A7, c7, D7, d7, B7, M7, T7, rfl, rfl, TR, o7, p7, s1_7, s2_7, s3_7, s4_7, s5_7, s6_7, s7_7, hb7⟩ := hcut
      clear cP_0 cP_1 cP_2 lP cC_0 cC_1 cC_2 cC_3 lC cV_0 cV_1 cV_2 lV cX_0 cX_1 cX_2 lX
      have z7 := hb7.size
      (try simp at z7)
      replace hr := hr.via hb7 (by (repeat (first | (with_reducible assumption) | (with_reducible exact Below.refl _ _) | (with_reducible refine Below.setCell ?_ (by first | (simp; done) | (simp; omega) | omega) _) | (with_reducible refine Below.alloc ?_ (by first | (simp; done) | (simp; omega) | omega) _) | (with_reducible refine Below.drew ?_) | (with_reducible refine Below.drewN ?_ _))))
      replace hr2 := hr2.via hb7 (by (repeat (first | (with_reducible assumption) | (with_reducible exact Below.refl _ _) | (with_reducible refine Below.setCell ?_ (by first | (simp; done) | (simp; omega) | omega) _) | (with_reducible refine Below.alloc ?_ (by first | (simp; done) | (simp; omega) | omega) _) | (with_reducible refine Below.drew ?_) | (with_reducible refine Below.drewN ?_ _))))
      replace o5 := o5.via hb7 (by (repeat (first | (with_reducible assumption) | (with_reducible exact Below.refl _ _) | (with_reducible refine Below.setCell ?_ (by first | (simp; done) | (simp; omega) | omega) _) | (with_reducible refine Below.alloc ?_ (by first | (simp; done) | (simp; omega) | omega) _) | (with_reducible refine Below.drew ?_) | (with_reducible refine Below.drewN ?_ _))))
      replace p5 := p5.via hb7 (by (repeat (first | (with_reducible assumption) | (with_reducible exact Below.refl _ _) | (with_reducible refine Below.setCell ?_ (by first | (simp; done) | (simp; omega) | omega) _) | (with_reducible refine Below.alloc ?_ (by first | (simp; done) | (simp; omega) | omega) _) | (with_reducible refine Below.drew ?_) | (with_reducible refine Below.drewN ?_ _))))
      replace o6 := o6.via hb7 (by (repeat (first | (with_reducible assumption) | (with_reducible exact Below.refl _ _) | (with_reducible refine Below.setCell ?_ (by first | (simp; done) | (simp; omega) | omega) _) | (with_reducible refine Below.alloc ?_ (by first | (simp; done) | (simp; omega) | omega) _) | (with_reducible refine Below.drew ?_) | (with_reducible refine Below.drewN ?_ _))))
      replace p6 := p6.via hb7 (by (repeat (first | (with_reducible assumption) | (with_reducible exact Below.refl _ _) | (with_reducible refine Below.setCell ?_ (by first | (simp; done) | (simp; omega) | omega) _) | (with_reducible refine Below.alloc ?_ (by first | (simp; done) | (simp; omega) | omega) _) | (with_reducible refine Below.drew ?_) | (with_reducible refine Below.drewN ?_ _))))
      replace TP := TP.via hb7 (by (repeat (first | (with_reducible assumption) | (with_reducible exact Below.refl _ _) | (with_reducible refine Below.setCell ?_ (by first | (simp; done) | (simp; omega) | omega) _) | (with_reducible refine Below.alloc ?_ (by first | (simp; done) | (simp; omega) | omega) _) | (with_reducible refine Below.drew ?_) | (with_reducible refine Below.drewN ?_ _))))
      replace TC := TC.via hb7 (by (repeat (first | (with_reducible assumption) | (with_reducible exact Below.refl _ _) | (with_reducible refine Below.setCell ?_ (by first | (simp; done) | (simp; omega) | omega) _) | (with_reducible refine Below.alloc ?_ (by first | (simp; done) | (simp; omega) | omega) _) | (with_reducible refine Below.drew ?_) | (with_reducible refine Below.drewN ?_ _))))
      replace TV := TV.via hb7 (by (repeat (first | (with_reducible assumption) | (with_reducible exact Below.refl _ _) | (with_reducible refine Below.setCell ?_ (by first | (simp; done) | (simp; omega) | omega) _) | (with_reducible refine Below.alloc ?_ (by first | (simp; done) | (simp; omega) | omega) _) | (with_reducible refine Below.drew ?_) | (with_reducible refine Below.drewN ?_ _))))
      replace TX := TX.via hb7 (by (repeat (first | (with_reducible assumption) | (with_reducible exact Below.refl _ _) | (with_reducible refine Below.setCell ?_ (by first | (simp; done) | (simp; omega) | omega) _) | (with_reducible refine Below.alloc ?_ (by first | (simp; done) | (simp; omega) | omega) _) | (with_reducible refine Below.drew ?_) | (with_reducible refine Below.drewN ?_ _))))
      replace hB := Below.via (by (repeat (first | (with_reducible assumption) | (with_reducible exact Below.refl _ _) | (with_reducible refine Below.setCell ?_ (by first | (simp; done) | (simp; omega) | omega) _) | (with_reducible refine Below.alloc ?_ (by first | (simp; done) | (simp; omega) | omega) _) | (with_reducible refine Below.drew ?_) | (with_reducible refine Below.drewN ?_ _))) : Below w.heap.size w _) hb7
      clear hb7
      have cP_0 := TP.cell 0 rfl
      have cP_1 := TP.cell 1 rfl
      have cP_2 := TP.cell 2 rfl
      have lP := TP.lt
      have cC_0 := TC.cell 0 rfl
      have cC_1 := TC.cell 1 rfl
      have cC_2 := TC.cell 2 rfl
      have cC_3 := TC.cell 3 rfl
      have lC := TC.lt
      have cV_0 := TV.cell 0 rfl
      have cV_1 := TV.cell 1 rfl
      have cV_2 := TV.cell 2 rfl
      have lV := TV.lt
      have cX_0 := TX.cell 0 rfl
      have cX_1 := TX.cell 1 rfl
      have cX_2 := TX.cell 2 rfl
      have lX := TX.lt
      have cR_0 := TR.cell 0 rfl
      have cR_1 := TR.cell 1 rfl
      have cR_2 := TR.cell 2 rfl
      have lR := TR.lt
      go_wp2_with fail
      refine (eqMessage_any _ _ _ _ _ _ _ _ _ _ _ _ _ _ _ _ _ _ _ _ _ _ _ (o7.rd.here Nat.one_pos) (by omega) (p7.rd.here (by omega)) (by omega) (o5.rd.here Nat.one_pos) (p5.rd.here (by omega))).mono ?_
      rintro e w8 ⟨rfl, hb8⟩
      clear cP_0 cP_1 cP_2 lP cC_0 cC_1 cC_2 cC_3 lC cV_0 cV_1 cV_2 lV cX_0 cX_1 cX_2 lX cR_0 cR_1 cR_2 lR
      have z8 := hb8.size
      (try simp at z8)
      replace hr := hr.via hb8 (by (repeat (first | (with_reducible assumption) | (with_reducible exact Below.refl _ _) | (with_reducible refine Below.setCell ?_ (by first | (simp; done) | (simp; omega) | omega) _) | (with_reducible refine Below.alloc ?_ (by first | (simp; done) | (simp; omega) | omega) _) | (with_reducible refine Below.drew ?_) | (with_reducible refine Below.drewN ?_ _))))
      replace hr2 := hr2.via hb8 (by (repeat (first | (with_reducible assumption) | (with_reducible exact Below.refl _ _) | (with_reducible refine Below.setCell ?_ (by first | (simp; done) | (simp; omega) | omega) _) | (with_reducible refine Below.alloc ?_ (by first | (simp; done) | (simp; omega) | omega) _) | (with_reducible refine Below.drew ?_) | (with_reducible refine Below.drewN ?_ _))))
      replace o5 := o5.via hb8 (by (repeat (first | (with_reducible assumption) | (with_reducible exact Below.refl _ _) | (with_reducible refine Below.setCell ?_ (by first | (simp; done) | (simp; omega) | omega) _) | (with_reducible refine Below.alloc ?_ (by first | (simp; done) | (simp; omega) | omega) _) | (with_reducible refine Below.drew ?_) | (with_reducible refine Below.drewN ?_ _))))
      replace p5 := p5.via hb8 (by (repeat (first | (with_reducible assumption) | (with_reducible exact Below.refl _ _) | (with_reducible refine Below.setCell ?_ (by first | (simp; done) | (simp; omega) | omega) _) | (with_reducible refine Below.alloc ?_ (by first | (simp; done) | (simp; omega) | omega) _) | (with_reducible refine Below.drew ?_) | (with_reducible refine Below.drewN ?_ _))))
      replace o6 := o6.via hb8 (by (repeat (first | (with_reducible assumption) | (with_reducible exact Below.refl _ _) | (with_reducible refine Below.setCell ?_ (by first | (simp; done) | (simp; omega) | omega) _) | (with_reducible refine Below.alloc ?_ (by first | (simp; done) | (simp; omega) | omega) _) | (with_reducible refine Below.drew ?_) | (with_reducible refine Below.drewN ?_ _))))
      replace p6 := p6.via hb8 (by (repeat (first | (with_reducible assumption) | (with_reducible exact Below.refl _ _) | (with_reducible refine Below.setCell ?_ (by first | (simp; done) | (simp; omega) | omega) _) | (with_reducible refine Below.alloc ?_ (by first | (simp; done) | (simp; omega) | omega) _) | (with_reducible refine Below.drew ?_) | (with_reducible refine Below.drewN ?_ _))))
      replace o7 := o7.via hb8 (by (repeat (first | (with_reducible assumption) | (with_reducible exact Below.refl _ _) | (with_reducible refine Below.setCell ?_ (by first | (simp; done) | (simp; omega) | omega) _) | (with_reducible refine Below.alloc ?_ (by first | (simp; done) | (simp; omega) | omega) _) | (with_reducible refine Below.drew ?_) | (with_reducible refine Below.drewN ?_ _))))
      replace p7 := p7.via hb8 (by (repeat (first | (with_reducible assumption) | (with_reducible exact Below.refl _ _) | (with_reducible refine Below.setCell ?_ (by first | (simp; done) | (simp; omega) | omega) _) | (with_reducible refine Below.alloc ?_ (by first | (simp; done) | (simp; omega) | omega) _) | (with_reducible refine Below.drew ?_) | (with_reducible refine Below.drewN ?_ _))))
      replace TP := TP.via hb8 (by (repeat (first | (with_reducible assumption) | (with_reducible exact Below.refl _ _) | (with_reducible refine Below.setCell ?_ (by first | (simp; done) | (simp; omega) | omega) _) | (with_reducible refine Below.alloc ?_ (by first | (simp; done) | (simp; omega) | omega) _) | (with_reducible refine Below.drew ?_) | (with_reducible refine Below.drewN ?_ _))))
      replace TC := TC.via hb8 (by (repeat (first | (with_reducible assumption) | (with_reducible exact Below.refl _ _) | (with_reducible refine Below.setCell ?_ (by first | (simp; done) | (simp; omega) | omega) _) | (with_reducible refine Below.alloc ?_ (by first | (simp; done) | (simp; omega) | omega) _) | (with_reducible refine Below.drew ?_) | (with_reducible refine Below.drewN ?_ _))))
      replace TV := TV.via hb8 (by (repeat (first | (with_reducible assumption) | (with_reducible exact Below.refl _ _) | (with_reducible refine Below.setCell ?_ (by first | (simp; done) | (simp; omega) | omega) _) | (with_reducible refine Below.alloc ?_ (by first | (simp; done) | (simp; omega) | omega) _) | (with_reducible refine Below.drew ?_) | (with_reducible refine Below.drewN ?_ _))))
      replace TX := TX.via hb8 (by (repeat (first | (with_reducible assumption) | (with_reducible exact Below.refl _ _) | (with_reducible refine Below.setCell ?_ (by first | (simp; done) | (simp; omega) | omega) _) | (with_reducible refine Below.alloc ?_ (by first | (simp; done) | (simp; omega) | omega) _) | (with_reducible refine Below.drew ?_) | (with_reducible refine Below.drewN ?_ _))))
      replace TR := TR.via hb8 (by (repeat (first | (with_reducible assumption) | (with_reducible exact Below.refl _ _) | (with_reducible refine Below.setCell ?_ (by first | (simp; done) | (simp; omega) | omega) _) | (with_reducible refine Below.alloc ?_ (by first | (simp; done) | (simp; omega) | omega) _) | (with_reducible refine Below.drew ?_) | (with_reducible refine Below.drewN ?_ _))))
      replace hB := Below.via (by (repeat (first | (with_reducible assumption) | (with_reducible exact Below.refl _ _) | (with_reducible refine Below.setCell ?_ (by first | (simp; done) | (simp; omega) | omega) _) | (with_reducible refine Below.alloc ?_ (by first | (simp; done) | (simp; omega) | omega) _) | (with_reducible refine Below.drew ?_) | (with_reducible refine Below.drewN ?_ _))) : Below w.heap.size w _) hb8
      clear hb8
      have cP_0 := TP.cell 0 rfl
      have cP_1 := TP.cell 1 rfl
      have cP_2 := TP.cell 2 rfl
      have lP := TP.lt
      have cC_0 := TC.cell 0 rfl
      have cC_1 := TC.cell 1 rfl
      have cC_2 := TC.cell 2 rfl
      have cC_3 := TC.cell 3 rfl
      have lC := TC.lt
      have cV_0 := TV.cell 0 rfl
      have cV_1 := TV.cell 1 rfl
      have cV_2 := TV.cell 2 rfl
      have lV := TV.lt
      have cX_0 := TX.cell 0 rfl
      have cX_1 := TX.cell 1 rfl
      have cX_2 := TX.cell 2 rfl
      have lX := TX.lt
      have cR_0 := TR.cell 0 rfl
      have cR_1 := TR.cell 1 rfl
      have cR_2 := TR.cell 2 rfl
      have lR := TR.lt
      go_wp2_with fail
      refine wp_region_noPanic ?_
      refine wp_region_held_drew (S := (fun W => W.cell? ⟨w.heap.size, 0, none⟩ = some (.int .i64 (l)) ∧ W.cell? ⟨w.heap.size, 1, none⟩ = some (.slice A (xs.length) c) ∧ W.cell? ⟨w.heap.size, 2, none⟩ = some (.slice D (cs.length) d) ∧ W.cell? ⟨w6.heap.size, 0, none⟩ = some (.int .i64 (l)) ∧ W.cell? ⟨w6.heap.size, 1, none⟩ = some (.slice A6 (xs.length) c6) ∧ W.cell? ⟨w6.heap.size, 2, none⟩ = some (.slice D6 (cs.length) d6))) (by kernel_rfl) ?_ (fun hHeld => ?_)
      focus (first | exact trivial | ((try dsimp only); ((repeat' (first | assumption | with_reducible refine And.intro ?_ ?_)) <;> go_keep))); done
      refine wpAnyH_take (i := 0) (v := ?_) (by rw [List.getElem?_toArray]; rfl) (by kernel_rfl) (by kernel_rfl) (by kernel_rfl) (fun _ _ _ h => h) (Or.inl ⟨by rfl, ?_⟩) (by assumption) ?_
      rotate_left
      focus (intro wS hSw; (try dsimp only at hSw); go_simp; (try with_reducible rfl)); done
      (try simp only [Act.put, List.setIfInBounds_toArray, List.set_cons_zero, List.set_cons_succ])
      refine wpAnyH_take (i := 1) (v := ?_) (by rw [List.getElem?_toArray]; rfl) (by kernel_rfl) (by kernel_rfl) (by kernel_rfl) (fun _ _ _ h => h) (Or.inl ⟨by rfl, ?_⟩) (by assumption) ?_
      rotate_left
      focus (intro wS hSw; (try dsimp only at hSw); go_simp; (try with_reducible rfl)); done
      (try simp only [Act.put, List.setIfInBounds_toArray, List.set_cons_zero, List.set_cons_succ])
      refine wpAnyH_ready (rs := [2]) (by kernel_rfl) (by simp) ?_
      refine AllReadyH.cons (by rw [List.getElem?_toArray]; rfl) (fun K hK => ?_) AllReadyH.nil
      go_simp
      refine (toMessage_any _ _ xs.length c cs.length d l A D xs cs _ (hr.drew) hn (hr2.drew) hm).mono ?_; rintro e w9 ⟨A9, c9, D9, d9, M9, rfl, o9, p9, ma9, mb9, hb9⟩; clear cP_0 cP_1 cP_2 lP cC_0 cC_1 cC_2 cC_3 lC cV_0 cV_1 cV_2 lV cX_0 cX_1 cX_2 lX cR_0 cR_1 cR_2 lR; have z9 := hb9.size; (try simp at z9); replace o9 := o9.mono (B' := w8.heap.size) (T' := M9) (by simp) (Nat.le_refl _); replace hr := hr.via hb9 (by (repeat (first | (with_reducible assumption) | (with_reducible exact Below.refl _ _) | (with_reducible refine Below.setCell ?_ (by first | (simp; done) | (simp; omega) | omega) _) | (with_reducible refine Below.alloc ?_ (by first | (simp; done) | (simp; omega) | omega) _) | (with_reducible refine Below.drew ?_) | (with_reducible refine Below.drewN ?_ _)))); replace hr2 := hr2.via hb9 (by (repeat (first | (with_reducible assumption) | (with_reducible exact Below.refl _ _) | (with_reducible refine Below.setCell ?_ (by first | (simp; done) | (simp; omega) | omega) _) | (with_reducible refine Below.alloc ?_ (by first | (simp; done) | (simp; omega) | omega) _) | (with_reducible refine Below.drew ?_) | (with_reducible refine Below.drewN ?_ _)))); replace o5 := o5.via hb9 (by (repeat (first | (with_reducible assumption) | (with_reducible exact Below.refl _ _) | (with_reducible refine Below.setCell ?_ (by first | (simp; done) | (simp; omega) | omega) _) | (with_reducible refine Below.alloc ?_ (by first | (simp; done) | (simp; omega) | omega) _) | (with_reducible refine Below.drew ?_) | (with_reducible refine Below.drewN ?_ _)))); replace p5 := p5.via hb9 (by (repeat (first | (with_reducible assumption) | (with_reducible exact Below.refl _ _) | (with_reducible refine Below.setCell ?_ (by first | (simp; done) | (simp; omega) | omega) _) | (with_reducible refine Below.alloc ?_ (by first | (simp; done) | (simp; omega) | omega) _) | (with_reducible refine Below.drew ?_) | (with_reducible refine Below.drewN ?_ _)))); replace o6 := o6.via hb9 (by (repeat (first | (with_reducible assumption) | (with_reducible exact Below.refl _ _) | (with_reducible refine Below.setCell ?_ (by first | (simp; done) | (simp; omega) | omega) _) | (with_reducible refine Below.alloc ?_ (by first | (simp; done) | (simp; omega) | omega) _) | (with_reducible refine Below.drew ?_) | (with_reducible refine Below.drewN ?_ _)))); replace p6 := p6.via hb9 (by (repeat (first | (with_reducible assumption) | (with_reducible exact Below.refl _ _) | (with_reducible refine Below.setCell ?_ (by first | (simp; done) | (simp; omega) | omega) _) | (with_reducible refine Below.alloc ?_ (by first | (simp; done) | (simp; omega) | omega) _) | (with_reducible refine Below.drew ?_) | (with_reducible refine Below.drewN ?_ _)))); replace o7 := o7.via hb9 (by (repeat (first | (with_reducible assumption) | (with_reducible exact Below.refl _ _) | (with_reducible refine Below.setCell ?_ (by first | (simp; done) | (simp; omega) | omega) _) | (with_reducible refine Below.alloc ?_ (by first | (simp; done) | (simp; omega) | omega) _) | (with_reducible refine Below.drew ?_) | (with_reducible refine Below.drewN ?_ _)))); replace p7 := p7.via hb9 (by (repeat (first | (with_reducible assumption) | (with_reducible exact Below.refl _ _) | (with_reducible refine Below.setCell ?_ (by first | (simp; done) | (simp; omega) | omega) _) | (with_reducible refine Below.alloc ?_ (by first | (simp; done) | (simp; omega) | omega) _) | (with_reducible refine Below.drew ?_) | (with_reducible refine Below.drewN ?_ _)))); replace TP := TP.via hb9 (by (repeat (first | (with_reducible assumption) | (with_reducible exact Below.refl _ _) | (with_reducible refine Below.setCell ?_ (by first | (simp; done) | (simp; omega) | omega) _) | (with_reducible refine Below.alloc ?_ (by first | (simp; done) | (simp; omega) | omega) _) | (with_reducible refine Below.drew ?_) | (with_reducible refine Below.drewN ?_ _)))); replace TC := TC.via hb9 (by (repeat (first | (with_reducible assumption) | (with_reducible exact Below.refl _ _) | (with_reducible refine Below.setCell ?_ (by first | (simp; done) | (simp; omega) | omega) _) | (with_reducible refine Below.alloc ?_ (by first | (simp; done) | (simp; omega) | omega) _) | (with_reducible refine Below.drew ?_) | (with_reducible refine Below.drewN ?_ _)))); replace TV := TV.via hb9 (by (repeat (first | (with_reducible assumption) | (with_reducible exact Below.refl _ _) | (with_reducible refine Below.setCell ?_ (by first | (simp; done) | (simp; omega) | omega) _) | (with_reducible refine Below.alloc ?_ (by first | (simp; done) | (simp; omega) | omega) _) | (with_reducible refine Below.drew ?_) | (with_reducible refine Below.drewN ?_ _)))); replace TX := TX.via hb9 (by (repeat (first | (with_reducible assumption) | (with_reducible exact Below.refl _ _) | (with_reducible refine Below.setCell ?_ (by first | (simp; done) | (simp; omega) | omega) _) | (with_reducible refine Below.alloc ?_ (by first | (simp; done) | (simp; omega) | omega) _) | (with_reducible refine Below.drew ?_) | (with_reducible refine Below.drewN ?_ _)))); replace TR := TR.via hb9 (by (repeat (first | (with_reducible assumption) | (with_reducible exact Below.refl _ _) | (with_reducible refine Below.setCell ?_ (by first | (simp; done) | (simp; omega) | omega) _) | (with_reducible refine Below.alloc ?_ (by first | (simp; done) | (simp; omega) | omega) _) | (with_reducible refine Below.drew ?_) | (with_reducible refine Below.drewN ?_ _)))); replace hB := Below.via (by (repeat (first | (with_reducible assumption) | (with_reducible exact Below.refl _ _) | (with_reducible refine Below.setCell ?_ (by first | (simp; done) | (simp; omega) | omega) _) | (with_reducible refine Below.alloc ?_ (by first | (simp; done) | (simp; omega) | omega) _) | (with_reducible refine Below.drew ?_) | (with_reducible refine Below.drewN ?_ _))) : Below w.heap.size w _) hb9; clear hb9; have cP_0 := TP.cell 0 rfl; have cP_1 := TP.cell 1 rfl; have cP_2 := TP.cell 2 rfl; have lP := TP.lt; have cC_0 := TC.cell 0 rfl; have cC_1 := TC.cell 1 rfl; have cC_2 := TC.cell 2 rfl; have cC_3 := TC.cell 3 rfl; have lC := TC.lt; have cV_0 := TV.cell 0 rfl; have cV_1 := TV.cell 1 rfl; have cV_2 := TV.cell 2 rfl; have lV := TV.lt; have cX_0 := TX.cell 0 rfl; have cX_1 := TX.cell 1 rfl; have cX_2 := TX.cell 2 rfl; have lX := TX.lt; have cR_0 := TR.cell 0 rfl; have cR_1 := TR.cell 1 rfl; have cR_2 := TR.cell 2 rfl; have lR := TR.lt
      refine hK.out _ _ ?_ (fun hHeld => ?_)
      focus (first | exact trivial | ((try dsimp only); (exact ⟨TP.cell 0 rfl, TP.cell 1 rfl, TP.cell 2 rfl, TX.cell 0 rfl, TX.cell 1 rfl, TX.cell 2 rfl⟩))); done
      clear hK K
      (try simp only [Act.put, List.setIfInBounds_toArray, List.set_cons_zero, List.set_cons_succ])
      refine wpAnyH_ready (rs := [3]) (by kernel_rfl) (by simp) ?_
      refine AllReadyH.cons (by rw [List.getElem?_toArray]; rfl) (fun K hK => ?_) AllReadyH.nil
      go_simp
      refine (eqMessage_any _ _ _ _ _ _ _ _ _ _ _ _ l l _ _ _ _ xs xs cs cs _ (o6.rd.here Nat.one_pos) hn (p6.rd.here (by omega)) hm (o9.rd.here Nat.one_pos) (p9.rd.here (by omega))).mono ?_; rintro e w10 ⟨rfl, hb10⟩; clear cP_0 cP_1 cP_2 lP cC_0 cC_1 cC_2 cC_3 lC cV_0 cV_1 cV_2 lV cX_0 cX_1 cX_2 lX cR_0 cR_1 cR_2 lR; have z10 := hb10.size; (try simp at z10); replace hr := hr.via hb10 (by (repeat (first | (with_reducible assumption) | (with_reducible exact Below.refl _ _) | (with_reducible refine Below.setCell ?_ (by first | (simp; done) | (simp; omega) | omega) _) | (with_reducible refine Below.alloc ?_ (by first | (simp; done) | (simp; omega) | omega) _) | (with_reducible refine Below.drew ?_) | (with_reducible refine Below.drewN ?_ _)))); replace hr2 := hr2.via hb10 (by (repeat (first | (with_reducible assumption) | (with_reducible exact Below.refl _ _) | (with_reducible refine Below.setCell ?_ (by first | (simp; done) | (simp; omega) | omega) _) | (with_reducible refine Below.alloc ?_ (by first | (simp; done) | (simp; omega) | omega) _) | (with_reducible refine Below.drew ?_) | (with_reducible refine Below.drewN ?_ _)))); replace o5 := o5.via hb10 (by (repeat (first | (with_reducible assumption) | (with_reducible exact Below.refl _ _) | (with_reducible refine Below.setCell ?_ (by first | (simp; done) | (simp; omega) | omega) _) | (with_reducible refine Below.alloc ?_ (by first | (simp; done) | (simp; omega) | omega) _) | (with_reducible refine Below.drew ?_) | (with_reducible refine Below.drewN ?_ _)))); replace p5 := p5.via hb10 (by (repeat (first | (with_reducible assumption) | (with_reducible exact Below.refl _ _) | (with_reducible refine Below.setCell ?_ (by first | (simp; done) | (simp; omega) | omega) _) | (with_reducible refine Below.alloc ?_ (by first | (simp; done) | (simp; omega) | omega) _) | (with_reducible refine Below.drew ?_) | (with_reducible refine Below.drewN ?_ _)))); replace o6 := o6.via hb10 (by (repeat (first | (with_reducible assumption) | (with_reducible exact Below.refl _ _) | (with_reducible refine Below.setCell ?_ (by first | (simp; done) | (simp; omega) | omega) _) | (with_reducible refine Below.alloc ?_ (by first | (simp; done) | (simp; omega) | omega) _) | (with_reducible refine Below.drew ?_) | (with_reducible refine Below.drewN ?_ _)))); replace p6 := p6.via hb10 (by (repeat (first | (with_reducible assumption) | (with_reducible exact Below.refl _ _) | (with_reducible refine Below.setCell ?_ (by first | (simp; done) | (simp; omega) | omega) _) | (with_reducible refine Below.alloc ?_ (by first | (simp; done) | (simp; omega) | omega) _) | (with_reducible refine Below.drew ?_) | (with_reducible refine Below.drewN ?_ _)))); replace o7 := o7.via hb10 (by (repeat (first | (with_reducible assumption) | (with_reducible exact Below.refl _ _) | (with_reducible refine Below.setCell ?_ (by first | (simp; done) | (simp; omega) | omega) _) | (with_reducible refine Below.alloc ?_ (by first | (simp; done) | (simp; omega) | omega) _) | (with_reducible refine Below.drew ?_) | (with_reducible refine Below.drewN ?_ _)))); replace p7 := p7.via hb10 (by (repeat (first | (with_reducible assumption) | (with_reducible exact Below.refl _ _) | (with_reducible refine Below.setCell ?_ (by first | (simp; done) | (simp; omega) | omega) _) | (with_reducible refine Below.alloc ?_ (by first | (simp; done) | (simp; omega) | omega) _) | (with_reducible refine Below.drew ?_) | (with_reducible refine Below.drewN ?_ _)))); replace o9 := o9.via hb10 (by (repeat (first | (with_reducible assumption) | (with_reducible exact Below.refl _ _) | (with_reducible refine Below.setCell ?_ (by first | (simp; done) | (simp; omega) | omega) _) | (with_reducible refine Below.alloc ?_ (by first | (simp; done) | (simp; omega) | omega) _) | (with_reducible refine Below.drew ?_) | (with_reducible refine Below.drewN ?_ _)))); replace p9 := p9.via hb10 (by (repeat (first | (with_reducible assumption) | (with_reducible exact Below.refl _ _) | (with_reducible refine Below.setCell ?_ (by first | (simp; done) | (simp; omega) | omega) _) | (with_reducible refine Below.alloc ?_ (by first | (simp; done) | (simp; omega) | omega) _) | (with_reducible refine Below.drew ?_) | (with_reducible refine Below.drewN ?_ _)))); replace TP := TP.via hb10 (by (repeat (first | (with_reducible assumption) | (with_reducible exact Below.refl _ _) | (with_reducible refine Below.setCell ?_ (by first | (simp; done) | (simp; omega) | omega) _) | (with_reducible refine Below.alloc ?_ (by first | (simp; done) | (simp; omega) | omega) _) | (with_reducible refine Below.drew ?_) | (with_reducible refine Below.drewN ?_ _)))); replace TC := TC.via hb10 (by (repeat (first | (with_reducible assumption) | (with_reducible exact Below.refl _ _) | (with_reducible refine Below.setCell ?_ (by first | (simp; done) | (simp; omega) | omega) _) | (with_reducible refine Below.alloc ?_ (by first | (simp; done) | (simp; omega) | omega) _) | (with_reducible refine Below.drew ?_) | (with_reducible refine Below.drewN ?_ _)))); replace TV := TV.via hb10 (by (repeat (first | (with_reducible assumption) | (with_reducible exact Below.refl _ _) | (with_reducible refine Below.setCell ?_ (by first | (simp; done) | (simp; omega) | omega) _) | (with_reducible refine Below.alloc ?_ (by first | (simp; done) | (simp; omega) | omega) _) | (with_reducible refine Below.drew ?_) | (with_reducible refine Below.drewN ?_ _)))); replace TX := TX.via hb10 (by (repeat (first | (with_reducible assumption) | (with_reducible exact Below.refl _ _) | (with_reducible refine Below.setCell ?_ (by first | (simp; done) | (simp; omega) | omega) _) | (with_reducible refine Below.alloc ?_ (by first | (simp; done) | (simp; omega) | omega) _) | (with_reducible refine Below.drew ?_) | (with_reducible refine Below.drewN ?_ _)))); replace TR := TR.via hb10 (by (repeat (first | (with_reducible assumption) | (with_reducible exact Below.refl _ _) | (with_reducible refine Below.setCell ?_ (by first | (simp; done) | (simp; omega) | omega) _) | (with_reducible refine Below.alloc ?_ (by first | (simp; done) | (simp; omega) | omega) _) | (with_reducible refine Below.drew ?_) | (with_reducible refine Below.drewN ?_ _)))); replace hB := Below.via (by (repeat (first | (with_reducible assumption) | (with_reducible exact Below.refl _ _) | (with_reducible refine Below.setCell ?_ (by first | (simp; done) | (simp; omega) | omega) _) | (with_reducible refine Below.alloc ?_ (by first | (simp; done) | (simp; omega) | omega) _) | (with_reducible refine Below.drew ?_) | (with_reducible refine Below.drewN ?_ _))) : Below w.heap.size w _) hb10; clear hb10; have cP_0 := TP.cell 0 rfl; have cP_1 := TP.cell 1 rfl; have cP_2 := TP.cell 2 rfl; have lP := TP.lt; have cC_0 := TC.cell 0 rfl; have cC_1 := TC.cell 1 rfl; have cC_2 := TC.cell 2 rfl; have cC_3 := TC.cell 3 rfl; have lC := TC.lt; have cV_0 := TV.cell 0 rfl; have cV_1 := TV.cell 1 rfl; have cV_2 := TV.cell 2 rfl; have lV := TV.lt; have cX_0 := TX.cell 0 rfl; have cX_1 := TX.cell 1 rfl; have cX_2 := TX.cell 2 rfl; have lX := TX.lt; have cR_0 := TR.cell 0 rfl; have cR_1 := TR.cell 1 rfl; have cR_2 := TR.cell 2 rfl; have lR := TR.lt
      refine hK.out _ _ ?_ (fun hHeld => ?_)
      focus (first | exact trivial | ((try dsimp only); (exact ⟨TP.cell 0 rfl, TP.cell 1 rfl, TP.cell 2 rfl, TX.cell 0 rfl, TX.cell 1 rfl, TX.cell 2 rfl⟩))); done
      clear hK K
      (try simp only [Act.put, List.setIfInBounds_toArray, List.set_cons_zero, List.set_cons_succ])
      refine wpAnyH_take (i := 4) (v := ?_) (by rw [List.getElem?_toArray]; rfl) (by kernel_rfl) (by kernel_rfl) (by kernel_rfl) (fun _ _ _ h => h) (Or.inl ⟨by rfl, ?_⟩) (by assumption) ?_
      rotate_left
      focus (intro wS hSw; (try dsimp only at hSw); go_simp; (try with_reducible rfl)); done
      (try simp only [Act.put, List.setIfInBounds_toArray, List.set_cons_zero, List.set_cons_succ])
      refine wpAnyH_done (by kernel_rfl) ?_ _
      refine NoPanic.normal ?_
      clear o9 p9
      (try simp at ma6)
      go_wp2_with fail
      refine (markMessage_any _ _ _ _ _ _ _ l _ _ xs cs 1 _ o6 hn p6 hm (by omega) (by omega) (by omega) (by omega) (by first | omega | (simp; done) | (simp; omega))).mono ?_
      rintro e w11 ⟨rfl, o11, p11, f11⟩
      clear cP_0 cP_1 cP_2 lP cC_0 cC_1 cC_2 cC_3 lC cV_0 cV_1 cV_2 lV cX_0 cX_1 cX_2 lX cR_0 cR_1 cR_2 lR
      have z11 := f11.size
      (try simp at z11)
      replace hr := hr.viaF f11 (by (repeat (first | (with_reducible assumption) | (with_reducible exact Below.refl _ _) | (with_reducible refine Below.setCell ?_ (by first | (simp; done) | (simp; omega) | omega) _) | (with_reducible refine Below.alloc ?_ (by first | (simp; done) | (simp; omega) | omega) _) | (with_reducible refine Below.drew ?_) | (with_reducible refine Below.drewN ?_ _)))) (by omega)
      replace hr2 := hr2.viaF f11 (by (repeat (first | (with_reducible assumption) | (with_reducible exact Below.refl _ _) | (with_reducible refine Below.setCell ?_ (by first | (simp; done) | (simp; omega) | omega) _) | (with_reducible refine Below.alloc ?_ (by first | (simp; done) | (simp; omega) | omega) _) | (with_reducible refine Below.drew ?_) | (with_reducible refine Below.drewN ?_ _)))) (by omega)
      replace o5 := o5.viaF f11 (by (repeat (first | (with_reducible assumption) | (with_reducible exact Below.refl _ _) | (with_reducible refine Below.setCell ?_ (by first | (simp; done) | (simp; omega) | omega) _) | (with_reducible refine Below.alloc ?_ (by first | (simp; done) | (simp; omega) | omega) _) | (with_reducible refine Below.drew ?_) | (with_reducible refine Below.drewN ?_ _)))) (by omega)
      replace p5 := p5.viaF f11 (by (repeat (first | (with_reducible assumption) | (with_reducible exact Below.refl _ _) | (with_reducible refine Below.setCell ?_ (by first | (simp; done) | (simp; omega) | omega) _) | (with_reducible refine Below.alloc ?_ (by first | (simp; done) | (simp; omega) | omega) _) | (with_reducible refine Below.drew ?_) | (with_reducible refine Below.drewN ?_ _)))) (by omega)
      replace o7 := o7.viaF f11 (by (repeat (first | (with_reducible assumption) | (with_reducible exact Below.refl _ _) | (with_reducible refine Below.setCell ?_ (by first | (simp; done) | (simp; omega) | omega) _) | (with_reducible refine Below.alloc ?_ (by first | (simp; done) | (simp; omega) | omega) _) | (with_reducible refine Below.drew ?_) | (with_reducible refine Below.drewN ?_ _)))) (by omega)
      replace p7 := p7.viaF f11 (by (repeat (first | (with_reducible assumption) | (with_reducible exact Below.refl _ _) | (with_reducible refine Below.setCell ?_ (by first | (simp; done) | (simp; omega) | omega) _) | (with_reducible refine Below.alloc ?_ (by first | (simp; done) | (simp; omega) | omega) _) | (with_reducible refine Below.drew ?_) | (with_reducible refine Below.drewN ?_ _)))) (by omega)
      replace TP := TP.viaF f11 (by (repeat (first | (with_reducible assumption) | (with_reducible exact Below.refl _ _) | (with_reducible refine Below.setCell ?_ (by first | (simp; done) | (simp; omega) | omega) _) | (with_reducible refine Below.alloc ?_ (by first | (simp; done) | (simp; omega) | omega) _) | (with_reducible refine Below.drew ?_) | (with_reducible refine Below.drewN ?_ _)))) (by first | (simp; done) | (simp; omega) | omega)
      replace TC := TC.viaF f11 (by (repeat (first | (with_reducible assumption) | (with_reducible exact Below.refl _ _) | (with_reducible refine Below.setCell ?_ (by first | (simp; done) | (simp; omega) | omega) _) | (with_reducible refine Below.alloc ?_ (by first | (simp; done) | (simp; omega) | omega) _) | (with_reducible refine Below.drew ?_) | (with_reducible refine Below.drewN ?_ _)))) (by first | (simp; done) | (simp; omega) | omega)
      replace TV := TV.viaF f11 (by (repeat (first | (with_reducible assumption) | (with_reducible exact Below.refl _ _) | (with_reducible refine Below.setCell ?_ (by first | (simp; done) | (simp; omega) | omega) _) | (with_reducible refine Below.alloc ?_ (by first | (simp; done) | (simp; omega) | omega) _) | (with_reducible refine Below.drew ?_) | (with_reducible refine Below.drewN ?_ _)))) (by first | (simp; done) | (simp; omega) | omega)
      replace TX := TX.viaF f11 (by (repeat (first | (with_reducible assumption) | (with_reducible exact Below.refl _ _) | (with_reducible refine Below.setCell ?_ (by first | (simp; done) | (simp; omega) | omega) _) | (with_reducible refine Below.alloc ?_ (by first | (simp; done) | (simp; omega) | omega) _) | (with_reducible refine Below.drew ?_) | (with_reducible refine Below.drewN ?_ _)))) (by first | (simp; done) | (simp; omega) | omega)
      replace TR := TR.viaF f11 (by (repeat (first | (with_reducible assumption) | (with_reducible exact Below.refl _ _) | (with_reducible refine Below.setCell ?_ (by first | (simp; done) | (simp; omega) | omega) _) | (with_reducible refine Below.alloc ?_ (by first | (simp; done) | (simp; omega) | omega) _) | (with_reducible refine Below.drew ?_) | (with_reducible refine Below.drewN ?_ _)))) (by first | (simp; done) | (simp; omega) | omega)
      replace hB := Below.trans (by (repeat (first | (with_reducible assumption) | (with_reducible exact Below.refl _ _) | (with_reducible refine Below.setCell ?_ (by first | (simp; done) | (simp; omega) | omega) _) | (with_reducible refine Below.alloc ?_ (by first | (simp; done) | (simp; omega) | omega) _) | (with_reducible refine Below.drew ?_) | (with_reducible refine Below.drewN ?_ _))) : Below w.heap.size w _) (f11.below (W := w.heap.size) (by omega) (by first | (simp; done) | (simp; omega) | omega))
      clear f11
      have cP_0 := TP.cell 0 rfl
      have cP_1 := TP.cell 1 rfl
      have cP_2 := TP.cell 2 rfl
      have lP := TP.lt
      have cC_0 := TC.cell 0 rfl
      have cC_1 := TC.cell 1 rfl
      have cC_2 := TC.cell 2 rfl
      have cC_3 := TC.cell 3 rfl
      have lC := TC.lt
      have cV_0 := TV.cell 0 rfl
      have cV_1 := TV.cell 1 rfl
      have cV_2 := TV.cell 2 rfl
      have lV := TV.lt
      have cX_0 := TX.cell 0 rfl
      have cX_1 := TX.cell 1 rfl
      have cX_2 := TX.cell 2 rfl
      have lX := TX.lt
      have cR_0 := TR.cell 0 rfl
      have cR_1 := TR.cell 1 rfl
      have cR_2 := TR.cell 2 rfl
      have lR := TR.lt
      clear o11 p11
      have hm9 : ¬ (1 + (xs.length : Int) + 4 * (cs.length : Int)) < 0 := by omega
      go_wp2_with fail
      refine (eqMessage_any _ _ _ _ _ _ _ _ _ _ _ _ _ _ _ _ _ _ _ _ _ _ _ (o7.rd.here Nat.one_pos) (by omega) (p7.rd.here (by omega)) (by omega) (o5.rd.here Nat.one_pos) (p5.rd.here (by omega))).mono ?_
      rintro e w12 ⟨rfl, hb12⟩
      clear cP_0 cP_1 cP_2 lP cC_0 cC_1 cC_2 cC_3 lC cV_0 cV_1 cV_2 lV cX_0 cX_1 cX_2 lX cR_0 cR_1 cR_2 lR
      have z12 := hb12.size
      (try simp at z12)
      replace hr := hr.via hb12 (by (repeat (first | (with_reducible assumption) | (with_reducible exact Below.refl _ _) | (with_reducible refine Below.setCell ?_ (by first | (simp; done) | (simp; omega) | omega) _) | (with_reducible refine Below.alloc ?_ (by first | (simp; done) | (simp; omega) | omega) _) | (with_reducible refine Below.drew ?_) | (with_reducible refine Below.drewN ?_ _))))
      replace hr2 := hr2.via hb12 (by (repeat (first | (with_reducible assumption) | (with_reducible exact Below.refl _ _) | (with_reducible refine Below.setCell ?_ (by first | (simp; done) | (simp; omega) | omega) _) | (with_reducible refine Below.alloc ?_ (by first | (simp; done) | (simp; omega) | omega) _) | (with_reducible refine Below.drew ?_) | (with_reducible refine Below.drewN ?_ _))))
      replace o5 := o5.via hb12 (by (repeat (first | (with_reducible assumption) | (with_reducible exact Below.refl _ _) | (with_reducible refine Below.setCell ?_ (by first | (simp; done) | (simp; omega) | omega) _) | (with_reducible refine Below.alloc ?_ (by first | (simp; done) | (simp; omega) | omega) _) | (with_reducible refine Below.drew ?_) | (with_reducible refine Below.drewN ?_ _))))
      replace p5 := p5.via hb12 (by (repeat (first | (with_reducible assumption) | (with_reducible exact Below.refl _ _) | (with_reducible refine Below.setCell ?_ (by first | (simp; done) | (simp; omega) | omega) _) | (with_reducible refine Below.alloc ?_ (by first | (simp; done) | (simp; omega) | omega) _) | (with_reducible refine Below.drew ?_) | (with_reducible refine Below.drewN ?_ _))))
      replace o7 := o7.via hb12 (by (repeat (first | (with_reducible assumption) | (with_reducible exact Below.refl _ _) | (with_reducible refine Below.setCell ?_ (by first | (simp; done) | (simp; omega) | omega) _) | (with_reducible refine Below.alloc ?_ (by first | (simp; done) | (simp; omega) | omega) _) | (with_reducible refine Below.drew ?_) | (with_reducible refine Below.drewN ?_ _))))
      replace p7 := p7.via hb12 (by (repeat (first | (with_reducible assumption) | (with_reducible exact Below.refl _ _) | (with_reducible refine Below.setCell ?_ (by first | (simp; done) | (simp; omega) | omega) _) | (with_reducible refine Below.alloc ?_ (by first | (simp; done) | (simp; omega) | omega) _) | (with_reducible refine Below.drew ?_) | (with_reducible refine Below.drewN ?_ _))))
      replace TP := TP.via hb12 (by (repeat (first | (with_reducible assumption) | (with_reducible exact Below.refl _ _) | (with_reducible refine Below.setCell ?_ (by first | (simp; done) | (simp; omega) | omega) _) | (with_reducible refine Below.alloc ?_ (by first | (simp; done) | (simp; omega) | omega) _) | (with_reducible refine Below.drew ?_) | (with_reducible refine Below.drewN ?_ _))))
      replace TC := TC.via hb12 (by (repeat (first | (with_reducible assumption) | (with_reducible exact Below.refl _ _) | (with_reducible refine Below.setCell ?_ (by first | (simp; done) | (simp; omega) | omega) _) | (with_reducible refine Below.alloc ?_ (by first | (simp; done) | (simp; omega) | omega) _) | (with_reducible refine Below.drew ?_) | (with_reducible refine Below.drewN ?_ _))))
      replace TV := TV.via hb12 (by (repeat (first | (with_reducible assumption) | (with_reducible exact Below.refl _ _) | (with_reducible refine Below.setCell ?_ (by first | (simp; done) | (simp; omega) | omega) _) | (with_reducible refine Below.alloc ?_ (by first | (simp; done) | (simp; omega) | omega) _) | (with_reducible refine Below.drew ?_) | (with_reducible refine Below.drewN ?_ _))))
      replace TX := TX.via hb12 (by (repeat (first | (with_reducible assumption) | (with_reducible exact Below.refl _ _) | (with_reducible refine Below.setCell ?_ (by first | (simp; done) | (simp; omega) | omega) _) | (with_reducible refine Below.alloc ?_ (by first | (simp; done) | (simp; omega) | omega) _) | (with_reducible refine Below.drew ?_) | (with_reducible refine Below.drewN ?_ _))))
      replace TR := TR.via hb12 (by (repeat (first | (with_reducible assumption) | (with_reducible exact Below.refl _ _) | (with_reducible refine Below.setCell ?_ (by first | (simp; done) | (simp; omega) | omega) _) | (with_reducible refine Below.alloc ?_ (by first | (simp; done) | (simp; omega) | omega) _) | (with_reducible refine Below.drew ?_) | (with_reducible refine Below.drewN ?_ _))))
      replace hB := Below.via (by (repeat (first | (with_reducible assumption) | (with_reducible exact Below.refl _ _) | (with_reducible refine Below.setCell ?_ (by first | (simp; done) | (simp; omega) | omega) _) | (with_reducible refine Below.alloc ?_ (by first | (simp; done) | (simp; omega) | omega) _) | (with_reducible refine Below.drew ?_) | (with_reducible refine Below.drewN ?_ _))) : Below w.heap.size w _) hb12
      clear hb12
      have cP_0 := TP.cell 0 rfl
      have cP_1 := TP.cell 1 rfl
      have cP_2 := TP.cell 2 rfl
      have lP := TP.lt
      have cC_0 := TC.cell 0 rfl
      have cC_1 := TC.cell 1 rfl
      have cC_2 := TC.cell 2 rfl
      have cC_3 := TC.cell 3 rfl
      have lC := TC.lt
      have cV_0 := TV.cell 0 rfl
      have cV_1 := TV.cell 1 rfl
      have cV_2 := TV.cell 2 rfl
      have lV := TV.lt
      have cX_0 := TX.cell 0 rfl
      have cX_1 := TX.cell 1 rfl
      have cX_2 := TX.cell 2 rfl
      have lX := TX.lt
      have cR_0 := TR.cell 0 rfl
      have cR_1 := TR.cell 1 rfl
      have cR_2 := TR.cell 2 rfl
      have lR := TR.lt
      have hm0 : ¬ (1 + (((sendX l xs cs k o r b).length : Nat) : Int) + 4 * (((sendC l xs cs k o r b).length : Nat) : Int)) < 0 := by omega
      go_wp2_with fail
      refine (markMessage_any _ _ _ _ _ _ _ _ _ _ _ _ 1 _ o7 (by omega) p7 (by omega) (by omega) (by omega) (by omega) (by omega) (by first | omega | (simp; omega))).mono ?_
      rintro e w13 ⟨rfl, m13, n13, f13⟩
      clear cP_0 cP_1 cP_2 lP cC_0 cC_1 cC_2 cC_3 lC cV_0 cV_1 cV_2 lV cX_0 cX_1 cX_2 lX cR_0 cR_1 cR_2 lR
      have z13 := f13.size
      (try simp at z13)
      replace hr := hr.viaF f13 (by (repeat (first | (with_reducible assumption) | (with_reducible exact Below.refl _ _) | (with_reducible refine Below.setCell ?_ (by first | (simp; done) | (simp; omega) | omega) _) | (with_reducible refine Below.alloc ?_ (by first | (simp; done) | (simp; omega) | omega) _) | (with_reducible refine Below.drew ?_) | (with_reducible refine Below.drewN ?_ _)))) (by omega)
      replace hr2 := hr2.viaF f13 (by (repeat (first | (with_reducible assumption) | (with_reducible exact Below.refl _ _) | (with_reducible refine Below.setCell ?_ (by first | (simp; done) | (simp; omega) | omega) _) | (with_reducible refine Below.alloc ?_ (by first | (simp; done) | (simp; omega) | omega) _) | (with_reducible refine Below.drew ?_) | (with_reducible refine Below.drewN ?_ _)))) (by omega)
      replace o5 := o5.viaF f13 (by (repeat (first | (with_reducible assumption) | (with_reducible exact Below.refl _ _) | (with_reducible refine Below.setCell ?_ (by first | (simp; done) | (simp; omega) | omega) _) | (with_reducible refine Below.alloc ?_ (by first | (simp; done) | (simp; omega) | omega) _) | (with_reducible refine Below.drew ?_) | (with_reducible refine Below.drewN ?_ _)))) (by omega)
      replace p5 := p5.viaF f13 (by (repeat (first | (with_reducible assumption) | (with_reducible exact Below.refl _ _) | (with_reducible refine Below.setCell ?_ (by first | (simp; done) | (simp; omega) | omega) _) | (with_reducible refine Below.alloc ?_ (by first | (simp; done) | (simp; omega) | omega) _) | (with_reducible refine Below.drew ?_) | (with_reducible refine Below.drewN ?_ _)))) (by omega)
      replace TP := TP.viaF f13 (by (repeat (first | (with_reducible assumption) | (with_reducible exact Below.refl _ _) | (with_reducible refine Below.setCell ?_ (by first | (simp; done) | (simp; omega) | omega) _) | (with_reducible refine Below.alloc ?_ (by first | (simp; done) | (simp; omega) | omega) _) | (with_reducible refine Below.drew ?_) | (with_reducible refine Below.drewN ?_ _)))) (by first | (simp; done) | (simp; omega) | omega)
      replace TC := TC.viaF f13 (by (repeat (first | (with_reducible assumption) | (with_reducible exact Below.refl _ _) | (with_reducible refine Below.setCell ?_ (by first | (simp; done) | (simp; omega) | omega) _) | (with_reducible refine Below.alloc ?_ (by first | (simp; done) | (simp; omega) | omega) _) | (with_reducible refine Below.drew ?_) | (with_reducible refine Below.drewN ?_ _)))) (by first | (simp; done) | (simp; omega) | omega)
      replace TV := TV.viaF f13 (by (repeat (first | (with_reducible assumption) | (with_reducible exact Below.refl _ _) | (with_reducible refine Below.setCell ?_ (by first | (simp; done) | (simp; omega) | omega) _) | (with_reducible refine Below.alloc ?_ (by first | (simp; done) | (simp; omega) | omega) _) | (with_reducible refine Below.drew ?_) | (with_reducible refine Below.drewN ?_ _)))) (by first | (simp; done) | (simp; omega) | omega)
      replace TX := TX.viaF f13 (by (repeat (first | (with_reducible assumption) | (with_reducible exact Below.refl _ _) | (with_reducible refine Below.setCell ?_ (by first | (simp; done) | (simp; omega) | omega) _) | (with_reducible refine Below.alloc ?_ (by first | (simp; done) | (simp; omega) | omega) _) | (with_reducible refine Below.drew ?_) | (with_reducible refine Below.drewN ?_ _)))) (by first | (simp; done) | (simp; omega) | omega)
      replace TR := TR.viaF f13 (by (repeat (first | (with_reducible assumption) | (with_reducible exact Below.refl _ _) | (with_reducible refine Below.setCell ?_ (by first | (simp; done) | (simp; omega) | omega) _) | (with_reducible refine Below.alloc ?_ (by first | (simp; done) | (simp; omega) | omega) _) | (with_reducible refine Below.drew ?_) | (with_reducible refine Below.drewN ?_ _)))) (by first | (simp; done) | (simp; omega) | omega)
      replace hB := Below.trans (by (repeat (first | (with_reducible assumption) | (with_reducible exact Below.refl _ _) | (with_reducible refine Below.setCell ?_ (by first | (simp; done) | (simp; omega) | omega) _) | (with_reducible refine Below.alloc ?_ (by first | (simp; done) | (simp; omega) | omega) _) | (with_reducible refine Below.drew ?_) | (with_reducible refine Below.drewN ?_ _))) : Below w.heap.size w _) (f13.below (W := w.heap.size) (by omega) (by first | (simp; done) | (simp; omega) | omega))
      clear f13
      have cP_0 := TP.cell 0 rfl
      have cP_1 := TP.cell 1 rfl
      have cP_2 := TP.cell 2 rfl
      have lP := TP.lt
      have cC_0 := TC.cell 0 rfl
      have cC_1 := TC.cell 1 rfl
      have cC_2 := TC.cell 2 rfl
      have cC_3 := TC.cell 3 rfl
      have lC := TC.lt
      have cV_0 := TV.cell 0 rfl
      have cV_1 := TV.cell 1 rfl
      have cV_2 := TV.cell 2 rfl
      have lV := TV.lt
      have cX_0 := TX.cell 0 rfl
      have cX_1 := TX.cell 1 rfl
      have cX_2 := TX.cell 2 rfl
      have lX := TX.lt
      have cR_0 := TR.cell 0 rfl
      have cR_1 := TR.cell 1 rfl
      have cR_2 := TR.cell 2 rfl
      have lR := TR.lt
      go_wp2_with fail
      refine (heldMessage_any _ _ _ _ _ _ _ _ _ _ 1 _ m13.rd (by omega) n13.rd (by omega) (by omega) (by omega)).mono ?_
      rintro e w14 ⟨rfl, hb14⟩
      clear cP_0 cP_1 cP_2 lP cC_0 cC_1 cC_2 cC_3 lC cV_0 cV_1 cV_2 lV cX_0 cX_1 cX_2 lX cR_0 cR_1 cR_2 lR
      have z14 := hb14.size
      (try simp at z14)
      replace hr := hr.via hb14 (by (repeat (first | (with_reducible assumption) | (with_reducible exact Below.refl _ _) | (with_reducible refine Below.setCell ?_ (by first | (simp; done) | (simp; omega) | omega) _) | (with_reducible refine Below.alloc ?_ (by first | (simp; done) | (simp; omega) | omega) _) | (with_reducible refine Below.drew ?_) | (with_reducible refine Below.drewN ?_ _))))
      replace hr2 := hr2.via hb14 (by (repeat (first | (with_reducible assumption) | (with_reducible exact Below.refl _ _) | (with_reducible refine Below.setCell ?_ (by first | (simp; done) | (simp; omega) | omega) _) | (with_reducible refine Below.alloc ?_ (by first | (simp; done) | (simp; omega) | omega) _) | (with_reducible refine Below.drew ?_) | (with_reducible refine Below.drewN ?_ _))))
      replace o5 := o5.via hb14 (by (repeat (first | (with_reducible assumption) | (with_reducible exact Below.refl _ _) | (with_reducible refine Below.setCell ?_ (by first | (simp; done) | (simp; omega) | omega) _) | (with_reducible refine Below.alloc ?_ (by first | (simp; done) | (simp; omega) | omega) _) | (with_reducible refine Below.drew ?_) | (with_reducible refine Below.drewN ?_ _))))
      replace p5 := p5.via hb14 (by (repeat (first | (with_reducible assumption) | (with_reducible exact Below.refl _ _) | (with_reducible refine Below.setCell ?_ (by first | (simp; done) | (simp; omega) | omega) _) | (with_reducible refine Below.alloc ?_ (by first | (simp; done) | (simp; omega) | omega) _) | (with_reducible refine Below.drew ?_) | (with_reducible refine Below.drewN ?_ _))))
      replace m13 := m13.via hb14 (by (repeat (first | (with_reducible assumption) | (with_reducible exact Below.refl _ _) | (with_reducible refine Below.setCell ?_ (by first | (simp; done) | (simp; omega) | omega) _) | (with_reducible refine Below.alloc ?_ (by first | (simp; done) | (simp; omega) | omega) _) | (with_reducible refine Below.drew ?_) | (with_reducible refine Below.drewN ?_ _))))
      replace n13 := n13.via hb14 (by (repeat (first | (with_reducible assumption) | (with_reducible exact Below.refl _ _) | (with_reducible refine Below.setCell ?_ (by first | (simp; done) | (simp; omega) | omega) _) | (with_reducible refine Below.alloc ?_ (by first | (simp; done) | (simp; omega) | omega) _) | (with_reducible refine Below.drew ?_) | (with_reducible refine Below.drewN ?_ _))))
      replace TP := TP.via hb14 (by (repeat (first | (with_reducible assumption) | (with_reducible exact Below.refl _ _) | (with_reducible refine Below.setCell ?_ (by first | (simp; done) | (simp; omega) | omega) _) | (with_reducible refine Below.alloc ?_ (by first | (simp; done) | (simp; omega) | omega) _) | (with_reducible refine Below.drew ?_) | (with_reducible refine Below.drewN ?_ _))))
      replace TC := TC.via hb14 (by (repeat (first | (with_reducible assumption) | (with_reducible exact Below.refl _ _) | (with_reducible refine Below.setCell ?_ (by first | (simp; done) | (simp; omega) | omega) _) | (with_reducible refine Below.alloc ?_ (by first | (simp; done) | (simp; omega) | omega) _) | (with_reducible refine Below.drew ?_) | (with_reducible refine Below.drewN ?_ _))))
      replace TV := TV.via hb14 (by (repeat (first | (with_reducible assumption) | (with_reducible exact Below.refl _ _) | (with_reducible refine Below.setCell ?_ (by first | (simp; done) | (simp; omega) | omega) _) | (with_reducible refine Below.alloc ?_ (by first | (simp; done) | (simp; omega) | omega) _) | (with_reducible refine Below.drew ?_) | (with_reducible refine Below.drewN ?_ _))))
      replace TX := TX.via hb14 (by (repeat (first | (with_reducible assumption) | (with_reducible exact Below.refl _ _) | (with_reducible refine Below.setCell ?_ (by first | (simp; done) | (simp; omega) | omega) _) | (with_reducible refine Below.alloc ?_ (by first | (simp; done) | (simp; omega) | omega) _) | (with_reducible refine Below.drew ?_) | (with_reducible refine Below.drewN ?_ _))))
      replace TR := TR.via hb14 (by (repeat (first | (with_reducible assumption) | (with_reducible exact Below.refl _ _) | (with_reducible refine Below.setCell ?_ (by first | (simp; done) | (simp; omega) | omega) _) | (with_reducible refine Below.alloc ?_ (by first | (simp; done) | (simp; omega) | omega) _) | (with_reducible refine Below.drew ?_) | (with_reducible refine Below.drewN ?_ _))))
      replace hB := Below.via (by (repeat (first | (with_reducible assumption) | (with_reducible exact Below.refl _ _) | (with_reducible refine Below.setCell ?_ (by first | (simp; done) | (simp; omega) | omega) _) | (with_reducible refine Below.alloc ?_ (by first | (simp; done) | (simp; omega) | omega) _) | (with_reducible refine Below.drew ?_) | (with_reducible refine Below.drewN ?_ _))) : Below w.heap.size w _) hb14
      clear hb14
      have cP_0 := TP.cell 0 rfl
      have cP_1 := TP.cell 1 rfl
      have cP_2 := TP.cell 2 rfl
      have lP := TP.lt
      have cC_0 := TC.cell 0 rfl
      have cC_1 := TC.cell 1 rfl
      have cC_2 := TC.cell 2 rfl
      have cC_3 := TC.cell 3 rfl
      have lC := TC.lt
      have cV_0 := TV.cell 0 rfl
      have cV_1 := TV.cell 1 rfl
      have cV_2 := TV.cell 2 rfl
      have lV := TV.lt
      have cX_0 := TX.cell 0 rfl
      have cX_1 := TX.cell 1 rfl
      have cX_2 := TX.cell 2 rfl
      have lX := TX.lt
      have cR_0 := TR.cell 0 rfl
      have cR_1 := TR.cell 1 rfl
      have cR_2 := TR.cell 2 rfl
      have lR := TR.lt
      go_upto_region 24 with (fail)
      go_cut [14, 15] (fun u6 u7 wx => CutM w14 (sendB l xs cs k o r b) (sendX l xs cs k o r b) (sendC l xs cs k o r b) (sendOk l xs cs k o r b) u6 u7 wx)
      case first =>
        have hS0 := Below.refl w14.heap.size w14
        refine wp_region_noPanic ?_
        refine wp_region_held_drew (S := (fun W => W.cell? ⟨w.heap.size, 0, none⟩ = some (.int .i64 (l)) ∧ W.cell? ⟨w.heap.size, 1, none⟩ = some (.slice A (xs.length) c) ∧ W.cell? ⟨w.heap.size, 2, none⟩ = some (.slice D (cs.length) d) ∧ W.cell? ⟨w.heap.size + 1, 0, none⟩ = some (.int .i64 (k)) ∧ W.cell? ⟨w.heap.size + 1, 1, none⟩ = some (.int .i64 (o)) ∧ W.cell? ⟨w.heap.size + 1, 2, none⟩ = some (.int .i64 (r)) ∧ W.cell? ⟨w.heap.size + 1, 3, none⟩ = some (.int .i64 (b)))) (by kernel_rfl) ?_ (fun hHeld => ?_)
        focus (first | exact trivial | ((try dsimp only); ((repeat' (first | assumption | with_reducible refine And.intro ?_ ?_)) <;> go_keep))); done
        refine wpAnyH_take (i := 0) (v := ?_) (by rw [List.getElem?_toArray]; rfl) (by kernel_rfl) (by kernel_rfl) (by kernel_rfl) (fun _ _ _ h => h) (Or.inl ⟨by rfl, ?_⟩) (by assumption) ?_
        rotate_left
        focus (intro wS hSw; (try dsimp only at hSw); go_simp; (try with_reducible rfl)); done
        (try simp only [Act.put, List.setIfInBounds_toArray, List.set_cons_zero, List.set_cons_succ])
        refine wpAnyH_take (i := 2) (v := ?_) (by rw [List.getElem?_toArray]; rfl) (by kernel_rfl) (by kernel_rfl) (by kernel_rfl) (fun _ _ _ h => h) (Or.inl ⟨by rfl, ?_⟩) (by assumption) ?_
        rotate_left
        focus (intro wS hSw; (try dsimp only at hSw); go_simp; (try with_reducible rfl)); done
        (try simp only [Act.put, List.setIfInBounds_toArray, List.set_cons_zero, List.set_cons_succ])
        refine wpAnyH_ready (rs := [1, 8]) (by kernel_rfl) (by simp) ?_
        refine AllReadyH.cons (by rw [List.getElem?_toArray]; rfl) (fun K hK => ?_) (AllReadyH.cons (by rw [List.getElem?_toArray]; rfl) (fun K hK => ?_) AllReadyH.nil)
        · go_simp
          refine (toMessage_any _ _ xs.length c cs.length d l A D xs cs _ (hr.drew) hn (hr2.drew) hm).mono ?_; rintro e w150 ⟨AT, cT, DT, dT, MT, rfl, oT, pT, maT, mbT, hbS⟩; have hS := Below.via (by (repeat (first | (with_reducible assumption) | (with_reducible exact Below.refl _ _) | (with_reducible refine Below.setCell ?_ (by first | (simp; done) | (simp; omega) | omega) _) | (with_reducible refine Below.alloc ?_ (by first | (simp; done) | (simp; omega) | omega) _) | (with_reducible refine Below.drew ?_) | (with_reducible refine Below.drewN ?_ _))) : Below w14.heap.size w14 _) hbS; have zw150 := hS.size; clear hS0; have hS0 := hS; clear hS; replace TP := (TP.drew).below hbS; replace TC := (TC.drew).below hbS; replace hr := (hr.drew).below hbS; replace hr2 := (hr2.drew).below hbS; have zzw150 := hbS.size; (try simp at zzw150); clear hbS
          refine hK.out _ _ ?_ (fun hHeld => ?_)
          focus (first | exact trivial | ((try dsimp only); (exact ⟨TP.cell 0 rfl, TP.cell 1 rfl, TP.cell 2 rfl, TC.cell 0 rfl, TC.cell 1 rfl, TC.cell 2 rfl, TC.cell 3 rfl⟩))); done
          clear hK K
          (try simp only [Act.put, List.setIfInBounds_toArray, List.set_cons_zero, List.set_cons_succ])
          refine wpAnyH_ready (rs := [3, 8]) (by kernel_rfl) (by simp) ?_
          refine AllReadyH.cons (by rw [List.getElem?_toArray]; rfl) (fun K hK => ?_) (AllReadyH.cons (by rw [List.getElem?_toArray]; rfl) (fun K hK => ?_) AllReadyH.nil)
          · go_simp
            refine (toCap_any _ _ _ _ _).mono ?_; rintro e w151 ⟨rfl, hbS⟩; have hS := Below.via (by (repeat (first | (with_reducible assumption) | (with_reducible exact Below.refl _ _) | (with_reducible refine Below.setCell ?_ (by first | (simp; done) | (simp; omega) | omega) _) | (with_reducible refine Below.alloc ?_ (by first | (simp; done) | (simp; omega) | omega) _) | (with_reducible refine Below.drew ?_) | (with_reducible refine Below.drewN ?_ _))) : Below w14.heap.size w14 _) hbS; have zw151 := hS.size; clear hS0; have hS0 := hS; clear hS; replace TP := TP.below hbS; replace TC := TC.below hbS; replace hr := hr.below hbS; replace hr2 := hr2.below hbS; replace oT := oT.below hbS; replace pT := pT.below hbS; have zzw151 := hbS.size; (try simp at zzw151); clear hbS
            refine hK.out _ _ ?_ (fun hHeld => ?_)
            focus (first | exact trivial | ((try dsimp only); (exact ⟨TP.cell 0 rfl, TP.cell 1 rfl, TP.cell 2 rfl, TC.cell 0 rfl, TC.cell 1 rfl, TC.cell 2 rfl, TC.cell 3 rfl⟩))); done
            clear hK K
            (try simp only [Act.put, List.setIfInBounds_toArray, List.set_cons_zero, List.set_cons_succ])
            refine wpAnyH_ready (rs := [4, 8]) (by kernel_rfl) (by simp) ?_
            refine AllReadyH.cons (by rw [List.getElem?_toArray]; rfl) (fun K hK => ?_) (AllReadyH.cons (by rw [List.getElem?_toArray]; rfl) (fun K hK => ?_) AllReadyH.nil)
            · go_simp
              refine (iSendOver_any _ _ _ _ _ _ l _ _ xs cs k o r b _ (oT.rd.here Nat.one_pos) hn (pT.rd.here (by omega)) hm).mono ?_; rintro e w152 ⟨AS, cS, DS, dS, MS, rfl, oS, pS, maS, mbS, hbS⟩; have hS := Below.via (by (repeat (first | (with_reducible assumption) | (with_reducible exact Below.refl _ _) | (with_reducible refine Below.setCell ?_ (by first | (simp; done) | (simp; omega) | omega) _) | (with_reducible refine Below.alloc ?_ (by first | (simp; done) | (simp; omega) | omega) _) | (with_reducible refine Below.drew ?_) | (with_reducible refine Below.drewN ?_ _))) : Below w14.heap.size w14 _) hbS; have zw152 := hS.size; clear hS0; have hS0 := hS; clear hS; replace TP := TP.below hbS; replace TC := TC.below hbS; replace hr := hr.below hbS; replace hr2 := hr2.below hbS; replace oT := oT.below hbS; replace pT := pT.below hbS; have bS0 : w151.heap.size ≤ MS := (by simpa using maS); replace oS := oS.mono (B' := w151.heap.size) (T' := MS) (by simp) (Nat.le_refl _); obtain ⟨bS, hbS0⟩ : ∃ q, q = w151.heap.size := ⟨_, rfl⟩; rw [← hbS0] at oS bS0; clear oT pT; have zzw152 := hbS.size; (try simp at zzw152); clear hbS
              refine hK.out _ _ ?_ (fun hHeld => ?_)
              focus (first | exact trivial | ((try dsimp only); (exact ⟨TP.cell 0 rfl, TP.cell 1 rfl, TP.cell 2 rfl, TC.cell 0 rfl, TC.cell 1 rfl, TC.cell 2 rfl, TC.cell 3 rfl⟩))); done
              clear hK K
              (try simp only [Act.put, List.setIfInBounds_toArray, List.set_cons_zero, List.set_cons_succ])
              refine wpAnyH_take (i := 5) (v := ?_) (by rw [List.getElem?_toArray]; rfl) (by kernel_rfl) (by kernel_rfl) (by kernel_rfl) (fun _ _ _ h => h) (Or.inl ⟨by rfl, ?_⟩) (by assumption) ?_
              rotate_left
              focus (intro wS hSw; (try dsimp only at hSw); go_simp; (try with_reducible rfl)); done
              (try simp only [Act.put, List.setIfInBounds_toArray, List.set_cons_zero, List.set_cons_succ])
              refine wpAnyH_take (i := 6) (v := ?_) (by rw [List.getElem?_toArray]; rfl) (by kernel_rfl) (by kernel_rfl) (by kernel_rfl) (fun _ _ _ h => h) (Or.inl ⟨by rfl, ?_⟩) (by assumption) ?_
              rotate_left
              focus (intro wS hSw; (try dsimp only at hSw); go_simp; (try with_reducible rfl)); done
              (try simp only [Act.put, List.setIfInBounds_toArray, List.set_cons_zero, List.set_cons_succ])
              refine wpAnyH_take (i := 7) (v := ?_) (by rw [List.getElem?_toArray]; rfl) (by kernel_rfl) (by kernel_rfl) (by kernel_rfl) (fun _ _ _ h => h) (Or.inl ⟨by rfl, ?_⟩) (by assumption) ?_
              rotate_left
              focus (intro wS hSw; (try dsimp only at hSw); go_simp; (try with_reducible rfl)); done
              (try simp only [Act.put, List.setIfInBounds_toArray, List.set_cons_zero, List.set_cons_succ])
              refine wpAnyH_ready (rs := [8]) (by kernel_rfl) (by simp) ?_
              refine AllReadyH.cons (by rw [List.getElem?_toArray]; rfl) (fun K hK => ?_) AllReadyH.nil
              go_simp
              skip
              refine hK.out _ _ ?_ (fun hHeld => ?_)
              focus (first | exact trivial | ((try dsimp only); (exact ⟨(TP.alloc (.cells #[.int .i64 0, .slice none 0 0, .slice none 0 0] 30)).cell 0 rfl, (TP.alloc (.cells #[.int .i64 0, .slice none 0 0, .slice none 0 0] 30)).cell 1 rfl, (TP.alloc (.cells #[.int .i64 0, .slice none 0 0, .slice none 0 0] 30)).cell 2 rfl, (TC.alloc (.cells #[.int .i64 0, .slice none 0 0, .slice none 0 0] 30)).cell 0 rfl, (TC.alloc (.cells #[.int .i64 0, .slice none 0 0, .slice none 0 0] 30)).cell 1 rfl, (TC.alloc (.cells #[.int .i64 0, .slice none 0 0, .slice none 0 0] 30)).cell 2 rfl, (TC.alloc (.cells #[.int .i64 0, .slice none 0 0, .slice none 0 0] 30)).cell 3 rfl⟩))); done
              clear hK K
              (try simp only [Act.put, List.setIfInBounds_toArray, List.set_cons_zero, List.set_cons_succ])
              refine wpAnyH_ready (rs := [9]) (by kernel_rfl) (by simp) ?_
              refine AllReadyH.cons (by rw [List.getElem?_toArray]; rfl) (fun K hK => ?_) AllReadyH.nil
              go_simp
              skip
              refine hK.out _ _ ?_ (fun hHeld => ?_)
              focus (first | exact trivial | ((try dsimp only); (exact ⟨(TP.alloc _).cell 0 rfl, (TP.alloc _).cell 1 rfl, (TP.alloc _).cell 2 rfl, (TC.alloc _).cell 0 rfl, (TC.alloc _).cell 1 rfl, (TC.alloc _).cell 2 rfl, (TC.alloc _).cell 3 rfl⟩))); done
              clear hK K
              (try simp only [Act.put, List.setIfInBounds_toArray, List.set_cons_zero, List.set_cons_succ])
              refine wpAnyH_take (i := 10) (v := ?_) (by rw [List.getElem?_toArray]; rfl) (by kernel_rfl) (by kernel_rfl) (by kernel_rfl) (fun _ _ _ h => h) (Or.inl ⟨by rfl, ?_⟩) (by assumption) ?_
              rotate_left
              focus (intro wS hSw; (try dsimp only at hSw); go_simp; (try with_reducible rfl)); done
              (try simp only [Act.put, List.setIfInBounds_toArray, List.set_cons_zero, List.set_cons_succ])
              refine wpAnyH_done (by kernel_rfl) ?_ _
              refine NoPanic.normal ?_
              go_wp2_with fail
              go_meet
              exact ⟨w152.heap.size, AS, cS, DS, dS, bS, MS, w152.heap.size, rfl, rfl, Blk.newAt _ _ rfl, oS.alloc _, pS.alloc _, by omega, by omega, by omega, (by first | omega | (simp; done) | (simp; omega)), .inl (Nat.le_refl _), by omega, (by first | omega | (simp; done) | (simp; omega)), by (repeat (first | (with_reducible assumption) | (with_reducible exact Below.refl _ _) | (with_reducible refine Below.setCell ?_ (by first | (simp; done) | (simp; omega) | omega) _) | (with_reducible refine Below.alloc ?_ (by first | (simp; done) | (simp; omega) | omega) _) | (with_reducible refine Below.drew ?_) | (with_reducible refine Below.drewN ?_ _)))⟩
            · go_simp
              skip
              refine hK.out _ _ ?_ (fun hHeld => ?_)
              focus (first | exact trivial | ((try dsimp only); (exact ⟨(TP.alloc (.cells #[.int .i64 0, .slice none 0 0, .slice none 0 0] 30)).cell 0 rfl, (TP.alloc (.cells #[.int .i64 0, .slice none 0 0, .slice none 0 0] 30)).cell 1 rfl, (TP.alloc (.cells #[.int .i64 0, .slice none 0 0, .slice none 0 0] 30)).cell 2 rfl, (TC.alloc (.cells #[.int .i64 0, .slice none 0 0, .slice none 0 0] 30)).cell 0 rfl, (TC.alloc (.cells #[.int .i64 0, .slice none 0 0, .slice none 0 0] 30)).cell 1 rfl, (TC.alloc (.cells #[.int .i64 0, .slice none 0 0, .slice none 0 0] 30)).cell 2 rfl, (TC.alloc (.cells #[.int .i64 0, .slice none 0 0, .slice none 0 0] 30)).cell 3 rfl⟩))); done
              clear hK K
              (try simp only [Act.put, List.setIfInBounds_toArray, List.set_cons_zero, List.set_cons_succ])
              refine wpAnyH_ready (rs := [4]) (by kernel_rfl) (by simp) ?_
              refine AllReadyH.cons (by rw [List.getElem?_toArray]; rfl) (fun K hK => ?_) AllReadyH.nil
              go_simp
              refine (iSendOver_any _ _ _ _ _ _ l _ _ xs cs k o r b _ ((oT.alloc (.cells #[.int .i64 0, .slice none 0 0, .slice none 0 0] 30)).rd.here Nat.one_pos) hn ((pT.alloc (.cells #[.int .i64 0, .slice none 0 0, .slice none 0 0] 30)).rd.here (by omega)) hm).mono ?_; rintro e w152 ⟨AS, cS, DS, dS, MS, rfl, oS, pS, maS, mbS, hbS⟩; have hS := Below.via (by (repeat (first | (with_reducible assumption) | (with_reducible exact Below.refl _ _) | (with_reducible refine Below.setCell ?_ (by first | (simp; done) | (simp; omega) | omega) _) | (with_reducible refine Below.alloc ?_ (by first | (simp; done) | (simp; omega) | omega) _) | (with_reducible refine Below.drew ?_) | (with_reducible refine Below.drewN ?_ _))) : Below w14.heap.size w14 _) hbS; have zw152 := hS.size; clear hS0; have hS0 := hS; clear hS; have TO := (Blk.newAt (w := w151) (n := w151.heap.size) 30 #[.int .i64 0, .slice none 0 0, .slice none 0 0] (by simp)).below hbS; have ofr := TO.free; have y0 := TO.cell 0 rfl; have y1 := TO.cell 1 rfl; have y2 := TO.cell 2 rfl; replace TP := (TP.alloc (.cells #[.int .i64 0, .slice none 0 0, .slice none 0 0] 30)).below hbS; replace TC := (TC.alloc (.cells #[.int .i64 0, .slice none 0 0, .slice none 0 0] 30)).below hbS; replace hr := (hr.alloc (.cells #[.int .i64 0, .slice none 0 0, .slice none 0 0] 30)).below hbS; replace hr2 := (hr2.alloc (.cells #[.int .i64 0, .slice none 0 0, .slice none 0 0] 30)).below hbS; replace oT := (oT.alloc (.cells #[.int .i64 0, .slice none 0 0, .slice none 0 0] 30)).below hbS; replace pT := (pT.alloc (.cells #[.int .i64 0, .slice none 0 0, .slice none 0 0] 30)).below hbS; have bS0 : w151.heap.size + 1 ≤ MS := (by simpa using maS); replace oS := oS.mono (B' := w151.heap.size + 1) (T' := MS) (by simp) (Nat.le_refl _); obtain ⟨bS, hbS0⟩ : ∃ q, q = w151.heap.size + 1 := ⟨_, rfl⟩; rw [← hbS0] at oS bS0; clear oT pT; have zzw152 := hbS.size; (try simp at zzw152); clear hbS; have hlt : w151.heap.size < bS := (by omega); have hsp : w151.heap.size < bS ∨ MS ≤ w151.heap.size := .inl hlt; have hsq : w151.heap.size < MS ∨ w152.heap.size ≤ w151.heap.size := .inl (by omega)
              refine hK.out _ _ ?_ (fun hHeld => ?_)
              focus (first | exact trivial | ((try dsimp only); (exact ⟨TP.cell 0 rfl, TP.cell 1 rfl, TP.cell 2 rfl, TC.cell 0 rfl, TC.cell 1 rfl, TC.cell 2 rfl, TC.cell 3 rfl⟩))); done
              clear hK K
              (try simp only [Act.put, List.setIfInBounds_toArray, List.set_cons_zero, List.set_cons_succ])
              refine wpAnyH_take (i := 5) (v := ?_) (by rw [List.getElem?_toArray]; rfl) (by kernel_rfl) (by kernel_rfl) (by kernel_rfl) (fun _ _ _ h => h) (Or.inl ⟨by rfl, ?_⟩) (by assumption) ?_
              rotate_left
              focus (intro wS hSw; (try dsimp only at hSw); go_simp; (try with_reducible rfl)); done
              (try simp only [Act.put, List.setIfInBounds_toArray, List.set_cons_zero, List.set_cons_succ])
              refine wpAnyH_take (i := 6) (v := ?_) (by rw [List.getElem?_toArray]; rfl) (by kernel_rfl) (by kernel_rfl) (by kernel_rfl) (fun _ _ _ h => h) (Or.inl ⟨by rfl, ?_⟩) (by assumption) ?_
              rotate_left
              focus (intro wS hSw; (try dsimp only at hSw); go_simp; (try with_reducible rfl)); done
              (try simp only [Act.put, List.setIfInBounds_toArray, List.set_cons_zero, List.set_cons_succ])
              refine wpAnyH_take (i := 7) (v := ?_) (by rw [List.getElem?_toArray]; rfl) (by kernel_rfl) (by kernel_rfl) (by kernel_rfl) (fun _ _ _ h => h) (Or.inl ⟨by rfl, ?_⟩) (by assumption) ?_
              rotate_left
              focus (intro wS hSw; (try dsimp only at hSw); go_simp; (try with_reducible rfl)); done
              (try simp only [Act.put, List.setIfInBounds_toArray, List.set_cons_zero, List.set_cons_succ])
              refine wpAnyH_ready (rs := [9]) (by kernel_rfl) (by simp) ?_
              refine AllReadyH.cons (by rw [List.getElem?_toArray]; rfl) (fun K hK => ?_) AllReadyH.nil
              go_simp
              skip
              refine hK.out _ _ ?_ (fun hHeld => ?_)
              focus (first | exact trivial | ((try dsimp only); (exact ⟨(((TP.other (p := ⟨w151.heap.size, 0, none⟩) (by show w.heap.size ≠ w151.heap.size; omega) _).other (p := ⟨w151.heap.size, 1, none⟩) (by show w.heap.size ≠ w151.heap.size; omega) _).other (p := ⟨w151.heap.size, 2, none⟩) (by show w.heap.size ≠ w151.heap.size; omega) _).cell 0 rfl, (((TP.other (p := ⟨w151.heap.size, 0, none⟩) (by show w.heap.size ≠ w151.heap.size; omega) _).other (p := ⟨w151.heap.size, 1, none⟩) (by show w.heap.size ≠ w151.heap.size; omega) _).other (p := ⟨w151.heap.size, 2, none⟩) (by show w.heap.size ≠ w151.heap.size; omega) _).cell 1 rfl, (((TP.other (p := ⟨w151.heap.size, 0, none⟩) (by show w.heap.size ≠ w151.heap.size; omega) _).other (p := ⟨w151.heap.size, 1, none⟩) (by show w.heap.size ≠ w151.heap.size; omega) _).other (p := ⟨w151.heap.size, 2, none⟩) (by show w.heap.size ≠ w151.heap.size; omega) _).cell 2 rfl, (((TC.other (p := ⟨w151.heap.size, 0, none⟩) (by show w.heap.size + 1 ≠ w151.heap.size; omega) _).other (p := ⟨w151.heap.size, 1, none⟩) (by show w.heap.size + 1 ≠ w151.heap.size; omega) _).other (p := ⟨w151.heap.size, 2, none⟩) (by show w.heap.size + 1 ≠ w151.heap.size; omega) _).cell 0 rfl, (((TC.other (p := ⟨w151.heap.size, 0, none⟩) (by show w.heap.size + 1 ≠ w151.heap.size; omega) _).other (p := ⟨w151.heap.size, 1, none⟩) (by show w.heap.size + 1 ≠ w151.heap.size; omega) _).other (p := ⟨w151.heap.size, 2, none⟩) (by show w.heap.size + 1 ≠ w151.heap.size; omega) _).cell 1 rfl, (((TC.other (p := ⟨w151.heap.size, 0, none⟩) (by show w.heap.size + 1 ≠ w151.heap.size; omega) _).other (p := ⟨w151.heap.size, 1, none⟩) (by show w.heap.size + 1 ≠ w151.heap.size; omega) _).other (p := ⟨w151.heap.size, 2, none⟩) (by show w.heap.size + 1 ≠ w151.heap.size; omega) _).cell 2 rfl, (((TC.other (p := ⟨w151.heap.size, 0, none⟩) (by show w.heap.size + 1 ≠ w151.heap.size; omega) _).other (p := ⟨w151.heap.size, 1, none⟩) (by show w.heap.size + 1 ≠ w151.heap.size; omega) _).other (p := ⟨w151.heap.size, 2, none⟩) (by show w.heap.size + 1 ≠ w151.heap.size; omega) _).cell 3 rfl⟩))); done
              clear hK K
              (try simp only [Act.put, List.setIfInBounds_toArray, List.set_cons_zero, List.set_cons_succ])
              refine wpAnyH_take (i := 10) (v := ?_) (by rw [List.getElem?_toArray]; rfl) (by kernel_rfl) (by kernel_rfl) (by kernel_rfl) (fun _ _ _ h => h) (Or.inl ⟨by rfl, ?_⟩) (by assumption) ?_
              rotate_left
              focus (intro wS hSw; (try dsimp only at hSw); go_simp; (try with_reducible rfl)); done
              (try simp only [Act.put, List.setIfInBounds_toArray, List.set_cons_zero, List.set_cons_succ])
              refine wpAnyH_done (by kernel_rfl) ?_ _
              refine NoPanic.normal ?_
              go_wp2_with fail
              go_meet
              exact ⟨w151.heap.size, AS, cS, DS, dS, bS, MS, w152.heap.size, rfl, rfl, ((TO.set 0 (.int .i64 (sendB l xs cs k o r b))).set 1 (.slice AS (sendX l xs cs k o r b).length cS)).set 2 (.slice DS (sendC l xs cs k o r b).length dS), ((oS.set hsp _).set hsp _).set hsp _, ((pS.set hsq _).set hsq _).set hsq _, by omega, by omega, by omega, (by first | omega | (simp; done) | (simp; omega)), .inr hlt, by omega, (by first | omega | (simp; done) | (simp; omega)), by (repeat (first | (with_reducible assumption) | (with_reducible exact Below.refl _ _) | (with_reducible refine Below.setCell ?_ (by first | (simp; done) | (simp; omega) | omega) _) | (with_reducible refine Below.alloc ?_ (by first | (simp; done) | (simp; omega) | omega) _) | (with_reducible refine Below.drew ?_) | (with_reducible refine Below.drewN ?_ _)))⟩
          · go_simp
            skip
            refine hK.out _ _ ?_ (fun hHeld => ?_)
            focus (first | exact trivial | ((try dsimp only); (exact ⟨(TP.alloc (.cells #[.int .i64 0, .slice none 0 0, .slice none 0 0] 30)).cell 0 rfl, (TP.alloc (.cells #[.int .i64 0, .slice none 0 0, .slice none 0 0] 30)).cell 1 rfl, (TP.alloc (.cells #[.int .i64 0, .slice none 0 0, .slice none 0 0] 30)).cell 2 rfl, (TC.alloc (.cells #[.int .i64 0, .slice none 0 0, .slice none 0 0] 30)).cell 0 rfl, (TC.alloc (.cells #[.int .i64 0, .slice none 0 0, .slice none 0 0] 30)).cell 1 rfl, (TC.alloc (.cells #[.int .i64 0, .slice none 0 0, .slice none 0 0] 30)).cell 2 rfl, (TC.alloc (.cells #[.int .i64 0, .slice none 0 0, .slice none 0 0] 30)).cell 3 rfl⟩))); done
            clear hK K
            (try simp only [Act.put, List.setIfInBounds_toArray, List.set_cons_zero, List.set_cons_succ])
            refine wpAnyH_ready (rs := [3]) (by kernel_rfl) (by simp) ?_
            refine AllReadyH.cons (by rw [List.getElem?_toArray]; rfl) (fun K hK => ?_) AllReadyH.nil
            go_simp
            refine (toCap_any _ _ _ _ _).mono ?_; rintro e w151 ⟨rfl, hbS⟩; have hS := Below.via (by (repeat (first | (with_reducible assumption) | (with_reducible exact Below.refl _ _) | (with_reducible refine Below.setCell ?_ (by first | (simp; done) | (simp; omega) | omega) _) | (with_reducible refine Below.alloc ?_ (by first | (simp; done) | (simp; omega) | omega) _) | (with_reducible refine Below.drew ?_) | (with_reducible refine Below.drewN ?_ _))) : Below w14.heap.size w14 _) hbS; have zw151 := hS.size; clear hS0; have hS0 := hS; clear hS; have TO := (Blk.newAt (w := w150) (n := w150.heap.size) 30 #[.int .i64 0, .slice none 0 0, .slice none 0 0] (by simp)).below hbS; have ofr := TO.free; have y0 := TO.cell 0 rfl; have y1 := TO.cell 1 rfl; have y2 := TO.cell 2 rfl; replace TP := (TP.alloc (.cells #[.int .i64 0, .slice none 0 0, .slice none 0 0] 30)).below hbS; replace TC := (TC.alloc (.cells #[.int .i64 0, .slice none 0 0, .slice none 0 0] 30)).below hbS; replace hr := (hr.alloc (.cells #[.int .i64 0, .slice none 0 0, .slice none 0 0] 30)).below hbS; replace hr2 := (hr2.alloc (.cells #[.int .i64 0, .slice none 0 0, .slice none 0 0] 30)).below hbS; replace oT := (oT.alloc (.cells #[.int .i64 0, .slice none 0 0, .slice none 0 0] 30)).below hbS; replace pT := (pT.alloc (.cells #[.int .i64 0, .slice none 0 0, .slice none 0 0] 30)).below hbS; have zzw151 := hbS.size; (try simp at zzw151); clear hbS
            refine hK.out _ _ ?_ (fun hHeld => ?_)
            focus (first | exact trivial | ((try dsimp only); (exact ⟨TP.cell 0 rfl, TP.cell 1 rfl, TP.cell 2 rfl, TC.cell 0 rfl, TC.cell 1 rfl, TC.cell 2 rfl, TC.cell 3 rfl⟩))); done
            clear hK K
            (try simp only [Act.put, List.setIfInBounds_toArray, List.set_cons_zero, List.set_cons_succ])
            refine wpAnyH_ready (rs := [4]) (by kernel_rfl) (by simp) ?_
            refine AllReadyH.cons (by rw [List.getElem?_toArray]; rfl) (fun K hK => ?_) AllReadyH.nil
            go_simp
            refine (iSendOver_any _ _ _ _ _ _ l _ _ xs cs k o r b _ (oT.rd.here Nat.one_pos) hn (pT.rd.here (by omega)) hm).mono ?_; rintro e w152 ⟨AS, cS, DS, dS, MS, rfl, oS, pS, maS, mbS, hbS⟩; have hS := Below.via (by (repeat (first | (with_reducible assumption) | (with_reducible exact Below.refl _ _) | (with_reducible refine Below.setCell ?_ (by first | (simp; done) | (simp; omega) | omega) _) | (with_reducible refine Below.alloc ?_ (by first | (simp; done) | (simp; omega) | omega) _) | (with_reducible refine Below.drew ?_) | (with_reducible refine Below.drewN ?_ _))) : Below w14.heap.size w14 _) hbS; have zw152 := hS.size; clear hS0; have hS0 := hS; clear hS; replace TO := TO.below hbS; clear ofr y0 y1 y2; have ofr := TO.free; have y0 := TO.cell 0 rfl; have y1 := TO.cell 1 rfl; have y2 := TO.cell 2 rfl; replace TP := TP.below hbS; replace TC := TC.below hbS; replace hr := hr.below hbS; replace hr2 := hr2.below hbS; replace oT := oT.below hbS; replace pT := pT.below hbS; have bS0 : w151.heap.size ≤ MS := (by simpa using maS); replace oS := oS.mono (B' := w151.heap.size) (T' := MS) (by simp) (Nat.le_refl _); obtain ⟨bS, hbS0⟩ : ∃ q, q = w151.heap.size := ⟨_, rfl⟩; rw [← hbS0] at oS bS0; clear oT pT; have zzw152 := hbS.size; (try simp at zzw152); clear hbS; have hlt : w150.heap.size < bS := (by omega); have hsp : w150.heap.size < bS ∨ MS ≤ w150.heap.size := .inl hlt; have hsq : w150.heap.size < MS ∨ w152.heap.size ≤ w150.heap.size := .inl (by omega)
            refine hK.out _ _ ?_ (fun hHeld => ?_)
            focus (first | exact trivial | ((try dsimp only); (exact ⟨TP.cell 0 rfl, TP.cell 1 rfl, TP.cell 2 rfl, TC.cell 0 rfl, TC.cell 1 rfl, TC.cell 2 rfl, TC.cell 3 rfl⟩))); done
            clear hK K
            (try simp only [Act.put, List.setIfInBounds_toArray, List.set_cons_zero, List.set_cons_succ])
            refine wpAnyH_take (i := 5) (v := ?_) (by rw [List.getElem?_toArray]; rfl) (by kernel_rfl) (by kernel_rfl) (by kernel_rfl) (fun _ _ _ h => h) (Or.inl ⟨by rfl, ?_⟩) (by assumption) ?_
            rotate_left
            focus (intro wS hSw; (try dsimp only at hSw); go_simp; (try with_reducible rfl)); done
            (try simp only [Act.put, List.setIfInBounds_toArray, List.set_cons_zero, List.set_cons_succ])
            refine wpAnyH_take (i := 6) (v := ?_) (by rw [List.getElem?_toArray]; rfl) (by kernel_rfl) (by kernel_rfl) (by kernel_rfl) (fun _ _ _ h => h) (Or.inl ⟨by rfl, ?_⟩) (by assumption) ?_
            rotate_left
            focus (intro wS hSw; (try dsimp only at hSw); go_simp; (try with_reducible rfl)); done
            (try simp only [Act.put, List.setIfInBounds_toArray, List.set_cons_zero, List.set_cons_succ])
            refine wpAnyH_take (i := 7) (v := ?_) (by rw [List.getElem?_toArray]; rfl) (by kernel_rfl) (by kernel_rfl) (by kernel_rfl) (fun _ _ _ h => h) (Or.inl ⟨by rfl, ?_⟩) (by assumption) ?_
            rotate_left
            focus (intro wS hSw; (try dsimp only at hSw); go_simp; (try with_reducible rfl)); done
            (try simp only [Act.put, List.setIfInBounds_toArray, List.set_cons_zero, List.set_cons_succ])
            refine wpAnyH_ready (rs := [9]) (by kernel_rfl) (by simp) ?_
            refine AllReadyH.cons (by rw [List.getElem?_toArray]; rfl) (fun K hK => ?_) AllReadyH.nil
            go_simp
            skip
            refine hK.out _ _ ?_ (fun hHeld => ?_)
            focus (first | exact trivial | ((try dsimp only); (exact ⟨(((TP.other (p := ⟨w150.heap.size, 0, none⟩) (by show w.heap.size ≠ w150.heap.size; omega) _).other (p := ⟨w150.heap.size, 1, none⟩) (by show w.heap.size ≠ w150.heap.size; omega) _).other (p := ⟨w150.heap.size, 2, none⟩) (by show w.heap.size ≠ w150.heap.size; omega) _).cell 0 rfl, (((TP.other (p := ⟨w150.heap.size, 0, none⟩) (by show w.heap.size ≠ w150.heap.size; omega) _).other (p := ⟨w150.heap.size, 1, none⟩) (by show w.heap.size ≠ w150.heap.size; omega) _).other (p := ⟨w150.heap.size, 2, none⟩) (by show w.heap.size ≠ w150.heap.size; omega) _).cell 1 rfl, (((TP.other (p := ⟨w150.heap.size, 0, none⟩) (by show w.heap.size ≠ w150.heap.size; omega) _).other (p := ⟨w150.heap.size, 1, none⟩) (by show w.heap.size ≠ w150.heap.size; omega) _).other (p := ⟨w150.heap.size, 2, none⟩) (by show w.heap.size ≠ w150.heap.size; omega) _).cell 2 rfl, (((TC.other (p := ⟨w150.heap.size, 0, none⟩) (by show w.heap.size + 1 ≠ w150.heap.size; omega) _).other (p := ⟨w150.heap.size, 1, none⟩) (by show w.heap.size + 1 ≠ w150.heap.size; omega) _).other (p := ⟨w150.heap.size, 2, none⟩) (by show w.heap.size + 1 ≠ w150.heap.size; omega) _).cell 0 rfl, (((TC.other (p := ⟨w150.heap.size, 0, none⟩) (by show w.heap.size + 1 ≠ w150.heap.size; omega) _).other (p := ⟨w150.heap.size, 1, none⟩) (by show w.heap.size + 1 ≠ w150.heap.size; omega) _).other (p := ⟨w150.heap.size, 2, none⟩) (by show w.heap.size + 1 ≠ w150.heap.size; omega) _).cell 1 rfl, (((TC.other (p := ⟨w150.heap.size, 0, none⟩) (by show w.heap.size + 1 ≠ w150.heap.size; omega) _).other (p := ⟨w150.heap.size, 1, none⟩) (by show w.heap.size + 1 ≠ w150.heap.size; omega) _).other (p := ⟨w150.heap.size, 2, none⟩) (by show w.heap.size + 1 ≠ w150.heap.size; omega) _).cell 2 rfl, (((TC.other (p := ⟨w150.heap.size, 0, none⟩) (by show w.heap.size + 1 ≠ w150.heap.size; omega) _).other (p := ⟨w150.heap.size, 1, none⟩) (by show w.heap.size + 1 ≠ w150.heap.size; omega) _).other (p := ⟨w150.heap.size, 2, none⟩) (by show w.heap.size + 1 ≠ w150.heap.size; omega) _).cell 3 rfl⟩))); done
            clear hK K
            (try simp only [Act.put, List.setIfInBounds_toArray, List.set_cons_zero, List.set_cons_succ])
            refine wpAnyH_take (i := 10) (v := ?_) (by rw [List.getElem?_toArray]; rfl) (by kernel_rfl) (by kernel_rfl) (by kernel_rfl) (fun _ _ _ h => h) (Or.inl ⟨by rfl, ?_⟩) (by assumption) ?_
            rotate_left
            focus (intro wS hSw; (try dsimp only at hSw); go_simp; (try with_reducible rfl)); done
            (try simp only [Act.put, List.setIfInBounds_toArray, List.set_cons_zero, List.set_cons_succ])
            refine wpAnyH_done (by kernel_rfl) ?_ _
            refine NoPanic.normal ?_
            go_wp2_with fail
            go_meet
            exact ⟨w150.heap.size, AS, cS, DS, dS, bS, MS, w152.heap.size, rfl, rfl, ((TO.set 0 (.int .i64 (sendB l xs cs k o r b))).set 1 (.slice AS (sendX l xs cs k o r b).length cS)).set 2 (.slice DS (sendC l xs cs k o r b).length dS), ((oS.set hsp _).set hsp _).set hsp _, ((pS.set hsq _).set hsq _).set hsq _, by omega, by omega, by omega, (by first | omega | (simp; done) | (simp; omega)), .inr hlt, by omega, (by first | omega | (simp; done) | (simp; omega)), by (repeat (first | (with_reducible assumption) | (with_reducible exact Below.refl _ _) | (with_reducible refine Below.setCell ?_ (by first | (simp; done) | (simp; omega) | omega) _) | (with_reducible refine Below.alloc ?_ (by first | (simp; done) | (simp; omega) | omega) _) | (with_reducible refine Below.drew ?_) | (with_reducible refine Below.drewN ?_ _)))⟩
        · go_simp
          skip
          refine hK.out _ _ ?_ (fun hHeld => ?_)
          focus (first | exact trivial | ((try dsimp only); (exact ⟨(TP.drew.alloc (.cells #[.int .i64 0, .slice none 0 0, .slice none 0 0] 30)).cell 0 rfl, (TP.drew.alloc (.cells #[.int .i64 0, .slice none 0 0, .slice none 0 0] 30)).cell 1 rfl, (TP.drew.alloc (.cells #[.int .i64 0, .slice none 0 0, .slice none 0 0] 30)).cell 2 rfl, (TC.drew.alloc (.cells #[.int .i64 0, .slice none 0 0, .slice none 0 0] 30)).cell 0 rfl, (TC.drew.alloc (.cells #[.int .i64 0, .slice none 0 0, .slice none 0 0] 30)).cell 1 rfl, (TC.drew.alloc (.cells #[.int .i64 0, .slice none 0 0, .slice none 0 0] 30)).cell 2 rfl, (TC.drew.alloc (.cells #[.int .i64 0, .slice none 0 0, .slice none 0 0] 30)).cell 3 rfl⟩))); done
          clear hK K
          (try simp only [Act.put, List.setIfInBounds_toArray, List.set_cons_zero, List.set_cons_succ])
          refine wpAnyH_ready (rs := [1]) (by kernel_rfl) (by simp) ?_
          refine AllReadyH.cons (by rw [List.getElem?_toArray]; rfl) (fun K hK => ?_) AllReadyH.nil
          go_simp
          refine (toMessage_any _ _ xs.length c cs.length d l A D xs cs _ ((hr.drew).alloc (.cells #[.int .i64 0, .slice none 0 0, .slice none 0 0] 30)) hn ((hr2.drew).alloc (.cells #[.int .i64 0, .slice none 0 0, .slice none 0 0] 30)) hm).mono ?_; rintro e w150 ⟨AT, cT, DT, dT, MT, rfl, oT, pT, maT, mbT, hbS⟩; have hS := Below.via (by (repeat (first | (with_reducible assumption) | (with_reducible exact Below.refl _ _) | (with_reducible refine Below.setCell ?_ (by first | (simp; done) | (simp; omega) | omega) _) | (with_reducible refine Below.alloc ?_ (by first | (simp; done) | (simp; omega) | omega) _) | (with_reducible refine Below.drew ?_) | (with_reducible refine Below.drewN ?_ _))) : Below w14.heap.size w14 _) hbS; have zw150 := hS.size; clear hS0; have hS0 := hS; clear hS; have TO := (Blk.newAt (w := w14.drew) (n := w14.heap.size) 30 #[.int .i64 0, .slice none 0 0, .slice none 0 0] (by simp)).below hbS; have ofr := TO.free; have y0 := TO.cell 0 rfl; have y1 := TO.cell 1 rfl; have y2 := TO.cell 2 rfl; replace TP := ((TP.drew).alloc (.cells #[.int .i64 0, .slice none 0 0, .slice none 0 0] 30)).below hbS; replace TC := ((TC.drew).alloc (.cells #[.int .i64 0, .slice none 0 0, .slice none 0 0] 30)).below hbS; replace hr := ((hr.drew).alloc (.cells #[.int .i64 0, .slice none 0 0, .slice none 0 0] 30)).below hbS; replace hr2 := ((hr2.drew).alloc (.cells #[.int .i64 0, .slice none 0 0, .slice none 0 0] 30)).below hbS; have zzw150 := hbS.size; (try simp at zzw150); clear hbS
          refine hK.out _ _ ?_ (fun hHeld => ?_)
          focus (first | exact trivial | ((try dsimp only); (exact ⟨TP.cell 0 rfl, TP.cell 1 rfl, TP.cell 2 rfl, TC.cell 0 rfl, TC.cell 1 rfl, TC.cell 2 rfl, TC.cell 3 rfl⟩))); done
          clear hK K
          (try simp only [Act.put, List.setIfInBounds_toArray, List.set_cons_zero, List.set_cons_succ])
          refine wpAnyH_ready (rs := [3]) (by kernel_rfl) (by simp) ?_
          refine AllReadyH.cons (by rw [List.getElem?_toArray]; rfl) (fun K hK => ?_) AllReadyH.nil
          go_simp
          refine (toCap_any _ _ _ _ _).mono ?_; rintro e w151 ⟨rfl, hbS⟩; have hS := Below.via (by (repeat (first | (with_reducible assumption) | (with_reducible exact Below.refl _ _) | (with_reducible refine Below.setCell ?_ (by first | (simp; done) | (simp; omega) | omega) _) | (with_reducible refine Below.alloc ?_ (by first | (simp; done) | (simp; omega) | omega) _) | (with_reducible refine Below.drew ?_) | (with_reducible refine Below.drewN ?_ _))) : Below w14.heap.size w14 _) hbS; have zw151 := hS.size; clear hS0; have hS0 := hS; clear hS; replace TO := TO.below hbS; clear ofr y0 y1 y2; have ofr := TO.free; have y0 := TO.cell 0 rfl; have y1 := TO.cell 1 rfl; have y2 := TO.cell 2 rfl; replace TP := TP.below hbS; replace TC := TC.below hbS; replace hr := hr.below hbS; replace hr2 := hr2.below hbS; replace oT := oT.below hbS; replace pT := pT.below hbS; have zzw151 := hbS.size; (try simp at zzw151); clear hbS
          refine hK.out _ _ ?_ (fun hHeld => ?_)
          focus (first | exact trivial | ((try dsimp only); (exact ⟨TP.cell 0 rfl, TP.cell 1 rfl, TP.cell 2 rfl, TC.cell 0 rfl, TC.cell 1 rfl, TC.cell 2 rfl, TC.cell 3 rfl⟩))); done
          clear hK K
          (try simp only [Act.put, List.setIfInBounds_toArray, List.set_cons_zero, List.set_cons_succ])
          refine wpAnyH_ready (rs := [4]) (by kernel_rfl) (by simp) ?_
          refine AllReadyH.cons (by rw [List.getElem?_toArray]; rfl) (fun K hK => ?_) AllReadyH.nil
          go_simp
          refine (iSendOver_any _ _ _ _ _ _ l _ _ xs cs k o r b _ (oT.rd.here Nat.one_pos) hn (pT.rd.here (by omega)) hm).mono ?_; rintro e w152 ⟨AS, cS, DS, dS, MS, rfl, oS, pS, maS, mbS, hbS⟩; have hS := Below.via (by (repeat (first | (with_reducible assumption) | (with_reducible exact Below.refl _ _) | (with_reducible refine Below.setCell ?_ (by first | (simp; done) | (simp; omega) | omega) _) | (with_reducible refine Below.alloc ?_ (by first | (simp; done) | (simp; omega) | omega) _) | (with_reducible refine Below.drew ?_) | (with_reducible refine Below.drewN ?_ _))) : Below w14.heap.size w14 _) hbS; have zw152 := hS.size; clear hS0; have hS0 := hS; clear hS; replace TO := TO.below hbS; clear ofr y0 y1 y2; have ofr := TO.free; have y0 := TO.cell 0 rfl; have y1 := TO.cell 1 rfl; have y2 := TO.cell 2 rfl; replace TP := TP.below hbS; replace TC := TC.below hbS; replace hr := hr.below hbS; replace hr2 := hr2.below hbS; replace oT := oT.below hbS; replace pT := pT.below hbS; have bS0 : w151.heap.size ≤ MS := (by simpa using maS); replace oS := oS.mono (B' := w151.heap.size) (T' := MS) (by simp) (Nat.le_refl _); obtain ⟨bS, hbS0⟩ : ∃ q, q = w151.heap.size := ⟨_, rfl⟩; rw [← hbS0] at oS bS0; clear oT pT; have zzw152 := hbS.size; (try simp at zzw152); clear hbS; have hlt : w14.heap.size < bS := (by omega); have hsp : w14.heap.size < bS ∨ MS ≤ w14.heap.size := .inl hlt; have hsq : w14.heap.size < MS ∨ w152.heap.size ≤ w14.heap.size := .inl (by omega)
          refine hK.out _ _ ?_ (fun hHeld => ?_)
          focus (first | exact trivial | ((try dsimp only); (exact ⟨TP.cell 0 rfl, TP.cell 1 rfl, TP.cell 2 rfl, TC.cell 0 rfl, TC.cell 1 rfl, TC.cell 2 rfl, TC.cell 3 rfl⟩))); done
          clear hK K
          (try simp only [Act.put, List.setIfInBounds_toArray, List.set_cons_zero, List.set_cons_succ])
          refine wpAnyH_take (i := 5) (v := ?_) (by rw [List.getElem?_toArray]; rfl) (by kernel_rfl) (by kernel_rfl) (by kernel_rfl) (fun _ _ _ h => h) (Or.inl ⟨by rfl, ?_⟩) (by assumption) ?_
          rotate_left
          focus (intro wS hSw; (try dsimp only at hSw); go_simp; (try with_reducible rfl)); done
          (try simp only [Act.put, List.setIfInBounds_toArray, List.set_cons_zero, List.set_cons_succ])
          refine wpAnyH_take (i := 6) (v := ?_) (by rw [List.getElem?_toArray]; rfl) (by kernel_rfl) (by kernel_rfl) (by kernel_rfl) (fun _ _ _ h => h) (Or.inl ⟨by rfl, ?_⟩) (by assumption) ?_
          rotate_left
          focus (intro wS hSw; (try dsimp only at hSw); go_simp; (try with_reducible rfl)); done
          (try simp only [Act.put, List.setIfInBounds_toArray, List.set_cons_zero, List.set_cons_succ])
          refine wpAnyH_take (i := 7) (v := ?_) (by rw [List.getElem?_toArray]; rfl) (by kernel_rfl) (by kernel_rfl) (by kernel_rfl) (fun _ _ _ h => h) (Or.inl ⟨by rfl, ?_⟩) (by assumption) ?_
          rotate_left
          focus (intro wS hSw; (try dsimp only at hSw); go_simp; (try with_reducible rfl)); done
          (try simp only [Act.put, List.setIfInBounds_toArray, List.set_cons_zero, List.set_cons_succ])
          refine wpAnyH_ready (rs := [9]) (by kernel_rfl) (by simp) ?_
          refine AllReadyH.cons (by rw [List.getElem?_toArray]; rfl) (fun K hK => ?_) AllReadyH.nil
          go_simp
          skip
          refine hK.out _ _ ?_ (fun hHeld => ?_)
          focus (first | exact trivial | ((try dsimp only); (exact ⟨(((TP.other (p := ⟨w14.heap.size, 0, none⟩) (by show w.heap.size ≠ w14.heap.size; omega) _).other (p := ⟨w14.heap.size, 1, none⟩) (by show w.heap.size ≠ w14.heap.size; omega) _).other (p := ⟨w14.heap.size, 2, none⟩) (by show w.heap.size ≠ w14.heap.size; omega) _).cell 0 rfl, (((TP.other (p := ⟨w14.heap.size, 0, none⟩) (by show w.heap.size ≠ w14.heap.size; omega) _).other (p := ⟨w14.heap.size, 1, none⟩) (by show w.heap.size ≠ w14.heap.size; omega) _).other (p := ⟨w14.heap.size, 2, none⟩) (by show w.heap.size ≠ w14.heap.size; omega) _).cell 1 rfl, (((TP.other (p := ⟨w14.heap.size, 0, none⟩) (by show w.heap.size ≠ w14.heap.size; omega) _).other (p := ⟨w14.heap.size, 1, none⟩) (by show w.heap.size ≠ w14.heap.size; omega) _).other (p := ⟨w14.heap.size, 2, none⟩) (by show w.heap.size ≠ w14.heap.size; omega) _).cell 2 rfl, (((TC.other (p := ⟨w14.heap.size, 0, none⟩) (by show w.heap.size + 1 ≠ w14.heap.size; omega) _).other (p := ⟨w14.heap.size, 1, none⟩) (by show w.heap.size + 1 ≠ w14.heap.size; omega) _).other (p := ⟨w14.heap.size, 2, none⟩) (by show w.heap.size + 1 ≠ w14.heap.size; omega) _).cell 0 rfl, (((TC.other (p := ⟨w14.heap.size, 0, none⟩) (by show w.heap.size + 1 ≠ w14.heap.size; omega) _).other (p := ⟨w14.heap.size, 1, none⟩) (by show w.heap.size + 1 ≠ w14.heap.size; omega) _).other (p := ⟨w14.heap.size, 2, none⟩) (by show w.heap.size + 1 ≠ w14.heap.size; omega) _).cell 1 rfl, (((TC.other (p := ⟨w14.heap.size, 0, none⟩) (by show w.heap.size + 1 ≠ w14.heap.size; omega) _).other (p := ⟨w14.heap.size, 1, none⟩) (by show w.heap.size + 1 ≠ w14.heap.size; omega) _).other (p := ⟨w14.heap.size, 2, none⟩) (by show w.heap.size + 1 ≠ w14.heap.size; omega) _).cell 2 rfl, (((TC.other (p := ⟨w14.heap.size, 0, none⟩) (by show w.heap.size + 1 ≠ w14.heap.size; omega) _).other (p := ⟨w14.heap.size, 1, none⟩) (by show w.heap.size + 1 ≠ w14.heap.size; omega) _).other (p := ⟨w14.heap.size, 2, none⟩) (by show w.heap.size + 1 ≠ w14.heap.size; omega) _).cell 3 rfl⟩))); done
          clear hK K
          (try simp only [Act.put, List.setIfInBounds_toArray, List.set_cons_zero, List.set_cons_succ])
          refine wpAnyH_take (i := 10) (v := ?_) (by rw [List.getElem?_toArray]; rfl) (by kernel_rfl) (by kernel_rfl) (by kernel_rfl) (fun _ _ _ h => h) (Or.inl ⟨by rfl, ?_⟩) (by assumption) ?_
          rotate_left
          focus (intro wS hSw; (try dsimp only at hSw); go_simp; (try with_reducible rfl)); done
          (try simp only [Act.put, List.setIfInBounds_toArray, List.set_cons_zero, List.set_cons_succ])
          refine wpAnyH_done (by kernel_rfl) ?_ _
          refine NoPanic.normal ?_
          go_wp2_with fail
          go_meet
          exact ⟨w14.heap.size, AS, cS, DS, dS, bS, MS, w152.heap.size, rfl, rfl, ((TO.set 0 (.int .i64 (sendB l xs cs k o r b))).set 1 (.slice AS (sendX l xs cs k o r b).length cS)).set 2 (.slice DS (sendC l xs cs k o r b).length dS), ((oS.set hsp _).set hsp _).set hsp _, ((pS.set hsq _).set hsq _).set hsq _, by omega, by omega, by omega, (by first | omega | (simp; done) | (simp; omega)), .inr hlt, by omega, (by first | omega | (simp; done) | (simp; omega)), by (repeat (first | (with_reducible assumption) | (with_reducible exact Below.refl _ _) | (with_reducible refine Below.setCell ?_ (by first | (simp; done) | (simp; omega) | omega) _) | (with_reducible refine Below.alloc ?_ (by first | (simp; done) | (simp; omega) | omega) _) | (with_reducible refine Below.drew ?_) | (with_reducible refine Below.drewN ?_ _)))⟩
      case rest =>
        obtain ⟨w15, rfl⟩ : ∃ w15 : World, w15 = wc := ⟨_, rfl⟩
        obtain ⟨g15, A15, c15, D15, d15, B15, M15, T15, rfl, rfl, TZ, o15, p15, s1_15, s2_15, s3_15, s4_15, s5_15, s6_15, s7_15, hb15⟩ := hcut
        clear cP_0 cP_1 cP_2 lP cC_0 cC_1 cC_2 cC_3 lC cV_0 cV_1 cV_2 lV cX_0 cX_1 cX_2 lX cR_0 cR_1 cR_2 lR
        have z15 := hb15.size
        (try simp at z15)
        replace hr := hr.via hb15 (by (repeat (first | (with_reducible assumption) | (with_reducible exact Below.refl _ _) | (with_reducible refine Below.setCell ?_ (by first | (simp; done) | (simp; omega) | omega) _) | (with_reducible refine Below.alloc ?_ (by first | (simp; done) | (simp; omega) | omega) _) | (with_reducible refine Below.drew ?_) | (with_reducible refine Below.drewN ?_ _))))
        replace hr2 := hr2.via hb15 (by (repeat (first | (with_reducible assumption) | (with_reducible exact Below.refl _ _) | (with_reducible refine Below.setCell ?_ (by first | (simp; done) | (simp; omega) | omega) _) | (with_reducible refine Below.alloc ?_ (by first | (simp; done) | (simp; omega) | omega) _) | (with_reducible refine Below.drew ?_) | (with_reducible refine Below.drewN ?_ _))))
        replace o5 := o5.via hb15 (by (repeat (first | (with_reducible assumption) | (with_reducible exact Below.refl _ _) | (with_reducible refine Below.setCell ?_ (by first | (simp; done) | (simp; omega) | omega) _) | (with_reducible refine Below.alloc ?_ (by first | (simp; done) | (simp; omega) | omega) _) | (with_reducible refine Below.drew ?_) | (with_reducible refine Below.drewN ?_ _))))
        replace p5 := p5.via hb15 (by (repeat (first | (with_reducible assumption) | (with_reducible exact Below.refl _ _) | (with_reducible refine Below.setCell ?_ (by first | (simp; done) | (simp; omega) | omega) _) | (with_reducible refine Below.alloc ?_ (by first | (simp; done) | (simp; omega) | omega) _) | (with_reducible refine Below.drew ?_) | (with_reducible refine Below.drewN ?_ _))))
        replace m13 := m13.via hb15 (by (repeat (first | (with_reducible assumption) | (with_reducible exact Below.refl _ _) | (with_reducible refine Below.setCell ?_ (by first | (simp; done) | (simp; omega) | omega) _) | (with_reducible refine Below.alloc ?_ (by first | (simp; done) | (simp; omega) | omega) _) | (with_reducible refine Below.drew ?_) | (with_reducible refine Below.drewN ?_ _))))
        replace n13 := n13.via hb15 (by (repeat (first | (with_reducible assumption) | (with_reducible exact Below.refl _ _) | (with_reducible refine Below.setCell ?_ (by first | (simp; done) | (simp; omega) | omega) _) | (with_reducible refine Below.alloc ?_ (by first | (simp; done) | (simp; omega) | omega) _) | (with_reducible refine Below.drew ?_) | (with_reducible refine Below.drewN ?_ _))))
        replace TP := TP.via hb15 (by (repeat (first | (with_reducible assumption) | (with_reducible exact Below.refl _ _) | (with_reducible refine Below.setCell ?_ (by first | (simp; done) | (simp; omega) | omega) _) | (with_reducible refine Below.alloc ?_ (by first | (simp; done) | (simp; omega) | omega) _) | (with_reducible refine Below.drew ?_) | (with_reducible refine Below.drewN ?_ _))))
        replace TC := TC.via hb15 (by (repeat (first | (with_reducible assumption) | (with_reducible exact Below.refl _ _) | (with_reducible refine Below.setCell ?_ (by first | (simp; done) | (simp; omega) | omega) _) | (with_reducible refine Below.alloc ?_ (by first | (simp; done) | (simp; omega) | omega) _) | (with_reducible refine Below.drew ?_) | (with_reducible refine Below.drewN ?_ _))))
        replace TV := TV.via hb15 (by (repeat (first | (with_reducible assumption) | (with_reducible exact Below.refl _ _) | (with_reducible refine Below.setCell ?_ (by first | (simp; done) | (simp; omega) | omega) _) | (with_reducible refine Below.alloc ?_ (by first | (simp; done) | (simp; omega) | omega) _) | (with_reducible refine Below.drew ?_) | (with_reducible refine Below.drewN ?_ _))))
        replace TX := TX.via hb15 (by (repeat (first | (with_reducible assumption) | (with_reducible exact Below.refl _ _) | (with_reducible refine Below.setCell ?_ (by first | (simp; done) | (simp; omega) | omega) _) | (with_reducible refine Below.alloc ?_ (by first | (simp; done) | (simp; omega) | omega) _) | (with_reducible refine Below.drew ?_) | (with_reducible refine Below.drewN ?_ _))))
        replace TR := TR.via hb15 (by (repeat (first | (with_reducible assumption) | (with_reducible exact Below.refl _ _) | (with_reducible refine Below.setCell ?_ (by first | (simp; done) | (simp; omega) | omega) _) | (with_reducible refine Below.alloc ?_ (by first | (simp; done) | (simp; omega) | omega) _) | (with_reducible refine Below.drew ?_) | (with_reducible refine Below.drewN ?_ _))))
        replace hB := Below.via (by (repeat (first | (with_reducible assumption) | (with_reducible exact Below.refl _ _) | (with_reducible refine Below.setCell ?_ (by first | (simp; done) | (simp; omega) | omega) _) | (with_reducible refine Below.alloc ?_ (by first | (simp; done) | (simp; omega) | omega) _) | (with_reducible refine Below.drew ?_) | (with_reducible refine Below.drewN ?_ _))) : Below w.heap.size w _) hb15
        clear hb15
        have cP_0 := TP.cell 0 rfl
        have cP_1 := TP.cell 1 rfl
        have cP_2 := TP.cell 2 rfl
        have lP := TP.lt
        have cC_0 := TC.cell 0 rfl
        have cC_1 := TC.cell 1 rfl
        have cC_2 := TC.cell 2 rfl
        have cC_3 := TC.cell 3 rfl
        have lC := TC.lt
        have cV_0 := TV.cell 0 rfl
        have cV_1 := TV.cell 1 rfl
        have cV_2 := TV.cell 2 rfl
        have lV := TV.lt
        have cX_0 := TX.cell 0 rfl
        have cX_1 := TX.cell 1 rfl
        have cX_2 := TX.cell 2 rfl
        have lX := TX.lt
        have cR_0 := TR.cell 0 rfl
        have cR_1 := TR.cell 1 rfl
        have cR_2 := TR.cell 2 rfl
        have lR := TR.lt
        have cZ_0 := TZ.cell 0 rfl
        have cZ_1 := TZ.cell 1 rfl
        have cZ_2 := TZ.cell 2 rfl
        have lZ := TZ.lt
        go_wp2_with fail
        refine (eqMessage_any _ _ _ _ _ _ _ _ _ _ _ _ _ _ _ _ _ _ _ _ _ _ _ (o15.rd.here Nat.one_pos) (by omega) (p15.rd.here (by omega)) (by omega) (o5.rd.here Nat.one_pos) (p5.rd.here (by omega))).mono ?_
        rintro e w16 ⟨rfl, hb16⟩
        clear cP_0 cP_1 cP_2 lP cC_0 cC_1 cC_2 cC_3 lC cV_0 cV_1 cV_2 lV cX_0 cX_1 cX_2 lX cR_0 cR_1 cR_2 lR cZ_0 cZ_1 cZ_2 lZ
        have z16 := hb16.size
        (try simp at z16)
        replace hr := hr.via hb16 (by (repeat (first | (with_reducible assumption) | (with_reducible exact Below.refl _ _) | (with_reducible refine Below.setCell ?_ (by first | (simp; done) | (simp; omega) | omega) _) | (with_reducible refine Below.alloc ?_ (by first | (simp; done) | (simp; omega) | omega) _) | (with_reducible refine Below.drew ?_) | (with_reducible refine Below.drewN ?_ _))))
        replace hr2 := hr2.via hb16 (by (repeat (first | (with_reducible assumption) | (with_reducible exact Below.refl _ _) | (with_reducible refine Below.setCell ?_ (by first | (simp; done) | (simp; omega) | omega) _) | (with_reducible refine Below.alloc ?_ (by first | (simp; done) | (simp; omega) | omega) _) | (with_reducible refine Below.drew ?_) | (with_reducible refine Below.drewN ?_ _))))
        replace o5 := o5.via hb16 (by (repeat (first | (with_reducible assumption) | (with_reducible exact Below.refl _ _) | (with_reducible refine Below.setCell ?_ (by first | (simp; done) | (simp; omega) | omega) _) | (with_reducible refine Below.alloc ?_ (by first | (simp; done) | (simp; omega) | omega) _) | (with_reducible refine Below.drew ?_) | (with_reducible refine Below.drewN ?_ _))))
        replace p5 := p5.via hb16 (by (repeat (first | (with_reducible assumption) | (with_reducible exact Below.refl _ _) | (with_reducible refine Below.setCell ?_ (by first | (simp; done) | (simp; omega) | omega) _) | (with_reducible refine Below.alloc ?_ (by first | (simp; done) | (simp; omega) | omega) _) | (with_reducible refine Below.drew ?_) | (with_reducible refine Below.drewN ?_ _))))
        replace m13 := m13.via hb16 (by (repeat (first | (with_reducible assumption) | (with_reducible exact Below.refl _ _) | (with_reducible refine Below.setCell ?_ (by first | (simp; done) | (simp; omega) | omega) _) | (with_reducible refine Below.alloc ?_ (by first | (simp; done) | (simp; omega) | omega) _) | (with_reducible refine Below.drew ?_) | (with_reducible refine Below.drewN ?_ _))))
        replace n13 := n13.via hb16 (by (repeat (first | (with_reducible assumption) | (with_reducible exact Below.refl _ _) | (with_reducible refine Below.setCell ?_ (by first | (simp; done) | (simp; omega) | omega) _) | (with_reducible refine Below.alloc ?_ (by first | (simp; done) | (simp; omega) | omega) _) | (with_reducible refine Below.drew ?_) | (with_reducible refine Below.drewN ?_ _))))
        replace o15 := o15.via hb16 (by (repeat (first | (with_reducible assumption) | (with_reducible exact Below.refl _ _) | (with_reducible refine Below.setCell ?_ (by first | (simp; done) | (simp; omega) | omega) _) | (with_reducible refine Below.alloc ?_ (by first | (simp; done) | (simp; omega) | omega) _) | (with_reducible refine Below.drew ?_) | (with_reducible refine Below.drewN ?_ _))))
        replace p15 := p15.via hb16 (by (repeat (first | (with_reducible assumption) | (with_reducible exact Below.refl _ _) | (with_reducible refine Below.setCell ?_ (by first | (simp; done) | (simp; omega) | omega) _) | (with_reducible refine Below.alloc ?_ (by first | (simp; done) | (simp; omega) | omega) _) | (with_reducible refine Below.drew ?_) | (with_reducible refine Below.drewN ?_ _))))
        replace TP := TP.via hb16 (by (repeat (first | (with_reducible assumption) | (with_reducible exact Below.refl _ _) | (with_reducible refine Below.setCell ?_ (by first | (simp; done) | (simp; omega) | omega) _) | (with_reducible refine Below.alloc ?_ (by first | (simp; done) | (simp; omega) | omega) _) | (with_reducible refine Below.drew ?_) | (with_reducible refine Below.drewN ?_ _))))
        replace TC := TC.via hb16 (by (repeat (first | (with_reducible assumption) | (with_reducible exact Below.refl _ _) | (with_reducible refine Below.setCell ?_ (by first | (simp; done) | (simp; omega) | omega) _) | (with_reducible refine Below.alloc ?_ (by first | (simp; done) | (simp; omega) | omega) _) | (with_reducible refine Below.drew ?_) | (with_reducible refine Below.drewN ?_ _))))
        replace TV := TV.via hb16 (by (repeat (first | (with_reducible assumption) | (with_reducible exact Below.refl _ _) | (with_reducible refine Below.setCell ?_ (by first | (simp; done) | (simp; omega) | omega) _) | (with_reducible refine Below.alloc ?_ (by first | (simp; done) | (simp; omega) | omega) _) | (with_reducible refine Below.drew ?_) | (with_reducible refine Below.drewN ?_ _))))
        replace TX := TX.via hb16 (by (repeat (first | (with_reducible assumption) | (with_reducible exact Below.refl _ _) | (with_reducible refine Below.setCell ?_ (by first | (simp; done) | (simp; omega) | omega) _) | (with_reducible refine Below.alloc ?_ (by first | (simp; done) | (simp; omega) | omega) _) | (with_reducible refine Below.drew ?_) | (with_reducible refine Below.drewN ?_ _))))
        replace TR := TR.via hb16 (by (repeat (first | (with_reducible assumption) | (with_reducible exact Below.refl _ _) | (with_reducible refine Below.setCell ?_ (by first | (simp; done) | (simp; omega) | omega) _) | (with_reducible refine Below.alloc ?_ (by first | (simp; done) | (simp; omega) | omega) _) | (with_reducible refine Below.drew ?_) | (with_reducible refine Below.drewN ?_ _))))
        replace TZ := TZ.via hb16 (by (repeat (first | (with_reducible assumption) | (with_reducible exact Below.refl _ _) | (with_reducible refine Below.setCell ?_ (by first | (simp; done) | (simp; omega) | omega) _) | (with_reducible refine Below.alloc ?_ (by first | (simp; done) | (simp; omega) | omega) _) | (with_reducible refine Below.drew ?_) | (with_reducible refine Below.drewN ?_ _))))
        replace hB := Below.via (by (repeat (first | (with_reducible assumption) | (with_reducible exact Below.refl _ _) | (with_reducible refine Below.setCell ?_ (by first | (simp; done) | (simp; omega) | omega) _) | (with_reducible refine Below.alloc ?_ (by first | (simp; done) | (simp; omega) | omega) _) | (with_reducible refine Below.drew ?_) | (with_reducible refine Below.drewN ?_ _))) : Below w.heap.size w _) hb16
        clear hb16
        have cP_0 := TP.cell 0 rfl
        have cP_1 := TP.cell 1 rfl
        have cP_2 := TP.cell 2 rfl
        have lP := TP.lt
        have cC_0 := TC.cell 0 rfl
        have cC_1 := TC.cell 1 rfl
        have cC_2 := TC.cell 2 rfl
        have cC_3 := TC.cell 3 rfl
        have lC := TC.lt
        have cV_0 := TV.cell 0 rfl
        have cV_1 := TV.cell 1 rfl
        have cV_2 := TV.cell 2 rfl
        have lV := TV.lt
        have cX_0 := TX.cell 0 rfl
        have cX_1 := TX.cell 1 rfl
        have cX_2 := TX.cell 2 rfl
        have lX := TX.lt
        have cR_0 := TR.cell 0 rfl
        have cR_1 := TR.cell 1 rfl
        have cR_2 := TR.cell 2 rfl
        have lR := TR.lt
        have cZ_0 := TZ.cell 0 rfl
        have cZ_1 := TZ.cell 1 rfl
        have cZ_2 := TZ.cell 2 rfl
        have lZ := TZ.lt
        go_wp2_with fail
        refine (heldMessage_any _ _ _ _ _ _ _ _ _ _ 1 _ m13.rd (by omega) n13.rd (by omega) (by omega) (by omega)).mono ?_
        rintro e w17 ⟨rfl, hb17⟩
        clear cP_0 cP_1 cP_2 lP cC_0 cC_1 cC_2 cC_3 lC cV_0 cV_1 cV_2 lV cX_0 cX_1 cX_2 lX cR_0 cR_1 cR_2 lR cZ_0 cZ_1 cZ_2 lZ
        have z17 := hb17.size
        (try simp at z17)
        replace hr := hr.via hb17 (by (repeat (first | (with_reducible assumption) | (with_reducible exact Below.refl _ _) | (with_reducible refine Below.setCell ?_ (by first | (simp; done) | (simp; omega) | omega) _) | (with_reducible refine Below.alloc ?_ (by first | (simp; done) | (simp; omega) | omega) _) | (with_reducible refine Below.drew ?_) | (with_reducible refine Below.drewN ?_ _))))
        replace hr2 := hr2.via hb17 (by (repeat (first | (with_reducible assumption) | (with_reducible exact Below.refl _ _) | (with_reducible refine Below.setCell ?_ (by first | (simp; done) | (simp; omega) | omega) _) | (with_reducible refine Below.alloc ?_ (by first | (simp; done) | (simp; omega) | omega) _) | (with_reducible refine Below.drew ?_) | (with_reducible refine Below.drewN ?_ _))))
        replace o5 := o5.via hb17 (by (repeat (first | (with_reducible assumption) | (with_reducible exact Below.refl _ _) | (with_reducible refine Below.setCell ?_ (by first | (simp; done) | (simp; omega) | omega) _) | (with_reducible refine Below.alloc ?_ (by first | (simp; done) | (simp; omega) | omega) _) | (with_reducible refine Below.drew ?_) | (with_reducible refine Below.drewN ?_ _))))
        replace p5 := p5.via hb17 (by (repeat (first | (with_reducible assumption) | (with_reducible exact Below.refl _ _) | (with_reducible refine Below.setCell ?_ (by first | (simp; done) | (simp; omega) | omega) _) | (with_reducible refine Below.alloc ?_ (by first | (simp; done) | (simp; omega) | omega) _) | (with_reducible refine Below.drew ?_) | (with_reducible refine Below.drewN ?_ _))))
        replace m13 := m13.via hb17 (by (repeat (first | (with_reducible assumption) | (with_reducible exact Below.refl _ _) | (with_reducible refine Below.setCell ?_ (by first | (simp; done) | (simp; omega) | omega) _) | (with_reducible refine Below.alloc ?_ (by first | (simp; done) | (simp; omega) | omega) _) | (with_reducible refine Below.drew ?_) | (with_reducible refine Below.drewN ?_ _))))
        replace n13 := n13.via hb17 (by (repeat (first | (with_reducible assumption) | (with_reducible exact Below.refl _ _) | (with_reducible refine Below.setCell ?_ (by first | (simp; done) | (simp; omega) | omega) _) | (with_reducible refine Below.alloc ?_ (by first | (simp; done) | (simp; omega) | omega) _) | (with_reducible refine Below.drew ?_) | (with_reducible refine Below.drewN ?_ _))))
        replace o15 := o15.via hb17 (by (repeat (first | (with_reducible assumption) | (with_reducible exact Below.refl _ _) | (with_reducible refine Below.setCell ?_ (by first | (simp; done) | (simp; omega) | omega) _) | (with_reducible refine Below.alloc ?_ (by first | (simp; done) | (simp; omega) | omega) _) | (with_reducible refine Below.drew ?_) | (with_reducible refine Below.drewN ?_ _))))
        replace p15 := p15.via hb17 (by (repeat (first | (with_reducible assumption) | (with_reducible exact Below.refl _ _) | (with_reducible refine Below.setCell ?_ (by first | (simp; done) | (simp; omega) | omega) _) | (with_reducible refine Below.alloc ?_ (by first | (simp; done) | (simp; omega) | omega) _) | (with_reducible refine Below.drew ?_) | (with_reducible refine Below.drewN ?_ _))))
        replace TP := TP.via hb17 (by (repeat (first | (with_reducible assumption) | (with_reducible exact Below.refl _ _) | (with_reducible refine Below.setCell ?_ (by first | (simp; done) | (simp; omega) | omega) _) | (with_reducible refine Below.alloc ?_ (by first | (simp; done) | (simp; omega) | omega) _) | (with_reducible refine Below.drew ?_) | (with_reducible refine Below.drewN ?_ _))))
        replace TC := TC.via hb17 (by (repeat (first | (with_reducible assumption) | (with_reducible exact Below.refl _ _) | (with_reducible refine Below.setCell ?_ (by first | (simp; done) | (simp; omega) | omega) _) | (with_reducible refine Below.alloc ?_ (by first | (simp; done) | (simp; omega) | omega) _) | (with_reducible refine Below.drew ?_) | (with_reducible refine Below.drewN ?_ _))))
        replace TV := TV.via hb17 (by (repeat (first | (with_reducible assumption) | (with_reducible exact Below.refl _ _) | (with_reducible refine Below.setCell ?_ (by first | (simp; done) | (simp; omega) | omega) _) | (with_reducible refine Below.alloc ?_ (by first | (simp; done) | (simp; omega) | omega) _) | (with_reducible refine Below.drew ?_) | (with_reducible refine Below.drewN ?_ _))))
        replace TX := TX.via hb17 (by (repeat (first | (with_reducible assumption) | (with_reducible exact Below.refl _ _) | (with_reducible refine Below.setCell ?_ (by first | (simp; done) | (simp; omega) | omega) _) | (with_reducible refine Below.alloc ?_ (by first | (simp; done) | (simp; omega) | omega) _) | (with_reducible refine Below.drew ?_) | (with_reducible refine Below.drewN ?_ _))))
        replace TR := TR.via hb17 (by (repeat (first | (with_reducible assumption) | (with_reducible exact Below.refl _ _) | (with_reducible refine Below.setCell ?_ (by first | (simp; done) | (simp; omega) | omega) _) | (with_reducible refine Below.alloc ?_ (by first | (simp; done) | (simp; omega) | omega) _) | (with_reducible refine Below.drew ?_) | (with_reducible refine Below.drewN ?_ _))))
        replace TZ := TZ.via hb17 (by (repeat (first | (with_reducible assumption) | (with_reducible exact Below.refl _ _) | (with_reducible refine Below.setCell ?_ (by first | (simp; done) | (simp; omega) | omega) _) | (with_reducible refine Below.alloc ?_ (by first | (simp; done) | (simp; omega) | omega) _) | (with_reducible refine Below.drew ?_) | (with_reducible refine Below.drewN ?_ _))))
        replace hB := Below.via (by (repeat (first | (with_reducible assumption) | (with_reducible exact Below.refl _ _) | (with_reducible refine Below.setCell ?_ (by first | (simp; done) | (simp; omega) | omega) _) | (with_reducible refine Below.alloc ?_ (by first | (simp; done) | (simp; omega) | omega) _) | (with_reducible refine Below.drew ?_) | (with_reducible refine Below.drewN ?_ _))) : Below w.heap.size w _) hb17
        clear hb17
        have cP_0 := TP.cell 0 rfl
        have cP_1 := TP.cell 1 rfl
        have cP_2 := TP.cell 2 rfl
        have lP := TP.lt
        have cC_0 := TC.cell 0 rfl
        have cC_1 := TC.cell 1 rfl
        have cC_2 := TC.cell 2 rfl
        have cC_3 := TC.cell 3 rfl
        have lC := TC.lt
        have cV_0 := TV.cell 0 rfl
        have cV_1 := TV.cell 1 rfl
        have cV_2 := TV.cell 2 rfl
        have lV := TV.lt
        have cX_0 := TX.cell 0 rfl
        have cX_1 := TX.cell 1 rfl
        have cX_2 := TX.cell 2 rfl
        have lX := TX.lt
        have cR_0 := TR.cell 0 rfl
        have cR_1 := TR.cell 1 rfl
        have cR_2 := TR.cell 2 rfl
        have lR := TR.lt
        have cZ_0 := TZ.cell 0 rfl
        have cZ_1 := TZ.cell 1 rfl
        have cZ_2 := TZ.cell 2 rfl
        have lZ := TZ.lt
        go_wp2
        go_ret
        exact ⟨rfl, by (repeat (first | (with_reducible assumption) | (with_reducible exact Below.refl _ _) | (with_reducible refine Below.setCell ?_ (by first | (simp; done) | (simp; omega) | omega) _) | (with_reducible refine Below.alloc ?_ (by first | (simp; done) | (simp; omega) | omega) _) | (with_reducible refine Below.drew ?_) | (with_reducible refine Below.drewN ?_ _)))⟩
end Go.Proofs.Ythbfpgdfigilaaa
