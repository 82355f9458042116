/- Contracts of MessageValid (impl and spec). -/
import Derived.Test.YthbfpgdfigilaaaMsg1
namespace Go.Proofs.Ythbfpgdfigilaaa
set_option linter.unusedVariables false
open Go.RowKit
set_option maxHeartbeats 4000000 in
theorem iMessageValid_any (B T n c m d : Nat) (l : Int) (A D : Option Addr) (xs : List Int) (cs : List Cp) (w : World) (hr : Rd w B T 1 A n (ints xs)) (hn : n ≤ 1048576) (hr2 : Rd w B T 4 D m (caps cs)) (hm : m ≤ 1048576) :
    Calls Try.prog 15 #[msg l A n c D m d] w fun e w' => e = .returned (.bool (msgOk l xs cs)) ∧ Below w.heap.size w w' := by
  have hB := Below.refl w.heap.size w
  replace hr := hr.here Nat.one_pos
  replace hr2 := hr2.here (by omega)
  have HV := Lib.hid (show msgOk l xs cs = (inB l 0 9999 && (decide ((n : Int) ≤ 8) && (decide ((m : Int) ≤ 3) && (cOk cs && (wOk xs && kOk cs))))) by unfold msgOk; rw [ints_len hr, caps_len hr2])
  have HW := Lib.hid (show xs.any (fun x => !inB x 0 9999) = !wOk xs from not_all (fun x => inB x 0 9999) xs)
  have HK := Lib.hid (show cs.any (fun c => c.1 == 0) = !kOk cs by rw [← (by simp : (fun c : Cp => !(fun c : Cp => !(c.1 == 0)) c) = fun c => c.1 == 0)]; exact not_all _ cs)
  cases h1 : inB l 0 9999
  · rw [h1] at HV
    go_enter Try.func15, Try.ntmps15
    have TP := Blk.newAt (w := w) (n := w.heap.size) 30 #[.int .i64 l, .slice A n c, .slice D m d] (by simp)
    go_wp2_with fail
    refine (in_any _ _ _ _).mono ?_
    rintro e w' ⟨rfl, rfl⟩
    rw [h1]
    go_wp2
    go_ret
    exact ⟨by rw [HV.out]; rfl, by (repeat (first | (with_reducible assumption) | (with_reducible exact Below.refl _ _) | (with_reducible refine Below.setCell ?_ (by first | (simp; done) | (simp; omega) | omega) _) | (with_reducible refine Below.alloc ?_ (by first | (simp; done) | (simp; omega) | omega) _) | (with_reducible refine Below.drew ?_) | (with_reducible refine Below.drewN ?_ _)))⟩
  · rw [h1] at HV
    cases h2 : decide ((n : Int) ≤ 8)
    · rw [h2] at HV
      have k2 : ¬ (n : Int) ≤ 8 := by simpa using h2
      clear h2
      go_enter Try.func15, Try.ntmps15
      have TP := Blk.newAt (w := w) (n := w.heap.size) 30 #[.int .i64 l, .slice A n c, .slice D m d] (by simp)
      go_wp2_with fail
      refine (in_any _ _ _ _).mono ?_
      rintro e w' ⟨rfl, rfl⟩
      rw [h1]
      go_wp2
      go_ret
      exact ⟨by rw [HV.out]; rfl, by (repeat (first | (with_reducible assumption) | (with_reducible exact Below.refl _ _) | (with_reducible refine Below.setCell ?_ (by first | (simp; done) | (simp; omega) | omega) _) | (with_reducible refine Below.alloc ?_ (by first | (simp; done) | (simp; omega) | omega) _) | (with_reducible refine Below.drew ?_) | (with_reducible refine Below.drewN ?_ _)))⟩
    · rw [h2] at HV
      cases h3 : decide ((m : Int) ≤ 3)
      · rw [h3] at HV
        have k2 : (n : Int) ≤ 8 := by simpa using h2
        have k3 : ¬ (m : Int) ≤ 3 := by simpa using h3
        clear h2 h3
        go_enter Try.func15, Try.ntmps15
        have TP := Blk.newAt (w := w) (n := w.heap.size) 30 #[.int .i64 l, .slice A n c, .slice D m d] (by simp)
        go_wp2_with fail
        refine (in_any _ _ _ _).mono ?_
        rintro e w' ⟨rfl, rfl⟩
        rw [h1]
        go_wp2
        go_ret
        exact ⟨by rw [HV.out]; rfl, by (repeat (first | (with_reducible assumption) | (with_reducible exact Below.refl _ _) | (with_reducible refine Below.setCell ?_ (by first | (simp; done) | (simp; omega) | omega) _) | (with_reducible refine Below.alloc ?_ (by first | (simp; done) | (simp; omega) | omega) _) | (with_reducible refine Below.drew ?_) | (with_reducible refine Below.drewN ?_ _)))⟩
      · rw [h3] at HV
        cases h4 : cOk cs
        · rw [h4] at HV
          have k2 : (n : Int) ≤ 8 := by simpa using h2
          have k3 : (m : Int) ≤ 3 := by simpa using h3
          clear h2 h3
          go_enter Try.func15, Try.ntmps15
          have TP := Blk.newAt (w := w) (n := w.heap.size) 30 #[.int .i64 l, .slice A n c, .slice D m d] (by simp)
          go_wp2_with fail
          refine (in_any _ _ _ _).mono ?_
          rintro e w' ⟨rfl, rfl⟩
          rw [h1]
          go_wp2_with fail
          refine (anyInvalid_any _ _ _ _ _ cs _ (hr2.alloc _) hm).mono ?_
          rintro e w1 ⟨rfl, hb1⟩
          have z1 := hb1.size
          (try simp at z1)
          replace hr := hr.via hb1 (by (repeat (first | (with_reducible assumption) | (with_reducible exact Below.refl _ _) | (with_reducible refine Below.setCell ?_ (by first | (simp; done) | (simp; omega) | omega) _) | (with_reducible refine Below.alloc ?_ (by first | (simp; done) | (simp; omega) | omega) _) | (with_reducible refine Below.drew ?_) | (with_reducible refine Below.drewN ?_ _))))
          replace hr2 := hr2.via hb1 (by (repeat (first | (with_reducible assumption) | (with_reducible exact Below.refl _ _) | (with_reducible refine Below.setCell ?_ (by first | (simp; done) | (simp; omega) | omega) _) | (with_reducible refine Below.alloc ?_ (by first | (simp; done) | (simp; omega) | omega) _) | (with_reducible refine Below.drew ?_) | (with_reducible refine Below.drewN ?_ _))))
          replace TP := TP.via hb1 (by (repeat (first | (with_reducible assumption) | (with_reducible exact Below.refl _ _) | (with_reducible refine Below.setCell ?_ (by first | (simp; done) | (simp; omega) | omega) _) | (with_reducible refine Below.alloc ?_ (by first | (simp; done) | (simp; omega) | omega) _) | (with_reducible refine Below.drew ?_) | (with_reducible refine Below.drewN ?_ _))))
          replace hB := Below.via (by (repeat (first | (with_reducible assumption) | (with_reducible exact Below.refl _ _) | (with_reducible refine Below.setCell ?_ (by first | (simp; done) | (simp; omega) | omega) _) | (with_reducible refine Below.alloc ?_ (by first | (simp; done) | (simp; omega) | omega) _) | (with_reducible refine Below.drew ?_) | (with_reducible refine Below.drewN ?_ _))) : Below w.heap.size w _) hb1
          clear hb1
          have cP_0 := TP.cell 0 rfl
          have cP_1 := TP.cell 1 rfl
          have cP_2 := TP.cell 2 rfl
          have lP := TP.lt
          rw [h4]
          go_wp2
          go_ret
          exact ⟨by rw [HV.out]; rfl, by (repeat (first | (with_reducible assumption) | (with_reducible exact Below.refl _ _) | (with_reducible refine Below.setCell ?_ (by first | (simp; done) | (simp; omega) | omega) _) | (with_reducible refine Below.alloc ?_ (by first | (simp; done) | (simp; omega) | omega) _) | (with_reducible refine Below.drew ?_) | (with_reducible refine Below.drewN ?_ _)))⟩
        · rw [h4] at HV
          cases h5 : wOk xs
          · rw [h5] at HV
            have k2 : (n : Int) ≤ 8 := by simpa using h2
            have k3 : (m : Int) ≤ 3 := by simpa using h3
            clear h2 h3
            go_enter Try.func15, Try.ntmps15
            have TP := Blk.newAt (w := w) (n := w.heap.size) 30 #[.int .i64 l, .slice A n c, .slice D m d] (by simp)
            go_wp2_with fail
            refine (in_any _ _ _ _).mono ?_
            rintro e w' ⟨rfl, rfl⟩
            rw [h1]
            go_wp2_with fail
            refine (anyInvalid_any _ _ _ _ _ cs _ (hr2.alloc _) hm).mono ?_
            rintro e w1 ⟨rfl, hb1⟩
            have z1 := hb1.size
            (try simp at z1)
            replace hr := hr.via hb1 (by (repeat (first | (with_reducible assumption) | (with_reducible exact Below.refl _ _) | (with_reducible refine Below.setCell ?_ (by first | (simp; done) | (simp; omega) | omega) _) | (with_reducible refine Below.alloc ?_ (by first | (simp; done) | (simp; omega) | omega) _) | (with_reducible refine Below.drew ?_) | (with_reducible refine Below.drewN ?_ _))))
            replace hr2 := hr2.via hb1 (by (repeat (first | (with_reducible assumption) | (with_reducible exact Below.refl _ _) | (with_reducible refine Below.setCell ?_ (by first | (simp; done) | (simp; omega) | omega) _) | (with_reducible refine Below.alloc ?_ (by first | (simp; done) | (simp; omega) | omega) _) | (with_reducible refine Below.drew ?_) | (with_reducible refine Below.drewN ?_ _))))
            replace TP := TP.via hb1 (by (repeat (first | (with_reducible assumption) | (with_reducible exact Below.refl _ _) | (with_reducible refine Below.setCell ?_ (by first | (simp; done) | (simp; omega) | omega) _) | (with_reducible refine Below.alloc ?_ (by first | (simp; done) | (simp; omega) | omega) _) | (with_reducible refine Below.drew ?_) | (with_reducible refine Below.drewN ?_ _))))
            replace hB := Below.via (by (repeat (first | (with_reducible assumption) | (with_reducible exact Below.refl _ _) | (with_reducible refine Below.setCell ?_ (by first | (simp; done) | (simp; omega) | omega) _) | (with_reducible refine Below.alloc ?_ (by first | (simp; done) | (simp; omega) | omega) _) | (with_reducible refine Below.drew ?_) | (with_reducible refine Below.drewN ?_ _))) : Below w.heap.size w _) hb1
            clear hb1
            have cP_0 := TP.cell 0 rfl
            have cP_1 := TP.cell 1 rfl
            have cP_2 := TP.cell 2 rfl
            have lP := TP.lt
            rw [h4]
            go_wp2_with fail
            refine (ContainsFuncW_any _ (Go.Proofs.enters_of Try.func48 (by kernel_rfl) rfl) (fun x => !inB x 0 9999) bad0_any _ _ _ _ _ xs _ hr hn).mono ?_
            rintro e w2 ⟨rfl, hb2⟩
            clear cP_0 cP_1 cP_2 lP
            have z2 := hb2.size
            (try simp at z2)
            replace hr := hr.via hb2 (by (repeat (first | (with_reducible assumption) | (with_reducible exact Below.refl _ _) | (with_reducible refine Below.setCell ?_ (by first | (simp; done) | (simp; omega) | omega) _) | (with_reducible refine Below.alloc ?_ (by first | (simp; done) | (simp; omega) | omega) _) | (with_reducible refine Below.drew ?_) | (with_reducible refine Below.drewN ?_ _))))
            replace hr2 := hr2.via hb2 (by (repeat (first | (with_reducible assumption) | (with_reducible exact Below.refl _ _) | (with_reducible refine Below.setCell ?_ (by first | (simp; done) | (simp; omega) | omega) _) | (with_reducible refine Below.alloc ?_ (by first | (simp; done) | (simp; omega) | omega) _) | (with_reducible refine Below.drew ?_) | (with_reducible refine Below.drewN ?_ _))))
            replace TP := TP.via hb2 (by (repeat (first | (with_reducible assumption) | (with_reducible exact Below.refl _ _) | (with_reducible refine Below.setCell ?_ (by first | (simp; done) | (simp; omega) | omega) _) | (with_reducible refine Below.alloc ?_ (by first | (simp; done) | (simp; omega) | omega) _) | (with_reducible refine Below.drew ?_) | (with_reducible refine Below.drewN ?_ _))))
            replace hB := Below.via (by (repeat (first | (with_reducible assumption) | (with_reducible exact Below.refl _ _) | (with_reducible refine Below.setCell ?_ (by first | (simp; done) | (simp; omega) | omega) _) | (with_reducible refine Below.alloc ?_ (by first | (simp; done) | (simp; omega) | omega) _) | (with_reducible refine Below.drew ?_) | (with_reducible refine Below.drewN ?_ _))) : Below w.heap.size w _) hb2
            clear hb2
            have cP_0 := TP.cell 0 rfl
            have cP_1 := TP.cell 1 rfl
            have cP_2 := TP.cell 2 rfl
            have lP := TP.lt
            rw [HW.out, h5]
            go_wp2
            go_ret
            exact ⟨by rw [HV.out]; rfl, by (repeat (first | (with_reducible assumption) | (with_reducible exact Below.refl _ _) | (with_reducible refine Below.setCell ?_ (by first | (simp; done) | (simp; omega) | omega) _) | (with_reducible refine Below.alloc ?_ (by first | (simp; done) | (simp; omega) | omega) _) | (with_reducible refine Below.drew ?_) | (with_reducible refine Below.drewN ?_ _)))⟩
          · rw [h5] at HV
            cases h6 : kOk cs
            · rw [h6] at HV
              have k2 : (n : Int) ≤ 8 := by simpa using h2
              have k3 : (m : Int) ≤ 3 := by simpa using h3
              clear h2 h3
              go_enter Try.func15, Try.ntmps15
              have TP := Blk.newAt (w := w) (n := w.heap.size) 30 #[.int .i64 l, .slice A n c, .slice D m d] (by simp)
              go_wp2_with fail
              refine (in_any _ _ _ _).mono ?_
              rintro e w' ⟨rfl, rfl⟩
              rw [h1]
              go_wp2_with fail
              refine (anyInvalid_any _ _ _ _ _ cs _ (hr2.alloc _) hm).mono ?_
              rintro e w1 ⟨rfl, hb1⟩
              have z1 := hb1.size
              (try simp at z1)
              replace hr := hr.via hb1 (by (repeat (first | (with_reducible assumption) | (with_reducible exact Below.refl _ _) | (with_reducible refine Below.setCell ?_ (by first | (simp; done) | (simp; omega) | omega) _) | (with_reducible refine Below.alloc ?_ (by first | (simp; done) | (simp; omega) | omega) _) | (with_reducible refine Below.drew ?_) | (with_reducible refine Below.drewN ?_ _))))
              replace hr2 := hr2.via hb1 (by (repeat (first | (with_reducible assumption) | (with_reducible exact Below.refl _ _) | (with_reducible refine Below.setCell ?_ (by first | (simp; done) | (simp; omega) | omega) _) | (with_reducible refine Below.alloc ?_ (by first | (simp; done) | (simp; omega) | omega) _) | (with_reducible refine Below.drew ?_) | (with_reducible refine Below.drewN ?_ _))))
              replace TP := TP.via hb1 (by (repeat (first | (with_reducible assumption) | (with_reducible exact Below.refl _ _) | (with_reducible refine Below.setCell ?_ (by first | (simp; done) | (simp; omega) | omega) _) | (with_reducible refine Below.alloc ?_ (by first | (simp; done) | (simp; omega) | omega) _) | (with_reducible refine Below.drew ?_) | (with_reducible refine Below.drewN ?_ _))))
              replace hB := Below.via (by (repeat (first | (with_reducible assumption) | (with_reducible exact Below.refl _ _) | (with_reducible refine Below.setCell ?_ (by first | (simp; done) | (simp; omega) | omega) _) | (with_reducible refine Below.alloc ?_ (by first | (simp; done) | (simp; omega) | omega) _) | (with_reducible refine Below.drew ?_) | (with_reducible refine Below.drewN ?_ _))) : Below w.heap.size w _) hb1
              clear hb1
              have cP_0 := TP.cell 0 rfl
              have cP_1 := TP.cell 1 rfl
              have cP_2 := TP.cell 2 rfl
              have lP := TP.lt
              rw [h4]
              go_wp2_with fail
              refine (ContainsFuncW_any _ (Go.Proofs.enters_of Try.func48 (by kernel_rfl) rfl) (fun x => !inB x 0 9999) bad0_any _ _ _ _ _ xs _ hr hn).mono ?_
              rintro e w2 ⟨rfl, hb2⟩
              clear cP_0 cP_1 cP_2 lP
              have z2 := hb2.size
              (try simp at z2)
              replace hr := hr.via hb2 (by (repeat (first | (with_reducible assumption) | (with_reducible exact Below.refl _ _) | (with_reducible refine Below.setCell ?_ (by first | (simp; done) | (simp; omega) | omega) _) | (with_reducible refine Below.alloc ?_ (by first | (simp; done) | (simp; omega) | omega) _) | (with_reducible refine Below.drew ?_) | (with_reducible refine Below.drewN ?_ _))))
              replace hr2 := hr2.via hb2 (by (repeat (first | (with_reducible assumption) | (with_reducible exact Below.refl _ _) | (with_reducible refine Below.setCell ?_ (by first | (simp; done) | (simp; omega) | omega) _) | (with_reducible refine Below.alloc ?_ (by first | (simp; done) | (simp; omega) | omega) _) | (with_reducible refine Below.drew ?_) | (with_reducible refine Below.drewN ?_ _))))
              replace TP := TP.via hb2 (by (repeat (first | (with_reducible assumption) | (with_reducible exact Below.refl _ _) | (with_reducible refine Below.setCell ?_ (by first | (simp; done) | (simp; omega) | omega) _) | (with_reducible refine Below.alloc ?_ (by first | (simp; done) | (simp; omega) | omega) _) | (with_reducible refine Below.drew ?_) | (with_reducible refine Below.drewN ?_ _))))
              replace hB := Below.via (by (repeat (first | (with_reducible assumption) | (with_reducible exact Below.refl _ _) | (with_reducible refine Below.setCell ?_ (by first | (simp; done) | (simp; omega) | omega) _) | (with_reducible refine Below.alloc ?_ (by first | (simp; done) | (simp; omega) | omega) _) | (with_reducible refine Below.drew ?_) | (with_reducible refine Below.drewN ?_ _))) : Below w.heap.size w _) hb2
              clear hb2
              have cP_0 := TP.cell 0 rfl
              have cP_1 := TP.cell 1 rfl
              have cP_2 := TP.cell 2 rfl
              have lP := TP.lt
              rw [HW.out, h5]
              go_wp2_with fail
              refine (ContainsFuncC_any _ (Go.Proofs.enters_of Try.func50 (by kernel_rfl) rfl) (fun c => c.1 == 0) bad2_any _ _ _ _ _ cs _ hr2 hm).mono ?_
              rintro e w3 ⟨rfl, hb3⟩
              clear cP_0 cP_1 cP_2 lP
              have z3 := hb3.size
              (try simp at z3)
              replace hr := hr.via hb3 (by (repeat (first | (with_reducible assumption) | (with_reducible exact Below.refl _ _) | (with_reducible refine Below.setCell ?_ (by first | (simp; done) | (simp; omega) | omega) _) | (with_reducible refine Below.alloc ?_ (by first | (simp; done) | (simp; omega) | omega) _) | (with_reducible refine Below.drew ?_) | (with_reducible refine Below.drewN ?_ _))))
              replace hr2 := hr2.via hb3 (by (repeat (first | (with_reducible assumption) | (with_reducible exact Below.refl _ _) | (with_reducible refine Below.setCell ?_ (by first | (simp; done) | (simp; omega) | omega) _) | (with_reducible refine Below.alloc ?_ (by first | (simp; done) | (simp; omega) | omega) _) | (with_reducible refine Below.drew ?_) | (with_reducible refine Below.drewN ?_ _))))
              replace TP := TP.via hb3 (by (repeat (first | (with_reducible assumption) | (with_reducible exact Below.refl _ _) | (with_reducible refine Below.setCell ?_ (by first | (simp; done) | (simp; omega) | omega) _) | (with_reducible refine Below.alloc ?_ (by first | (simp; done) | (simp; omega) | omega) _) | (with_reducible refine Below.drew ?_) | (with_reducible refine Below.drewN ?_ _))))
              replace hB := Below.via (by (repeat (first | (with_reducible assumption) | (with_reducible exact Below.refl _ _) | (with_reducible refine Below.setCell ?_ (by first | (simp; done) | (simp; omega) | omega) _) | (with_reducible refine Below.alloc ?_ (by first | (simp; done) | (simp; omega) | omega) _) | (with_reducible refine Below.drew ?_) | (with_reducible refine Below.drewN ?_ _))) : Below w.heap.size w _) hb3
              clear hb3
              have cP_0 := TP.cell 0 rfl
              have cP_1 := TP.cell 1 rfl
              have cP_2 := TP.cell 2 rfl
              have lP := TP.lt
              rw [HK.out, h6]
              go_wp2
              go_ret
              exact ⟨by rw [HV.out]; rfl, by (repeat (first | (with_reducible assumption) | (with_reducible exact Below.refl _ _) | (with_reducible refine Below.setCell ?_ (by first | (simp; done) | (simp; omega) | omega) _) | (with_reducible refine Below.alloc ?_ (by first | (simp; done) | (simp; omega) | omega) _) | (with_reducible refine Below.drew ?_) | (with_reducible refine Below.drewN ?_ _)))⟩
            · rw [h6] at HV
              have k2 : (n : Int) ≤ 8 := by simpa using h2
              have k3 : (m : Int) ≤ 3 := by simpa using h3
              clear h2 h3
              go_enter Try.func15, Try.ntmps15
              have TP := Blk.newAt (w := w) (n := w.heap.size) 30 #[.int .i64 l, .slice A n c, .slice D m d] (by simp)
              go_wp2_with fail
              refine (in_any _ _ _ _).mono ?_
              rintro e w' ⟨rfl, rfl⟩
              rw [h1]
              go_wp2_with fail
              refine (anyInvalid_any _ _ _ _ _ cs _ (hr2.alloc _) hm).mono ?_
              rintro e w1 ⟨rfl, hb1⟩
              have z1 := hb1.size
              (try simp at z1)
              replace hr := hr.via hb1 (by (repeat (first | (with_reducible assumption) | (with_reducible exact Below.refl _ _) | (with_reducible refine Below.setCell ?_ (by first | (simp; done) | (simp; omega) | omega) _) | (with_reducible refine Below.alloc ?_ (by first | (simp; done) | (simp; omega) | omega) _) | (with_reducible refine Below.drew ?_) | (with_reducible refine Below.drewN ?_ _))))
              replace hr2 := hr2.via hb1 (by (repeat (first | (with_reducible assumption) | (with_reducible exact Below.refl _ _) | (with_reducible refine Below.setCell ?_ (by first | (simp; done) | (simp; omega) | omega) _) | (with_reducible refine Below.alloc ?_ (by first | (simp; done) | (simp; omega) | omega) _) | (with_reducible refine Below.drew ?_) | (with_reducible refine Below.drewN ?_ _))))
              replace TP := TP.via hb1 (by (repeat (first | (with_reducible assumption) | (with_reducible exact Below.refl _ _) | (with_reducible refine Below.setCell ?_ (by first | (simp; done) | (simp; omega) | omega) _) | (with_reducible refine Below.alloc ?_ (by first | (simp; done) | (simp; omega) | omega) _) | (with_reducible refine Below.drew ?_) | (with_reducible refine Below.drewN ?_ _))))
              replace hB := Below.via (by (repeat (first | (with_reducible assumption) | (with_reducible exact Below.refl _ _) | (with_reducible refine Below.setCell ?_ (by first | (simp; done) | (simp; omega) | omega) _) | (with_reducible refine Below.alloc ?_ (by first | (simp; done) | (simp; omega) | omega) _) | (with_reducible refine Below.drew ?_) | (with_reducible refine Below.drewN ?_ _))) : Below w.heap.size w _) hb1
              clear hb1
              have cP_0 := TP.cell 0 rfl
              have cP_1 := TP.cell 1 rfl
              have cP_2 := TP.cell 2 rfl
              have lP := TP.lt
              rw [h4]
              go_wp2_with fail
              refine (ContainsFuncW_any _ (Go.Proofs.enters_of Try.func48 (by kernel_rfl) rfl) (fun x => !inB x 0 9999) bad0_any _ _ _ _ _ xs _ hr hn).mono ?_
              rintro e w2 ⟨rfl, hb2⟩
              clear cP_0 cP_1 cP_2 lP
              have z2 := hb2.size
              (try simp at z2)
              replace hr := hr.via hb2 (by (repeat (first | (with_reducible assumption) | (with_reducible exact Below.refl _ _) | (with_reducible refine Below.setCell ?_ (by first | (simp; done) | (simp; omega) | omega) _) | (with_reducible refine Below.alloc ?_ (by first | (simp; done) | (simp; omega) | omega) _) | (with_reducible refine Below.drew ?_) | (with_reducible refine Below.drewN ?_ _))))
              replace hr2 := hr2.via hb2 (by (repeat (first | (with_reducible assumption) | (with_reducible exact Below.refl _ _) | (with_reducible refine Below.setCell ?_ (by first | (simp; done) | (simp; omega) | omega) _) | (with_reducible refine Below.alloc ?_ (by first | (simp; done) | (simp; omega) | omega) _) | (with_reducible refine Below.drew ?_) | (with_reducible refine Below.drewN ?_ _))))
              replace TP := TP.via hb2 (by (repeat (first | (with_reducible assumption) | (with_reducible exact Below.refl _ _) | (with_reducible refine Below.setCell ?_ (by first | (simp; done) | (simp; omega) | omega) _) | (with_reducible refine Below.alloc ?_ (by first | (simp; done) | (simp; omega) | omega) _) | (with_reducible refine Below.drew ?_) | (with_reducible refine Below.drewN ?_ _))))
              replace hB := Below.via (by (repeat (first | (with_reducible assumption) | (with_reducible exact Below.refl _ _) | (with_reducible refine Below.setCell ?_ (by first | (simp; done) | (simp; omega) | omega) _) | (with_reducible refine Below.alloc ?_ (by first | (simp; done) | (simp; omega) | omega) _) | (with_reducible refine Below.drew ?_) | (with_reducible refine Below.drewN ?_ _))) : Below w.heap.size w _) hb2
              clear hb2
              have cP_0 := TP.cell 0 rfl
              have cP_1 := TP.cell 1 rfl
              have cP_2 := TP.cell 2 rfl
              have lP := TP.lt
              rw [HW.out, h5]
              go_wp2_with fail
              refine (ContainsFuncC_any _ (Go.Proofs.enters_of Try.func50 (by kernel_rfl) rfl) (fun c => c.1 == 0) bad2_any _ _ _ _ _ cs _ hr2 hm).mono ?_
              rintro e w3 ⟨rfl, hb3⟩
              clear cP_0 cP_1 cP_2 lP
              have z3 := hb3.size
              (try simp at z3)
              replace hr := hr.via hb3 (by (repeat (first | (with_reducible assumption) | (with_reducible exact Below.refl _ _) | (with_reducible refine Below.setCell ?_ (by first | (simp; done) | (simp; omega) | omega) _) | (with_reducible refine Below.alloc ?_ (by first | (simp; done) | (simp; omega) | omega) _) | (with_reducible refine Below.drew ?_) | (with_reducible refine Below.drewN ?_ _))))
              replace hr2 := hr2.via hb3 (by (repeat (first | (with_reducible assumption) | (with_reducible exact Below.refl _ _) | (with_reducible refine Below.setCell ?_ (by first | (simp; done) | (simp; omega) | omega) _) | (with_reducible refine Below.alloc ?_ (by first | (simp; done) | (simp; omega) | omega) _) | (with_reducible refine Below.drew ?_) | (with_reducible refine Below.drewN ?_ _))))
              replace TP := TP.via hb3 (by (repeat (first | (with_reducible assumption) | (with_reducible exact Below.refl _ _) | (with_reducible refine Below.setCell ?_ (by first | (simp; done) | (simp; omega) | omega) _) | (with_reducible refine Below.alloc ?_ (by first | (simp; done) | (simp; omega) | omega) _) | (with_reducible refine Below.drew ?_) | (with_reducible refine Below.drewN ?_ _))))
              replace hB := Below.via (by (repeat (first | (with_reducible assumption) | (with_reducible exact Below.refl _ _) | (with_reducible refine Below.setCell ?_ (by first | (simp; done) | (simp; omega) | omega) _) | (with_reducible refine Below.alloc ?_ (by first | (simp; done) | (simp; omega) | omega) _) | (with_reducible refine Below.drew ?_) | (with_reducible refine Below.drewN ?_ _))) : Below w.heap.size w _) hb3
              clear hb3
              have cP_0 := TP.cell 0 rfl
              have cP_1 := TP.cell 1 rfl
              have cP_2 := TP.cell 2 rfl
              have lP := TP.lt
              rw [HK.out, h6]
              go_wp2
              go_ret
              exact ⟨by rw [HV.out]; rfl, by (repeat (first | (with_reducible assumption) | (with_reducible exact Below.refl _ _) | (with_reducible refine Below.setCell ?_ (by first | (simp; done) | (simp; omega) | omega) _) | (with_reducible refine Below.alloc ?_ (by first | (simp; done) | (simp; omega) | omega) _) | (with_reducible refine Below.drew ?_) | (with_reducible refine Below.drewN ?_ _)))⟩
theorem wOk_no {xs : List Int} {k : Nat} {x : Int} (hx : xs[k]? = some x) (h : inB x 0 9999 = false) : wOk xs = false := by
  unfold wOk
  rw [List.all_eq_false]
  exact ⟨x, List.mem_of_getElem? hx, by rw [h]; simp⟩
theorem wOk_step {xs : List Int} {k : Nat} {x : Int} (h : wOk (xs.take k) = true) (hx : xs[k]? = some x) (h1 : inB x 0 9999 = true) : wOk (xs.take (k + 1)) = true := by
  unfold wOk at *
  rw [List.take_add_one, hx, List.all_append, h]
  simp [h1]
def ckOk (cs : List Cp) : Bool := cOk cs && kOk cs
theorem ckOk_no {cs : List Cp} {k : Nat} {c : Cp} (hx : cs[k]? = some c) (h : okC c = false ∨ c.1 = 0) : ckOk cs = false := by
  unfold ckOk
  rcases h with h | h
  · have : cOk cs = false := by
      unfold cOk
      rw [List.all_eq_false]
      exact ⟨c, List.mem_of_getElem? hx, by rw [h]; simp⟩
    rw [this, Bool.false_and]
  · have : kOk cs = false := by
      unfold kOk
      rw [List.all_eq_false]
      exact ⟨c, List.mem_of_getElem? hx, by rw [h]; simp⟩
    rw [this, Bool.and_false]
theorem ckOk_step {cs : List Cp} {k : Nat} {c : Cp} (h : ckOk (cs.take k) = true) (hx : cs[k]? = some c) (h1 : okC c = true) (h2 : ¬ c.1 = 0) : ckOk (cs.take (k + 1)) = true := by
  unfold ckOk cOk kOk at *
  rw [Bool.and_eq_true] at h
  rw [List.take_add_one, hx, List.all_append, List.all_append, h.1, h.2]
  simp [h1, h2]
theorem msgOk_w {l : Int} {xs : List Int} {cs : List Cp} (h : wOk xs = false) : msgOk l xs cs = false := by unfold msgOk; rw [h]; simp
theorem msgOk_c {l : Int} {xs : List Int} {cs : List Cp} (h : ckOk cs = false) : msgOk l xs cs = false := by
  unfold ckOk at h
  unfold msgOk
  rw [Bool.and_eq_false_iff] at h
  rcases h with h | h <;> rw [h] <;> simp
theorem msgOk_rest {l : Int} {xs : List Int} {cs : List Cp} (h : wOk xs = true) (h2 : ckOk cs = true) : msgOk l xs cs = (inB l 0 9999 && (decide ((xs.length : Int) ≤ 8) && decide ((cs.length : Int) ≤ 3))) := by
  unfold ckOk at h2
  rw [Bool.and_eq_true] at h2
  unfold msgOk
  rw [h, h2.1, h2.2]
  simp
set_option maxHeartbeats 4000000 in
theorem sMessageValid_any (B T n c m d : Nat) (l : Int) (A D : Option Addr) (xs : List Int) (cs : List Cp) (w : World) (hr : Rd w B T 1 A n (ints xs)) (hn : n ≤ 1048576) (hr2 : Rd w B T 4 D m (caps cs)) (hm : m ≤ 1048576) :
    Calls Try.prog 13 #[msg l A n c D m d] w fun e w' => e = .returned (.bool (msgOk l xs cs)) ∧ Below w.heap.size w w' := by
  have HL := Lib.hid (ints_len hr)
  have HM := Lib.hid (caps_len hr2)
  replace hr := hr.here Nat.one_pos
  replace hr2 := hr2.here (by omega)
  have TP := Blk.new w 30 #[.int .i64 l, .slice A n c, .slice D m d]
  have hB : Below w.heap.size w (w.alloc (.cells #[.int .i64 l, .slice A n c, .slice D m d] 30)) := by (repeat (first | (with_reducible assumption) | (with_reducible exact Below.refl _ _) | (with_reducible refine Below.setCell ?_ (by first | (simp; done) | (simp; omega) | omega) _) | (with_reducible refine Below.alloc ?_ (by first | (simp; done) | (simp; omega) | omega) _) | (with_reducible refine Below.drew ?_) | (with_reducible refine Below.drewN ?_ _)))
  have q1 := TP.cell 1 rfl
  go_enter Try.func13, Try.ntmps13
  go_wp2
  go_loopw [3] (fun i wr => ∃ k : Nat, k ≤ n ∧ i = .int .i64 k ∧ Hid (wOk (xs.take k) = true) ∧ Blk wr w.heap.size 30 #[.int .i64 l, .slice A n c, .slice D m d] ∧ Below w.heap.size w wr) (fun i _ => n - (intOf i).toNat)
  case atStart => exact ⟨0, by omega, rfl, Lib.hid (by rw [List.take_zero]; rfl), TP, hB⟩
  case round =>
    clear TP hB q1
    obtain ⟨k, hk, rfl, ht, TP, hb⟩ := hrel
    have q1 := TP.cell 1 rfl
    by_cases hlt : k < n
    · obtain ⟨b, o, x, rfl, hbl, hx, hc⟩ := ints_at (hr.belowT hb) hlt
      have hkk : (k : Int) < (n : Int) := by omega
      have hk0 : (0 : Int) ≤ (k : Int) := by omega
      have HX := Lib.hid hx
      clear hr hr2 hx
      cases hin : inB x 0 9999
      · have HV := Lib.hid (msgOk_w (l := l) (cs := cs) (wOk_no HX.out hin))
        go_wp2_with fail
        refine (l1In_any _ _ _ _).mono ?_
        rintro e w' ⟨rfl, rfl⟩
        rw [hin]
        go_wp2
        go_ret
        exact ⟨by rw [HV.out]; rfl, hb⟩
      · go_wp2_with fail
        refine (l1In_any _ _ _ _).mono ?_
        rintro e w' ⟨rfl, rfl⟩
        rw [hin]
        go_wp2
        go_roundw
        case rel => exact ⟨k + 1, by omega, by go_num, Lib.hid (wOk_step ht.out HX.out hin), TP, hb⟩
        case measure => simp [intOf]; omega
    · have hkn : k = n := by omega
      subst hkn
      have HW := Lib.hid (show wOk xs = true by have := ht.out; rwa [List.take_of_length_le (by rw [HL.out]; exact Nat.le_refl _)] at this)
      clear ht
      go_wp2
      clear q1
      go_loopw [4] (fun i wr => ∃ j : Nat, j ≤ m ∧ i = .int .i64 j ∧ Hid (ckOk (cs.take j) = true) ∧ Blk wr w.heap.size 30 #[.int .i64 l, .slice A k c, .slice D m d] ∧ Below w.heap.size w wr) (fun i _ => m - (intOf i).toNat)
      case atStart => exact ⟨0, by omega, rfl, Lib.hid (by rw [List.take_zero]; rfl), TP, hb⟩
      case round =>
        clear TP hb
        obtain ⟨j, hj, rfl, ht, TP, hb⟩ := hrel
        have q2 := TP.cell 2 rfl
        have lP := TP.lt
        by_cases hlt2 : j < m
        · obtain ⟨b, o, kk, oo, rr, bb, rfl, hbl, hx, e0, e1, e2, e3⟩ := cap_at (hr2.belowT hb) hlt2
          have hkk : (j : Int) < (m : Int) := by omega
          have hk0 : (0 : Int) ≤ (j : Int) := by omega
          have HX := Lib.hid hx
          clear hr hr2 hx
          cases hok : capOk kk oo rr bb
          · have HV := Lib.hid (msgOk_c (l := l) (xs := xs) (ckOk_no HX.out (.inl hok)))
            go_wp2_with fail
            refine (sCapValid_any _ _ _ _ _).mono ?_
            rintro e w1 ⟨rfl, hb1⟩
            rw [hok]
            go_wp2
            go_ret
            exact ⟨by rw [HV.out]; rfl, Below.via hb hb1⟩
          · by_cases hz : kk = 0
            · have HV := Lib.hid (msgOk_c (l := l) (xs := xs) (ckOk_no HX.out (.inr hz)))
              subst hz
              go_wp2_with fail
              refine (sCapValid_any _ _ _ _ _).mono ?_
              rintro e w1 ⟨rfl, hb1⟩
              rw [hok]
              replace TP := TP.below hb1
              have hc0 := (hb1.cell (p := ⟨b, o + j * 4, none⟩) hbl).trans e0
              replace hb := Below.via hb hb1
              clear q2 e0 e1 e2 e3 hb1
              have q2 := TP.cell 2 rfl
              go_wp2
              go_ret
              exact ⟨by rw [HV.out]; rfl, hb⟩
            · have HS := Lib.hid (ckOk_step ht.out HX.out hok hz)
              have hz' : (kk == 0) = false := by simp [hz]
              clear hz
              go_wp2_with fail
              refine (sCapValid_any _ _ _ _ _).mono ?_
              rintro e w1 ⟨rfl, hb1⟩
              rw [hok]
              replace TP := TP.below hb1
              have hc0 := (hb1.cell (p := ⟨b, o + j * 4, none⟩) hbl).trans e0
              replace hb := Below.via hb hb1
              clear q2 e0 e1 e2 e3 hb1
              have q2 := TP.cell 2 rfl
              go_wp2
              go_roundw
              case rel => exact ⟨j + 1, by omega, by go_num, HS, TP, hb⟩
              case measure => simp [intOf]; omega
        · have hkn : j = m := by omega
          subst hkn
          have h2 : ckOk cs = true := by have := ht.out; rwa [List.take_of_length_le (by rw [HM.out]; exact Nat.le_refl _)] at this
          have HV := Lib.hid ((msgOk_rest (l := l) HW.out h2).trans (by rw [HL.out, HM.out]))
          clear ht h2 hr hr2
          have q0 := TP.cell 0 rfl
          have q1 := TP.cell 1 rfl
          cases hin : inB l 0 9999
          · rw [hin] at HV
            go_wp2_with fail
            refine (l1In_any _ _ _ _).mono ?_
            rintro e w' ⟨rfl, rfl⟩
            rw [hin]
            go_wp2
            go_ret
            exact ⟨by rw [HV.out]; rfl, hb⟩
          · rw [hin] at HV
            by_cases h8 : (k : Int) ≤ 8
            · rw [decide_eq_true h8] at HV
              go_wp2_with fail
              refine (l1In_any _ _ _ _).mono ?_
              rintro e w' ⟨rfl, rfl⟩
              rw [hin]
              go_wp2
              go_ret
              exact ⟨by rw [HV.out]; rfl, hb⟩
            · rw [decide_eq_false h8] at HV
              go_wp2_with fail
              refine (l1In_any _ _ _ _).mono ?_
              rintro e w' ⟨rfl, rfl⟩
              rw [hin]
              go_wp2
              go_ret
              exact ⟨by rw [HV.out]; rfl, hb⟩
end Go.Proofs.Ythbfpgdfigilaaa
