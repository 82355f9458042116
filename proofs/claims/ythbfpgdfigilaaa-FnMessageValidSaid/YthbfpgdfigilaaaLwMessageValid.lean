/- The walk of the law FnMessageValid: it returns true and leaves all that was in memory as it was, for every code. -/
import Derived.Test.YthbfpgdfigilaaaLwMsgHead
namespace Go.Proofs.Ythbfpgdfigilaaa
set_option linter.unusedVariables false
open Go.RowKit
set_option maxHeartbeats 4000000 in
theorem law_MessageValid (B T n c : Nat) (A : Option Addr) (bs : List Value) (w : World) (hr : Rd w B T 1 A n bs) (hb : Bytes bs) (hnc : n ≤ c) :
    Calls Try.prog 8 #[.slice A n c] w fun e w' => e = .returned (.bool true) ∧ Below w.heap.size w w' := by
  obtain ⟨i0, hi0, hz0, hz1, hz2⟩ := info_parts Try.infoInt
  by_cases hbig : 1048576 < n
  · have hd : (1048576 : Int) < (n : Int) := by omega
    go_enter Try.func8, Try.ntmps8
    go_wp2_with fail
    go_ret
    exact ⟨rfl, Below.refl _ _⟩
  have hn : n ≤ 1048576 := by omega
  have hd : ¬ (1048576 : Int) < (n : Int) := by omega
  have hB := Below.refl w.heap.size w
  go_enter Try.func8, Try.ntmps8
  go_wp2_with fail
  refine (DrawMessageValid_any B T n c A bs _ hr hb hn hnc).mono ?_
  rintro e w1 ⟨l, A1, c1, D1, d1, xs, cs, rfl, r1, s1, hl, hl2, hb1⟩
  have z1 := hb1.size
  (try simp at z1)
  replace hB := Below.via (by (repeat (first | (with_reducible assumption) | (with_reducible exact Below.refl _ _) | (with_reducible refine Below.setCell ?_ (by first | (simp; done) | (simp; omega) | omega) _) | (with_reducible refine Below.alloc ?_ (by first | (simp; done) | (simp; omega) | omega) _) | (with_reducible refine Below.drew ?_) | (with_reducible refine Below.drewN ?_ _))) : Below w.heap.size w _) hb1
  clear hb1
  obtain ⟨n1, hn1⟩ : ∃ n1, xs.length = n1 := ⟨_, rfl⟩
  obtain ⟨m1, hm1⟩ : ∃ m1, cs.length = m1 := ⟨_, rfl⟩
  rw [hn1] at r1 hl ⊢
  rw [hm1] at s1 hl2 ⊢
  have HN := Lib.hid hn1
  have HM := Lib.hid hm1
  clear hn1 hm1
  have TP := Blk.newAt (w := w1) (n := w1.heap.size) 30 #[.int .i64 (l), .slice A1 n1 c1, .slice D1 m1 d1] (by simp)
  go_wp2_with fail
  refine (iMessageValid_any _ _ _ _ _ _ l _ _ xs cs _ (r1.alloc _) (by omega) (s1.alloc _) (by omega)).mono ?_
  rintro e w2 ⟨rfl, hb2⟩
  have z2 := hb2.size
  (try simp at z2)
  replace r1 := r1.via hb2 (by (repeat (first | (with_reducible assumption) | (with_reducible exact Below.refl _ _) | (with_reducible refine Below.setCell ?_ (by first | (simp; done) | (simp; omega) | omega) _) | (with_reducible refine Below.alloc ?_ (by first | (simp; done) | (simp; omega) | omega) _) | (with_reducible refine Below.drew ?_) | (with_reducible refine Below.drewN ?_ _))))
  replace s1 := s1.via hb2 (by (repeat (first | (with_reducible assumption) | (with_reducible exact Below.refl _ _) | (with_reducible refine Below.setCell ?_ (by first | (simp; done) | (simp; omega) | omega) _) | (with_reducible refine Below.alloc ?_ (by first | (simp; done) | (simp; omega) | omega) _) | (with_reducible refine Below.drew ?_) | (with_reducible refine Below.drewN ?_ _))))
  replace TP := TP.via hb2 (by (repeat (first | (with_reducible assumption) | (with_reducible exact Below.refl _ _) | (with_reducible refine Below.setCell ?_ (by first | (simp; done) | (simp; omega) | omega) _) | (with_reducible refine Below.alloc ?_ (by first | (simp; done) | (simp; omega) | omega) _) | (with_reducible refine Below.drew ?_) | (with_reducible refine Below.drewN ?_ _))))
  replace hB := Below.via (by (repeat (first | (with_reducible assumption) | (with_reducible exact Below.refl _ _) | (with_reducible refine Below.setCell ?_ (by first | (simp; done) | (simp; omega) | omega) _) | (with_reducible refine Below.alloc ?_ (by first | (simp; done) | (simp; omega) | omega) _) | (with_reducible refine Below.drew ?_) | (with_reducible refine Below.drewN ?_ _))) : Below w.heap.size w _) hb2
  clear hb2
  have cP_0 := TP.cell 0 rfl
  have cP_1 := TP.cell 1 rfl
  have cP_2 := TP.cell 2 rfl
  have lP := TP.lt
  go_wp2_with fail
  refine (sMessageValid_any _ _ _ _ _ _ l _ _ xs cs _ r1 (by omega) s1 (by omega)).mono ?_
  rintro e w3 ⟨rfl, hb3⟩
  clear cP_0 cP_1 cP_2 lP
  have z3 := hb3.size
  (try simp at z3)
  replace r1 := r1.via hb3 (by (repeat (first | (with_reducible assumption) | (with_reducible exact Below.refl _ _) | (with_reducible refine Below.setCell ?_ (by first | (simp; done) | (simp; omega) | omega) _) | (with_reducible refine Below.alloc ?_ (by first | (simp; done) | (simp; omega) | omega) _) | (with_reducible refine Below.drew ?_) | (with_reducible refine Below.drewN ?_ _))))
  replace s1 := s1.via hb3 (by (repeat (first | (with_reducible assumption) | (with_reducible exact Below.refl _ _) | (with_reducible refine Below.setCell ?_ (by first | (simp; done) | (simp; omega) | omega) _) | (with_reducible refine Below.alloc ?_ (by first | (simp; done) | (simp; omega) | omega) _) | (with_reducible refine Below.drew ?_) | (with_reducible refine Below.drewN ?_ _))))
  replace TP := TP.via hb3 (by (repeat (first | (with_reducible assumption) | (with_reducible exact Below.refl _ _) | (with_reducible refine Below.setCell ?_ (by first | (simp; done) | (simp; omega) | omega) _) | (with_reducible refine Below.alloc ?_ (by first | (simp; done) | (simp; omega) | omega) _) | (with_reducible refine Below.drew ?_) | (with_reducible refine Below.drewN ?_ _))))
  replace hB := Below.via (by (repeat (first | (with_reducible assumption) | (with_reducible exact Below.refl _ _) | (with_reducible refine Below.setCell ?_ (by first | (simp; done) | (simp; omega) | omega) _) | (with_reducible refine Below.alloc ?_ (by first | (simp; done) | (simp; omega) | omega) _) | (with_reducible refine Below.drew ?_) | (with_reducible refine Below.drewN ?_ _))) : Below w.heap.size w _) hb3
  clear hb3
  have cP_0 := TP.cell 0 rfl
  have cP_1 := TP.cell 1 rfl
  have cP_2 := TP.cell 2 rfl
  have lP := TP.lt
  generalize msgOk l xs cs = ok
  have TV := Blk.new w3 30 #[.int .i64 (l), .slice A1 n1 c1, .slice D1 m1 d1]
  replace TP := TP.alloc (.cells #[.int .i64 (l), .slice A1 n1 c1, .slice D1 m1 d1] 30)
  replace r1 := r1.alloc (.cells #[.int .i64 (l), .slice A1 n1 c1, .slice D1 m1 d1] 30)
  replace s1 := s1.alloc (.cells #[.int .i64 (l), .slice A1 n1 c1, .slice D1 m1 d1] 30)
  have t0 := TP.cell 0 rfl
  have v0 := TV.cell 0 rfl
  have t1 := TP.cell 1 rfl
  have v1 := TV.cell 1 rfl
  have t2 := TP.cell 2 rfl
  have v2 := TV.cell 2 rfl
  have vf := TV.free
  have lP := TP.lt
  (try simp at lP)
  go_wp2_with (at_make; refine wpList_mk _ rfl _ _ 22 rfl 3 i0 (.int .i64 0) 1 Try.underlying22 hi0 hz0 hz1 _ _ _ _ 9 rfl rfl rfl rfl (by rw [hz2]; omega) (by unfold maxLen; omega) ?_; intro w4 hown hb4 hs4; rw [made_ints] at hown; rw [show (w3.alloc (.cells #[.int .i64 (l), .slice A1 n1 c1, .slice D1 m1 d1] 30)).heap.size = w3.heap.size + 1 from by simp] at hown; (try simp at hs4); replace TP := TP.below hb4; replace TV := TV.below hb4; replace r1 := r1.below hb4; replace s1 := s1.below hb4; replace hB := Below.via (by (repeat (first | (with_reducible assumption) | (with_reducible exact Below.refl _ _) | (with_reducible refine Below.setCell ?_ (by first | (simp; done) | (simp; omega) | omega) _) | (with_reducible refine Below.alloc ?_ (by first | (simp; done) | (simp; omega) | omega) _) | (with_reducible refine Below.drew ?_) | (with_reducible refine Below.drewN ?_ _))) : Below w.heap.size w (w3.alloc (.cells #[.int .i64 (l), .slice A1 n1 c1, .slice D1 m1 d1] 30))) hb4; clear t0 t1 t2 v0 v1 v2 vf cP_0 cP_1 cP_2 lP hb4; have t0 := TP.cell 0 rfl; have t1 := TP.cell 1 rfl; have t2 := TP.cell 2 rfl; have v0 := TV.cell 0 rfl; have v1 := TV.cell 1 rfl; have v2 := TV.cell 2 rfl; have vf := TV.free)
  have TZ := (Blk.newAt (w := (w4.setCell ⟨w3.heap.size, 1, none⟩ (.slice (some ⟨w3.heap.size + 1, 0, none⟩) 9 9))) (n := w3.heap.size + 1 + 1) 30 #[.int .i64 (l), .slice A1 n1 c1, (.slice (some ⟨w3.heap.size + 1 + 1 + 1, 0, none⟩) 1 1)] (by simp [hs4])).alloc (.cells #[.int .i64 0, .int .i64 0, .int .i64 0, .int .i64 0] 45)
  have HO := cap_new ((w4.setCell ⟨w3.heap.size, 1, none⟩ (.slice (some ⟨w3.heap.size + 1, 0, none⟩) 9 9)).alloc (.cells #[.int .i64 (l), .slice A1 n1 c1, (.slice (some ⟨w3.heap.size + 1 + 1 + 1, 0, none⟩) 1 1)] 30)) (w3.heap.size + 1 + 1 + 1) 45 (by simp [hs4]) (0, 0, 0, 0)
  have r5 := ((r1.set (p := ⟨w3.heap.size, 1, none⟩) (.inr (by show w1.heap.size ≤ w3.heap.size; omega)) (.slice (some ⟨w3.heap.size + 1, 0, none⟩) 9 9)).alloc (.cells #[.int .i64 (l), .slice A1 n1 c1, (.slice (some ⟨w3.heap.size + 1 + 1 + 1, 0, none⟩) 1 1)] 30)).alloc (.cells #[.int .i64 0, .int .i64 0, .int .i64 0, .int .i64 0] 45)
  have s5 := ((s1.set (p := ⟨w3.heap.size, 1, none⟩) (.inr (by show w1.heap.size ≤ w3.heap.size; omega)) (.slice (some ⟨w3.heap.size + 1, 0, none⟩) 9 9)).alloc (.cells #[.int .i64 (l), .slice A1 n1 c1, (.slice (some ⟨w3.heap.size + 1 + 1 + 1, 0, none⟩) 1 1)] 30)).alloc (.cells #[.int .i64 0, .int .i64 0, .int .i64 0, .int .i64 0] 45)
  have h5 := ((hown.rd.set (p := ⟨w3.heap.size, 1, none⟩) (.inl (Nat.lt_succ_self _)) (.slice (some ⟨w3.heap.size + 1, 0, none⟩) 9 9)).alloc (.cells #[.int .i64 (l), .slice A1 n1 c1, (.slice (some ⟨w3.heap.size + 1 + 1 + 1, 0, none⟩) 1 1)] 30)).alloc (.cells #[.int .i64 0, .int .i64 0, .int .i64 0, .int .i64 0] 45)
  refine (iMessageValid_any _ _ 9 9 m1 d1 l _ _ (List.replicate 9 0) cs _ (h5.here Nat.one_pos) (by omega) (s5.here (by omega)) (by omega)).mono ?_
  rintro e w5 ⟨rfl, hb5⟩
  rw [msgOk_nine]
  have HZ : Rd w5 0 w5.heap.size 4 (some ⟨w3.heap.size + 1 + 1 + 1, 0, none⟩) 1 (caps [(0, 0, 0, 0)]) := by rw [caps_cons, caps_nil, List.append_nil]; exact (HO.below hb5).here (by omega)
  replace TZ := TZ.below hb5
  replace r5 := (r5.below hb5).here Nat.one_pos
  replace hB := Below.via (by (repeat (first | (with_reducible assumption) | (with_reducible exact Below.refl _ _) | (with_reducible refine Below.setCell ?_ (by first | (simp; done) | (simp; omega) | omega) _) | (with_reducible refine Below.alloc ?_ (by first | (simp; done) | (simp; omega) | omega) _) | (with_reducible refine Below.drew ?_) | (with_reducible refine Below.drewN ?_ _))) : Below w.heap.size w _) hb5
  clear t0 t1 t2 v0 v1 v2 vf hb5 TP TV s5 h5 HO s1 r1 hown
  have z0 : w5.cell? ⟨w3.heap.size + 1 + 1, 0, none⟩ = some (.int .i64 l) := TZ.cell 0 rfl
  have z1 : w5.cell? ⟨w3.heap.size + 1 + 1, 1, none⟩ = some (.slice A1 n1 c1) := TZ.cell 1 rfl
  have z2 : w5.cell? ⟨w3.heap.size + 1 + 1, 2, none⟩ = some (.slice (some ⟨w3.heap.size + 1 + 1 + 1, 0, none⟩) 1 1) := TZ.cell 2 rfl
  clear TZ
  go_wp2_with fail
  refine (iMessageValid_any _ _ n1 _ 1 1 l _ _ xs [(0, 0, 0, 0)] _ r5 (by omega) HZ (by omega)).mono ?_
  rintro e w6 ⟨rfl, hb6⟩
  rw [msgOk_none]
  replace hB := Below.via hB hb6
  clear hb6 z0 z1 z2
  go_wp2_with fail
  refine (alive_any _).mono ?_
  rintro e w7 ⟨rfl, hb7⟩
  replace hB := Below.via hB hb7
  clear hb7
  go_wp2
  go_ret
  exact ⟨rfl, hB⟩
end Go.Proofs.Ythbfpgdfigilaaa
