/- What the readers of queues answer (plain laws), and contracts of prio, top, next, ReadyPrio, ReadyNext, LongestWait (impl and spec). -/
import Derived.Test.YtccepnhnmpmkdaaQueues3
namespace Go.Proofs.Ytccepnhnmpmkdaa
set_option linter.unusedVariables false
open Go.RowKit
/-- The first row with a number, or -1. -/
def prioF (yss : List (List Int)) (v : Int) : Int := match yss.findIdx? (fun ys => decide (v ∈ ys)) with | some k => (k : Int) | none => -1
def rprio (yss : List (List Int)) (v : Int) : Int := if queuesV yss = true then prioF yss v else -1
/-- The last of the first k rows that is not empty, or -1. -/
def topN (yss : List (List Int)) : Nat → Int
  | 0 => -1
  | k + 1 => if (yss.getD k []).length = 0 then topN yss k else (k : Int)
def topF (yss : List (List Int)) : Int := topN yss yss.length
def nextF (yss : List (List Int)) : Int := if topF yss < 0 then -1 else (yss.getD (topF yss).toNat []).headD (-1)
def rnext (yss : List (List Int)) : Int := if queuesV yss = true then nextF yss else -1
def longF (yss : List (List Int)) : Int := if queuesV yss = true then (if topF yss < 0 then 0 else ((yss.getD (topF yss).toNat []).length : Int)) else -1
theorem prioF_at {yss : List (List Int)} {v : Int} {k : Nat} {ys : List Int} (h : ∀ j zs, j < k → yss[j]? = some zs → v ∉ zs) (hy : yss[k]? = some ys) (hv : v ∈ ys) : prioF yss v = k := by
  have : yss.findIdx? (fun ys => decide (v ∈ ys)) = some k := by
    rw [List.findIdx?_eq_some_iff_getElem]
    obtain ⟨hl, rfl⟩ := List.getElem?_eq_some_iff.1 hy
    refine ⟨hl, by simpa using hv, fun j hj => ?_⟩
    have := h j _ hj (List.getElem?_eq_getElem (by omega))
    simpa using this
  unfold prioF
  rw [this]
theorem prioF_none {yss : List (List Int)} {v : Int} (h : ∀ (j : Nat) zs, yss[j]? = some zs → v ∉ zs) : prioF yss v = -1 := by
  have : yss.findIdx? (fun ys => decide (v ∈ ys)) = none := by
    rw [List.findIdx?_eq_none_iff]
    intro zs hz
    obtain ⟨j, hj⟩ := List.getElem?_of_mem hz
    simpa using h j zs hj
  unfold prioF
  rw [this]
theorem topN_cases (yss : List (List Int)) (n : Nat) (hn : n ≤ yss.length) : (topN yss n = -1 ∧ ∀ j zs, j < n → yss[j]? = some zs → zs = []) ∨ ∃ k x l, topN yss n = (k : Nat) ∧ k < n ∧ yss[k]? = some (x :: l) ∧ ∀ j zs, k < j → j < n → yss[j]? = some zs → zs = [] := by
  induction n with
  | zero => exact .inl ⟨rfl, fun j zs hj => absurd hj (by omega)⟩
  | succ n ih =>
    have hy : yss[n]? = some (yss[n]'(by omega)) := List.getElem?_eq_getElem (by omega)
    have hg : yss.getD n [] = yss[n]'(by omega) := by rw [List.getD_eq_getElem?_getD, hy]; rfl
    by_cases h0 : (yss.getD n []).length = 0
    · have he : yss[n]'(by omega) = [] := by rw [hg] at h0; exact List.eq_nil_of_length_eq_zero h0
      have ht : topN yss (n + 1) = topN yss n := if_pos h0
      have hlast : ∀ zs, yss[n]? = some zs → zs = [] := fun zs hz => by rw [hy] at hz; injection hz with hz; rw [← hz, he]
      rcases ih (by omega) with ⟨h1, h2⟩ | ⟨k, x, l, h1, h2, h3, h4⟩
      · refine .inl ⟨by rw [ht, h1], fun j zs hj hz => ?_⟩
        by_cases hjn : j = n
        · subst hjn; exact hlast zs hz
        · exact h2 j zs (by omega) hz
      · refine .inr ⟨k, x, l, by rw [ht, h1], by omega, h3, fun j zs hk hj hz => ?_⟩
        by_cases hjn : j = n
        · subst hjn; exact hlast zs hz
        · exact h4 j zs hk (by omega) hz
    · have ht : topN yss (n + 1) = (n : Int) := if_neg h0
      cases hc : yss[n]'(by omega) with
      | nil => rw [hg, hc] at h0; exact absurd rfl h0
      | cons x l => exact .inr ⟨n, x, l, ht, by omega, by rw [hy, hc], fun j zs hk hj => absurd hj (by omega)⟩
theorem topN_skip {yss : List (List Int)} {k : Nat} {ys : List Int} (hy : yss[k]? = some ys) (h : ys.length = 0) : topN yss (k + 1) = topN yss k := by
  have hg : yss.getD k [] = ys := by rw [List.getD_eq_getElem?_getD, hy]; rfl
  exact if_pos (by rw [hg]; exact h)
theorem topN_stop {yss : List (List Int)} {k : Nat} {ys : List Int} (hy : yss[k]? = some ys) (h : ¬ ys.length = 0) : topN yss (k + 1) = (k : Int) := by
  have hg : yss.getD k [] = ys := by rw [List.getD_eq_getElem?_getD, hy]; rfl
  exact if_neg (by rw [hg]; exact h)
theorem top_cases (yss : List (List Int)) : (topF yss = -1 ∧ nextF yss = -1 ∧ ∀ (j : Nat) zs, yss[j]? = some zs → zs = []) ∨ ∃ (k : Nat) (x : Int) (l : List Int), topF yss = (k : Int) ∧ nextF yss = x ∧ k < yss.length ∧ yss[k]? = some (x :: l) ∧ (yss.getD (topF yss).toNat []).length = l.length + 1 ∧ ∀ (j : Nat) zs, k < j → yss[j]? = some zs → zs = [] := by
  rcases topN_cases yss yss.length (Nat.le_refl _) with ⟨h1, h2⟩ | ⟨k, x, l, h1, h2, h3, h4⟩
  · refine .inl ⟨h1, ?_, fun j zs hz => h2 j zs (List.getElem?_eq_some_iff.1 hz).1 hz⟩
    unfold nextF topF
    rw [h1]; rfl
  · have hg : yss.getD (topF yss).toNat [] = x :: l := by
      unfold topF
      rw [h1, Int.toNat_natCast, List.getD_eq_getElem?_getD, h3]; rfl
    refine .inr ⟨k, x, l, h1, ?_, h2, h3, by rw [hg]; rfl, fun j zs hk hz => h4 j zs hk (List.getElem?_eq_some_iff.1 hz).1 hz⟩
    unfold nextF
    rw [hg, if_neg (by unfold topF; rw [h1]; omega)]
    rfl
theorem queuesV_len {yss : List (List Int)} (h : queuesV yss = true) : yss.length = 8 ∧ diff yss.flatten = true := by
  unfold queuesV at h
  simpa using h
theorem diff_mem {xs : List Int} {x : Int} (h : diff xs = true) (hx : x ∈ xs) : inB x 0 15 = true := by
  unfold diff at h
  simp only [Bool.and_eq_true, List.all_eq_true] at h
  exact h.1 x hx
theorem valid_head {yss : List (List Int)} {k : Nat} {x : Int} {l : List Int} (h : queuesV yss = true) (hy : yss[k]? = some (x :: l)) : 0 ≤ x ∧ x ≤ 15 ∧ prioF yss x = k := by
  have hd := (queuesV_len h).2
  obtain ⟨r, hr⟩ := flat_pre (k := 0) hy (x := x) rfl
  rw [List.take_zero, List.append_nil] at hr
  have hin := diff_mem hd (x := x) (by rw [hr]; simp)
  rw [inB_true] at hin
  refine ⟨hin.1, hin.2, prioF_at (ys := x :: l) (fun j zs hj hz hm => ?_) hy (by simp)⟩
  have hd2 := hd
  unfold diff at hd2
  rw [hr] at hd2
  simp only [Bool.and_eq_true, decide_eq_true_eq, List.nodup_append] at hd2
  refine hd2.2.2.2 x ?_ x (by simp) rfl
  rw [List.mem_flatten]
  exact ⟨zs, List.mem_of_getElem? (by rw [List.getElem?_take, if_pos hj]; exact hz), hm⟩
set_option maxHeartbeats 400000 in
theorem prio1_any (g B T n c : Nat) (A : Option Addr) (xs : List Int) (v : Int) (w : World) (p0 : w.cell? ⟨g, 0, none⟩ = some (.int .i64 v)) (hr : Rd w B T 1 A n (ints xs)) (hn : n ≤ 1048576) :
    Calls Try.prog 54 #[.slice A n c, .pointer (some ⟨g, 0, none⟩)] w fun e w' => e = .returned (.bool (decide (v ∈ xs))) ∧ Below w.heap.size w w' := by
  go_enter Try.func54, Try.ntmps54
  go_wp2_with fail
  refine (Contains_any B T n c A xs v _ hr hn).mono ?_
  rintro e w1 ⟨rfl, hb⟩
  go_wp2
  go_ret
  exact ⟨rfl, hb⟩
set_option maxHeartbeats 1000000 in
theorem IndexFunc_any (g B T n c : Nat) (A : Option Addr) (yss : List (List Int)) (v : Int) (w : World) (p0 : w.cell? ⟨g, 0, none⟩ = some (.int .i64 v)) (hr : Rows w B T A n yss) (hs : sizeOfRows yss ≤ 1048576) :
    Calls Try.prog 53 #[.slice A n c, .func (.func 54) #[] #[.pointer (some ⟨g, 0, none⟩)]] w fun e w' => e = .returned (.int .i64 (prioF yss v)) ∧ Below w.heap.size w w' := by
  have hl := hr.len
  have HL := Lib.hid hl
  have hn : n ≤ 1048576 := by unfold sizeOfRows at hs; omega
  have lg := World.block_lt_of_cell? w _ p0
  clear hl
  go_enter Try.func53, Try.ntmps53
  go_wp2
  go_loopw [8] (fun i wr => ∃ k : Nat, k ≤ n ∧ i = .int .i64 k ∧ Hid (∀ j zs, j < k → yss[j]? = some zs → v ∉ zs) ∧ Below w.heap.size w wr) (fun i _ => n - (intOf i).toNat)
  case atStart => exact ⟨0, by omega, rfl, Lib.hid (fun j zs hj => absurd hj (by omega)), Below.refl _ _⟩
  case round =>
    obtain ⟨k, hk, rfl, ht, hb⟩ := hrel
    by_cases hlt : k < n
    · obtain ⟨b, o, ys, A', c', rfl, hbl, hy, hc, hle, hrow⟩ := (hr.below hb).at_ hlt
      have hkk : (k : Int) < (n : Int) := by omega
      have hk0 : (0 : Int) ≤ (k : Int) := by omega
      have hsm := row_small hs hy
      have HY := Lib.hid hy
      have hp := (hb.cell (p := ⟨g, 0, none⟩) lg).trans p0
      clear hr hy
      by_cases hm : v ∈ ys
      · have HV := Lib.hid (prioF_at ht.out HY.out hm)
        have HM := Lib.hid (decide_eq_true hm)
        clear hm
        go_wp2_with fail
        refine (prio1_any g _ _ _ _ _ ys v _ hp hrow hsm).mono ?_
        rintro e w1 ⟨rfl, hb1⟩
        rw [HM.out]
        go_wp2
        go_ret
        exact ⟨by rw [HV.out]; rfl, Below.via hb hb1⟩
      · have HM := Lib.hid (decide_eq_false hm)
        have HN := Lib.hid hm
        clear hm
        go_wp2_with fail
        refine (prio1_any g _ _ _ _ _ ys v _ hp hrow hsm).mono ?_
        rintro e w1 ⟨rfl, hb1⟩
        rw [HM.out]
        go_wp2
        go_roundw
        case rel =>
          refine ⟨k + 1, by omega, by go_num, Lib.hid (fun j zs hj hz => ?_), Below.via hb hb1⟩
          by_cases hjk : j = k
          · subst hjk
            have := HY.out
            rw [hz] at this
            injection this with this
            rw [this]
            exact HN.out
          · exact ht.out j zs (by omega) hz
        case measure => simp [intOf]; omega
    · have hkn : k = n := by omega
      subst hkn
      have HV := Lib.hid (prioF_none (v := v) (yss := yss) fun j zs hz => ht.out j zs (by have := (List.getElem?_eq_some_iff.1 hz).1; have := HL.out; omega) hz)
      clear hr
      go_wp2
      go_ret
      exact ⟨by rw [HV.out]; rfl, hb⟩
set_option maxHeartbeats 400000 in
theorem prio_any (B T n c : Nat) (A : Option Addr) (yss : List (List Int)) (v : Int) (w : World) (hr : Rows w B T A n yss) (hs : sizeOfRows yss ≤ 1048576) :
    Calls Try.prog 38 #[queues A n c, .int .i64 v] w fun e w' => e = .returned (.int .i64 (prioF yss v)) ∧ Below w.heap.size w w' := by
  go_enter Try.func38, Try.ntmps38
  go_wp2_with fail
  refine (IndexFunc_any (w.heap.size + 1) _ _ _ _ _ yss v _ ?_ ((hr.alloc _).alloc _) hs).mono ?_
  · simp [go_sem]
  rintro e w1 ⟨rfl, hb1⟩
  go_wp2
  go_ret
  exact ⟨rfl, Below.via (by (repeat (first | (with_reducible assumption) | (with_reducible exact Below.refl _ _) | (with_reducible refine Below.setCell ?_ (by first | (simp; done) | (simp; omega) | omega) _) | (with_reducible refine Below.alloc ?_ (by first | (simp; done) | (simp; omega) | omega) _) | (with_reducible refine Below.drew ?_) | (with_reducible refine Below.drewN ?_ _))) : Below w.heap.size w _) hb1⟩
set_option maxHeartbeats 400000 in
theorem iReadyPrio_any (B T n c : Nat) (A : Option Addr) (yss : List (List Int)) (v : Int) (w : World) (hr : Rows w B T A n yss) (hs : sizeOfRows yss ≤ 1048576) :
    Calls Try.prog 21 #[queues A n c, .int .i64 v] w fun e w' => e = .returned (.int .i64 (rprio yss v)) ∧ Below w.heap.size w w' := by
  cases hv : queuesV yss
  · have HV := Lib.hid (show rprio yss v = -1 by unfold rprio; rw [hv]; rfl)
    go_enter Try.func21, Try.ntmps21
    go_wp2_with fail
    refine (iQueuesValid_any _ _ _ _ _ yss _ (hr.alloc _) hs).mono ?_
    rintro e w1 ⟨rfl, hb1⟩
    rw [hv]
    go_wp2
    go_ret
    exact ⟨by rw [HV.out]; rfl, Below.via (by (repeat (first | (with_reducible assumption) | (with_reducible exact Below.refl _ _) | (with_reducible refine Below.setCell ?_ (by first | (simp; done) | (simp; omega) | omega) _) | (with_reducible refine Below.alloc ?_ (by first | (simp; done) | (simp; omega) | omega) _) | (with_reducible refine Below.drew ?_) | (with_reducible refine Below.drewN ?_ _))) : Below w.heap.size w _) hb1⟩
  · have HV := Lib.hid (show rprio yss v = prioF yss v by unfold rprio; rw [hv]; rfl)
    have TP := Blk.new w 24 #[.slice A n c]
    go_enter Try.func21, Try.ntmps21
    go_wp2_with fail
    refine (iQueuesValid_any _ _ _ _ _ yss _ (hr.alloc _) hs).mono ?_
    rintro e w1 ⟨rfl, hb1⟩
    rw [hv]
    replace TP := TP.below hb1
    have q0 := TP.cell 0 rfl
    have hr1 := (hr.alloc (.cells #[.slice A n c] 24)).below hb1
    have hB := Below.via (by (repeat (first | (with_reducible assumption) | (with_reducible exact Below.refl _ _) | (with_reducible refine Below.setCell ?_ (by first | (simp; done) | (simp; omega) | omega) _) | (with_reducible refine Below.alloc ?_ (by first | (simp; done) | (simp; omega) | omega) _) | (with_reducible refine Below.drew ?_) | (with_reducible refine Below.drewN ?_ _))) : Below w.heap.size w _) hb1
    clear hr hb1
    go_wp2_with fail
    refine (prio_any _ _ _ _ _ yss v _ hr1 hs).mono ?_
    rintro e w2 ⟨rfl, hb2⟩
    go_wp2
    go_ret
    exact ⟨by rw [HV.out]; rfl, Below.via hB hb2⟩
set_option maxHeartbeats 1000000 in
theorem top_any (B T c : Nat) (A : Option Addr) (yss : List (List Int)) (w : World) (hr : Rows w B T A 8 yss) (hs : sizeOfRows yss ≤ 1048576) :
    Calls Try.prog 40 #[queues A 8 c] w fun e w' => e = .returned (.int .i64 (topF yss)) ∧ Below w.heap.size w w' := by
  have hl := hr.len
  have HL := Lib.hid hl
  have TP := Blk.new w 24 #[.slice A 8 c]
  have q0 := TP.cell 0 rfl
  have hr1 := hr.alloc (.cells #[.slice A 8 c] 24)
  have hB : Below w.heap.size w (w.alloc (.cells #[.slice A 8 c] 24)) := by (repeat (first | (with_reducible assumption) | (with_reducible exact Below.refl _ _) | (with_reducible refine Below.setCell ?_ (by first | (simp; done) | (simp; omega) | omega) _) | (with_reducible refine Below.alloc ?_ (by first | (simp; done) | (simp; omega) | omega) _) | (with_reducible refine Below.drew ?_) | (with_reducible refine Below.drewN ?_ _)))
  clear hl hr TP
  go_enter Try.func40, Try.ntmps40
  go_wp2
  go_loopw [3] (fun i wr => ∃ k : Nat, k ≤ 8 ∧ i = .int .i64 ((k : Int) - 1) ∧ Hid (topN yss 8 = topN yss k) ∧ w.alloc (.cells #[.slice A 8 c] 24) = wr) (fun i _ => (intOf i + 1).toNat)
  case atStart => exact ⟨8, by omega, rfl, Lib.hid rfl, rfl⟩
  case round =>
    obtain ⟨k, hk, rfl, ht, rfl⟩ := hrel
    cases k with
    | zero =>
      have HV := Lib.hid (show topF yss = -1 by unfold topF; rw [HL.out, ht.out]; rfl)
      have hz : ((0 : Nat) : Int) - 1 = -1 := rfl
      rw [hz]
      clear hr1
      go_wp2
      go_ret
      exact ⟨by rw [HV.out]; rfl, hB⟩
    | succ k =>
      obtain ⟨b, o, ys, A', c', rfl, hbl, hy, hc, hle, hrow⟩ := hr1.at_ (show k < 8 by omega)
      have hks : ((k + 1 : Nat) : Int) - 1 = (k : Int) := by omega
      rw [hks]
      have hk8 : (k : Int) < 8 := by omega
      have hk0 : (0 : Int) ≤ (k : Int) := by omega
      have hsm := row_small hs hy
      have HY := Lib.hid hy
      clear hr1 hy hrow hks
      by_cases h0 : ys.length = 0
      · have H0 := Lib.hid h0
        have h0' : ¬ (0 : Int) < (ys.length : Int) := by omega
        clear h0
        go_wp2
        go_roundw
        case rel => exact ⟨k, by omega, by go_num, Lib.hid (by rw [ht.out, topN_skip HY.out H0.out]), by first | trivial | rfl⟩
        case measure => simp [intOf]
      · have HV := Lib.hid (show topF yss = k by unfold topF; rw [HL.out, ht.out, topN_stop HY.out h0])
        have h0' : (0 : Int) < (ys.length : Int) := by omega
        go_wp2
        go_ret
        exact ⟨by rw [HV.out]; rfl, hB⟩
end Go.Proofs.Ytccepnhnmpmkdaa
