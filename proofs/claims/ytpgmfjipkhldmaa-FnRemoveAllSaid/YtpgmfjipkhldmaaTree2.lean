/- Derivation trees as lists: one entry is removed; the rights that are left (plain laws; no program in sight). -/
import Derived.Test.YtpgmfjipkhldmaaTree1
namespace Go.Proofs.Ytpgmfjipkhldmaa
set_option linter.unusedVariables false
open Go.RowKit
def orF (a b : Int) : Int := bits .or .i64 a b
def andF (a b : Int) : Int := bits .and .i64 a b
theorem r16a : ∀ a b : Fin 16, 0 ≤ orF (a.val : Int) (b.val : Int) ∧ orF (a.val : Int) (b.val : Int) ≤ 15 ∧ andN (a.val : Int) (orF (a.val : Int) (b.val : Int)) = 0 ∧ andN (b.val : Int) (orF (a.val : Int) (b.val : Int)) = 0 ∧ andN (a.val : Int) (a.val : Int) = 0 ∧ andN 0 (a.val : Int) = 0 ∧ ((andF (a.val : Int) (b.val : Int) = (a.val : Int)) ↔ andN (a.val : Int) (b.val : Int) = 0) := by decide +kernel
theorem r16b : ∀ a b c : Fin 16, (andN (a.val : Int) (c.val : Int) = 0 → andN (b.val : Int) (c.val : Int) = 0 → andN (orF (a.val : Int) (b.val : Int)) (c.val : Int) = 0) ∧ (andN (a.val : Int) (b.val : Int) = 0 → andN (b.val : Int) (c.val : Int) = 0 → andN (a.val : Int) (c.val : Int) = 0) := by decide +kernel
def R4 (a : Int) : Prop := 0 ≤ a ∧ a ≤ 15
theorem R4.fin {a : Int} (h : R4 a) : ∃ x : Fin 16, a = (x.val : Int) := by
  obtain ⟨x, rfl⟩ := Int.eq_ofNat_of_zero_le h.1
  exact ⟨⟨x, by have := h.2; omega⟩, rfl⟩
theorem or_r4 {a b : Int} (ha : R4 a) (hb : R4 b) : R4 (orF a b) := by
  obtain ⟨x, rfl⟩ := ha.fin
  obtain ⟨y, rfl⟩ := hb.fin
  exact ⟨(r16a x y).1, (r16a x y).2.1⟩
theorem in_or1 {a b : Int} (ha : R4 a) (hb : R4 b) : andN a (orF a b) = 0 := by
  obtain ⟨x, rfl⟩ := ha.fin
  obtain ⟨y, rfl⟩ := hb.fin
  exact (r16a x y).2.2.1
theorem in_or2 {a b : Int} (ha : R4 a) (hb : R4 b) : andN b (orF a b) = 0 := by
  obtain ⟨x, rfl⟩ := ha.fin
  obtain ⟨y, rfl⟩ := hb.fin
  exact (r16a x y).2.2.2.1
theorem in_self {a : Int} (ha : R4 a) : andN a a = 0 := by
  obtain ⟨x, rfl⟩ := ha.fin
  exact (r16a x x).2.2.2.2.1
theorem in_zero {a : Int} (ha : R4 a) : andN 0 a = 0 := by
  obtain ⟨x, rfl⟩ := ha.fin
  exact (r16a x x).2.2.2.2.2.1
theorem and_in_iff {a b : Int} (ha : R4 a) (hb : R4 b) : andF a b = a ↔ andN a b = 0 := by
  obtain ⟨x, rfl⟩ := ha.fin
  obtain ⟨y, rfl⟩ := hb.fin
  exact (r16a x y).2.2.2.2.2.2
theorem or_in {a b c : Int} (ha : R4 a) (hb : R4 b) (hc : R4 c) (h1 : andN a c = 0) (h2 : andN b c = 0) : andN (orF a b) c = 0 := by
  obtain ⟨x, rfl⟩ := ha.fin
  obtain ⟨y, rfl⟩ := hb.fin
  obtain ⟨z, rfl⟩ := hc.fin
  exact (r16b x y z).1 h1 h2
theorem in_trans {a b c : Int} (ha : R4 a) (hb : R4 b) (hc : R4 c) (h1 : andN a b = 0) (h2 : andN b c = 0) : andN a c = 0 := by
  obtain ⟨x, rfl⟩ := ha.fin
  obtain ⟨y, rfl⟩ := hb.fin
  obtain ⟨z, rfl⟩ := hc.fin
  exact (r16b x y z).2 h1 h2
theorem okC_r4 {c : Cp} (h : okC c = true) : R4 c.2.2.1 := by
  unfold okC capOk at h
  split at h
  · simp only [Bool.and_eq_true, decide_eq_true_eq] at h
    exact ⟨by omega, by omega⟩
  · simp only [Bool.and_eq_true, inB_true] at h
    exact ⟨by omega, by omega⟩
theorem capW_iff {c d : Cp} : capW c d = true ↔ okC c = true ∧ okC d = true ∧ c.1 = d.1 ∧ c.2.1 = d.2.1 ∧ andN c.2.2.1 d.2.2.1 = 0 ∧ (c.2.2.2 = d.2.2.2 ∨ d.2.2.2 = 0) := by
  unfold capW
  simp only [Bool.and_eq_true, Bool.or_eq_true, beq_iff_eq]
theorem capW_trans {a b c : Cp} (h1 : capW a b = true) (h2 : capW b c = true) : capW a c = true := by
  rw [capW_iff] at *
  obtain ⟨x1, x2, x3, x4, x5, x6⟩ := h1
  obtain ⟨y1, y2, y3, y4, y5, y6⟩ := h2
  refine ⟨x1, y2, by omega, by omega, in_trans (okC_r4 x1) (okC_r4 x2) (okC_r4 y2) x5 y5, ?_⟩
  omega

/-! ### one entry is removed -/
/-- Entry n is removed; what was derived from it belongs to its parent p. -/
def cutE (n : Nat) (p : Int) (k : Nat) (e : En) : En := (e.1, if e.2.1 = n ∧ e.2.2 = false then p else e.2.1, e.2.2 || decide (k = n))
def cutF (ds : List En) (n : Nat) : List En := ds.mapIdx (cutE n (ds.getD n dfE).2.1)
theorem cutF_len {ds : List En} {n : Nat} : (cutF ds n).length = ds.length := by unfold cutF; simp
theorem cutF_get {ds : List En} {n k : Nat} : (cutF ds n)[k]? = ds[k]?.map (cutE n (ds.getD n dfE).2.1 k) := by unfold cutF; rw [List.getElem?_mapIdx]
theorem cutF_ok {ds : List En} {n : Nat} {en : En} (h : TreeOk ds) (hn : ds[n]? = some en) (hg : en.2.2 = false) : TreeOk (cutF ds n) := by
  intro k e' he'
  rw [cutF_get] at he'
  obtain ⟨e, he, rfl⟩ := Option.map_eq_some_iff.1 he'
  rw [getD_of hn]
  obtain ⟨h1, h2, h3, h4, h5⟩ := h k e he
  obtain ⟨n1, n2, n3, n4, n5⟩ := h n en hn
  have key : ∀ (p : Nat) (q : En), ds[p]? = some q → p ≠ n → q.2.2 = false → ∃ q', (cutF ds n)[p]? = some q' ∧ q'.2.2 = false ∧ q'.1 = q.1 := fun p q hq hp hqg => by
    refine ⟨cutE n (ds.getD n dfE).2.1 p q, by rw [cutF_get, hq]; rfl, ?_, rfl⟩
    simp [cutE, hqg, hp]
  by_cases hc : e.2.1 = n ∧ e.2.2 = false
  · have he1 : (cutE n en.2.1 k e) = (e.1, en.2.1, e.2.2 || decide (k = n)) := by unfold cutE; rw [if_pos hc]
    rw [he1]
    refine ⟨h1, h2, n3, by simp only; omega, fun h6 h7 => ?_⟩
    simp only [Bool.or_eq_false_iff, decide_eq_false_iff_not] at h7
    simp only at h6
    obtain ⟨q, q1, q2, q3⟩ := n5 h6 hg
    obtain ⟨q0, p1, p2, p3⟩ := h5 (by omega) h7.1
    have hnn : e.2.1.toNat = n := by omega
    rw [hnn, hn] at p1
    injection p1 with p1
    subst p1
    obtain ⟨q', r1, r2, r3⟩ := key _ q q1 (by omega) q2
    exact ⟨q', r1, r2, by rw [r3]; exact capW_trans p3 q3⟩
  · have he1 : (cutE n en.2.1 k e) = (e.1, e.2.1, e.2.2 || decide (k = n)) := by unfold cutE; rw [if_neg hc]
    rw [he1]
    refine ⟨h1, h2, h3, h4, fun h6 h7 => ?_⟩
    simp only [Bool.or_eq_false_iff, decide_eq_false_iff_not] at h7
    simp only at h6
    obtain ⟨q, q1, q2, q3⟩ := h5 h6 h7.1
    obtain ⟨q', r1, r2, r3⟩ := key _ q q1 (fun e0 => hc ⟨by omega, h7.1⟩) q2
    exact ⟨q', r1, r2, by rw [r3]; exact q3⟩

/-! ### the rights that are left -/
def strS (kd ob : Int) (a : Int) (e : En) : Int := if (e.2.2 = false ∧ e.1.1 = kd ∧ e.1.2.1 = ob) then orF a e.1.2.2.1 else a
def strTo (ds : List En) (kd ob : Int) : Int := ds.foldl (strS kd ob) 0
def strF (ds : List En) (kd ob : Int) : Int := if treeV ds = true then strTo ds kd ob else 0
theorem strTo_succ {ds : List En} {kd ob : Int} {k : Nat} {e : En} (h : ds[k]? = some e) : strTo (ds.take (k + 1)) kd ob = strS kd ob (strTo (ds.take k) kd ob) e := by
  unfold strTo
  rw [List.take_add_one, h, List.foldl_append]; rfl
theorem str_keep {kd ob : Int} (es : List En) (hok : ∀ e ∈ es, okC e.1 = true) (a : Int) (ha : R4 a) : R4 (es.foldl (strS kd ob) a) ∧ (∀ x, R4 x → andN x a = 0 → andN x (es.foldl (strS kd ob) a) = 0) ∧ ∀ e ∈ es, e.2.2 = false → e.1.1 = kd → e.1.2.1 = ob → andN e.1.2.2.1 (es.foldl (strS kd ob) a) = 0 := by
  induction es generalizing a with
  | nil => exact ⟨ha, fun x _ hx => hx, fun e he => absurd he (by simp)⟩
  | cons e es ih =>
    have hok' : ∀ x ∈ es, okC x.1 = true := fun x hx => hok x (List.mem_cons_of_mem _ hx)
    have her := okC_r4 (hok e (by simp))
    have hs : R4 (strS kd ob a e) := by
      unfold strS
      split
      · exact or_r4 ha her
      · exact ha
    obtain ⟨i1, i2, i3⟩ := ih hok' (strS kd ob a e) hs
    rw [List.foldl_cons]
    refine ⟨i1, fun x hx hxa => i2 x hx ?_, fun x hx hg hk ho => ?_⟩
    · unfold strS
      split
      · exact in_trans hx ha (or_r4 ha her) hxa (in_or1 ha her)
      · exact hxa
    · rcases List.mem_cons.1 hx with rfl | hx
      · refine i2 _ her ?_
        unfold strS
        rw [if_pos ⟨hg, hk, ho⟩]
        exact in_or2 ha her
      · exact i3 x hx hg hk ho
theorem str_within {kd ob n : Int} (es : List En) (hok : ∀ e ∈ es, okC e.1 = true) (hn : R4 n) (a : Int) (ha : R4 a) (han : andN a n = 0) (h : ∀ e ∈ es, e.2.2 = false → e.1.1 = kd → e.1.2.1 = ob → andN e.1.2.2.1 n = 0) : andN (es.foldl (strS kd ob) a) n = 0 := by
  induction es generalizing a with
  | nil => exact han
  | cons e es ih =>
    have her := okC_r4 (hok e (by simp))
    rw [List.foldl_cons]
    refine ih (fun x hx => hok x (List.mem_cons_of_mem _ hx)) _ ?_ ?_ (fun x hx => h x (List.mem_cons_of_mem _ hx))
    · unfold strS
      split
      · exact or_r4 ha her
      · exact ha
    · unfold strS
      split
      · rename_i hc
        exact or_in ha her hn han (h e (by simp) hc.1 hc.2.1 hc.2.2)
      · exact han
theorem tree_ok_mem {ds : List En} (h : TreeOk ds) : ∀ e ∈ ds, okC e.1 = true := fun e he => by
  obtain ⟨k, hk⟩ := List.getElem?_of_mem he
  exact (h k e hk).1
theorem zero_r4 : R4 0 := ⟨by omega, by omega⟩
theorem strF_r4 {ds : List En} {kd ob : Int} : R4 (strF ds kd ob) := by
  unfold strF
  split
  · rename_i h
    exact (str_keep ds (tree_ok_mem (treeV_iff.1 h).1) 0 zero_r4).1
  · exact zero_r4
/-- Fewer entries, fewer rights. -/
theorem str_less {ds es : List En} {kd ob : Int} (h : treeV ds = true) (hes : ∀ e ∈ es, e.2.2 = false → ∃ d ∈ ds, d.2.2 = false ∧ d.1 = e.1) (hok : ∀ e ∈ es, okC e.1 = true) : andN (strF es kd ob) (strF ds kd ob) = 0 := by
  have hd := (treeV_iff.1 h).1
  have hk := str_keep (kd := kd) (ob := ob) ds (tree_ok_mem hd) 0 zero_r4
  have hr : R4 (strF ds kd ob) := strF_r4
  rw [show strF ds kd ob = ds.foldl (strS kd ob) 0 from if_pos h] at *
  unfold strF
  split
  · refine str_within es hok hr 0 zero_r4 (in_zero hr) (fun e he hg h1 h2 => ?_)
    obtain ⟨d, hdm, hdg, hde⟩ := hes e he hg
    have hh := hk.2.2 d hdm hdg (by rw [hde]; exact h1) (by rw [hde]; exact h2)
    rwa [hde] at hh
  · exact in_zero hr
theorem removed_less {ds : List En} {L : List Nat} : ∀ e ∈ removed ds L, e.2.2 = false → ∃ d ∈ ds, d.2.2 = false ∧ d.1 = e.1 := fun e' he' hg => by
  obtain ⟨k, hk⟩ := List.getElem?_of_mem he'
  rw [removed_get] at hk
  obtain ⟨e, he, rfl⟩ := Option.map_eq_some_iff.1 hk
  simp only [Bool.or_eq_false_iff] at hg
  exact ⟨e, List.mem_of_getElem? he, hg.1, rfl⟩
theorem cutF_less {ds : List En} {n : Nat} : ∀ e ∈ cutF ds n, e.2.2 = false → ∃ d ∈ ds, d.2.2 = false ∧ d.1 = e.1 := fun e' he' hg => by
  obtain ⟨k, hk⟩ := List.getElem?_of_mem he'
  rw [cutF_get] at hk
  obtain ⟨e, he, rfl⟩ := Option.map_eq_some_iff.1 hk
  simp only [cutE, Bool.or_eq_false_iff] at hg
  exact ⟨e, List.mem_of_getElem? he, hg.1, rfl⟩
/-- Nothing is left. -/
theorem str_none {ds : List En} {kd ob : Int} (h : ∀ e ∈ ds, e.2.2 = true) : strF ds kd ob = 0 := by
  unfold strF
  split
  · unfold strTo
    have key : ∀ (es : List En) (a : Int), (∀ e ∈ es, e.2.2 = true) → es.foldl (strS kd ob) a = a := by
      intro es
      induction es with
      | nil => intro a _; rfl
      | cons e es ih =>
        intro a he
        rw [List.foldl_cons]
        have : strS kd ob a e = a := by unfold strS; rw [if_neg]; rintro ⟨hg, _⟩; rw [he e (by simp)] at hg; cases hg
        rw [this]
        exact ih a (fun x hx => he x (List.mem_cons_of_mem _ hx))
    exact key ds 0 h
  · rfl
end Go.Proofs.Ytpgmfjipkhldmaa
