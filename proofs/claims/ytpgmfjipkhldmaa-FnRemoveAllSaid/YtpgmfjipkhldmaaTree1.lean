/- Derivation trees as lists: what is valid, which entries are derived from one, what is left when some are removed (plain laws; no program in sight). -/
import Derived.Test.YtpgmfjipkhldmaaCaps1
namespace Go.Proofs.Ytpgmfjipkhldmaa
set_option linter.unusedVariables false
open Go.RowKit
def andN (a b : Int) : Int := bits .andNot .i64 a b
/-- An entry: its capability, its parent, whether it has been removed. -/
abbrev En := Cp × Int × Bool
def dfE : En := ((0, 0, 0, 0), 0, true)
/-- 'a is at most b'. -/
def capW (c d : Cp) : Bool := okC c && (okC d && ((c.1 == d.1) && ((c.2.1 == d.2.1) && ((andN c.2.2.1 d.2.2.1 == 0) && ((c.2.2.2 == d.2.2.2) || (d.2.2.2 == 0))))))
def okE (ds : List En) (k : Nat) (e : En) : Bool :=
  okC e.1 && (!(e.1.1 == 0) && (inB e.2.1 (-1) ((k : Int) - 1) && (!(decide (0 ≤ e.2.1) && !e.2.2) || (!(ds.getD e.2.1.toNat dfE).2.2 && capW e.1 (ds.getD e.2.1.toNat dfE).1))))
def treeTo (ds : List En) (k : Nat) : Bool := (List.range k).all (fun j => okE ds j (ds.getD j dfE))
def treeV (ds : List En) : Bool := treeTo ds ds.length && decide ((ds.length : Int) ≤ 30)
def liveV (ds : List En) (n : Int) : Bool := treeV ds && (inB n 0 ((ds.length : Int) - 1) && !(ds.getD n.toNat dfE).2.2)
/-- Every entry is as it should be. -/
def TreeOk (ds : List En) : Prop := ∀ (k : Nat) (e : En), ds[k]? = some e → okC e.1 = true ∧ ¬ e.1.1 = 0 ∧ -1 ≤ e.2.1 ∧ e.2.1 < k ∧ (0 ≤ e.2.1 → e.2.2 = false → ∃ q, ds[e.2.1.toNat]? = some q ∧ q.2.2 = false ∧ capW e.1 q.1 = true)
theorem getD_of {ds : List En} {k : Nat} {e : En} (h : ds[k]? = some e) : ds.getD k dfE = e := by rw [List.getD_eq_getElem?_getD, h]; rfl
theorem of_getD {ds : List En} {k : Nat} (h : (ds.getD k dfE).2.2 = false) : ds[k]? = some (ds.getD k dfE) := by
  rw [List.getD_eq_getElem?_getD] at *
  cases hk : ds[k]? with
  | none => rw [hk] at h; simp [dfE] at h
  | some e => rfl
theorem okE_iff {ds : List En} {k : Nat} {e : En} : okE ds k e = true ↔ okC e.1 = true ∧ ¬ e.1.1 = 0 ∧ -1 ≤ e.2.1 ∧ e.2.1 < k ∧ (0 ≤ e.2.1 → e.2.2 = false → ∃ q, ds[e.2.1.toNat]? = some q ∧ q.2.2 = false ∧ capW e.1 q.1 = true) := by
  unfold okE
  simp only [Bool.and_eq_true, Bool.or_eq_true, Bool.not_eq_true', inB_true, beq_eq_false_iff_ne, ne_eq, Bool.and_eq_false_iff, decide_eq_false_iff_not, Bool.not_eq_false']
  constructor
  · rintro ⟨h1, h2, h3, h4⟩
    refine ⟨h1, h2, by omega, by omega, fun h5 h6 => ?_⟩
    rcases h4 with (h4 | h4) | h4
    · exact absurd h5 h4
    · rw [h6] at h4; cases h4
    · exact ⟨_, of_getD h4.1, h4.1, h4.2⟩
  · rintro ⟨h1, h2, h3, h4, h5⟩
    refine ⟨h1, h2, by omega, ?_⟩
    by_cases hp : 0 ≤ e.2.1
    · cases hg : e.2.2
      · obtain ⟨q, q1, q2, q3⟩ := h5 hp hg
        rw [getD_of q1]
        exact .inr ⟨q2, q3⟩
      · exact .inl (.inr rfl)
    · exact .inl (.inl hp)
theorem treeTo_iff {ds : List En} {k : Nat} (hk : k ≤ ds.length) : treeTo ds k = true ↔ ∀ (j : Nat) (e : En), j < k → ds[j]? = some e → okE ds j e = true := by
  unfold treeTo
  rw [List.all_eq_true]
  constructor
  · intro h j e hj he
    have := h j (List.mem_range.2 hj)
    rwa [getD_of he] at this
  · intro h j hj
    have hj' := List.mem_range.1 hj
    have he : ds[j]? = some ds[j] := List.getElem?_eq_getElem (by omega)
    rw [getD_of he]
    exact h j _ hj' he
theorem treeV_iff {ds : List En} : treeV ds = true ↔ TreeOk ds ∧ ds.length ≤ 30 := by
  unfold treeV
  rw [Bool.and_eq_true, treeTo_iff (Nat.le_refl _), decide_eq_true_eq]
  constructor
  · rintro ⟨h1, h2⟩
    exact ⟨fun k e he => okE_iff.1 (h1 k e (List.getElem?_eq_some_iff.1 he).1 he), by omega⟩
  · rintro ⟨h1, h2⟩
    exact ⟨fun j e _ he => okE_iff.2 (h1 j e he), by omega⟩
theorem treeTo_succ {ds : List En} {k : Nat} : treeTo ds (k + 1) = (treeTo ds k && okE ds k (ds.getD k dfE)) := by
  unfold treeTo
  rw [List.range_succ, List.all_append]
  simp
theorem treeTo_stop {ds : List En} {k : Nat} (hk : k < ds.length) {e : En} (he : ds[k]? = some e) (h : okE ds k e = false) : treeV ds = false := by
  cases hv : treeV ds
  · rfl
  · have := (treeTo_iff (Nat.le_refl _)).1 (by unfold treeV at hv; rw [Bool.and_eq_true] at hv; exact hv.1) k e hk he
    rw [h] at this
    cases this
theorem treeTo_all {ds : List En} (h : treeTo ds ds.length = true) : treeV ds = decide ((ds.length : Int) ≤ 30) := by unfold treeV; rw [h, Bool.true_and]
theorem liveV_iff {ds : List En} {n : Int} : liveV ds n = true ↔ treeV ds = true ∧ 0 ≤ n ∧ n < ds.length ∧ ∃ e, ds[n.toNat]? = some e ∧ e.2.2 = false := by
  unfold liveV
  simp only [Bool.and_eq_true, inB_true, Bool.not_eq_true']
  constructor
  · rintro ⟨h1, h2, h3⟩
    exact ⟨h1, h2.1, by omega, _, of_getD h3, h3⟩
  · rintro ⟨h1, h2, h3, e, h4, h5⟩
    exact ⟨h1, ⟨h2, by omega⟩, by rw [getD_of h4]; exact h5⟩

/-! ### which entries are derived from entry n -/
/-- entry n itself, and what is derived from it and not removed -/
def fr (ds : List En) (n k : Nat) : Bool :=
  if k = n then true else
  if h : n < k ∧ 0 ≤ (ds.getD k dfE).2.1 ∧ (ds.getD k dfE).2.1.toNat < k then !(ds.getD k dfE).2.2 && fr ds n (ds.getD k dfE).2.1.toNat else false
termination_by k
decreasing_by exact h.2.2
theorem fr_self {ds : List En} {n : Nat} : fr ds n n = true := by rw [fr, if_pos rfl]
theorem fr_low {ds : List En} {n k : Nat} (h : k < n) : fr ds n k = false := by rw [fr, if_neg (by omega), dif_neg (by omega)]
theorem fr_step {ds : List En} {n k : Nat} {e : En} (ht : TreeOk ds) (hk : n < k) (he : ds[k]? = some e) : fr ds n k = (!e.2.2 && (decide (0 ≤ e.2.1) && fr ds n e.2.1.toNat)) := by
  have h := ht k e he
  rw [fr, if_neg (by omega), getD_of he]
  by_cases hp : 0 ≤ e.2.1
  · rw [dif_pos ⟨hk, hp, by omega⟩, decide_eq_true hp, Bool.true_and]
  · rw [dif_neg (fun x => hp x.2.1), decide_eq_false hp, Bool.false_and, Bool.and_false]
theorem fr_out {ds : List En} {n k : Nat} (hk : n < k) (h : ds.length ≤ k) : fr ds n k = false := by
  have hg : ds.getD k dfE = dfE := by rw [List.getD_eq_getElem?_getD, List.getElem?_eq_none h]; rfl
  rw [fr, if_neg (by omega), hg]
  split
  · rfl
  · rfl
def isD (ds : List En) (n k : Nat) : Bool := decide (n < k) && fr ds n k
/-- Numbers of the entries before number k that are derived from entry n. -/
def descTo (ds : List En) (n k : Nat) : List Nat := (List.range k).filter (isD ds n)
def descL (ds : List En) (n : Nat) : List Nat := descTo ds n ds.length
theorem descTo_succ {ds : List En} {n k : Nat} : descTo ds n (k + 1) = if isD ds n k = true then descTo ds n k ++ [k] else descTo ds n k := by
  unfold descTo
  rw [List.range_succ, List.filter_append]
  cases h : isD ds n k <;> simp [h]
theorem descTo_low {ds : List En} {n k : Nat} (h : k ≤ n + 1) : descTo ds n k = [] := by
  unfold descTo
  rw [List.filter_eq_nil_iff]
  intro j hj
  have := List.mem_range.1 hj
  unfold isD
  simp
  omega
theorem descTo_len {ds : List En} {n k : Nat} : (descTo ds n k).length ≤ k := by
  have := List.length_filter_le (isD ds n) (List.range k)
  rw [List.length_range] at this
  exact this
theorem mem_descL {ds : List En} {n k : Nat} : k ∈ descL ds n ↔ k < ds.length ∧ n < k ∧ fr ds n k = true := by
  unfold descL descTo isD
  rw [List.mem_filter, List.mem_range, Bool.and_eq_true, decide_eq_true_eq]
theorem descL_sorted {ds : List En} {n : Nat} : (descL ds n).Pairwise (· < ·) := (List.pairwise_lt_range).filter _

/-! ### removal -/
def removed (ds : List En) (L : List Nat) : List En := ds.mapIdx (fun k e => (e.1, e.2.1, e.2.2 || decide (k ∈ L)))
theorem removed_len {ds : List En} {L : List Nat} : (removed ds L).length = ds.length := by unfold removed; simp
theorem removed_get {ds : List En} {L : List Nat} {k : Nat} : (removed ds L)[k]? = ds[k]?.map (fun e => (e.1, e.2.1, e.2.2 || decide (k ∈ L))) := by unfold removed; rw [List.getElem?_mapIdx]
theorem removed_of {ds : List En} {L : List Nat} {k : Nat} {e : En} (h : ds[k]? = some e) : (removed ds L)[k]? = some (e.1, e.2.1, e.2.2 || decide (k ∈ L)) := by rw [removed_get, h]; rfl
theorem removed_same {ds : List En} {L M : List Nat} (h : ∀ k, k ∈ L ↔ k ∈ M) : removed ds L = removed ds M := by
  unfold removed
  congr 1
  funext k e
  rw [show decide (k ∈ L) = decide (k ∈ M) from by simp [h k]]
theorem removed_nil {ds : List En} : removed ds [] = ds := by
  apply List.ext_getElem?
  intro k
  rw [removed_get]
  cases ds[k]? with
  | none => rfl
  | some e => simp
theorem removed_more {ds : List En} {L M : List Nat} : removed (removed ds L) M = removed ds (L ++ M) := by
  apply List.ext_getElem?
  intro k
  rw [removed_get, removed_get, removed_get]
  cases ds[k]? with
  | none => rfl
  | some e => simp [Bool.or_assoc]
/-- With an entry, the entries derived from it are in the list. -/
def Closed (ds : List En) (L : List Nat) : Prop := ∀ (j : Nat) (e : En), ds[j]? = some e → e.2.2 = false → 0 ≤ e.2.1 → e.2.1.toNat ∈ L → j ∈ L
theorem removed_ok {ds : List En} {L : List Nat} (h : TreeOk ds) (hc : Closed ds L) : TreeOk (removed ds L) := by
  intro k e' he'
  rw [removed_get] at he'
  obtain ⟨e, he, rfl⟩ := Option.map_eq_some_iff.1 he'
  obtain ⟨h1, h2, h3, h4, h5⟩ := h k e he
  refine ⟨h1, h2, h3, h4, fun h6 h7 => ?_⟩
  simp only [Bool.or_eq_false_iff, decide_eq_false_iff_not] at h7
  obtain ⟨q, q1, q2, q3⟩ := h5 h6 h7.1
  refine ⟨_, removed_of q1, ?_, q3⟩
  rw [q2, Bool.false_or, decide_eq_false_iff_not]
  exact fun hm => h7.2 (hc k e he h7.1 h6 hm)
theorem removed_fr {ds : List En} {L : List Nat} {n : Nat} (h : TreeOk ds) (hc : Closed ds L) (hn : ¬ n ∈ L) (k : Nat) : fr (removed ds L) n k = (fr ds n k && !decide (k ∈ L)) := by
  induction k using Nat.strongRecOn with
  | _ k ih =>
    by_cases hkn : k = n
    · subst hkn
      rw [fr_self, fr_self, decide_eq_false hn]; rfl
    · by_cases hlt : n < k
      · cases he : ds[k]? with
        | none =>
          have hl := List.getElem?_eq_none_iff.1 he
          rw [fr_out hlt (by rw [removed_len]; exact hl), fr_out hlt hl, Bool.false_and]
        | some e =>
          have hpk := (h k e he).2.2.2.1
          rw [fr_step (removed_ok h hc) hlt (removed_of he), fr_step h hlt he]
          simp only
          by_cases hp : 0 ≤ e.2.1
          · rw [ih e.2.1.toNat (by omega), decide_eq_true hp]
            cases hg : e.2.2
            · by_cases hkL : k ∈ L
              · simp [hkL]
              · have hpL : ¬ e.2.1.toNat ∈ L := fun hm => hkL (hc k e he hg hp hm)
                simp [hkL, hpL]
            · simp
          · rw [decide_eq_false hp]
            simp
      · rw [fr_low (by omega), fr_low (by omega), Bool.false_and]
theorem removed_desc {ds : List En} {L : List Nat} {n : Nat} (h : TreeOk ds) (hc : Closed ds L) (hn : ¬ n ∈ L) : descL (removed ds L) n = (descL ds n).filter (fun k => !decide (k ∈ L)) := by
  unfold descL descTo
  rw [removed_len, List.filter_filter]
  congr 1
  funext k
  unfold isD
  rw [removed_fr h hc hn k]
  cases decide (n < k) <;> cases fr ds n k <;> simp
/-- The last ones of what is derived from an entry are closed. -/
theorem closed_drop {ds : List En} {n m : Nat} (h : TreeOk ds) : Closed ds ((descL ds n).drop m) := by
  intro j e he hg hp hm
  have h1 := mem_descL.1 (List.mem_of_mem_drop hm)
  have hj := (h j e he).2.2.2.1
  have hjd : j ∈ descL ds n := mem_descL.2 ⟨(List.getElem?_eq_some_iff.1 he).1, by omega, by rw [fr_step h (by omega) he, hg, decide_eq_true hp, h1.2.2]; rfl⟩
  rw [← List.take_append_drop m (descL ds n), List.mem_append] at hjd
  rcases hjd with hjd | hjd
  · have hs := descL_sorted (ds := ds) (n := n)
    rw [← List.take_append_drop m (descL ds n), List.pairwise_append] at hs
    have := hs.2.2 j hjd _ hm
    omega
  · exact hjd
theorem n_notin {ds : List En} {n m : Nat} : ¬ n ∈ (descL ds n).drop m := fun h => by have := mem_descL.1 (List.mem_of_mem_drop h); omega
theorem desc_drop {ds : List En} {n m : Nat} (h : TreeOk ds) : descL (removed ds ((descL ds n).drop m)) n = (descL ds n).take m := by
  rw [removed_desc h (closed_drop h) n_notin]
  have hs := descL_sorted (ds := ds) (n := n)
  generalize descL ds n = l at *
  conv => lhs; rw [← List.take_append_drop m l]
  rw [← List.take_append_drop m l, List.pairwise_append] at hs
  rw [List.filter_append, List.filter_eq_self.2, List.filter_eq_nil_iff.2, List.append_nil]
  · simp
  · intro a ha
    simp only [List.take_append_drop, Bool.not_eq_true', decide_eq_false_iff_not]
    intro hm
    have := hs.2.2 a ha a hm
    omega
/-- What 'revoke some' leaves: of the entries derived from n, the last m are removed. -/
theorem take_drop_app {α : Type} {l : List α} {a b : Nat} (h : b ≤ a) : (l.take a).drop b ++ l.drop a = l.drop b := by
  conv => rhs; rw [← List.take_append_drop a l]
  rw [List.drop_append]
  by_cases ha : a ≤ l.length
  · rw [List.length_take, Nat.min_eq_left ha, show b - a = 0 by omega, List.drop_zero]
  · rw [List.drop_eq_nil_of_le (show l.length ≤ a by omega)]; simp
theorem some_again {ds : List En} {n a b : Nat} (h : TreeOk ds) (hab : b ≤ a) : removed (removed ds ((descL ds n).drop a)) ((descL (removed ds ((descL ds n).drop a)) n).drop b) = removed ds ((descL ds n).drop b) := by
  rw [desc_drop h, removed_more]
  apply removed_same
  intro k
  rw [← take_drop_app (l := descL ds n) hab]
  simp only [List.mem_append]
  exact Or.comm
end Go.Proofs.Ytpgmfjipkhldmaa
