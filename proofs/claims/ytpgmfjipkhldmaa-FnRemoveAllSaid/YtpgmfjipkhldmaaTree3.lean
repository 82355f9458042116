/- What RevokeSome, RevokeSteps, RevokeCap, RemoveCap answer, and the plain laws of them; no program in sight. -/
import Derived.Test.YtpgmfjipkhldmaaTree2
namespace Go.Proofs.Ytpgmfjipkhldmaa
set_option linter.unusedVariables false
open Go.RowKit
/-- How many entries are derived from entry n. -/
def cntF (ds : List En) (n : Int) : Nat := (descL ds n.toNat).length
/-- The tree in which of the entries derived from n the first a are left. -/
def leftF (ds : List En) (n : Int) (a : Nat) : List En := removed ds ((descL ds n.toNat).drop a)
def someO (ds : List En) (n most : Int) : Bool := liveV ds n && inB most 0 30
def someM (ds : List En) (n most : Int) : Nat := if someO ds n most = true then min most.toNat (cntF ds n) else 0
def someL (ds : List En) (n most : Int) : List En := if someO ds n most = true then leftF ds n (cntF ds n - someM ds n most) else []
def someB (ds : List En) (n most : Int) : Bool := someO ds n most && decide (someM ds n most = cntF ds n)
def stepsF (ds : List En) (n most : Int) : Int := if (liveV ds n && inB most 1 30) = true then max 1 (((cntF ds n : Int) + most - 1) / most) else -1
def revL (ds : List En) (n : Int) : List En := if liveV ds n = true then removed ds (descL ds n.toNat) else []
def cutL (ds : List En) (n : Int) : List En := if liveV ds n = true then cutF ds n.toNat else []
theorem some_no {ds : List En} {n most : Int} (h : someO ds n most = false) : someM ds n most = 0 ∧ someL ds n most = [] ∧ someB ds n most = false := by unfold someM someL someB; simp [h]
theorem some_yes {ds : List En} {n most : Int} (h : someO ds n most = true) : someM ds n most = min most.toNat (cntF ds n) ∧ someL ds n most = leftF ds n (cntF ds n - someM ds n most) ∧ someB ds n most = decide (someM ds n most = cntF ds n) := by unfold someB; unfold someL; simp [h]; unfold someM; simp [h]
theorem cnt_le {ds : List En} {n : Int} : cntF ds n ≤ ds.length := descTo_len
theorem left_len {ds : List En} {n : Int} {a : Nat} : (leftF ds n a).length = ds.length := removed_len
theorem live_tree {ds : List En} {n : Int} (h : liveV ds n = true) : treeV ds = true := (liveV_iff.1 h).1
theorem left_live {ds : List En} {n : Int} {a : Nat} (h : liveV ds n = true) : liveV (leftF ds n a) n = true := by
  obtain ⟨h1, h2, h3, e, h4, h5⟩ := liveV_iff.1 h
  obtain ⟨t1, t2⟩ := treeV_iff.1 h1
  refine liveV_iff.2 ⟨treeV_iff.2 ⟨removed_ok t1 (closed_drop t1), by rw [left_len]; exact t2⟩, h2, by rw [left_len]; exact h3, _, removed_of h4, ?_⟩
  rw [h5, Bool.false_or, decide_eq_false_iff_not]
  exact n_notin
theorem left_tree {ds : List En} {n : Int} {a : Nat} (h : liveV ds n = true) : treeV (leftF ds n a) = true := live_tree (left_live h)
theorem left_cnt {ds : List En} {n : Int} {a : Nat} (h : liveV ds n = true) (ha : a ≤ cntF ds n) : cntF (leftF ds n a) n = a := by
  have t1 := (treeV_iff.1 (live_tree h)).1
  unfold cntF leftF
  rw [desc_drop t1, List.length_take]
  exact Nat.min_eq_left ha
theorem left_left {ds : List En} {n : Int} {a b : Nat} (h : liveV ds n = true) (hab : b ≤ a) : leftF (leftF ds n a) n b = leftF ds n b := by
  have t1 := (treeV_iff.1 (live_tree h)).1
  exact some_again t1 hab
theorem left_all {ds : List En} {n : Int} : leftF ds n (cntF ds n) = ds := by
  unfold leftF cntF
  rw [List.drop_eq_nil_of_le (Nat.le_refl _)]
  exact removed_nil
theorem left_none {ds : List En} {n : Int} (h : liveV ds n = true) : revL ds n = leftF ds n 0 := by unfold revL leftF; rw [if_pos h, List.drop_zero]
theorem left_rev {ds : List En} {n : Int} {a : Nat} (h : liveV ds n = true) : revL (leftF ds n a) n = revL ds n := by
  rw [left_none (left_live h), left_left h (Nat.zero_le _), left_none h]
/-- What the law on RevokeSome asks. -/
theorem some_law {ds : List En} {n most : Int} (h : someO ds n most = true) : treeV (someL ds n most) = true ∧ liveV (someL ds n most) n = true ∧ (someL ds n most).length = ds.length ∧ (someM ds n most : Int) ≤ most ∧ someB ds n most = decide (cntF (someL ds n most) n = 0) ∧ someM ds n most + cntF (someL ds n most) n = cntF ds n ∧ revL (someL ds n most) n = revL ds n := by
  have hl : liveV ds n = true := by unfold someO at h; rw [Bool.and_eq_true] at h; exact h.1
  have hm : 0 ≤ most ∧ most ≤ 30 := by unfold someO at h; rw [Bool.and_eq_true, inB_true] at h; exact h.2
  obtain ⟨h1, h2, h3⟩ := some_yes h
  have hc := left_cnt hl (a := cntF ds n - someM ds n most) (by omega)
  rw [h2]
  refine ⟨left_tree hl, left_live hl, left_len, by omega, ?_, by omega, left_rev hl⟩
  rw [h3, hc]
  have hle : someM ds n most ≤ cntF ds n := by omega
  by_cases he : someM ds n most = cntF ds n
  · rw [decide_eq_true he, decide_eq_true (by omega)]
  · rw [decide_eq_false he, decide_eq_false (by omega)]
/-- One step of many: of a entries that are left, most are removed. -/
theorem some_step {ds : List En} {n most : Int} {a : Nat} (h : liveV ds n = true) (hm : 0 ≤ most ∧ most ≤ 30) (ha : a ≤ cntF ds n) :
    someO (leftF ds n a) n most = true ∧ someL (leftF ds n a) n most = leftF ds n (a - most.toNat) ∧ someB (leftF ds n a) n most = decide (a ≤ most.toNat) := by
  have ho : someO (leftF ds n a) n most = true := by unfold someO; rw [left_live h, inB_true.2 hm]; rfl
  obtain ⟨h1, h2, h3⟩ := some_yes ho
  rw [left_cnt h ha] at h1 h2 h3
  refine ⟨ho, ?_, ?_⟩
  · rw [h2, left_left h (Nat.sub_le _ _), h1]
    congr 1
    omega
  · rw [h3, h1]
    by_cases he : a ≤ most.toNat
    · rw [decide_eq_true he, decide_eq_true (by omega)]
    · rw [decide_eq_false he, decide_eq_false (by omega)]
/-- How many steps it takes. -/
theorem steps_law {ds : List En} {n most : Int} (h : liveV ds n = true) (hm : 1 ≤ most ∧ most ≤ 30) : ∃ k : Nat, stepsF ds n most = (k : Int) ∧ 1 ≤ k ∧ k ≤ cntF ds n + 1 ∧ cntF ds n - k * most.toNat = 0 ∧ ∀ j : Nat, j < k → (decide (cntF ds n - j * most.toNat ≤ most.toNat) = decide (j = k - 1)) := by
  have he : stepsF ds n most = max 1 (((cntF ds n : Int) + most - 1) / most) := by unfold stepsF; rw [if_pos]; rw [h, inB_true.2 hm]; rfl
  rw [he]
  generalize cntF ds n = c
  obtain ⟨m, rfl⟩ := Int.eq_ofNat_of_zero_le (show 0 ≤ most by omega)
  have hm1 : 1 ≤ m := by omega
  have hq : ((c : Int) + (m : Int) - 1) / (m : Int) = (((c + m - 1) / m : Nat) : Int) := by
    rw [Int.natCast_ediv]
    congr 1
    omega
  rw [hq, Int.toNat_natCast]
  have hd := Nat.div_add_mod (c + m - 1) m
  have hlt := Nat.mod_lt (c + m - 1) hm1
  generalize (c + m - 1) / m = q at *
  generalize (c + m - 1) % m = r at *
  have hcm : c ≤ m * q := by omega
  have hqc : q ≤ c := by
    rcases Nat.eq_zero_or_pos q with h0 | h0
    · omega
    · have h1 : m * (q - 1) + m = m * q := by rw [← Nat.mul_succ]; congr 1; omega
      have h2 : q - 1 ≤ m * (q - 1) := Nat.le_mul_of_pos_left _ hm1
      omega
  refine ⟨max 1 q, by omega, by omega, by omega, ?_, fun j hj => ?_⟩
  · have : c ≤ max 1 q * m := by
      have := Nat.mul_le_mul_right m (Nat.le_max_right 1 q)
      rw [Nat.mul_comm m q] at hcm
      omega
    omega
  · by_cases hjk : j = max 1 q - 1
    · rw [decide_eq_true hjk, decide_eq_true_eq]
      have h1 : (j + 1) * m = max 1 q * m := by congr 1; omega
      have h2 := Nat.mul_le_mul_right m (Nat.le_max_right 1 q)
      rw [Nat.add_mul, Nat.one_mul] at h1
      rw [Nat.mul_comm m q] at hcm
      omega
    · rw [decide_eq_false hjk, decide_eq_false_iff_not]
      have hj2 : j + 1 + 1 ≤ q := by omega
      have h1 := Nat.mul_le_mul_right m hj2
      rw [Nat.add_mul, Nat.add_mul, Nat.one_mul, Nat.mul_comm q m] at h1
      omega
theorem rev_tree {ds : List En} {n : Int} (h : liveV ds n = true) : treeV (revL ds n) = true ∧ (revL ds n).length = ds.length := by
  rw [left_none h]
  exact ⟨left_tree h, left_len⟩
theorem cut_tree {ds : List En} {n : Int} (h : liveV ds n = true) : treeV (cutL ds n) = true ∧ (cutL ds n).length = ds.length := by
  obtain ⟨h1, h2, h3, e, h4, h5⟩ := liveV_iff.1 h
  obtain ⟨t1, t2⟩ := treeV_iff.1 h1
  unfold cutL
  rw [if_pos h]
  exact ⟨treeV_iff.2 ⟨cutF_ok t1 h4 h5, by rw [cutF_len]; exact t2⟩, cutF_len⟩
theorem rev_less {ds : List En} {n kd ob : Int} (h : liveV ds n = true) : andN (strF (revL ds n) kd ob) (strF ds kd ob) = 0 := by
  refine str_less (live_tree h) ?_ (tree_ok_mem (treeV_iff.1 (rev_tree h).1).1)
  rw [left_none h]
  exact removed_less
theorem cut_less {ds : List En} {n kd ob : Int} (h : liveV ds n = true) : andN (strF (cutL ds n) kd ob) (strF ds kd ob) = 0 := by
  refine str_less (live_tree h) ?_ (tree_ok_mem (treeV_iff.1 (cut_tree h).1).1)
  unfold cutL
  rw [if_pos h]
  exact cutF_less
/-- The first k entries have been removed. -/
def GoneTo (ds : List En) (k : Nat) : Prop := ∀ (j : Nat) (e : En), j < k → ds[j]? = some e → e.2.2 = true
theorem gone_cut {ds : List En} {k : Nat} (h : liveV ds (k : Int) = true) (hg : GoneTo ds k) : GoneTo (cutL ds (k : Int)) (k + 1) := by
  intro j e' hj he'
  unfold cutL at he'
  rw [if_pos h, Int.toNat_natCast, cutF_get] at he'
  obtain ⟨e, he, rfl⟩ := Option.map_eq_some_iff.1 he'
  simp only [cutE]
  by_cases hjk : j = k
  · simp [hjk]
  · rw [hg j e (by omega) he]; rfl
theorem gone_skip {ds : List En} {k : Nat} {e : En} (he : ds[k]? = some e) (h : e.2.2 = true) (hg : GoneTo ds k) : GoneTo ds (k + 1) := by
  intro j e' hj he'
  by_cases hjk : j = k
  · subst hjk
    rw [he] at he'
    injection he' with he'
    rw [← he']
    exact h
  · exact hg j e' (by omega) he'
theorem gone_all {ds : List En} {kd ob : Int} (h : GoneTo ds ds.length) : strF ds kd ob = 0 := str_none fun e he => by
  obtain ⟨k, hk⟩ := List.getElem?_of_mem he
  exact h k e (List.getElem?_eq_some_iff.1 hk).1 hk
end Go.Proofs.Ytpgmfjipkhldmaa
