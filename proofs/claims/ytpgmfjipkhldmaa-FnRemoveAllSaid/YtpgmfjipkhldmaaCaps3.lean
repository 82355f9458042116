/- Contracts on slices of capabilities: toCap, toCapS, eqCap, eqCapS, szCapS, markCapS, heldCapS. -/
import Derived.Test.YtpgmfjipkhldmaaCaps2
namespace Go.Proofs.Ytpgmfjipkhldmaa
set_option linter.unusedVariables false
open Go.RowKit
theorem Try.infoCap : (Try.prog.info? 37).map (fun i => (i.zero, i.size, i.bytes)) = some (some (capv 0 0 0 0), 4, 32) := by kernel_rfl
/-- A slice of capabilities in new memory. -/
def NewCaps (w : World) (cs : List Cp) (e : Ending) (w' : World) : Prop :=
  ∃ A c, e = .returned (.slice A cs.length c) ∧ Own w' w.heap.size w'.heap.size 37 4 A cs.length c (caps cs) ∧ Below w.heap.size w w'
theorem take_rep_setC (cs : List Cp) (n k : Nat) (x : Cp) (hl : cs.length = n) (hk : k < n) (hx : cs[k]? = some x) :
    (cs.take k ++ List.replicate (n - k) (0, 0, 0, 0)).set k x = cs.take (k + 1) ++ List.replicate (n - (k + 1)) (0, 0, 0, 0) := by
  have e1 : n - k = (n - (k + 1)) + 1 := by omega
  rw [e1, List.replicate_succ, List.set_append_right _ _ (by simp; omega)]
  have e2 : k - (cs.take k).length = 0 := by simp; omega
  rw [e2, List.set_cons_zero, List.take_add_one, hx]
  simp
theorem Blk.four {w : World} {b : Nat} {T : TypeId} {x y z u : Value} (h : Blk w b T #[x, y, z, u]) : w.cell? ⟨b, 0, none⟩ = some x ∧ w.cell? ⟨b, 1, none⟩ = some y ∧ w.cell? ⟨b, 2, none⟩ = some z ∧ w.cell? ⟨b, 3, none⟩ = some u := ⟨h.cell 0 rfl, h.cell 1 rfl, h.cell 2 rfl, h.cell 3 rfl⟩
set_option maxHeartbeats 400000 in
theorem toCap_any (k o r b : Int) (w : World) : Calls Try.prog 64 #[capv k o r b] w fun e w' => e = .returned (capv k o r b) ∧ Below w.heap.size w w' := by
  go_enter Try.func64, Try.ntmps64
  go_wp2
  refine bodyPost_ret (v := capv k o r b) (by simp [results, Try.results64, go_sem, *]) rfl ⟨rfl, by (repeat (first | (with_reducible assumption) | (with_reducible exact Below.refl _ _) | (with_reducible refine Below.setCell ?_ (by first | (simp; done) | (simp; omega) | omega) _) | (with_reducible refine Below.alloc ?_ (by first | (simp; done) | (simp; omega) | omega) _) | (with_reducible refine Below.drew ?_) | (with_reducible refine Below.drewN ?_ _)))⟩
def capEq (c d : Cp) : Bool := decide (c = d)
set_option maxHeartbeats 400000 in
theorem eqCap_any (k o r b k2 o2 r2 b2 : Int) (w : World) : Calls Try.prog 65 #[capv k o r b, capv k2 o2 r2 b2] w fun e w' => e = .returned (.bool (capEq (k, o, r, b) (k2, o2, r2, b2))) ∧ Below w.heap.size w w' := by
  by_cases h1 : k = k2
  · subst h1
    by_cases h2 : o = o2
    · subst h2
      by_cases h3 : r = r2
      · subst h3
        by_cases h4 : b = b2
        · subst h4
          have HV := Lib.hid (show capEq (k, o, r, b) (k, o, r, b) = true from decide_eq_true rfl)
          go_enter Try.func65, Try.ntmps65
          go_wp2
          go_ret
          exact ⟨by first | rfl | (rw [HV.out]; rfl), by (repeat (first | (with_reducible assumption) | (with_reducible exact Below.refl _ _) | (with_reducible refine Below.setCell ?_ (by first | (simp; done) | (simp; omega) | omega) _) | (with_reducible refine Below.alloc ?_ (by first | (simp; done) | (simp; omega) | omega) _) | (with_reducible refine Below.drew ?_) | (with_reducible refine Below.drewN ?_ _)))⟩
        · have HV := Lib.hid (show capEq (k, o, r, b) (k, o, r, b2) = false from decide_eq_false (fun h => h4 (by injection h with _ h; injection h with _ h; injection h)))
          have h4' : (b == b2) = false := by simp [h4]
          clear h4
          go_enter Try.func65, Try.ntmps65
          go_wp2
          go_ret
          exact ⟨by first | rfl | (rw [HV.out]; rfl), by (repeat (first | (with_reducible assumption) | (with_reducible exact Below.refl _ _) | (with_reducible refine Below.setCell ?_ (by first | (simp; done) | (simp; omega) | omega) _) | (with_reducible refine Below.alloc ?_ (by first | (simp; done) | (simp; omega) | omega) _) | (with_reducible refine Below.drew ?_) | (with_reducible refine Below.drewN ?_ _)))⟩
      · have HV := Lib.hid (show capEq (k, o, r, b) (k, o, r2, b2) = false from decide_eq_false (fun h => h3 (by injection h with _ h; injection h with _ h; injection h)))
        have h3' : (r == r2) = false := by simp [h3]
        clear h3
        go_enter Try.func65, Try.ntmps65
        go_wp2
        go_ret
        exact ⟨by first | rfl | (rw [HV.out]; rfl), by (repeat (first | (with_reducible assumption) | (with_reducible exact Below.refl _ _) | (with_reducible refine Below.setCell ?_ (by first | (simp; done) | (simp; omega) | omega) _) | (with_reducible refine Below.alloc ?_ (by first | (simp; done) | (simp; omega) | omega) _) | (with_reducible refine Below.drew ?_) | (with_reducible refine Below.drewN ?_ _)))⟩
    · have HV := Lib.hid (show capEq (k, o, r, b) (k, o2, r2, b2) = false from decide_eq_false (fun h => h2 (by injection h with _ h; injection h)))
      have h2' : (o == o2) = false := by simp [h2]
      clear h2
      go_enter Try.func65, Try.ntmps65
      go_wp2
      go_ret
      exact ⟨by first | rfl | (rw [HV.out]; rfl), by (repeat (first | (with_reducible assumption) | (with_reducible exact Below.refl _ _) | (with_reducible refine Below.setCell ?_ (by first | (simp; done) | (simp; omega) | omega) _) | (with_reducible refine Below.alloc ?_ (by first | (simp; done) | (simp; omega) | omega) _) | (with_reducible refine Below.drew ?_) | (with_reducible refine Below.drewN ?_ _)))⟩
  · have HV := Lib.hid (show capEq (k, o, r, b) (k2, o2, r2, b2) = false from decide_eq_false (fun h => h1 (by injection h)))
    have h1' : (k == k2) = false := by simp [h1]
    clear h1
    go_enter Try.func65, Try.ntmps65
    go_wp2
    go_ret
    exact ⟨by first | rfl | (rw [HV.out]; rfl), by (repeat (first | (with_reducible assumption) | (with_reducible exact Below.refl _ _) | (with_reducible refine Below.setCell ?_ (by first | (simp; done) | (simp; omega) | omega) _) | (with_reducible refine Below.alloc ?_ (by first | (simp; done) | (simp; omega) | omega) _) | (with_reducible refine Below.drew ?_) | (with_reducible refine Below.drewN ?_ _)))⟩
end Go.Proofs.Ytpgmfjipkhldmaa
