/- Slices of capabilities as an argument, opened: cells in memory. -/
import Derived.Test.YthbfpgdfigilaaaCaps1
import Derived.Test.YthbfpgdfigilaaaRows
import Derived.WalkKit
import Derived.ProofKit
import Derived.OpenShut
import Derived.Lib.SmallJoins
import Derived.Deep.Slices
import Derived.Deep.Matrix
namespace Go.Proofs.Ythbfpgdfigilaaa
open Go.ChangeShapes Go.WideShapes Go.RowKit Go.Joins Go.Deep
set_option linter.unusedVariables false
theorem rd_caps {w : World} {a : Addr} {len : Nat} (y : Nat → Cp) (h : ∀ i, i < len → w.cell? (a.add (i * 4)) = some (.int .i64 (y i).1) ∧ w.cell? (a.add (i * 4 + 1)) = some (.int .i64 (y i).2.1) ∧ w.cell? (a.add (i * 4 + 2)) = some (.int .i64 (y i).2.2.1) ∧ w.cell? (a.add (i * 4 + 3)) = some (.int .i64 (y i).2.2.2)) :
    Rd w 0 w.heap.size 4 (some a) len (caps ((List.range len).map y)) := by
  refine ⟨by rw [caps_length]; simp, fun h0 => ?_⟩
  obtain ⟨b, o, sp⟩ := a
  have h1 := (h 0 h0).1
  have hsp : sp = none := by simpa [Addr.add] using World.cell?_spot h1
  subst hsp
  refine ⟨b, o, rfl, Nat.zero_le _, ?_, fun j u hu => ?_⟩
  · have := World.block_lt_of_cell? w _ h1
    simpa [Addr.add_lit] using this
  · have hj : j < len * 4 := by
      have := (List.getElem?_eq_some_iff.1 hu).1
      rw [caps_length] at this
      simpa using this
    obtain ⟨k, i, rfl, hi⟩ : ∃ k i, j = k * 4 + i ∧ i < 4 := ⟨j / 4, j - j / 4 * 4, by omega, by omega⟩
    have hk : k < len := by omega
    have hc : ((List.range len).map y)[k]? = some (y k) := by rw [List.getElem?_map, List.getElem?_range hk]; rfl
    have hg := caps_get hc hi
    rw [hu] at hg
    obtain ⟨e0, e1, e2, e3⟩ := h k hk
    rw [Addr.add_lit] at e0 e1 e2 e3
    have hq : i = 0 ∨ i = 1 ∨ i = 2 ∨ i = 3 := by omega
    rcases hq with rfl | rfl | rfl | rfl
    · have : u = .int .i64 (y k).1 := by simpa [capC] using hg
      rw [this]; exact e0
    · have : u = .int .i64 (y k).2.1 := by simpa [capC] using hg
      rw [this]; exact e1
    · have : u = .int .i64 (y k).2.2.1 := by simpa [capC] using hg
      rw [this]; exact e2
    · have : u = .int .i64 (y k).2.2.2 := by simpa [capC] using hg
      rw [this]; exact e3
theorem open_caps {w : World} {H : Type} {enc : TypeId × Value → H} {fuel : Nat} {c : Value} {x : DataW H × List MemPlace} (h : DataW.trod enc Try.prog w 0 (fun _ => true) true fuel 23 [c] = some x) :
    ∃ (A : Option Addr) (len cap : Nat) (cs : List Cp), c = .slice A len cap ∧ Rd w 0 w.heap.size 4 A len (caps cs) ∧ len ≤ cap ∧ len ≤ 9223372036854775807 := by
  have hC : Try.prog.cellsOf 43 = 4 := by kernel_rfl
  have hI : Try.prog.cellsOf 3 = 1 := by kernel_rfl
  rcases open_slice Try.underlying23 h with ⟨hcs, _⟩ | ⟨a, len, cap, m, n, D, Pl, hcs, _, hl, hm, hmm, _, hi⟩
  · simp only [List.cons.injEq, and_true] at hcs
    exact ⟨none, 0, 0, [], hcs, Rd.nil _ _ _ _ _, Nat.le_refl _, by omega⟩
  · simp only [List.cons.injEq, and_true] at hcs
    have hml : len ≤ m := by rw [hmm]; split <;> omega
    have each : ∀ i, i < len → ∃ q : Cp, w.cell? (a.add (i * 4)) = some (.int .i64 q.1) ∧ w.cell? (a.add (i * 4 + 1)) = some (.int .i64 q.2.1) ∧ w.cell? (a.add (i * 4 + 2)) = some (.int .i64 q.2.2.1) ∧ w.cell? (a.add (i * 4 + 3)) = some (.int .i64 q.2.2.2) := by
      intro i hil
      obtain ⟨cs', hc, ht⟩ := hi i (by omega)
      rw [hC] at hc
      obtain ⟨y0, y1, y2, y3, n', -, hlen, f0, f1, f2, f3⟩ := trod_struct4 Try.underlying43 ht
      obtain ⟨_, hcl, hat⟩ := World.cells?_some hc
      rw [hC] at hlen
      obtain ⟨n0, g0, -⟩ := DataW.trod_int Try.underlying3 f0
      obtain ⟨n1, g1, -⟩ := DataW.trod_int Try.underlying3 f1
      obtain ⟨n2, g2, -⟩ := DataW.trod_int Try.underlying3 f2
      obtain ⟨n3, g3, -⟩ := DataW.trod_int Try.underlying3 f3
      match cs', hlen with
      | [c0, c1, c2, c3], _ =>
        have k0 : c0 = .int .i64 n0 := by simpa [hI] using congrArg List.head? g0
        have k1 : c1 = .int .i64 n1 := by simpa [hI] using congrArg List.head? g1
        have k2 : c2 = .int .i64 n2 := by simpa [hI] using congrArg List.head? g2
        have k3 : c3 = .int .i64 n3 := by simpa [hI] using congrArg List.head? g3
        refine ⟨(n0, n1, n2, n3), ?_, ?_, ?_, ?_⟩
        · have := hat 0 (by omega); rw [Go.Deep.add_add] at this; rw [← k0]; exact this
        · have := hat 1 (by omega); rw [Go.Deep.add_add] at this; rw [← k1]; exact this
        · have := hat 2 (by omega); rw [Go.Deep.add_add] at this; rw [← k2]; exact this
        · have := hat 3 (by omega); rw [Go.Deep.add_add] at this; rw [← k3]; exact this
    obtain ⟨y, hy⟩ := choose_lt each
    exact ⟨some a, len, cap, _, hcs, rd_caps y hy, hl, by unfold maxLen at hm; omega⟩
end Go.Proofs.Ythbfpgdfigilaaa
