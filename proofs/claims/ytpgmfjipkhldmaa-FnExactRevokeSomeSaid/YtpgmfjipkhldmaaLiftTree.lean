/- Derivation trees as an argument, opened: cells in memory. -/
import Derived.Test.YtpgmfjipkhldmaaEnts
import Derived.Test.YtpgmfjipkhldmaaRows
import Derived.WalkKit
import Derived.ProofKit
import Derived.OpenShut
import Derived.Lib.SmallJoins
import Derived.Deep.Slices
import Derived.Deep.Matrix
namespace Go.Proofs.Ytpgmfjipkhldmaa
open Go.ChangeShapes Go.WideShapes Go.RowKit Go.Joins Go.Deep
set_option linter.unusedVariables false
theorem rd_ents {w : World} {a : Addr} {len : Nat} (y : Nat → En) (h : ∀ i, i < len → w.cell? (a.add (i * 6)) = some (.int .i64 (y i).1.1) ∧ w.cell? (a.add (i * 6 + 1)) = some (.int .i64 (y i).1.2.1) ∧ w.cell? (a.add (i * 6 + 2)) = some (.int .i64 (y i).1.2.2.1) ∧ w.cell? (a.add (i * 6 + 3)) = some (.int .i64 (y i).1.2.2.2) ∧ w.cell? (a.add (i * 6 + 4)) = some (.int .i64 (y i).2.1) ∧ w.cell? (a.add (i * 6 + 5)) = some (.bool (y i).2.2)) :
    Rd w 0 w.heap.size 6 (some a) len (ents ((List.range len).map y)) := by
  refine ⟨by rw [ents_length]; simp, fun h0 => ?_⟩
  obtain ⟨b, o, sp⟩ := a
  have h1 := (h 0 h0).1
  have hsp : sp = none := by simpa [Addr.add] using World.cell?_spot h1
  subst hsp
  refine ⟨b, o, rfl, Nat.zero_le _, ?_, fun j u hu => ?_⟩
  · have := World.block_lt_of_cell? w _ h1
    simpa [Addr.add_lit] using this
  · have hj : j < len * 6 := by
      have := (List.getElem?_eq_some_iff.1 hu).1
      rw [ents_length] at this
      simpa using this
    obtain ⟨k, i, rfl, hi⟩ : ∃ k i, j = k * 6 + i ∧ i < 6 := ⟨j / 6, j - j / 6 * 6, by omega, by omega⟩
    have hk : k < len := by omega
    have hc : ((List.range len).map y)[k]? = some (y k) := by rw [List.getElem?_map, List.getElem?_range hk]; rfl
    have hg := ents_get hc hi
    rw [hu] at hg
    obtain ⟨e0, e1, e2, e3, e4, e5⟩ := h k hk
    rw [Addr.add_lit] at e0 e1 e2 e3 e4 e5
    have hq : i = 0 ∨ i = 1 ∨ i = 2 ∨ i = 3 ∨ i = 4 ∨ i = 5 := by omega
    rcases hq with rfl | rfl | rfl | rfl | rfl | rfl
    · have : u = .int .i64 (y k).1.1 := by simpa [entC] using hg
      rw [this]; exact e0
    · have : u = .int .i64 (y k).1.2.1 := by simpa [entC] using hg
      rw [this]; exact e1
    · have : u = .int .i64 (y k).1.2.2.1 := by simpa [entC] using hg
      rw [this]; exact e2
    · have : u = .int .i64 (y k).1.2.2.2 := by simpa [entC] using hg
      rw [this]; exact e3
    · have : u = .int .i64 (y k).2.1 := by simpa [entC] using hg
      rw [this]; exact e4
    · have : u = .bool (y k).2.2 := by simpa [entC] using hg
      rw [this]; exact e5
theorem open_ents {w : World} {H : Type} {enc : TypeId × Value → H} {fuel : Nat} {c : Value} {x : DataW H × List MemPlace} (h : DataW.trod enc Try.prog w 0 (fun _ => true) true fuel 40 [c] = some x) :
    ∃ (A : Option Addr) (len cap : Nat) (es : List En), c = .slice A len cap ∧ Rd w 0 w.heap.size 6 A len (ents es) ∧ len ≤ cap ∧ len ≤ 9223372036854775807 := by
  have hE : Try.prog.cellsOf 63 = 6 := by kernel_rfl
  have hC : Try.prog.cellsOf 61 = 4 := by kernel_rfl
  have hI : Try.prog.cellsOf 3 = 1 := by kernel_rfl
  have hO : Try.prog.cellsOf 4 = 1 := by kernel_rfl
  rcases open_slice Try.underlying40 h with ⟨hcs, _⟩ | ⟨a, len, cap, m, n, D, Pl, hcs, _, hl, hm, hmm, _, hi⟩
  · simp only [List.cons.injEq, and_true] at hcs
    exact ⟨none, 0, 0, [], hcs, Rd.nil _ _ _ _ _, Nat.le_refl _, by omega⟩
  · simp only [List.cons.injEq, and_true] at hcs
    have hml : len ≤ m := by rw [hmm]; split <;> omega
    have each : ∀ i, i < len → ∃ q : En, w.cell? (a.add (i * 6)) = some (.int .i64 q.1.1) ∧ w.cell? (a.add (i * 6 + 1)) = some (.int .i64 q.1.2.1) ∧ w.cell? (a.add (i * 6 + 2)) = some (.int .i64 q.1.2.2.1) ∧ w.cell? (a.add (i * 6 + 3)) = some (.int .i64 q.1.2.2.2) ∧ w.cell? (a.add (i * 6 + 4)) = some (.int .i64 q.2.1) ∧ w.cell? (a.add (i * 6 + 5)) = some (.bool q.2.2) := by
      intro i hil
      obtain ⟨cs', hc, ht⟩ := hi i (by omega)
      rw [hE] at hc
      obtain ⟨y0, y1, y2, n', -, hlen, f0, f1, f2⟩ := trod_struct3 Try.underlying63 ht
      obtain ⟨z0, z1, z2, z3, n'', -, hlen2, s0, s1, s2, s3⟩ := trod_struct4 Try.underlying61 f0
      obtain ⟨_, hcl, hat⟩ := World.cells?_some hc
      rw [hE] at hlen
      obtain ⟨n0, g0, -⟩ := DataW.trod_int Try.underlying3 s0
      obtain ⟨n1, g1, -⟩ := DataW.trod_int Try.underlying3 s1
      obtain ⟨n2, g2, -⟩ := DataW.trod_int Try.underlying3 s2
      obtain ⟨n3, g3, -⟩ := DataW.trod_int Try.underlying3 s3
      obtain ⟨n4, g4, -⟩ := DataW.trod_int Try.underlying3 f1
      obtain ⟨n5, g5, -⟩ := DataW.trod_bool Try.underlying4 f2
      match cs', hlen with
      | [c0, c1, c2, c3, c4, c5], _ =>
        have k0 : c0 = .int .i64 n0 := by simpa [hI, hC] using congrArg List.head? g0
        have k1 : c1 = .int .i64 n1 := by simpa [hI, hC] using congrArg List.head? g1
        have k2 : c2 = .int .i64 n2 := by simpa [hI, hC] using congrArg List.head? g2
        have k3 : c3 = .int .i64 n3 := by simpa [hI, hC] using congrArg List.head? g3
        have k4 : c4 = .int .i64 n4 := by simpa [hI, hC] using congrArg List.head? g4
        have k5 : c5 = .bool n5 := by simpa [hI, hC, hO] using congrArg List.head? g5
        refine ⟨((n0, n1, n2, n3), n4, n5), ?_, ?_, ?_, ?_, ?_, ?_⟩
        · have := hat 0 (by omega); rw [Go.Deep.add_add] at this; rw [← k0]; exact this
        · have := hat 1 (by omega); rw [Go.Deep.add_add] at this; rw [← k1]; exact this
        · have := hat 2 (by omega); rw [Go.Deep.add_add] at this; rw [← k2]; exact this
        · have := hat 3 (by omega); rw [Go.Deep.add_add] at this; rw [← k3]; exact this
        · have := hat 4 (by omega); rw [Go.Deep.add_add] at this; rw [← k4]; exact this
        · have := hat 5 (by omega); rw [Go.Deep.add_add] at this; rw [← k5]; exact this
    obtain ⟨y, hy⟩ := choose_lt each
    exact ⟨some a, len, cap, _, hcs, rd_ents y hy, hl, by unfold maxLen at hm; omega⟩
end Go.Proofs.Ytpgmfjipkhldmaa
