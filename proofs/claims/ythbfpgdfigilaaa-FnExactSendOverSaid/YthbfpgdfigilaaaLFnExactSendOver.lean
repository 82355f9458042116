/- The row of the law FnExactSendOver out of its walk: for every input the call returns true, and each argument reads behind the call as it read before. No conditions. -/
import Derived.Test.YthbfpgdfigilaaaRows
import Derived.Test.YthbfpgdfigilaaaExSendOver
import Derived.Test.YthbfpgdfigilaaaLiftMsg
import Derived.WalkKit
import Derived.ProofKit
import Derived.OpenShut
import Derived.ShutString
import Derived.ChangeOld
import Derived.Below
import Derived.Lib.SmallJoins
import Derived.Deep.Slices
import Derived.Deep.Matrix
namespace Go.Proofs.Ythbfpgdfigilaaa.fnExactSendOver
open Go.ChangeShapes Go.WideShapes Go.ChangeAt Go.RowKit Go.Joins Go.Deep
open Go.ChangeMaps (open_string shut_string)
set_option linter.unusedVariables false
theorem own : ownKnob Try.prog.godebug = none := by kernel_rfl
theorem laidOut : laidOutB Try.prog = true := by kernel_rfl
theorem rd_of_open {w : World} {k : IntKind} {x : Addr} {l c : Nat} {zs : List Int} (hl : l ≤ c) (hz : zs.length = c) (hcell : ∀ i, i < zs.length → w.cell? (x.add i) = some (.int k (zs.getD i 0))) (hwz : ∀ n ∈ zs, (Lit.int k n).wf = true) :
    ∃ zs' : List Int, Rd w 0 w.heap.size 1 (some x) l (zs'.map (Value.int k)) ∧ (∀ n ∈ zs', (Lit.int k n).wf = true) ∧ l ≤ c := by
  refine ⟨zs.take l, ⟨by simp; omega, fun h0 => ?_⟩, fun n hn => hwz n (List.mem_of_mem_take hn), hl⟩
  obtain ⟨b, o, sp⟩ := x
  have h1 := hcell 0 (by omega)
  have hsp : sp = none := by simpa [Addr.add] using World.cell?_spot h1
  subst hsp
  refine ⟨b, o, rfl, Nat.zero_le _, ?_, fun j u hu => ?_⟩
  · have := World.block_lt_of_cell? w _ h1
    simpa [Addr.add_lit] using this
  · have hj : j < l := by
      have := (List.getElem?_eq_some_iff.1 hu).1
      simp at this
      omega
    have h2 := hcell j (by omega)
    rw [Addr.add_lit] at h2
    rw [h2, ← hu]
    rw [List.getElem?_map, List.getElem?_take, if_pos hj]
    simp [List.getD, show j < zs.length by omega]
set_option maxRecDepth 100000 in
theorem lifted (os : Os) (started : os.Started) (H : Type) (enc : TypeId × Value → H) :
    ReturnsInHanded {} Try.checked os 6 .any (Rows.fnExactSendOverSpec.pre6 enc Try.prog Try.f6 Rows.fnExactSendOverRow.domain false) (Rows.fnExactSendOverSpec.post enc Try.prog Try.f6 false true false false) := by
  refine returnsInHanded_of_change (C := Try.checked) own started (by kernel_rfl) Try.func6
    (ChangeSpec.witness6 (enc := enc) (C := Try.checked) false ⟨#[], #[.agg #[.int .i64 0, .slice none 0 0, .slice none 0 0], .agg #[.int .i64 0, .int .i64 0, .int .i64 0, .int .i64 0]], []⟩ 8 (by kernel_rfl) (by kernel_rfl) (by kernel_rfl) (by kernel_rfl)) ?_
  intro W base args ds gs before hval0 hW hcnd _
  have hval : ∀ (j : Nat) t v, Try.f6.params[j]? = some t → args[j]? = some v → Value.okWide Try.prog W .any base t v := hval0
  have hW' := hW
  obtain ⟨p, q, hA0, hV, rfl, hfz, hnd⟩ := hW
  have hA : DataW.TrodAll enc Try.prog W 0 (fun _ => true) true Try.f6.params.toList args.toList ds p := hA0
  rw [Try.params6] at hA hval
  obtain ⟨v0, vs0, d0, ds0, p0, q0, hargs, rfl, rfl, h0, r0⟩ := trodAll_cons hA
  obtain ⟨v1, vs1, d1, ds1, p1, q1, rfl, rfl, rfl, h1, r1⟩ := trodAll_cons r0
  obtain ⟨rfl, rfl, rfl⟩ := trodAll_nil r1
  obtain rfl : args = #[v0, v1] := by cases args; simp_all
  obtain ⟨rfl, rfl⟩ := trodVars_none hV
  have k0 := h0
  have lt0 : ∀ x ∈ p0, x.block < W.heap.size := by obtain ⟨m, hm⟩ := k0; exact DataW.trod_lt m _ _ _ hm
  obtain ⟨c0_0, c0_1, c0_2, y0_0, y0_1, y0_2, m0, rfl, rfl, rfl, hy0_0, hy0_1, hy0_2⟩ := open_agg3 Try.underlying25 (by kernel_rfl) (by kernel_rfl) (hval 0 25 v0 rfl rfl) h0
  obtain ⟨f0_0, e0_0, -, wf0_0⟩ := DataW.trod_int Try.underlying3 hy0_0
  simp only [List.cons.injEq, and_true] at e0_0
  subst e0_0
  have b0_0 := bounds_i64 wf0_0
  obtain ⟨A0, len0, cap0, z0, es0, rd0, wf0, lc0, ml0⟩ : ∃ (A : Option Addr) (len cap : Nat) (zs : List Int), c0_1 = .slice A len cap ∧ Rd W 0 W.heap.size 1 A len (zs.map (Value.int .i64)) ∧ (∀ n ∈ zs, (Lit.int .i64 n).wf = true) ∧ len ≤ cap ∧ len ≤ 9223372036854775807 := by
    rcases open_ints Try.underlying22 Try.underlying3 (by kernel_rfl) hy0_1 with ⟨hcs, _⟩ | ⟨x, l, c, zs, hcs, _, hl, hm, hz, _, hcell, hwz⟩
    · simp only [List.cons.injEq, and_true] at hcs
      exact ⟨none, 0, 0, [], hcs, Rd.nil _ _ _ _ _, by simp, Nat.le_refl _, by omega⟩
    · simp only [List.cons.injEq, and_true] at hcs
      obtain ⟨zs', h1, h2, h3⟩ := rd_of_open hl (by simpa using hz) hcell hwz
      exact ⟨some x, l, c, zs', hcs, h1, h2, h3, by unfold maxLen at hm; omega⟩
  subst es0
  obtain ⟨D0, dlen0, dcap0, q0, ds0, sd0, sc0, sl0⟩ := open_caps hy0_2
  subst ds0
  have k1 := h1
  have lt1 : ∀ x ∈ p1, x.block < W.heap.size := by obtain ⟨m, hm⟩ := k1; exact DataW.trod_lt m _ _ _ hm
  obtain ⟨c1_0, c1_1, c1_2, c1_3, y1_0, y1_1, y1_2, y1_3, m1, rfl, rfl, rfl, hy1_0, hy1_1, hy1_2, hy1_3⟩ := open_agg4 Try.underlying43 (by kernel_rfl) (by kernel_rfl) (hval 1 43 v1 rfl rfl) h1
  obtain ⟨f1_0, e1_0, -, wf1_0⟩ := DataW.trod_int Try.underlying3 hy1_0
  simp only [List.cons.injEq, and_true] at e1_0
  subst e1_0
  have b1_0 := bounds_i64 wf1_0
  obtain ⟨f1_1, e1_1, -, wf1_1⟩ := DataW.trod_int Try.underlying3 hy1_1
  simp only [List.cons.injEq, and_true] at e1_1
  subst e1_1
  have b1_1 := bounds_i64 wf1_1
  obtain ⟨f1_2, e1_2, -, wf1_2⟩ := DataW.trod_int Try.underlying3 hy1_2
  simp only [List.cons.injEq, and_true] at e1_2
  subst e1_2
  have b1_2 := bounds_i64 wf1_2
  obtain ⟨f1_3, e1_3, -, wf1_3⟩ := DataW.trod_int Try.underlying3 hy1_3
  simp only [List.cons.injEq, and_true] at e1_3
  subst e1_3
  have b1_3 := bounds_i64 wf1_3
  clear hA0 hval0
  refine (law_ExactSendOver 0 W.heap.size len0 cap0 dlen0 dcap0 f0_0 A0 D0 z0 q0 f1_0 f1_1 f1_2 f1_3 W rd0 sd0 ml0 sl0).mono fun e W' ⟨he, bel⟩ => ?_
  subst he
  exact ⟨_, rfl, _, _, _, [], _, [], hW', trodAll_mk1 (shut_bool Try.underlying4 _), (trodAll_cons_mk (Below.trod laidOut (by kernel_rfl) (of_decide_eq_true (by kernel_rfl)) k0 bel lt0) (trodAll_cons_mk (Below.trod laidOut (by kernel_rfl) (of_decide_eq_true (by kernel_rfl)) k1 bel lt1) trodAll_mk0)), rfl, bel.frame _, fun h => by cases h⟩

theorem over : Rows.fnExactSendOverRow.holds Try.pinned (OpenSpec.ofChange Rows.fnExactSendOverSpec) :=
  OpenClaim.holds_of_wide 6 Try.f6 rfl rfl rfl rfl rfl rfl rfl ⟨rfl, rfl, rfl, rfl, rfl⟩ rfl rfl rfl rfl rfl (by kernel_rfl) Try.func6 (by kernel_rfl)
    (of_decide_eq_true (by kernel_rfl)) (by unfold Func.isWrapper; first | (rw [if_pos (by decide +kernel)]; kernel_rfl) | (rw [if_neg (by decide +kernel)]; exact ⟨rfl, rfl⟩))
    (fun os started H enc _ => lifted os started H enc)

theorem proved : Rows.FnExactSendOverSaid := over
end Go.Proofs.Ythbfpgdfigilaaa.fnExactSendOver
