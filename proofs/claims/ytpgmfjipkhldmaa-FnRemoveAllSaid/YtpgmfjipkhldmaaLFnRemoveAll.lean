/- The row of the law FnRemoveAll out of its walk: for every input the call returns true, and each argument reads behind the call as it read before. No conditions. -/
import Derived.Test.YtpgmfjipkhldmaaRows
import Derived.Test.YtpgmfjipkhldmaaLwRRemoveAll
import Derived.WalkKit
import Derived.ProofKit
import Derived.OpenShut
import Derived.ShutString
import Derived.ChangeOld
import Derived.Below
import Derived.Lib.SmallJoins
import Derived.Deep.Slices
import Derived.Deep.Matrix
namespace Go.Proofs.Ytpgmfjipkhldmaa.fnRemoveAll
open Go.ChangeShapes Go.WideShapes Go.ChangeAt Go.RowKit Go.Joins Go.Deep
open Go.ChangeMaps (open_string shut_string)
set_option linter.unusedVariables false
theorem own : ownKnob Try.prog.godebug = none := by kernel_rfl
theorem laidOut : laidOutB Try.prog = true := by kernel_rfl
theorem rd_of_open {w : World} {k : IntKind} {x : Addr} {l c : Nat} {zs : List Int} (hl : l ≤ c) (hz : zs.length = c) (hcell : ∀ i, i < zs.length → w.cell? (x.add i) = some (.int k (zs.getD i 0))) (hwz : ∀ n ∈ zs, (Lit.int k n).wf = true) :
    ∃ zs' : List Int, Rd w 0 w.heap.size 1 (some x) l (zs'.map (Value.int k)) ∧ (∀ n ∈ zs', (Lit.int k n).wf = true) ∧ l ≤ c := by
  refine ⟨zs.take l, ⟨by simp; omega, fun h0 => ?_⟩, fun n hn => hwz n (List.mem_of_mem_take hn), hl⟩
  obtain ⟨b, o, sp⟩ := x
  have h1 := hcell 0 (by omega)
  have hsp : sp = none := by simpa [Addr.add] using World.cell?_spot h1
  subst hsp
  refine ⟨b, o, rfl, Nat.zero_le _, ?_, fun j u hu => ?_⟩
  · have := World.block_lt_of_cell? w _ h1
    simpa [Addr.add_lit] using this
  · have hj : j < l := by
      have := (List.getElem?_eq_some_iff.1 hu).1
      simp at this
      omega
    have h2 := hcell j (by omega)
    rw [Addr.add_lit] at h2
    rw [h2, ← hu]
    rw [List.getElem?_map, List.getElem?_take, if_pos hj]
    simp [List.getD, show j < zs.length by omega]
set_option maxRecDepth 100000 in
theorem lifted (os : Os) (started : os.Started) (H : Type) (enc : TypeId × Value → H) :
    ReturnsInHanded {} Try.checked os 5 .any (Rows.fnRemoveAllSpec.pre6 enc Try.prog Try.f5 Rows.fnRemoveAllRow.domain false) (Rows.fnRemoveAllSpec.post enc Try.prog Try.f5 false true false false) := by
  refine returnsInHanded_of_change (C := Try.checked) own started (by kernel_rfl) Try.func5
    (ChangeSpec.witness6 (enc := enc) (C := Try.checked) false ⟨#[], #[.slice none 0 0], []⟩ 8 (by kernel_rfl) (by kernel_rfl) (by kernel_rfl) (by kernel_rfl)) ?_
  intro W base args ds gs before hval0 hW hcnd _
  have hval : ∀ (j : Nat) t v, Try.f5.params[j]? = some t → args[j]? = some v → Value.okWide Try.prog W .any base t v := hval0
  have hW' := hW
  obtain ⟨p, q, hA0, hV, rfl, hfz, hnd⟩ := hW
  have hA : DataW.TrodAll enc Try.prog W 0 (fun _ => true) true Try.f5.params.toList args.toList ds p := hA0
  rw [Try.params5] at hA hval
  obtain ⟨v0, vs0, d0, ds0, p0, q0, hargs, rfl, rfl, h0, r0⟩ := trodAll_cons hA
  obtain ⟨rfl, rfl, rfl⟩ := trodAll_nil r0
  obtain rfl : args = #[v0] := by cases args; simp_all
  obtain ⟨rfl, rfl⟩ := trodVars_none hV
  have k0 := h0
  have lt0 : ∀ x ∈ p0, x.block < W.heap.size := by obtain ⟨m, hm⟩ := k0; exact DataW.trod_lt m _ _ _ hm
  obtain ⟨A0, len0, cap0, rfl⟩ := okWide_slice Try.underlying22 (hval 0 22 v0 rfl rfl)
  obtain ⟨bs0, rd0, wf0, lc0⟩ : ∃ zs : List Int, Rd W 0 W.heap.size 1 A0 len0 (zs.map (Value.int .u8)) ∧ (∀ n ∈ zs, (Lit.int .u8 n).wf = true) ∧ len0 ≤ cap0 := by
    obtain ⟨fuel, hf⟩ := h0
    rcases open_ints Try.underlying22 Try.underlying5 (by kernel_rfl) hf with ⟨hcs, _⟩ | ⟨x, l, c, zs, hcs, _, hl, hm, hz, _, hcell, hwz⟩
    · simp [Value.cells] at hcs
      obtain ⟨rfl, rfl, rfl⟩ := hcs
      exact ⟨[], Rd.nil _ _ _ _ _, by simp, Nat.le_refl _⟩
    · simp [Value.cells] at hcs
      obtain ⟨rfl, rfl, rfl⟩ := hcs
      exact rd_of_open hl (by simpa using hz) hcell hwz
  clear hA0 hval0
  refine (law_RemoveAll 0 W.heap.size len0 cap0 A0 _ W rd0 (Bytes.of wf0) lc0).mono fun e W' ⟨he, bel⟩ => ?_
  subst he
  exact ⟨_, rfl, _, _, _, [], _, [], hW', trodAll_mk1 (shut_bool Try.underlying4 _), (trodAll_cons_mk (Below.trod laidOut (by kernel_rfl) (of_decide_eq_true (by kernel_rfl)) k0 bel lt0) trodAll_mk0), rfl, bel.frame _, fun h => by cases h⟩

theorem over : Rows.fnRemoveAllRow.holds Try.pinned (OpenSpec.ofChange Rows.fnRemoveAllSpec) :=
  OpenClaim.holds_of_wide 5 Try.f5 rfl rfl rfl rfl rfl rfl rfl ⟨rfl, rfl, rfl, rfl, rfl⟩ rfl rfl rfl rfl rfl (by kernel_rfl) Try.func5 (by kernel_rfl)
    (of_decide_eq_true (by kernel_rfl)) (by unfold Func.isWrapper; first | (rw [if_pos (by decide +kernel)]; kernel_rfl) | (rw [if_neg (by decide +kernel)]; exact ⟨rfl, rfl⟩))
    (fun os started H enc _ => lifted os started H enc)

theorem proved : Rows.FnRemoveAllSaid := over
end Go.Proofs.Ytpgmfjipkhldmaa.fnRemoveAll
