/- Queues as an argument, opened: rows of integers in memory. -/
import Derived.Test.YtccepnhnmpmkdaaMat
import Derived.Test.YtccepnhnmpmkdaaRows
import Derived.WalkKit
import Derived.ProofKit
import Derived.OpenShut
import Derived.Lib.SmallJoins
import Derived.Deep.Slices
import Derived.Deep.Matrix
namespace Go.Proofs.Ytccepnhnmpmkdaa
open Go.ChangeShapes Go.WideShapes Go.RowKit Go.Joins Go.Deep
set_option linter.unusedVariables false
theorem open_agg1 {P : Program} {w : World} {base : Nat} {held : Bool} {H : Type} {enc : TypeId × Value → H} {spare : Nat → Bool} {r : Reach} {b0 : Nat} {t : TypeId} {f0 : Field} {v : Value} {d : DataW H} {p : List MemPlace} (hs : P.underlying t = some (.struct #[f0])) (hone : oneCellFields P #[f0] = true) (hC : P.cellsOf t = 1)
    (hv : Value.okWide P w r b0 t v) (h : DataW.Trod enc P w base spare held t v d p) :
    ∃ (v0 : Value) (y0 : DataW H × List MemPlace) (n : Nat), v = .agg #[v0] ∧ d = .agg [y0.1] ∧ p = y0.2 ∧ DataW.trod enc P w base spare held n f0.type [v0] = some y0 := by
  obtain ⟨cs, rfl, hsz⟩ := okWide_struct hs hv
  have h1 : cs.size = 1 := hsz.trans hC
  obtain ⟨l⟩ := cs
  match l, h1 with
  | [c0], _ =>
    obtain ⟨fuel, hf⟩ := h
    obtain ⟨xs, n, _, hx, hl, hlen, hff⟩ := DataW.trod_struct hs hf
    match xs, hlen with
    | [y0], _ =>
      obtain ⟨o0, k0⟩ := hone_of hone 0 f0 rfl
      have h0 := hff 0 f0 rfl
      simp only [Prod.mk.injEq] at hx
      exact ⟨c0, y0, n, rfl, by simpa using hx.1, by simpa using hx.2, by simpa [Value.cells, o0, k0] using h0⟩
theorem spot_none {w : World} {x : Addr} {v : Value} (h : w.cell? x = some v) : x.spot = none := World.cell?_spot h
theorem rd_cells {w : World} {x : Addr} {l : Nat} {us : List Value} (hlen : us.length = l) (hcell : ∀ (i : Nat) (u : Value), us[i]? = some u → w.cell? (x.add i) = some u) : Rd w 0 w.heap.size 1 (some x) l us := by
  refine ⟨by omega, fun h0 => ?_⟩
  obtain ⟨b, o, sp⟩ := x
  have h1 := hcell 0 _ (List.getElem?_eq_getElem (by omega))
  have hsp : sp = none := by simpa [Addr.add] using World.cell?_spot h1
  subst hsp
  refine ⟨b, o, rfl, Nat.zero_le _, ?_, fun j u hu => ?_⟩
  · have := World.block_lt_of_cell? w _ h1
    simpa [Addr.add_lit] using this
  · have h2 := hcell j u hu
    rwa [Addr.add_lit] at h2
theorem rows_of_open {w : World} {a : Addr} {len cap : Nat} {A : Nat → Option Addr} {L C : Nat → Nat} {Z : Nat → List Int} (hl : len ≤ cap)
    (h : ∀ r, r < cap → w.cell? (a.add r) = some (.slice (A r) (L r) (C r)) ∧ L r ≤ C r ∧ C r ≤ maxLen ∧ (Z r).length = C r ∧ (A r = none → C r = 0) ∧ ∀ a', A r = some a' → ∀ c, c < C r → w.cell? (a'.add c) = some (.int .i64 ((Z r).getD c 0))) :
    ∃ yss : List (List Int), Rows w 0 w.heap.size (some a) len yss ∧ ∀ ys ∈ yss, ys.length ≤ 9223372036854775807 := by
  have hlr : ∀ r, r < len → ((Z r).take (L r)).length = L r := fun r hr => by
    obtain ⟨_, h2, _, h4, _⟩ := h r (by omega)
    rw [List.length_take]; omega
  refine ⟨(List.range len).map fun r => (Z r).take (L r), ⟨by simp, (List.range len).map fun r => .slice (A r) (L r) (C r), rd_cells (by simp) fun i u hu => ?_, fun k ys hk => ?_⟩, fun ys hys => ?_⟩
  · have hi : i < len := by have := (List.getElem?_eq_some_iff.1 hu).1; simpa using this
    rw [List.getElem?_map, List.getElem?_range hi] at hu
    simp only [Option.map_some, Option.some.injEq] at hu
    rw [← hu]
    exact (h i (by omega)).1
  · have hkl : k < len := by have := (List.getElem?_eq_some_iff.1 hk).1; simpa using this
    rw [List.getElem?_map, List.getElem?_range hkl] at hk
    simp only [Option.map_some, Option.some.injEq] at hk
    subst hk
    obtain ⟨h1, h2, h3, h4, h5, h6⟩ := h k (by omega)
    have hlk := hlr k hkl
    refine ⟨A k, C k, by rw [List.getElem?_map, List.getElem?_range hkl, hlk]; rfl, by rw [hlk]; exact h2, ?_⟩
    rw [hlk]
    cases hA : A k with
    | none =>
      have h0 : L k = 0 := by have := h5 hA; omega
      rw [h0]
      simpa [ints] using Rd.nil w 0 w.heap.size 1 none
    | some x =>
      refine rd_cells (by rw [ints_length, hlk]) fun i u hu => ?_
      have hi : i < L k := by have := (List.getElem?_eq_some_iff.1 hu).1; rw [ints_length, hlk] at this; exact this
      rw [h6 x hA i (by omega), ← hu]
      unfold ints
      rw [List.getElem?_map, List.getElem?_take, if_pos hi]
      simp [List.getD, show i < (Z k).length by omega]
  · obtain ⟨r, hr, rfl⟩ := List.mem_map.1 hys
    rw [List.mem_range] at hr
    rw [hlr r hr]
    obtain ⟨_, h2, h3, _⟩ := h r (by omega)
    unfold maxLen at h3
    omega
theorem open_queues {w : World} {H : Type} {enc : TypeId × Value → H} {fuel : Nat} {c : Value} {x : DataW H × List MemPlace} (h : DataW.trod enc Try.prog w 0 (fun _ => true) true fuel 22 [c] = some x) :
    ∃ (A : Option Addr) (len cap : Nat) (yss : List (List Int)), c = .slice A len cap ∧ Rows w 0 w.heap.size A len yss ∧ len ≤ cap ∧ len ≤ 9223372036854775807 ∧ ∀ ys ∈ yss, ys.length ≤ 9223372036854775807 := by
  rcases open_int_rows Try.underlying22 Try.underlying38 Try.underlying3 (by kernel_rfl) (by kernel_rfl) h with ⟨hcs, _⟩ | ⟨a, len, cap, A, L, C, Z, hcs, _, hl, hm, _, hr⟩
  · simp only [List.cons.injEq, and_true] at hcs
    exact ⟨none, 0, 0, [], hcs, Rows.nil _ _ _ _, Nat.le_refl _, by omega, by simp⟩
  · simp only [List.cons.injEq, and_true] at hcs
    obtain ⟨yss, h1, h2⟩ := rows_of_open (w := w) hl (fun r hrc => by
      obtain ⟨e1, e2, e3, e4, e5, e6, e7⟩ := hr r hrc
      exact ⟨e1, e2, e3, e4, e6, fun a' ha => (e7 a' ha).2⟩)
    exact ⟨some a, len, cap, yss, hcs, h1, hl, by unfold maxLen at hm; omega, h2⟩
end Go.Proofs.Ytccepnhnmpmkdaa
