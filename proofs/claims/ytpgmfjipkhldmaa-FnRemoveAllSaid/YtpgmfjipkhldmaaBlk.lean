/- Blocks that are known whole. -/
import Derived.Test.YtpgmfjipkhldmaaDraw1
namespace Go.Proofs.Ytpgmfjipkhldmaa
set_option linter.unusedVariables false
open Go.RowKit

/-- Block b holds these cells, of this type, and may be written. -/
def Blk (w : World) (b : Nat) (T : TypeId) (cs : Array Value) : Prop := w.heap[b]? = some (.cells cs T (0, 0))
section
variable {w w' : World} {b : Nat} {T : TypeId} {cs : Array Value}
theorem Blk.lt (h : Blk w b T cs) : b < w.heap.size := (Array.getElem?_eq_some_iff.1 h).1
theorem Blk.new (w : World) (T : TypeId) (cs : Array Value) : Blk (w.alloc (.cells cs T)) w.heap.size T cs := heap_alloc_new w _
theorem Blk.alloc (h : Blk w b T cs) (o : Obj) : Blk (w.alloc o) b T cs := (Below.heap_alloc _ _ _ h.lt).trans h
theorem Blk.drew (h : Blk w b T cs) : Blk w.drew b T cs := h
theorem Blk.set (h : Blk w b T cs) (i : Nat) (u : Value) : Blk (w.setCell ⟨b, i, none⟩ u) b T (cs.setIfInBounds i u) := heap_setCell_same w b i cs T u h
theorem Blk.other (h : Blk w b T cs) {p : Addr} (hp : b ≠ p.block) (u : Value) : Blk (w.setCell p u) b T cs := (Below.heap_setCell _ _ _ _ hp).trans h
theorem Blk.fr {B B' : Nat} (h : Blk w b T cs) (hf : Fr B B' w w') (hb : b < B ∨ B' ≤ b) : Blk w' b T cs := (hf.block b h.lt hb).trans h
theorem Blk.below (h : Blk w b T cs) (hb : Below w.heap.size w w') : Blk w' b T cs := (hb.block b h.lt).trans h
theorem Blk.belowT {W : Nat} (h : Blk w b T cs) (hb : Below W w w') (hW : b < W) : Blk w' b T cs := (hb.block b hW).trans h
theorem Blk.cell (h : Blk w b T cs) (i : Nat) {v : Value} (hv : cs[i]? = some v) : w.cell? ⟨b, i, none⟩ = some v := (cell_of_row w b i cs T (0, 0) h).trans hv
theorem Blk.free (h : Blk w b T cs) : ∀ i, w.frozen? ⟨b, i, none⟩ = false := fun i => frozen_of_row w b i cs T h
theorem Fr.setOut {B B' : Nat} (h : Fr B B' w w') {p : Addr} (hp : w.heap.size ≤ p.block) (u : Value) : Fr B B' w (w'.setCell p u) :=
  h.own (T' := p.block + 1) ((Fr.refl _ _ w').setCell hp (Nat.lt_succ_self _) u)
theorem Fr.cells {g : Nat} (h : Fr g (g + 1) w w') : (∀ b o, g < b → b < w.heap.size → w'.cell? ⟨b, o, none⟩ = w.cell? ⟨b, o, none⟩) ∧ (∀ b o, b < g → b < w.heap.size → w'.cell? ⟨b, o, none⟩ = w.cell? ⟨b, o, none⟩) ∧
    (∀ b o, g < b → b < w.heap.size → w'.frozen? ⟨b, o, none⟩ = w.frozen? ⟨b, o, none⟩) ∧ (∀ b o, b < g → b < w.heap.size → w'.frozen? ⟨b, o, none⟩ = w.frozen? ⟨b, o, none⟩) :=
  ⟨fun b o h1 h2 => World.cell?_of_block (h.block b h2 (.inr (by omega))), fun b o h1 h2 => World.cell?_of_block (h.block b h2 (.inl h1)), fun b o h1 h2 => World.frozen?_of_block (h.block b h2 (.inr (by omega))), fun b o h1 h2 => World.frozen?_of_block (h.block b h2 (.inl h1))⟩
theorem Rdr.drew {g N : Nat} (h : Rdr w g N) : Rdr w.drew g N := h
theorem Blk.held {x y z : Value} (h : Blk w b T #[x, y, z]) : Blk w b T #[x, y, z] ∧ w.cell? ⟨b, 0, none⟩ = some x ∧ w.cell? ⟨b, 1, none⟩ = some y ∧ w.cell? ⟨b, 2, none⟩ = some z :=
  ⟨h, h.cell 0 rfl, h.cell 1 rfl, h.cell 2 rfl⟩
theorem Rdr.alloc {g N : Nat} (h : Rdr w g N) (o : Obj) : Rdr (w.alloc o) g N := h.below ((Below.refl _ _).alloc (Nat.le_refl _) o)
theorem Rdr.set {g N : Nat} (h : Rdr w g N) {p : Addr} (hp : g < p.block) (u : Value) : Rdr (w.setCell p u) g N := h.fr (B := p.block) (T := p.block + 1) ((Fr.refl _ _ _).setCell (Nat.le_refl _) (Nat.lt_succ_self _) u) (.inl hp) (Nat.le_of_lt hp)
end
end Go.Proofs.Ytpgmfjipkhldmaa
