/- What a draw of a list of integers returns. -/
import Derived.Test.YthjjhlgdljkkfaaDraw1
import Derived.Test.YthjjhlgdljkkfaaInts
namespace Go.Proofs.Ythjjhlgdljkkfaa
set_option linter.unusedVariables false
open Go.RowKit
/-- A drawn list: some integers, in new memory; the reader in block g has gone on. -/
def DrawnInts (w : World) (g N L : Nat) (e : Ending) (w' : World) : Prop :=
  ∃ A c xs, e = .returned (.slice A xs.length c) ∧ Own w' w.heap.size w'.heap.size 3 1 A xs.length c (ints xs) ∧ xs.length ≤ L ∧ Rdr w' g N ∧ Fr g (g + 1) w w'
/-- A drawn list, in new memory. -/
def Drawn (w : World) (L : Nat) (e : Ending) (w' : World) : Prop :=
  ∃ A c xs, e = .returned (.slice A xs.length c) ∧ Own w' w.heap.size w'.heap.size 3 1 A xs.length c (ints xs) ∧ xs.length ≤ L ∧ Below w.heap.size w w'
/-- .. and a drawn number. -/
def DrawnN (w : World) (L : Nat) (e : Ending) (w' : World) : Prop :=
  ∃ A c xs v, e = .returned (.tuple #[.slice A xs.length c, .int .i64 v]) ∧ Own w' w.heap.size w'.heap.size 3 1 A xs.length c (ints xs) ∧ xs.length ≤ L ∧ Below w.heap.size w w'
/-- .. and two drawn numbers. -/
def DrawnNN (w : World) (L : Nat) (e : Ending) (w' : World) : Prop :=
  ∃ A c xs u v, e = .returned (.tuple #[.slice A xs.length c, .int .i64 u, .int .i64 v]) ∧ Own w' w.heap.size w'.heap.size 3 1 A xs.length c (ints xs) ∧ xs.length ≤ L ∧ Below w.heap.size w w'
end Go.Proofs.Ythjjhlgdljkkfaa
