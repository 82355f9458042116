/- The texts that the laws on sending need; what stands behind a statement that keeps a drawn or sent message in a new block. -/
import Derived.Test.YthbfpgdfigilaaaSend2
import Derived.Test.YthbfpgdfigilaaaCaps4
namespace Go.Proofs.Ythbfpgdfigilaaa
set_option linter.unusedVariables false
open Go.RowKit
def CutM (w1 : World) (l : Int) (xs : List Int) (cs : List Cp) (ok : Bool) (u6 u7 : Value) (wx : World) : Prop :=
  ∃ (g : Nat) (A : Option Addr) (c : Nat) (D : Option Addr) (d B M T : Nat), u6 = .pointer (some ⟨g, 0, none⟩) ∧ u7 = .bool ok ∧ Blk wx g 30 #[.int .i64 l, .slice A xs.length c, .slice D cs.length d] ∧ Own wx B M 3 1 A xs.length c (ints xs) ∧ Own wx M T 45 4 D cs.length d (caps cs) ∧
    w1.heap.size ≤ B ∧ B ≤ M ∧ M ≤ T ∧ T ≤ wx.heap.size ∧ (T ≤ g ∨ g < B) ∧ w1.heap.size ≤ g ∧ g < wx.heap.size ∧ Below w1.heap.size w1 wx
end Go.Proofs.Ythbfpgdfigilaaa
