/- Within a region that draws its order the condition on the world may be strengthened; no program in sight. -/
import Derived.Test.YtdkfiikbofamfaaBlk
import Derived.Deep.RegionHeld3
namespace Go.Proofs.Ytdkfiikbofamfaa
set_option linter.unusedVariables false
open Go.RowKit
theorem Blk.newAt {w : World} {n : Nat} (T : TypeId) (cs : Array Value) (h : w.heap.size = n) : Blk (w.alloc (.cells cs T)) n T cs := h ▸ Blk.new w T cs
theorem wpAnyH_strong {P : Program} {md : Region.Mode} {ops : Array Oper} {Q : Exit → Act → World → Prop} {S S' : World → Prop} (hS : ∀ w, S' w → S w) :
    ∀ (fuel : Nat) (listed : Array Bool) (a : Act) (w : World), wpAnyH P md ops Q S' fuel listed a w → wpAnyH P md ops Q S fuel listed a w
  | 0, _, _, _, h => h
  | fuel + 1, _, _, _, h => ⟨h.1, fun i hi => wpOp_mono (fun a' w' h' => ⟨hS _ h'.1, wpAnyH_strong hS fuel _ a' w' h'.2⟩) (h.2 i hi)⟩
theorem wpAnyH_to {P : Program} {md : Region.Mode} {ops : Array Oper} {Q : Exit → Act → World → Prop} {S S' : World → Prop} {fuel : Nat} {listed : Array Bool} {a : Act} {w : World} (hS : ∀ w, S' w → S w) (hw : S' w)
    (h : S' w → wpAnyH P md ops Q S' fuel listed a w) : wpAnyH P md ops Q S fuel listed a w := wpAnyH_strong hS _ _ _ _ (h hw)
end Go.Proofs.Ytdkfiikbofamfaa
