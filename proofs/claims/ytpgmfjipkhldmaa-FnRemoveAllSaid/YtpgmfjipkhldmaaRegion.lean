/- Within a region that draws its order the condition on the world may be strengthened; no program in sight. -/
import Derived.Test.YtpgmfjipkhldmaaBlk
import Derived.Deep.RegionHeld3
namespace Go.Proofs.Ytpgmfjipkhldmaa
set_option linter.unusedVariables false
open Go.RowKit
theorem Blk.newAt {w : World} {n : Nat} (T : TypeId) (cs : Array Value) (h : w.heap.size = n) : Blk (w.alloc (.cells cs T)) n T cs := h ▸ Blk.new w T cs
section
variable {w W w' : World} {B T B' T' size n c b : Nat} {e : TypeId} {A : Option Addr} {xs : List Value} {cs : Array Value}
/-- What was known of a world that a call's world has grown out of, behind that call. -/
theorem Own.via (h : Own w B T e size A n c xs) (hb : Below W.heap.size W w') (hW : Below w.heap.size w W) : Own w' B T e size A n c xs := (h.below hW).below hb
theorem Rd.via (h : Rd w B T size A n xs) (hb : Below W.heap.size W w') (hW : Below w.heap.size w W) : Rd w' B T size A n xs := (h.below hW).below hb
theorem Blk.via (h : Blk w b e cs) (hb : Below W.heap.size W w') (hW : Below w.heap.size w W) : Blk w' b e cs := (h.below hW).below hb
theorem Own.viaF (h : Own w B T e size A n c xs) (hf : Fr B' T' W w') (hW : Below w.heap.size w W) (hd : T ≤ B' ∨ T' ≤ B) : Own w' B T e size A n c xs := (h.below hW).fr hf hd
theorem Rd.viaF (h : Rd w B T size A n xs) (hf : Fr B' T' W w') (hW : Below w.heap.size w W) (hd : T ≤ B' ∨ T' ≤ B) : Rd w' B T size A n xs := (h.below hW).fr hf hd
theorem Blk.viaF (h : Blk w b e cs) (hf : Fr B' T' W w') (hW : Below w.heap.size w W) (hd : b < B' ∨ T' ≤ b) : Blk w' b e cs := (h.below hW).fr hf hd
end
theorem wpAnyH_strong {P : Program} {md : Region.Mode} {ops : Array Oper} {Q : Exit → Act → World → Prop} {S S' : World → Prop} (hS : ∀ w, S' w → S w) :
    ∀ (fuel : Nat) (listed : Array Bool) (a : Act) (w : World), wpAnyH P md ops Q S' fuel listed a w → wpAnyH P md ops Q S fuel listed a w
  | 0, _, _, _, h => h
  | fuel + 1, _, _, _, h => ⟨h.1, fun i hi => wpOp_mono (fun a' w' h' => ⟨hS _ h'.1, wpAnyH_strong hS fuel _ a' w' h'.2⟩) (h.2 i hi)⟩
theorem wpAnyH_to {P : Program} {md : Region.Mode} {ops : Array Oper} {Q : Exit → Act → World → Prop} {S S' : World → Prop} {fuel : Nat} {listed : Array Bool} {a : Act} {w : World} (hS : ∀ w, S' w → S w) (hw : S' w)
    (h : S' w → wpAnyH P md ops Q S' fuel listed a w) : wpAnyH P md ops Q S fuel listed a w := wpAnyH_strong hS _ _ _ _ (h hw)
end Go.Proofs.Ytpgmfjipkhldmaa
