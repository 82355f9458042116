/-
  No cell of these rows narrows 'for every input' (looked for: loops, veiled, ifaces, maps, wideKeys, modest, calm, conditions, laid).
  DERIVED. THE GIVEN ROWS OF THIS SEAT. 9 by the template 'for every input the law returns true; each argument reads behind the call as it read before'; 0 by the template 'total and deterministic' (their statements: YthjjhlgdljkkfaaTotals.lean).
  GIVEN WITH THE SEED: the statements are not yours to turn. If you find one false, say at which input.
  Laid BY PROGRAM, IN A SANDBOX (cutbox-rows.mjs): the forced cells as the released guide's own fill.sh prints them over the translation c99a7fce7b939a7f… (all of the seat's roots in one cut). By AI agents, Wed Nov 11 2026. No macro, syntax, notation, axiom, sorry.
-/
import Derived.Test.YthjjhlgdljkkfaaChecked
import GoSem.Claim
import GoSem.ClaimJoined
import GoSem.ClaimMapViews
import Derived.JoinedTies
import Derived.KernelRfl
namespace Go.Proofs.Ythjjhlgdljkkfaa
/- THE CELL 'sum', in the pinned program and in every row, IS THE sha256 OF THE DUMP (.gsa) THAT YthjjhlgdljkkfaaProg.lean LOADS. Nothing in Lean hashes anything: it is a label: what it is worth is what the hold of that sum in a sandbox is worth. -/
noncomputable def Try.pinned : Pinned := { name := "ythjjhlgdljkkfaa", sum := "c99a7fce7b939a7f7955f1320abc4808015941684b46634014c6691e9c46b216", checked := Try.checked }
namespace Rows
def none {H : Type} : Left H := { results := [], args := [] }

/-- 'laws.FnExactPlacesValid': WHATEVER THE INPUT: true; the input reads as it did. -/
def fnExactPlacesValidSpec : ChangeSpec := { name := "fnExactPlacesValid", fn := fun _ => fun
  | [d] => { results := [.lit (.bool true)], args := [d] }
  | _ => none }
def fnExactPlacesValidRow : OpenClaim := { program := "ythjjhlgdljkkfaa", sum := "c99a7fce7b939a7f7955f1320abc4808015941684b46634014c6691e9c46b216", func := "loop.example/capkernel/laws.FnExactPlacesValid", spec := "fnExactPlacesValid", apart := false }
def FnExactPlacesValidSaid : Prop := fnExactPlacesValidRow.holds Try.pinned (OpenSpec.ofChange fnExactPlacesValidSpec)

/-- ITS FALSE NEIGHBOUR: 'it returns false'. Refute it at one input. -/
def fnExactPlacesValidWrong : ChangeSpec := { name := "fnExactPlacesValid", fn := fun _ => fun
  | [d] => { results := [.lit (.bool false)], args := [d] }
  | _ => none }
def FnExactPlacesValidWrongFalsely : Prop := fnExactPlacesValidRow.holds Try.pinned (OpenSpec.ofChange fnExactPlacesValidWrong)

/-- 'laws.FnExactFindPlace': WHATEVER THE INPUT: true; the input reads as it did. -/
def fnExactFindPlaceSpec : ChangeSpec := { name := "fnExactFindPlace", fn := fun _ => fun
  | [d1, d2] => { results := [.lit (.bool true)], args := [d1, d2] }
  | _ => none }
def fnExactFindPlaceRow : OpenClaim := { program := "ythjjhlgdljkkfaa", sum := "c99a7fce7b939a7f7955f1320abc4808015941684b46634014c6691e9c46b216", func := "loop.example/capkernel/laws.FnExactFindPlace", spec := "fnExactFindPlace", apart := false }
def FnExactFindPlaceSaid : Prop := fnExactFindPlaceRow.holds Try.pinned (OpenSpec.ofChange fnExactFindPlaceSpec)

/-- ITS FALSE NEIGHBOUR: 'it returns false'. Refute it at one input. -/
def fnExactFindPlaceWrong : ChangeSpec := { name := "fnExactFindPlace", fn := fun _ => fun
  | [d1, d2] => { results := [.lit (.bool false)], args := [d1, d2] }
  | _ => none }
def FnExactFindPlaceWrongFalsely : Prop := fnExactFindPlaceRow.holds Try.pinned (OpenSpec.ofChange fnExactFindPlaceWrong)

/-- 'laws.FnExactMovePlace': WHATEVER THE INPUT: true; the input reads as it did. -/
def fnExactMovePlaceSpec : ChangeSpec := { name := "fnExactMovePlace", fn := fun _ => fun
  | [d1, d2, d3] => { results := [.lit (.bool true)], args := [d1, d2, d3] }
  | _ => none }
def fnExactMovePlaceRow : OpenClaim := { program := "ythjjhlgdljkkfaa", sum := "c99a7fce7b939a7f7955f1320abc4808015941684b46634014c6691e9c46b216", func := "loop.example/capkernel/laws.FnExactMovePlace", spec := "fnExactMovePlace", unfollowed := true, recurses := true, apart := false }
def FnExactMovePlaceSaid : Prop := fnExactMovePlaceRow.holds Try.pinned (OpenSpec.ofChange fnExactMovePlaceSpec)

/-- ITS FALSE NEIGHBOUR: 'it returns false'. Refute it at one input. -/
def fnExactMovePlaceWrong : ChangeSpec := { name := "fnExactMovePlace", fn := fun _ => fun
  | [d1, d2, d3] => { results := [.lit (.bool false)], args := [d1, d2, d3] }
  | _ => none }
def FnExactMovePlaceWrongFalsely : Prop := fnExactMovePlaceRow.holds Try.pinned (OpenSpec.ofChange fnExactMovePlaceWrong)

/-- 'laws.FnExactSwapPlaces': WHATEVER THE INPUT: true; the input reads as it did. -/
def fnExactSwapPlacesSpec : ChangeSpec := { name := "fnExactSwapPlaces", fn := fun _ => fun
  | [d1, d2, d3] => { results := [.lit (.bool true)], args := [d1, d2, d3] }
  | _ => none }
def fnExactSwapPlacesRow : OpenClaim := { program := "ythjjhlgdljkkfaa", sum := "c99a7fce7b939a7f7955f1320abc4808015941684b46634014c6691e9c46b216", func := "loop.example/capkernel/laws.FnExactSwapPlaces", spec := "fnExactSwapPlaces", unfollowed := true, recurses := true, apart := false }
def FnExactSwapPlacesSaid : Prop := fnExactSwapPlacesRow.holds Try.pinned (OpenSpec.ofChange fnExactSwapPlacesSpec)

/-- ITS FALSE NEIGHBOUR: 'it returns false'. Refute it at one input. -/
def fnExactSwapPlacesWrong : ChangeSpec := { name := "fnExactSwapPlaces", fn := fun _ => fun
  | [d1, d2, d3] => { results := [.lit (.bool false)], args := [d1, d2, d3] }
  | _ => none }
def FnExactSwapPlacesWrongFalsely : Prop := fnExactSwapPlacesRow.holds Try.pinned (OpenSpec.ofChange fnExactSwapPlacesWrong)

/-- 'laws.FnPlacesValid': WHATEVER THE INPUT: true; the input reads as it did. -/
def fnPlacesValidSpec : ChangeSpec := { name := "fnPlacesValid", fn := fun _ => fun
  | [d] => { results := [.lit (.bool true)], args := [d] }
  | _ => none }
def fnPlacesValidRow : OpenClaim := { program := "ythjjhlgdljkkfaa", sum := "c99a7fce7b939a7f7955f1320abc4808015941684b46634014c6691e9c46b216", func := "loop.example/capkernel/laws.FnPlacesValid", spec := "fnPlacesValid", inPlace := ["internal/abi.NoEscape"], apart := false }
def FnPlacesValidSaid : Prop := fnPlacesValidRow.holds Try.pinned (OpenSpec.ofChange fnPlacesValidSpec)

/-- ITS FALSE NEIGHBOUR: 'it returns false'. Refute it at one input. -/
def fnPlacesValidWrong : ChangeSpec := { name := "fnPlacesValid", fn := fun _ => fun
  | [d] => { results := [.lit (.bool false)], args := [d] }
  | _ => none }
def FnPlacesValidWrongFalsely : Prop := fnPlacesValidRow.holds Try.pinned (OpenSpec.ofChange fnPlacesValidWrong)

/-- 'laws.FnFindPlace': WHATEVER THE INPUT: true; the input reads as it did. -/
def fnFindPlaceSpec : ChangeSpec := { name := "fnFindPlace", fn := fun _ => fun
  | [d] => { results := [.lit (.bool true)], args := [d] }
  | _ => none }
def fnFindPlaceRow : OpenClaim := { program := "ythjjhlgdljkkfaa", sum := "c99a7fce7b939a7f7955f1320abc4808015941684b46634014c6691e9c46b216", func := "loop.example/capkernel/laws.FnFindPlace", spec := "fnFindPlace", inPlace := ["internal/abi.NoEscape"], apart := false }
def FnFindPlaceSaid : Prop := fnFindPlaceRow.holds Try.pinned (OpenSpec.ofChange fnFindPlaceSpec)

/-- ITS FALSE NEIGHBOUR: 'it returns false'. Refute it at one input. -/
def fnFindPlaceWrong : ChangeSpec := { name := "fnFindPlace", fn := fun _ => fun
  | [d] => { results := [.lit (.bool false)], args := [d] }
  | _ => none }
def FnFindPlaceWrongFalsely : Prop := fnFindPlaceRow.holds Try.pinned (OpenSpec.ofChange fnFindPlaceWrong)

/-- 'laws.FnMovePlace': WHATEVER THE INPUT: true; the input reads as it did. -/
def fnMovePlaceSpec : ChangeSpec := { name := "fnMovePlace", fn := fun _ => fun
  | [d] => { results := [.lit (.bool true)], args := [d] }
  | _ => none }
def fnMovePlaceRow : OpenClaim := { program := "ythjjhlgdljkkfaa", sum := "c99a7fce7b939a7f7955f1320abc4808015941684b46634014c6691e9c46b216", func := "loop.example/capkernel/laws.FnMovePlace", spec := "fnMovePlace", inPlace := ["internal/abi.NoEscape"], unfollowed := true, recurses := true, apart := false }
def FnMovePlaceSaid : Prop := fnMovePlaceRow.holds Try.pinned (OpenSpec.ofChange fnMovePlaceSpec)

/-- ITS FALSE NEIGHBOUR: 'it returns false'. Refute it at one input. -/
def fnMovePlaceWrong : ChangeSpec := { name := "fnMovePlace", fn := fun _ => fun
  | [d] => { results := [.lit (.bool false)], args := [d] }
  | _ => none }
def FnMovePlaceWrongFalsely : Prop := fnMovePlaceRow.holds Try.pinned (OpenSpec.ofChange fnMovePlaceWrong)

/-- 'laws.FnPlacesTurn': WHATEVER THE INPUT: true; the input reads as it did. -/
def fnPlacesTurnSpec : ChangeSpec := { name := "fnPlacesTurn", fn := fun _ => fun
  | [d1, d2] => { results := [.lit (.bool true)], args := [d1, d2] }
  | _ => none }
def fnPlacesTurnRow : OpenClaim := { program := "ythjjhlgdljkkfaa", sum := "c99a7fce7b939a7f7955f1320abc4808015941684b46634014c6691e9c46b216", func := "loop.example/capkernel/laws.FnPlacesTurn", spec := "fnPlacesTurn", inPlace := ["internal/abi.NoEscape"], unfollowed := true, recurses := true, apart := false }
def FnPlacesTurnSaid : Prop := fnPlacesTurnRow.holds Try.pinned (OpenSpec.ofChange fnPlacesTurnSpec)

/-- ITS FALSE NEIGHBOUR: 'it returns false'. Refute it at one input. -/
def fnPlacesTurnWrong : ChangeSpec := { name := "fnPlacesTurn", fn := fun _ => fun
  | [d1, d2] => { results := [.lit (.bool false)], args := [d1, d2] }
  | _ => none }
def FnPlacesTurnWrongFalsely : Prop := fnPlacesTurnRow.holds Try.pinned (OpenSpec.ofChange fnPlacesTurnWrong)

/-- 'laws.FnSwapPlaces': WHATEVER THE INPUT: true; the input reads as it did. -/
def fnSwapPlacesSpec : ChangeSpec := { name := "fnSwapPlaces", fn := fun _ => fun
  | [d] => { results := [.lit (.bool true)], args := [d] }
  | _ => none }
def fnSwapPlacesRow : OpenClaim := { program := "ythjjhlgdljkkfaa", sum := "c99a7fce7b939a7f7955f1320abc4808015941684b46634014c6691e9c46b216", func := "loop.example/capkernel/laws.FnSwapPlaces", spec := "fnSwapPlaces", inPlace := ["internal/abi.NoEscape"], unfollowed := true, recurses := true, apart := false }
def FnSwapPlacesSaid : Prop := fnSwapPlacesRow.holds Try.pinned (OpenSpec.ofChange fnSwapPlacesSpec)

/-- ITS FALSE NEIGHBOUR: 'it returns false'. Refute it at one input. -/
def fnSwapPlacesWrong : ChangeSpec := { name := "fnSwapPlaces", fn := fun _ => fun
  | [d] => { results := [.lit (.bool false)], args := [d] }
  | _ => none }
def FnSwapPlacesWrongFalsely : Prop := fnSwapPlacesRow.holds Try.pinned (OpenSpec.ofChange fnSwapPlacesWrong)

/- THE SECOND FORM. 'bulk': how many values and letters a reading holds, each counted each time it is reached (what is shared counts as often as it is met; a slice's spare places count too). A statement '..UptoSaid' is the law's where the arguments, and the package variables that the reading takes, are together of bulk at most 1048576: NARROWER than '..Said'. Prove '..Said' where nothing that the law and all that it calls make is longer than what came in: it says more and counts as full. Else prove '..UptoSaid'. A law counts once. -/
mutual
def uptoBulk {H : Type} : DataW H → Nat
  | .lit (.string bytes) => bytes.length + 1
  | .lit _ => 1
  | .nil => 1
  | .ptr d => uptoBulk d + 1
  | .slice elems spare => uptoBulkAll elems + uptoBulkAll spare + 1
  | .agg parts => uptoBulkAll parts + 1
  | .iface _ d => uptoBulk d + 1
  | .map entries => uptoBulkEntries entries + 1
  | .held _ => 1
def uptoBulkAll {H : Type} : List (DataW H) → Nat
  | [] => 0
  | d :: r => uptoBulk d + uptoBulkAll r
def uptoBulkEntries {H : Type} : List (Lit × DataW H) → Nat
  | [] => 0
  | x :: r => uptoBulkEntry x + uptoBulkEntries r
def uptoBulkEntry {H : Type} : Lit × DataW H → Nat
  | (.string bytes, d) => bytes.length + uptoBulk d + 1
  | (_, d) => uptoBulk d + 1
 end
def uptoSmall : (H : Type) → List (DataW H) → Bool := fun _ ds => decide (uptoBulkAll ds ≤ 1048576)
def OpenSpec.upto (s : _root_.Go.ChangeSpec) : _root_.Go.OpenSpec := { _root_.Go.OpenSpec.ofChange s with cond := some uptoSmall }

/-- 'laws.FnExactPlacesValid', WHERE WHAT IT READS IS OF BULK AT MOST 1048576: true; the input reads as it did. -/
def fnExactPlacesValidUptoRow : OpenClaim := { program := "ythjjhlgdljkkfaa", sum := "c99a7fce7b939a7f7955f1320abc4808015941684b46634014c6691e9c46b216", func := "loop.example/capkernel/laws.FnExactPlacesValid", spec := "fnExactPlacesValid", apart := false, narrowed := true }
def FnExactPlacesValidUptoSaid : Prop := fnExactPlacesValidUptoRow.holds Try.pinned (OpenSpec.upto fnExactPlacesValidSpec)

/-- 'laws.FnExactFindPlace', WHERE WHAT IT READS IS OF BULK AT MOST 1048576: true; the input reads as it did. -/
def fnExactFindPlaceUptoRow : OpenClaim := { program := "ythjjhlgdljkkfaa", sum := "c99a7fce7b939a7f7955f1320abc4808015941684b46634014c6691e9c46b216", func := "loop.example/capkernel/laws.FnExactFindPlace", spec := "fnExactFindPlace", apart := false, narrowed := true }
def FnExactFindPlaceUptoSaid : Prop := fnExactFindPlaceUptoRow.holds Try.pinned (OpenSpec.upto fnExactFindPlaceSpec)

/-- 'laws.FnExactMovePlace', WHERE WHAT IT READS IS OF BULK AT MOST 1048576: true; the input reads as it did. -/
def fnExactMovePlaceUptoRow : OpenClaim := { program := "ythjjhlgdljkkfaa", sum := "c99a7fce7b939a7f7955f1320abc4808015941684b46634014c6691e9c46b216", func := "loop.example/capkernel/laws.FnExactMovePlace", spec := "fnExactMovePlace", unfollowed := true, recurses := true, apart := false, narrowed := true }
def FnExactMovePlaceUptoSaid : Prop := fnExactMovePlaceUptoRow.holds Try.pinned (OpenSpec.upto fnExactMovePlaceSpec)

/-- 'laws.FnExactSwapPlaces', WHERE WHAT IT READS IS OF BULK AT MOST 1048576: true; the input reads as it did. -/
def fnExactSwapPlacesUptoRow : OpenClaim := { program := "ythjjhlgdljkkfaa", sum := "c99a7fce7b939a7f7955f1320abc4808015941684b46634014c6691e9c46b216", func := "loop.example/capkernel/laws.FnExactSwapPlaces", spec := "fnExactSwapPlaces", unfollowed := true, recurses := true, apart := false, narrowed := true }
def FnExactSwapPlacesUptoSaid : Prop := fnExactSwapPlacesUptoRow.holds Try.pinned (OpenSpec.upto fnExactSwapPlacesSpec)

/-- 'laws.FnPlacesValid', WHERE WHAT IT READS IS OF BULK AT MOST 1048576: true; the input reads as it did. -/
def fnPlacesValidUptoRow : OpenClaim := { program := "ythjjhlgdljkkfaa", sum := "c99a7fce7b939a7f7955f1320abc4808015941684b46634014c6691e9c46b216", func := "loop.example/capkernel/laws.FnPlacesValid", spec := "fnPlacesValid", inPlace := ["internal/abi.NoEscape"], apart := false, narrowed := true }
def FnPlacesValidUptoSaid : Prop := fnPlacesValidUptoRow.holds Try.pinned (OpenSpec.upto fnPlacesValidSpec)

/-- 'laws.FnFindPlace', WHERE WHAT IT READS IS OF BULK AT MOST 1048576: true; the input reads as it did. -/
def fnFindPlaceUptoRow : OpenClaim := { program := "ythjjhlgdljkkfaa", sum := "c99a7fce7b939a7f7955f1320abc4808015941684b46634014c6691e9c46b216", func := "loop.example/capkernel/laws.FnFindPlace", spec := "fnFindPlace", inPlace := ["internal/abi.NoEscape"], apart := false, narrowed := true }
def FnFindPlaceUptoSaid : Prop := fnFindPlaceUptoRow.holds Try.pinned (OpenSpec.upto fnFindPlaceSpec)

/-- 'laws.FnMovePlace', WHERE WHAT IT READS IS OF BULK AT MOST 1048576: true; the input reads as it did. -/
def fnMovePlaceUptoRow : OpenClaim := { program := "ythjjhlgdljkkfaa", sum := "c99a7fce7b939a7f7955f1320abc4808015941684b46634014c6691e9c46b216", func := "loop.example/capkernel/laws.FnMovePlace", spec := "fnMovePlace", inPlace := ["internal/abi.NoEscape"], unfollowed := true, recurses := true, apart := false, narrowed := true }
def FnMovePlaceUptoSaid : Prop := fnMovePlaceUptoRow.holds Try.pinned (OpenSpec.upto fnMovePlaceSpec)

/-- 'laws.FnPlacesTurn', WHERE WHAT IT READS IS OF BULK AT MOST 1048576: true; the input reads as it did. -/
def fnPlacesTurnUptoRow : OpenClaim := { program := "ythjjhlgdljkkfaa", sum := "c99a7fce7b939a7f7955f1320abc4808015941684b46634014c6691e9c46b216", func := "loop.example/capkernel/laws.FnPlacesTurn", spec := "fnPlacesTurn", inPlace := ["internal/abi.NoEscape"], unfollowed := true, recurses := true, apart := false, narrowed := true }
def FnPlacesTurnUptoSaid : Prop := fnPlacesTurnUptoRow.holds Try.pinned (OpenSpec.upto fnPlacesTurnSpec)

/-- 'laws.FnSwapPlaces', WHERE WHAT IT READS IS OF BULK AT MOST 1048576: true; the input reads as it did. -/
def fnSwapPlacesUptoRow : OpenClaim := { program := "ythjjhlgdljkkfaa", sum := "c99a7fce7b939a7f7955f1320abc4808015941684b46634014c6691e9c46b216", func := "loop.example/capkernel/laws.FnSwapPlaces", spec := "fnSwapPlaces", inPlace := ["internal/abi.NoEscape"], unfollowed := true, recurses := true, apart := false, narrowed := true }
def FnSwapPlacesUptoSaid : Prop := fnSwapPlacesUptoRow.holds Try.pinned (OpenSpec.upto fnSwapPlacesSpec)

end Rows
end Go.Proofs.Ythjjhlgdljkkfaa
