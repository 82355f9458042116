/-
  No cell of these rows narrows 'for every input' (looked for: loops, veiled, ifaces, maps, wideKeys, modest, calm, conditions, laid).
  DERIVED. THE GIVEN ROWS OF THIS SEAT. 8 by the template 'for every input the law returns true; each argument reads behind the call as it read before'; 0 by the template 'total and deterministic' (their statements: YtccepnhnmpmkdaaTotals.lean).
  GIVEN WITH THE SEED: the statements are not yours to turn. If you find one false, say at which input.
  Laid BY PROGRAM, IN A SANDBOX (cutbox-rows.mjs): the forced cells as the released guide's own fill.sh prints them over the translation cfcc0d7f3446869a… (all of the seat's roots in one cut). By AI agents, Wed Nov 11 2026. No macro, syntax, notation, axiom, sorry.
-/
import Derived.Test.YtccepnhnmpmkdaaChecked
import GoSem.Claim
import GoSem.ClaimJoined
import GoSem.ClaimMapViews
import Derived.JoinedTies
import Derived.KernelRfl
namespace Go.Proofs.Ytccepnhnmpmkdaa
/- THE CELL 'sum', in the pinned program and in every row, IS THE sha256 OF THE DUMP (.gsa) THAT YtccepnhnmpmkdaaProg.lean LOADS. Nothing in Lean hashes anything: it is a label: what it is worth is what the hold of that sum in a sandbox is worth. -/
noncomputable def Try.pinned : Pinned := { name := "ytccepnhnmpmkdaa", sum := "cfcc0d7f3446869aa3c24b7f860b58a34ad2670d03c8772f0edcff15bd6a44bd", checked := Try.checked }
namespace Rows
def none {H : Type} : Left H := { results := [], args := [] }

/-- 'laws.FnExactNewQueues': WHATEVER THE INPUT: true; the input reads as it did. -/
def fnExactNewQueuesSpec : ChangeSpec := { name := "fnExactNewQueues", fn := fun _ => fun
  | [] => { results := [.lit (.bool true)], args := [] }
  | _ => none }
def fnExactNewQueuesRow : OpenClaim := { program := "ytccepnhnmpmkdaa", sum := "cfcc0d7f3446869aa3c24b7f860b58a34ad2670d03c8772f0edcff15bd6a44bd", func := "loop.example/capkernel/laws.FnExactNewQueues", spec := "fnExactNewQueues", apart := false }
def FnExactNewQueuesSaid : Prop := fnExactNewQueuesRow.holds Try.pinned (OpenSpec.ofChange fnExactNewQueuesSpec)

/-- ITS FALSE NEIGHBOUR: 'it returns false'. Refute it at one input. -/
def fnExactNewQueuesWrong : ChangeSpec := { name := "fnExactNewQueues", fn := fun _ => fun
  | [] => { results := [.lit (.bool false)], args := [] }
  | _ => none }
def FnExactNewQueuesWrongFalsely : Prop := fnExactNewQueuesRow.holds Try.pinned (OpenSpec.ofChange fnExactNewQueuesWrong)

/-- 'laws.FnExactQueuesValid': WHATEVER THE INPUT: true; the input reads as it did. -/
def fnExactQueuesValidSpec : ChangeSpec := { name := "fnExactQueuesValid", fn := fun _ => fun
  | [d] => { results := [.lit (.bool true)], args := [d] }
  | _ => none }
def fnExactQueuesValidRow : OpenClaim := { program := "ytccepnhnmpmkdaa", sum := "cfcc0d7f3446869aa3c24b7f860b58a34ad2670d03c8772f0edcff15bd6a44bd", func := "loop.example/capkernel/laws.FnExactQueuesValid", spec := "fnExactQueuesValid", apart := false }
def FnExactQueuesValidSaid : Prop := fnExactQueuesValidRow.holds Try.pinned (OpenSpec.ofChange fnExactQueuesValidSpec)

/-- ITS FALSE NEIGHBOUR: 'it returns false'. Refute it at one input. -/
def fnExactQueuesValidWrong : ChangeSpec := { name := "fnExactQueuesValid", fn := fun _ => fun
  | [d] => { results := [.lit (.bool false)], args := [d] }
  | _ => none }
def FnExactQueuesValidWrongFalsely : Prop := fnExactQueuesValidRow.holds Try.pinned (OpenSpec.ofChange fnExactQueuesValidWrong)

/-- 'laws.FnExactReadyPrio': WHATEVER THE INPUT: true; the input reads as it did. -/
def fnExactReadyPrioSpec : ChangeSpec := { name := "fnExactReadyPrio", fn := fun _ => fun
  | [d1, d2] => { results := [.lit (.bool true)], args := [d1, d2] }
  | _ => none }
def fnExactReadyPrioRow : OpenClaim := { program := "ytccepnhnmpmkdaa", sum := "cfcc0d7f3446869aa3c24b7f860b58a34ad2670d03c8772f0edcff15bd6a44bd", func := "loop.example/capkernel/laws.FnExactReadyPrio", spec := "fnExactReadyPrio", unfollowed := true, recurses := true, apart := false }
def FnExactReadyPrioSaid : Prop := fnExactReadyPrioRow.holds Try.pinned (OpenSpec.ofChange fnExactReadyPrioSpec)

/-- ITS FALSE NEIGHBOUR: 'it returns false'. Refute it at one input. -/
def fnExactReadyPrioWrong : ChangeSpec := { name := "fnExactReadyPrio", fn := fun _ => fun
  | [d1, d2] => { results := [.lit (.bool false)], args := [d1, d2] }
  | _ => none }
def FnExactReadyPrioWrongFalsely : Prop := fnExactReadyPrioRow.holds Try.pinned (OpenSpec.ofChange fnExactReadyPrioWrong)

/-- 'laws.FnExactReadyNext': WHATEVER THE INPUT: true; the input reads as it did. -/
def fnExactReadyNextSpec : ChangeSpec := { name := "fnExactReadyNext", fn := fun _ => fun
  | [d] => { results := [.lit (.bool true)], args := [d] }
  | _ => none }
def fnExactReadyNextRow : OpenClaim := { program := "ytccepnhnmpmkdaa", sum := "cfcc0d7f3446869aa3c24b7f860b58a34ad2670d03c8772f0edcff15bd6a44bd", func := "loop.example/capkernel/laws.FnExactReadyNext", spec := "fnExactReadyNext", apart := false }
def FnExactReadyNextSaid : Prop := fnExactReadyNextRow.holds Try.pinned (OpenSpec.ofChange fnExactReadyNextSpec)

/-- ITS FALSE NEIGHBOUR: 'it returns false'. Refute it at one input. -/
def fnExactReadyNextWrong : ChangeSpec := { name := "fnExactReadyNext", fn := fun _ => fun
  | [d] => { results := [.lit (.bool false)], args := [d] }
  | _ => none }
def FnExactReadyNextWrongFalsely : Prop := fnExactReadyNextRow.holds Try.pinned (OpenSpec.ofChange fnExactReadyNextWrong)

/-- 'laws.FnExactLongestWait': WHATEVER THE INPUT: true; the input reads as it did. -/
def fnExactLongestWaitSpec : ChangeSpec := { name := "fnExactLongestWait", fn := fun _ => fun
  | [d] => { results := [.lit (.bool true)], args := [d] }
  | _ => none }
def fnExactLongestWaitRow : OpenClaim := { program := "ytccepnhnmpmkdaa", sum := "cfcc0d7f3446869aa3c24b7f860b58a34ad2670d03c8772f0edcff15bd6a44bd", func := "loop.example/capkernel/laws.FnExactLongestWait", spec := "fnExactLongestWait", apart := false }
def FnExactLongestWaitSaid : Prop := fnExactLongestWaitRow.holds Try.pinned (OpenSpec.ofChange fnExactLongestWaitSpec)

/-- ITS FALSE NEIGHBOUR: 'it returns false'. Refute it at one input. -/
def fnExactLongestWaitWrong : ChangeSpec := { name := "fnExactLongestWait", fn := fun _ => fun
  | [d] => { results := [.lit (.bool false)], args := [d] }
  | _ => none }
def FnExactLongestWaitWrongFalsely : Prop := fnExactLongestWaitRow.holds Try.pinned (OpenSpec.ofChange fnExactLongestWaitWrong)

/-- 'laws.FnQueuesValid': WHATEVER THE INPUT: true; the input reads as it did. -/
def fnQueuesValidSpec : ChangeSpec := { name := "fnQueuesValid", fn := fun _ => fun
  | [d] => { results := [.lit (.bool true)], args := [d] }
  | _ => none }
def fnQueuesValidRow : OpenClaim := { program := "ytccepnhnmpmkdaa", sum := "cfcc0d7f3446869aa3c24b7f860b58a34ad2670d03c8772f0edcff15bd6a44bd", func := "loop.example/capkernel/laws.FnQueuesValid", spec := "fnQueuesValid", inPlace := ["internal/abi.NoEscape"], apart := false }
def FnQueuesValidSaid : Prop := fnQueuesValidRow.holds Try.pinned (OpenSpec.ofChange fnQueuesValidSpec)

/-- ITS FALSE NEIGHBOUR: 'it returns false'. Refute it at one input. -/
def fnQueuesValidWrong : ChangeSpec := { name := "fnQueuesValid", fn := fun _ => fun
  | [d] => { results := [.lit (.bool false)], args := [d] }
  | _ => none }
def FnQueuesValidWrongFalsely : Prop := fnQueuesValidRow.holds Try.pinned (OpenSpec.ofChange fnQueuesValidWrong)

/-- 'laws.FnReadyPrio': WHATEVER THE INPUT: true; the input reads as it did. -/
def fnReadyPrioSpec : ChangeSpec := { name := "fnReadyPrio", fn := fun _ => fun
  | [d] => { results := [.lit (.bool true)], args := [d] }
  | _ => none }
def fnReadyPrioRow : OpenClaim := { program := "ytccepnhnmpmkdaa", sum := "cfcc0d7f3446869aa3c24b7f860b58a34ad2670d03c8772f0edcff15bd6a44bd", func := "loop.example/capkernel/laws.FnReadyPrio", spec := "fnReadyPrio", inPlace := ["internal/abi.NoEscape"], unfollowed := true, recurses := true, apart := false }
def FnReadyPrioSaid : Prop := fnReadyPrioRow.holds Try.pinned (OpenSpec.ofChange fnReadyPrioSpec)

/-- ITS FALSE NEIGHBOUR: 'it returns false'. Refute it at one input. -/
def fnReadyPrioWrong : ChangeSpec := { name := "fnReadyPrio", fn := fun _ => fun
  | [d] => { results := [.lit (.bool false)], args := [d] }
  | _ => none }
def FnReadyPrioWrongFalsely : Prop := fnReadyPrioRow.holds Try.pinned (OpenSpec.ofChange fnReadyPrioWrong)

/-- 'laws.FnReadyNext': WHATEVER THE INPUT: true; the input reads as it did. -/
def fnReadyNextSpec : ChangeSpec := { name := "fnReadyNext", fn := fun _ => fun
  | [d] => { results := [.lit (.bool true)], args := [d] }
  | _ => none }
def fnReadyNextRow : OpenClaim := { program := "ytccepnhnmpmkdaa", sum := "cfcc0d7f3446869aa3c24b7f860b58a34ad2670d03c8772f0edcff15bd6a44bd", func := "loop.example/capkernel/laws.FnReadyNext", spec := "fnReadyNext", inPlace := ["internal/abi.NoEscape"], unfollowed := true, recurses := true, apart := false }
def FnReadyNextSaid : Prop := fnReadyNextRow.holds Try.pinned (OpenSpec.ofChange fnReadyNextSpec)

/-- ITS FALSE NEIGHBOUR: 'it returns false'. Refute it at one input. -/
def fnReadyNextWrong : ChangeSpec := { name := "fnReadyNext", fn := fun _ => fun
  | [d] => { results := [.lit (.bool false)], args := [d] }
  | _ => none }
def FnReadyNextWrongFalsely : Prop := fnReadyNextRow.holds Try.pinned (OpenSpec.ofChange fnReadyNextWrong)

/- THE SECOND FORM. 'bulk': how many values and letters a reading holds, each counted each time it is reached (what is shared counts as often as it is met; a slice's spare places count too). A statement '..UptoSaid' is the law's where the arguments, and the package variables that the reading takes, are together of bulk at most 1048576: NARROWER than '..Said'. Prove '..Said' where nothing that the law and all that it calls make is longer than what came in: it says more and counts as full. Else prove '..UptoSaid'. A law counts once. -/
mutual
def uptoBulk {H : Type} : DataW H → Nat
  | .lit (.string bytes) => bytes.length + 1
  | .lit _ => 1
  | .nil => 1
  | .ptr d => uptoBulk d + 1
  | .slice elems spare => uptoBulkAll elems + uptoBulkAll spare + 1
  | .agg parts => uptoBulkAll parts + 1
  | .iface _ d => uptoBulk d + 1
  | .map entries => uptoBulkEntries entries + 1
  | .held _ => 1
def uptoBulkAll {H : Type} : List (DataW H) → Nat
  | [] => 0
  | d :: r => uptoBulk d + uptoBulkAll r
def uptoBulkEntries {H : Type} : List (Lit × DataW H) → Nat
  | [] => 0
  | x :: r => uptoBulkEntry x + uptoBulkEntries r
def uptoBulkEntry {H : Type} : Lit × DataW H → Nat
  | (.string bytes, d) => bytes.length + uptoBulk d + 1
  | (_, d) => uptoBulk d + 1
 end
def uptoSmall : (H : Type) → List (DataW H) → Bool := fun _ ds => decide (uptoBulkAll ds ≤ 1048576)
def OpenSpec.upto (s : _root_.Go.ChangeSpec) : _root_.Go.OpenSpec := { _root_.Go.OpenSpec.ofChange s with cond := some uptoSmall }

/-- 'laws.FnExactNewQueues', WHERE WHAT IT READS IS OF BULK AT MOST 1048576: true; the input reads as it did. -/
def fnExactNewQueuesUptoRow : OpenClaim := { program := "ytccepnhnmpmkdaa", sum := "cfcc0d7f3446869aa3c24b7f860b58a34ad2670d03c8772f0edcff15bd6a44bd", func := "loop.example/capkernel/laws.FnExactNewQueues", spec := "fnExactNewQueues", apart := false, narrowed := true }
def FnExactNewQueuesUptoSaid : Prop := fnExactNewQueuesUptoRow.holds Try.pinned (OpenSpec.upto fnExactNewQueuesSpec)

/-- 'laws.FnExactQueuesValid', WHERE WHAT IT READS IS OF BULK AT MOST 1048576: true; the input reads as it did. -/
def fnExactQueuesValidUptoRow : OpenClaim := { program := "ytccepnhnmpmkdaa", sum := "cfcc0d7f3446869aa3c24b7f860b58a34ad2670d03c8772f0edcff15bd6a44bd", func := "loop.example/capkernel/laws.FnExactQueuesValid", spec := "fnExactQueuesValid", apart := false, narrowed := true }
def FnExactQueuesValidUptoSaid : Prop := fnExactQueuesValidUptoRow.holds Try.pinned (OpenSpec.upto fnExactQueuesValidSpec)

/-- 'laws.FnExactReadyPrio', WHERE WHAT IT READS IS OF BULK AT MOST 1048576: true; the input reads as it did. -/
def fnExactReadyPrioUptoRow : OpenClaim := { program := "ytccepnhnmpmkdaa", sum := "cfcc0d7f3446869aa3c24b7f860b58a34ad2670d03c8772f0edcff15bd6a44bd", func := "loop.example/capkernel/laws.FnExactReadyPrio", spec := "fnExactReadyPrio", unfollowed := true, recurses := true, apart := false, narrowed := true }
def FnExactReadyPrioUptoSaid : Prop := fnExactReadyPrioUptoRow.holds Try.pinned (OpenSpec.upto fnExactReadyPrioSpec)

/-- 'laws.FnExactReadyNext', WHERE WHAT IT READS IS OF BULK AT MOST 1048576: true; the input reads as it did. -/
def fnExactReadyNextUptoRow : OpenClaim := { program := "ytccepnhnmpmkdaa", sum := "cfcc0d7f3446869aa3c24b7f860b58a34ad2670d03c8772f0edcff15bd6a44bd", func := "loop.example/capkernel/laws.FnExactReadyNext", spec := "fnExactReadyNext", apart := false, narrowed := true }
def FnExactReadyNextUptoSaid : Prop := fnExactReadyNextUptoRow.holds Try.pinned (OpenSpec.upto fnExactReadyNextSpec)

/-- 'laws.FnExactLongestWait', WHERE WHAT IT READS IS OF BULK AT MOST 1048576: true; the input reads as it did. -/
def fnExactLongestWaitUptoRow : OpenClaim := { program := "ytccepnhnmpmkdaa", sum := "cfcc0d7f3446869aa3c24b7f860b58a34ad2670d03c8772f0edcff15bd6a44bd", func := "loop.example/capkernel/laws.FnExactLongestWait", spec := "fnExactLongestWait", apart := false, narrowed := true }
def FnExactLongestWaitUptoSaid : Prop := fnExactLongestWaitUptoRow.holds Try.pinned (OpenSpec.upto fnExactLongestWaitSpec)

/-- 'laws.FnQueuesValid', WHERE WHAT IT READS IS OF BULK AT MOST 1048576: true; the input reads as it did. -/
def fnQueuesValidUptoRow : OpenClaim := { program := "ytccepnhnmpmkdaa", sum := "cfcc0d7f3446869aa3c24b7f860b58a34ad2670d03c8772f0edcff15bd6a44bd", func := "loop.example/capkernel/laws.FnQueuesValid", spec := "fnQueuesValid", inPlace := ["internal/abi.NoEscape"], apart := false, narrowed := true }
def FnQueuesValidUptoSaid : Prop := fnQueuesValidUptoRow.holds Try.pinned (OpenSpec.upto fnQueuesValidSpec)

/-- 'laws.FnReadyPrio', WHERE WHAT IT READS IS OF BULK AT MOST 1048576: true; the input reads as it did. -/
def fnReadyPrioUptoRow : OpenClaim := { program := "ytccepnhnmpmkdaa", sum := "cfcc0d7f3446869aa3c24b7f860b58a34ad2670d03c8772f0edcff15bd6a44bd", func := "loop.example/capkernel/laws.FnReadyPrio", spec := "fnReadyPrio", inPlace := ["internal/abi.NoEscape"], unfollowed := true, recurses := true, apart := false, narrowed := true }
def FnReadyPrioUptoSaid : Prop := fnReadyPrioUptoRow.holds Try.pinned (OpenSpec.upto fnReadyPrioSpec)

/-- 'laws.FnReadyNext', WHERE WHAT IT READS IS OF BULK AT MOST 1048576: true; the input reads as it did. -/
def fnReadyNextUptoRow : OpenClaim := { program := "ytccepnhnmpmkdaa", sum := "cfcc0d7f3446869aa3c24b7f860b58a34ad2670d03c8772f0edcff15bd6a44bd", func := "loop.example/capkernel/laws.FnReadyNext", spec := "fnReadyNext", inPlace := ["internal/abi.NoEscape"], unfollowed := true, recurses := true, apart := false, narrowed := true }
def FnReadyNextUptoSaid : Prop := fnReadyNextUptoRow.holds Try.pinned (OpenSpec.upto fnReadyNextSpec)

end Rows
end Go.Proofs.Ytccepnhnmpmkdaa
