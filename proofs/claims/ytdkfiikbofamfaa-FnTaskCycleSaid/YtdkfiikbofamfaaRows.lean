/-
  No cell of these rows narrows 'for every input' (looked for: loops, veiled, ifaces, maps, wideKeys, modest, calm, conditions, laid).
  DERIVED. THE GIVEN ROWS OF THIS SEAT. 11 by the template 'for every input the law returns true; each argument reads behind the call as it read before'; 0 by the template 'total and deterministic' (their statements: YtdkfiikbofamfaaTotals.lean).
  GIVEN WITH THE SEED: the statements are not yours to turn. If you find one false, say at which input.
  Laid BY PROGRAM, IN A SANDBOX (cutbox-rows.mjs): the forced cells as the released guide's own fill.sh prints them over the translation ae01efccdb574ada… (all of the seat's roots in one cut). By AI agents, Wed Nov 11 2026. No macro, syntax, notation, axiom, sorry.
-/
import Derived.Test.YtdkfiikbofamfaaChecked
import GoSem.Claim
import GoSem.ClaimJoined
import GoSem.ClaimMapViews
import Derived.JoinedTies
import Derived.KernelRfl
namespace Go.Proofs.Ytdkfiikbofamfaa
/- THE CELL 'sum', in the pinned program and in every row, IS THE sha256 OF THE DUMP (.gsa) THAT YtdkfiikbofamfaaProg.lean LOADS. Nothing in Lean hashes anything: it is a label: what it is worth is what the hold of that sum in a sandbox is worth. -/
noncomputable def Try.pinned : Pinned := { name := "ytdkfiikbofamfaa", sum := "ae01efccdb574ada5b0b23d88dfec4e7163051fdfa2c4b1c40ab0555ca594dbb", checked := Try.checked }
namespace Rows
def none {H : Type} : Left H := { results := [], args := [] }

/-- 'laws.FnExactTaskValid': WHATEVER THE INPUT: true; the input reads as it did. -/
def fnExactTaskValidSpec : ChangeSpec := { name := "fnExactTaskValid", fn := fun _ => fun
  | [d] => { results := [.lit (.bool true)], args := [d] }
  | _ => none }
def fnExactTaskValidRow : OpenClaim := { program := "ytdkfiikbofamfaa", sum := "ae01efccdb574ada5b0b23d88dfec4e7163051fdfa2c4b1c40ab0555ca594dbb", func := "loop.example/capkernel/laws.FnExactTaskValid", spec := "fnExactTaskValid", apart := false }
def FnExactTaskValidSaid : Prop := fnExactTaskValidRow.holds Try.pinned (OpenSpec.ofChange fnExactTaskValidSpec)

/-- ITS FALSE NEIGHBOUR: 'it returns false'. Refute it at one input. -/
def fnExactTaskValidWrong : ChangeSpec := { name := "fnExactTaskValid", fn := fun _ => fun
  | [d] => { results := [.lit (.bool false)], args := [d] }
  | _ => none }
def FnExactTaskValidWrongFalsely : Prop := fnExactTaskValidRow.holds Try.pinned (OpenSpec.ofChange fnExactTaskValidWrong)

/-- 'laws.FnExactTaskStop': WHATEVER THE INPUT: true; the input reads as it did. -/
def fnExactTaskStopSpec : ChangeSpec := { name := "fnExactTaskStop", fn := fun _ => fun
  | [d] => { results := [.lit (.bool true)], args := [d] }
  | _ => none }
def fnExactTaskStopRow : OpenClaim := { program := "ytdkfiikbofamfaa", sum := "ae01efccdb574ada5b0b23d88dfec4e7163051fdfa2c4b1c40ab0555ca594dbb", func := "loop.example/capkernel/laws.FnExactTaskStop", spec := "fnExactTaskStop", apart := false }
def FnExactTaskStopSaid : Prop := fnExactTaskStopRow.holds Try.pinned (OpenSpec.ofChange fnExactTaskStopSpec)

/-- ITS FALSE NEIGHBOUR: 'it returns false'. Refute it at one input. -/
def fnExactTaskStopWrong : ChangeSpec := { name := "fnExactTaskStop", fn := fun _ => fun
  | [d] => { results := [.lit (.bool false)], args := [d] }
  | _ => none }
def FnExactTaskStopWrongFalsely : Prop := fnExactTaskStopRow.holds Try.pinned (OpenSpec.ofChange fnExactTaskStopWrong)

/-- 'laws.FnExactTaskStart': WHATEVER THE INPUT: true; the input reads as it did. -/
def fnExactTaskStartSpec : ChangeSpec := { name := "fnExactTaskStart", fn := fun _ => fun
  | [d] => { results := [.lit (.bool true)], args := [d] }
  | _ => none }
def fnExactTaskStartRow : OpenClaim := { program := "ytdkfiikbofamfaa", sum := "ae01efccdb574ada5b0b23d88dfec4e7163051fdfa2c4b1c40ab0555ca594dbb", func := "loop.example/capkernel/laws.FnExactTaskStart", spec := "fnExactTaskStart", apart := false }
def FnExactTaskStartSaid : Prop := fnExactTaskStartRow.holds Try.pinned (OpenSpec.ofChange fnExactTaskStartSpec)

/-- ITS FALSE NEIGHBOUR: 'it returns false'. Refute it at one input. -/
def fnExactTaskStartWrong : ChangeSpec := { name := "fnExactTaskStart", fn := fun _ => fun
  | [d] => { results := [.lit (.bool false)], args := [d] }
  | _ => none }
def FnExactTaskStartWrongFalsely : Prop := fnExactTaskStartRow.holds Try.pinned (OpenSpec.ofChange fnExactTaskStartWrong)

/-- 'laws.FnExactTaskWake': WHATEVER THE INPUT: true; the input reads as it did. -/
def fnExactTaskWakeSpec : ChangeSpec := { name := "fnExactTaskWake", fn := fun _ => fun
  | [d1, d2] => { results := [.lit (.bool true)], args := [d1, d2] }
  | _ => none }
def fnExactTaskWakeRow : OpenClaim := { program := "ytdkfiikbofamfaa", sum := "ae01efccdb574ada5b0b23d88dfec4e7163051fdfa2c4b1c40ab0555ca594dbb", func := "loop.example/capkernel/laws.FnExactTaskWake", spec := "fnExactTaskWake", apart := false }
def FnExactTaskWakeSaid : Prop := fnExactTaskWakeRow.holds Try.pinned (OpenSpec.ofChange fnExactTaskWakeSpec)

/-- ITS FALSE NEIGHBOUR: 'it returns false'. Refute it at one input. -/
def fnExactTaskWakeWrong : ChangeSpec := { name := "fnExactTaskWake", fn := fun _ => fun
  | [d1, d2] => { results := [.lit (.bool false)], args := [d1, d2] }
  | _ => none }
def FnExactTaskWakeWrongFalsely : Prop := fnExactTaskWakeRow.holds Try.pinned (OpenSpec.ofChange fnExactTaskWakeWrong)

/-- 'laws.FnExactTaskWait': WHATEVER THE INPUT: true; the input reads as it did. -/
def fnExactTaskWaitSpec : ChangeSpec := { name := "fnExactTaskWait", fn := fun _ => fun
  | [d1, d2, d3] => { results := [.lit (.bool true)], args := [d1, d2, d3] }
  | _ => none }
def fnExactTaskWaitRow : OpenClaim := { program := "ytdkfiikbofamfaa", sum := "ae01efccdb574ada5b0b23d88dfec4e7163051fdfa2c4b1c40ab0555ca594dbb", func := "loop.example/capkernel/laws.FnExactTaskWait", spec := "fnExactTaskWait", apart := false }
def FnExactTaskWaitSaid : Prop := fnExactTaskWaitRow.holds Try.pinned (OpenSpec.ofChange fnExactTaskWaitSpec)

/-- ITS FALSE NEIGHBOUR: 'it returns false'. Refute it at one input. -/
def fnExactTaskWaitWrong : ChangeSpec := { name := "fnExactTaskWait", fn := fun _ => fun
  | [d1, d2, d3] => { results := [.lit (.bool false)], args := [d1, d2, d3] }
  | _ => none }
def FnExactTaskWaitWrongFalsely : Prop := fnExactTaskWaitRow.holds Try.pinned (OpenSpec.ofChange fnExactTaskWaitWrong)

/-- 'laws.FnTaskValid': WHATEVER THE INPUT: true; the input reads as it did. -/
def fnTaskValidSpec : ChangeSpec := { name := "fnTaskValid", fn := fun _ => fun
  | [d] => { results := [.lit (.bool true)], args := [d] }
  | _ => none }
def fnTaskValidRow : OpenClaim := { program := "ytdkfiikbofamfaa", sum := "ae01efccdb574ada5b0b23d88dfec4e7163051fdfa2c4b1c40ab0555ca594dbb", func := "loop.example/capkernel/laws.FnTaskValid", spec := "fnTaskValid", inPlace := ["internal/abi.NoEscape"], apart := false }
def FnTaskValidSaid : Prop := fnTaskValidRow.holds Try.pinned (OpenSpec.ofChange fnTaskValidSpec)

/-- ITS FALSE NEIGHBOUR: 'it returns false'. Refute it at one input. -/
def fnTaskValidWrong : ChangeSpec := { name := "fnTaskValid", fn := fun _ => fun
  | [d] => { results := [.lit (.bool false)], args := [d] }
  | _ => none }
def FnTaskValidWrongFalsely : Prop := fnTaskValidRow.holds Try.pinned (OpenSpec.ofChange fnTaskValidWrong)

/-- 'laws.FnTaskStart': WHATEVER THE INPUT: true; the input reads as it did. -/
def fnTaskStartSpec : ChangeSpec := { name := "fnTaskStart", fn := fun _ => fun
  | [d] => { results := [.lit (.bool true)], args := [d] }
  | _ => none }
def fnTaskStartRow : OpenClaim := { program := "ytdkfiikbofamfaa", sum := "ae01efccdb574ada5b0b23d88dfec4e7163051fdfa2c4b1c40ab0555ca594dbb", func := "loop.example/capkernel/laws.FnTaskStart", spec := "fnTaskStart", inPlace := ["internal/abi.NoEscape"], apart := false }
def FnTaskStartSaid : Prop := fnTaskStartRow.holds Try.pinned (OpenSpec.ofChange fnTaskStartSpec)

/-- ITS FALSE NEIGHBOUR: 'it returns false'. Refute it at one input. -/
def fnTaskStartWrong : ChangeSpec := { name := "fnTaskStart", fn := fun _ => fun
  | [d] => { results := [.lit (.bool false)], args := [d] }
  | _ => none }
def FnTaskStartWrongFalsely : Prop := fnTaskStartRow.holds Try.pinned (OpenSpec.ofChange fnTaskStartWrong)

/-- 'laws.FnTaskStop': WHATEVER THE INPUT: true; the input reads as it did. -/
def fnTaskStopSpec : ChangeSpec := { name := "fnTaskStop", fn := fun _ => fun
  | [d] => { results := [.lit (.bool true)], args := [d] }
  | _ => none }
def fnTaskStopRow : OpenClaim := { program := "ytdkfiikbofamfaa", sum := "ae01efccdb574ada5b0b23d88dfec4e7163051fdfa2c4b1c40ab0555ca594dbb", func := "loop.example/capkernel/laws.FnTaskStop", spec := "fnTaskStop", inPlace := ["internal/abi.NoEscape"], apart := false }
def FnTaskStopSaid : Prop := fnTaskStopRow.holds Try.pinned (OpenSpec.ofChange fnTaskStopSpec)

/-- ITS FALSE NEIGHBOUR: 'it returns false'. Refute it at one input. -/
def fnTaskStopWrong : ChangeSpec := { name := "fnTaskStop", fn := fun _ => fun
  | [d] => { results := [.lit (.bool false)], args := [d] }
  | _ => none }
def FnTaskStopWrongFalsely : Prop := fnTaskStopRow.holds Try.pinned (OpenSpec.ofChange fnTaskStopWrong)

/-- 'laws.FnTaskWake': WHATEVER THE INPUT: true; the input reads as it did. -/
def fnTaskWakeSpec : ChangeSpec := { name := "fnTaskWake", fn := fun _ => fun
  | [d] => { results := [.lit (.bool true)], args := [d] }
  | _ => none }
def fnTaskWakeRow : OpenClaim := { program := "ytdkfiikbofamfaa", sum := "ae01efccdb574ada5b0b23d88dfec4e7163051fdfa2c4b1c40ab0555ca594dbb", func := "loop.example/capkernel/laws.FnTaskWake", spec := "fnTaskWake", inPlace := ["internal/abi.NoEscape"], apart := false }
def FnTaskWakeSaid : Prop := fnTaskWakeRow.holds Try.pinned (OpenSpec.ofChange fnTaskWakeSpec)

/-- ITS FALSE NEIGHBOUR: 'it returns false'. Refute it at one input. -/
def fnTaskWakeWrong : ChangeSpec := { name := "fnTaskWake", fn := fun _ => fun
  | [d] => { results := [.lit (.bool false)], args := [d] }
  | _ => none }
def FnTaskWakeWrongFalsely : Prop := fnTaskWakeRow.holds Try.pinned (OpenSpec.ofChange fnTaskWakeWrong)

/-- 'laws.FnTaskWait': WHATEVER THE INPUT: true; the input reads as it did. -/
def fnTaskWaitSpec : ChangeSpec := { name := "fnTaskWait", fn := fun _ => fun
  | [d] => { results := [.lit (.bool true)], args := [d] }
  | _ => none }
def fnTaskWaitRow : OpenClaim := { program := "ytdkfiikbofamfaa", sum := "ae01efccdb574ada5b0b23d88dfec4e7163051fdfa2c4b1c40ab0555ca594dbb", func := "loop.example/capkernel/laws.FnTaskWait", spec := "fnTaskWait", inPlace := ["internal/abi.NoEscape"], apart := false }
def FnTaskWaitSaid : Prop := fnTaskWaitRow.holds Try.pinned (OpenSpec.ofChange fnTaskWaitSpec)

/-- ITS FALSE NEIGHBOUR: 'it returns false'. Refute it at one input. -/
def fnTaskWaitWrong : ChangeSpec := { name := "fnTaskWait", fn := fun _ => fun
  | [d] => { results := [.lit (.bool false)], args := [d] }
  | _ => none }
def FnTaskWaitWrongFalsely : Prop := fnTaskWaitRow.holds Try.pinned (OpenSpec.ofChange fnTaskWaitWrong)

/-- 'laws.FnTaskCycle': WHATEVER THE INPUT: true; the input reads as it did. -/
def fnTaskCycleSpec : ChangeSpec := { name := "fnTaskCycle", fn := fun _ => fun
  | [d] => { results := [.lit (.bool true)], args := [d] }
  | _ => none }
def fnTaskCycleRow : OpenClaim := { program := "ytdkfiikbofamfaa", sum := "ae01efccdb574ada5b0b23d88dfec4e7163051fdfa2c4b1c40ab0555ca594dbb", func := "loop.example/capkernel/laws.FnTaskCycle", spec := "fnTaskCycle", inPlace := ["internal/abi.NoEscape"], apart := false }
def FnTaskCycleSaid : Prop := fnTaskCycleRow.holds Try.pinned (OpenSpec.ofChange fnTaskCycleSpec)

/-- ITS FALSE NEIGHBOUR: 'it returns false'. Refute it at one input. -/
def fnTaskCycleWrong : ChangeSpec := { name := "fnTaskCycle", fn := fun _ => fun
  | [d] => { results := [.lit (.bool false)], args := [d] }
  | _ => none }
def FnTaskCycleWrongFalsely : Prop := fnTaskCycleRow.holds Try.pinned (OpenSpec.ofChange fnTaskCycleWrong)

/- THE SECOND FORM. 'bulk': how many values and letters a reading holds, each counted each time it is reached (what is shared counts as often as it is met; a slice's spare places count too). A statement '..UptoSaid' is the law's where the arguments, and the package variables that the reading takes, are together of bulk at most 1048576: NARROWER than '..Said'. Prove '..Said' where nothing that the law and all that it calls make is longer than what came in: it says more and counts as full. Else prove '..UptoSaid'. A law counts once. -/
mutual
def uptoBulk {H : Type} : DataW H → Nat
  | .lit (.string bytes) => bytes.length + 1
  | .lit _ => 1
  | .nil => 1
  | .ptr d => uptoBulk d + 1
  | .slice elems spare => uptoBulkAll elems + uptoBulkAll spare + 1
  | .agg parts => uptoBulkAll parts + 1
  | .iface _ d => uptoBulk d + 1
  | .map entries => uptoBulkEntries entries + 1
  | .held _ => 1
def uptoBulkAll {H : Type} : List (DataW H) → Nat
  | [] => 0
  | d :: r => uptoBulk d + uptoBulkAll r
def uptoBulkEntries {H : Type} : List (Lit × DataW H) → Nat
  | [] => 0
  | x :: r => uptoBulkEntry x + uptoBulkEntries r
def uptoBulkEntry {H : Type} : Lit × DataW H → Nat
  | (.string bytes, d) => bytes.length + uptoBulk d + 1
  | (_, d) => uptoBulk d + 1
 end
def uptoSmall : (H : Type) → List (DataW H) → Bool := fun _ ds => decide (uptoBulkAll ds ≤ 1048576)
def OpenSpec.upto (s : _root_.Go.ChangeSpec) : _root_.Go.OpenSpec := { _root_.Go.OpenSpec.ofChange s with cond := some uptoSmall }

/-- 'laws.FnExactTaskValid', WHERE WHAT IT READS IS OF BULK AT MOST 1048576: true; the input reads as it did. -/
def fnExactTaskValidUptoRow : OpenClaim := { program := "ytdkfiikbofamfaa", sum := "ae01efccdb574ada5b0b23d88dfec4e7163051fdfa2c4b1c40ab0555ca594dbb", func := "loop.example/capkernel/laws.FnExactTaskValid", spec := "fnExactTaskValid", apart := false, narrowed := true }
def FnExactTaskValidUptoSaid : Prop := fnExactTaskValidUptoRow.holds Try.pinned (OpenSpec.upto fnExactTaskValidSpec)

/-- 'laws.FnExactTaskStop', WHERE WHAT IT READS IS OF BULK AT MOST 1048576: true; the input reads as it did. -/
def fnExactTaskStopUptoRow : OpenClaim := { program := "ytdkfiikbofamfaa", sum := "ae01efccdb574ada5b0b23d88dfec4e7163051fdfa2c4b1c40ab0555ca594dbb", func := "loop.example/capkernel/laws.FnExactTaskStop", spec := "fnExactTaskStop", apart := false, narrowed := true }
def FnExactTaskStopUptoSaid : Prop := fnExactTaskStopUptoRow.holds Try.pinned (OpenSpec.upto fnExactTaskStopSpec)

/-- 'laws.FnExactTaskStart', WHERE WHAT IT READS IS OF BULK AT MOST 1048576: true; the input reads as it did. -/
def fnExactTaskStartUptoRow : OpenClaim := { program := "ytdkfiikbofamfaa", sum := "ae01efccdb574ada5b0b23d88dfec4e7163051fdfa2c4b1c40ab0555ca594dbb", func := "loop.example/capkernel/laws.FnExactTaskStart", spec := "fnExactTaskStart", apart := false, narrowed := true }
def FnExactTaskStartUptoSaid : Prop := fnExactTaskStartUptoRow.holds Try.pinned (OpenSpec.upto fnExactTaskStartSpec)

/-- 'laws.FnExactTaskWake', WHERE WHAT IT READS IS OF BULK AT MOST 1048576: true; the input reads as it did. -/
def fnExactTaskWakeUptoRow : OpenClaim := { program := "ytdkfiikbofamfaa", sum := "ae01efccdb574ada5b0b23d88dfec4e7163051fdfa2c4b1c40ab0555ca594dbb", func := "loop.example/capkernel/laws.FnExactTaskWake", spec := "fnExactTaskWake", apart := false, narrowed := true }
def FnExactTaskWakeUptoSaid : Prop := fnExactTaskWakeUptoRow.holds Try.pinned (OpenSpec.upto fnExactTaskWakeSpec)

/-- 'laws.FnExactTaskWait', WHERE WHAT IT READS IS OF BULK AT MOST 1048576: true; the input reads as it did. -/
def fnExactTaskWaitUptoRow : OpenClaim := { program := "ytdkfiikbofamfaa", sum := "ae01efccdb574ada5b0b23d88dfec4e7163051fdfa2c4b1c40ab0555ca594dbb", func := "loop.example/capkernel/laws.FnExactTaskWait", spec := "fnExactTaskWait", apart := false, narrowed := true }
def FnExactTaskWaitUptoSaid : Prop := fnExactTaskWaitUptoRow.holds Try.pinned (OpenSpec.upto fnExactTaskWaitSpec)

/-- 'laws.FnTaskValid', WHERE WHAT IT READS IS OF BULK AT MOST 1048576: true; the input reads as it did. -/
def fnTaskValidUptoRow : OpenClaim := { program := "ytdkfiikbofamfaa", sum := "ae01efccdb574ada5b0b23d88dfec4e7163051fdfa2c4b1c40ab0555ca594dbb", func := "loop.example/capkernel/laws.FnTaskValid", spec := "fnTaskValid", inPlace := ["internal/abi.NoEscape"], apart := false, narrowed := true }
def FnTaskValidUptoSaid : Prop := fnTaskValidUptoRow.holds Try.pinned (OpenSpec.upto fnTaskValidSpec)

/-- 'laws.FnTaskStart', WHERE WHAT IT READS IS OF BULK AT MOST 1048576: true; the input reads as it did. -/
def fnTaskStartUptoRow : OpenClaim := { program := "ytdkfiikbofamfaa", sum := "ae01efccdb574ada5b0b23d88dfec4e7163051fdfa2c4b1c40ab0555ca594dbb", func := "loop.example/capkernel/laws.FnTaskStart", spec := "fnTaskStart", inPlace := ["internal/abi.NoEscape"], apart := false, narrowed := true }
def FnTaskStartUptoSaid : Prop := fnTaskStartUptoRow.holds Try.pinned (OpenSpec.upto fnTaskStartSpec)

/-- 'laws.FnTaskStop', WHERE WHAT IT READS IS OF BULK AT MOST 1048576: true; the input reads as it did. -/
def fnTaskStopUptoRow : OpenClaim := { program := "ytdkfiikbofamfaa", sum := "ae01efccdb574ada5b0b23d88dfec4e7163051fdfa2c4b1c40ab0555ca594dbb", func := "loop.example/capkernel/laws.FnTaskStop", spec := "fnTaskStop", inPlace := ["internal/abi.NoEscape"], apart := false, narrowed := true }
def FnTaskStopUptoSaid : Prop := fnTaskStopUptoRow.holds Try.pinned (OpenSpec.upto fnTaskStopSpec)

/-- 'laws.FnTaskWake', WHERE WHAT IT READS IS OF BULK AT MOST 1048576: true; the input reads as it did. -/
def fnTaskWakeUptoRow : OpenClaim := { program := "ytdkfiikbofamfaa", sum := "ae01efccdb574ada5b0b23d88dfec4e7163051fdfa2c4b1c40ab0555ca594dbb", func := "loop.example/capkernel/laws.FnTaskWake", spec := "fnTaskWake", inPlace := ["internal/abi.NoEscape"], apart := false, narrowed := true }
def FnTaskWakeUptoSaid : Prop := fnTaskWakeUptoRow.holds Try.pinned (OpenSpec.upto fnTaskWakeSpec)

/-- 'laws.FnTaskWait', WHERE WHAT IT READS IS OF BULK AT MOST 1048576: true; the input reads as it did. -/
def fnTaskWaitUptoRow : OpenClaim := { program := "ytdkfiikbofamfaa", sum := "ae01efccdb574ada5b0b23d88dfec4e7163051fdfa2c4b1c40ab0555ca594dbb", func := "loop.example/capkernel/laws.FnTaskWait", spec := "fnTaskWait", inPlace := ["internal/abi.NoEscape"], apart := false, narrowed := true }
def FnTaskWaitUptoSaid : Prop := fnTaskWaitUptoRow.holds Try.pinned (OpenSpec.upto fnTaskWaitSpec)

/-- 'laws.FnTaskCycle', WHERE WHAT IT READS IS OF BULK AT MOST 1048576: true; the input reads as it did. -/
def fnTaskCycleUptoRow : OpenClaim := { program := "ytdkfiikbofamfaa", sum := "ae01efccdb574ada5b0b23d88dfec4e7163051fdfa2c4b1c40ab0555ca594dbb", func := "loop.example/capkernel/laws.FnTaskCycle", spec := "fnTaskCycle", inPlace := ["internal/abi.NoEscape"], apart := false, narrowed := true }
def FnTaskCycleUptoSaid : Prop := fnTaskCycleUptoRow.holds Try.pinned (OpenSpec.upto fnTaskCycleSpec)

end Rows
end Go.Proofs.Ytdkfiikbofamfaa
