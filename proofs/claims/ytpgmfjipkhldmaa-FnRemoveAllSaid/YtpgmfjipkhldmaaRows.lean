/-
  No cell of these rows narrows 'for every input' (looked for: loops, veiled, ifaces, maps, wideKeys, modest, calm, conditions, laid).
  DERIVED. THE GIVEN ROWS OF THIS SEAT. 5 by the template 'for every input the law returns true; each argument reads behind the call as it read before'; 0 by the template 'total and deterministic' (their statements: YtpgmfjipkhldmaaTotals.lean).
  GIVEN WITH THE SEED: the statements are not yours to turn. If you find one false, say at which input.
  Laid BY PROGRAM, IN A SANDBOX (cutbox-rows.mjs): the forced cells as the released guide's own fill.sh prints them over the translation 3c77776aa808e779… (all of the seat's roots in one cut). By AI agents, Wed Nov 11 2026. No macro, syntax, notation, axiom, sorry.
-/
import Derived.Test.YtpgmfjipkhldmaaChecked
import GoSem.Claim
import GoSem.ClaimJoined
import GoSem.ClaimMapViews
import Derived.JoinedTies
import Derived.KernelRfl
namespace Go.Proofs.Ytpgmfjipkhldmaa
/- THE CELL 'sum', in the pinned program and in every row, IS THE sha256 OF THE DUMP (.gsa) THAT YtpgmfjipkhldmaaProg.lean LOADS. Nothing in Lean hashes anything: it is a label: what it is worth is what the hold of that sum in a sandbox is worth. -/
noncomputable def Try.pinned : Pinned := { name := "ytpgmfjipkhldmaa", sum := "3c77776aa808e7798d024ffe4a200195e6460c33f5c9f7cc3a5d060b2c96664a", checked := Try.checked }
namespace Rows
def none {H : Type} : Left H := { results := [], args := [] }

/-- 'laws.FnRevokeSteps': WHATEVER THE INPUT: true; the input reads as it did. -/
def fnRevokeStepsSpec : ChangeSpec := { name := "fnRevokeSteps", fn := fun _ => fun
  | [d] => { results := [.lit (.bool true)], args := [d] }
  | _ => none }
def fnRevokeStepsRow : OpenClaim := { program := "ytpgmfjipkhldmaa", sum := "3c77776aa808e7798d024ffe4a200195e6460c33f5c9f7cc3a5d060b2c96664a", func := "loop.example/capkernel/laws.FnRevokeSteps", spec := "fnRevokeSteps", inPlace := ["internal/abi.NoEscape"], apart := false }
def FnRevokeStepsSaid : Prop := fnRevokeStepsRow.holds Try.pinned (OpenSpec.ofChange fnRevokeStepsSpec)

/-- ITS FALSE NEIGHBOUR: 'it returns false'. Refute it at one input. -/
def fnRevokeStepsWrong : ChangeSpec := { name := "fnRevokeSteps", fn := fun _ => fun
  | [d] => { results := [.lit (.bool false)], args := [d] }
  | _ => none }
def FnRevokeStepsWrongFalsely : Prop := fnRevokeStepsRow.holds Try.pinned (OpenSpec.ofChange fnRevokeStepsWrong)

/-- 'laws.FnRevokeSome': WHATEVER THE INPUT: true; the input reads as it did. -/
def fnRevokeSomeSpec : ChangeSpec := { name := "fnRevokeSome", fn := fun _ => fun
  | [d] => { results := [.lit (.bool true)], args := [d] }
  | _ => none }
def fnRevokeSomeRow : OpenClaim := { program := "ytpgmfjipkhldmaa", sum := "3c77776aa808e7798d024ffe4a200195e6460c33f5c9f7cc3a5d060b2c96664a", func := "loop.example/capkernel/laws.FnRevokeSome", spec := "fnRevokeSome", inPlace := ["internal/abi.NoEscape"], apart := false }
def FnRevokeSomeSaid : Prop := fnRevokeSomeRow.holds Try.pinned (OpenSpec.ofChange fnRevokeSomeSpec)

/-- ITS FALSE NEIGHBOUR: 'it returns false'. Refute it at one input. -/
def fnRevokeSomeWrong : ChangeSpec := { name := "fnRevokeSome", fn := fun _ => fun
  | [d] => { results := [.lit (.bool false)], args := [d] }
  | _ => none }
def FnRevokeSomeWrongFalsely : Prop := fnRevokeSomeRow.holds Try.pinned (OpenSpec.ofChange fnRevokeSomeWrong)

/-- 'laws.FnRemoveAll': WHATEVER THE INPUT: true; the input reads as it did. -/
def fnRemoveAllSpec : ChangeSpec := { name := "fnRemoveAll", fn := fun _ => fun
  | [d] => { results := [.lit (.bool true)], args := [d] }
  | _ => none }
def fnRemoveAllRow : OpenClaim := { program := "ytpgmfjipkhldmaa", sum := "3c77776aa808e7798d024ffe4a200195e6460c33f5c9f7cc3a5d060b2c96664a", func := "loop.example/capkernel/laws.FnRemoveAll", spec := "fnRemoveAll", inPlace := ["internal/abi.NoEscape"], apart := false }
def FnRemoveAllSaid : Prop := fnRemoveAllRow.holds Try.pinned (OpenSpec.ofChange fnRemoveAllSpec)

/-- ITS FALSE NEIGHBOUR: 'it returns false'. Refute it at one input. -/
def fnRemoveAllWrong : ChangeSpec := { name := "fnRemoveAll", fn := fun _ => fun
  | [d] => { results := [.lit (.bool false)], args := [d] }
  | _ => none }
def FnRemoveAllWrongFalsely : Prop := fnRemoveAllRow.holds Try.pinned (OpenSpec.ofChange fnRemoveAllWrong)

/-- 'laws.FnExactRevokeSome': WHATEVER THE INPUT: true; the input reads as it did. -/
def fnExactRevokeSomeSpec : ChangeSpec := { name := "fnExactRevokeSome", fn := fun _ => fun
  | [d1, d2, d3] => { results := [.lit (.bool true)], args := [d1, d2, d3] }
  | _ => none }
def fnExactRevokeSomeRow : OpenClaim := { program := "ytpgmfjipkhldmaa", sum := "3c77776aa808e7798d024ffe4a200195e6460c33f5c9f7cc3a5d060b2c96664a", func := "loop.example/capkernel/laws.FnExactRevokeSome", spec := "fnExactRevokeSome", apart := false }
def FnExactRevokeSomeSaid : Prop := fnExactRevokeSomeRow.holds Try.pinned (OpenSpec.ofChange fnExactRevokeSomeSpec)

/-- ITS FALSE NEIGHBOUR: 'it returns false'. Refute it at one input. -/
def fnExactRevokeSomeWrong : ChangeSpec := { name := "fnExactRevokeSome", fn := fun _ => fun
  | [d1, d2, d3] => { results := [.lit (.bool false)], args := [d1, d2, d3] }
  | _ => none }
def FnExactRevokeSomeWrongFalsely : Prop := fnExactRevokeSomeRow.holds Try.pinned (OpenSpec.ofChange fnExactRevokeSomeWrong)

/-- 'laws.FnStrongestLeft': WHATEVER THE INPUT: true; the input reads as it did. -/
def fnStrongestLeftSpec : ChangeSpec := { name := "fnStrongestLeft", fn := fun _ => fun
  | [d] => { results := [.lit (.bool true)], args := [d] }
  | _ => none }
def fnStrongestLeftRow : OpenClaim := { program := "ytpgmfjipkhldmaa", sum := "3c77776aa808e7798d024ffe4a200195e6460c33f5c9f7cc3a5d060b2c96664a", func := "loop.example/capkernel/laws.FnStrongestLeft", spec := "fnStrongestLeft", inPlace := ["internal/abi.NoEscape"], apart := false }
def FnStrongestLeftSaid : Prop := fnStrongestLeftRow.holds Try.pinned (OpenSpec.ofChange fnStrongestLeftSpec)

/-- ITS FALSE NEIGHBOUR: 'it returns false'. Refute it at one input. -/
def fnStrongestLeftWrong : ChangeSpec := { name := "fnStrongestLeft", fn := fun _ => fun
  | [d] => { results := [.lit (.bool false)], args := [d] }
  | _ => none }
def FnStrongestLeftWrongFalsely : Prop := fnStrongestLeftRow.holds Try.pinned (OpenSpec.ofChange fnStrongestLeftWrong)

/- THE SECOND FORM. 'bulk': how many values and letters a reading holds, each counted each time it is reached (what is shared counts as often as it is met; a slice's spare places count too). A statement '..UptoSaid' is the law's where the arguments, and the package variables that the reading takes, are together of bulk at most 1048576: NARROWER than '..Said'. Prove '..Said' where nothing that the law and all that it calls make is longer than what came in: it says more and counts as full. Else prove '..UptoSaid'. A law counts once. -/
mutual
def uptoBulk {H : Type} : DataW H → Nat
  | .lit (.string bytes) => bytes.length + 1
  | .lit _ => 1
  | .nil => 1
  | .ptr d => uptoBulk d + 1
  | .slice elems spare => uptoBulkAll elems + uptoBulkAll spare + 1
  | .agg parts => uptoBulkAll parts + 1
  | .iface _ d => uptoBulk d + 1
  | .map entries => uptoBulkEntries entries + 1
  | .held _ => 1
def uptoBulkAll {H : Type} : List (DataW H) → Nat
  | [] => 0
  | d :: r => uptoBulk d + uptoBulkAll r
def uptoBulkEntries {H : Type} : List (Lit × DataW H) → Nat
  | [] => 0
  | x :: r => uptoBulkEntry x + uptoBulkEntries r
def uptoBulkEntry {H : Type} : Lit × DataW H → Nat
  | (.string bytes, d) => bytes.length + uptoBulk d + 1
  | (_, d) => uptoBulk d + 1
 end
def uptoSmall : (H : Type) → List (DataW H) → Bool := fun _ ds => decide (uptoBulkAll ds ≤ 1048576)
def OpenSpec.upto (s : _root_.Go.ChangeSpec) : _root_.Go.OpenSpec := { _root_.Go.OpenSpec.ofChange s with cond := some uptoSmall }

/-- 'laws.FnRevokeSteps', WHERE WHAT IT READS IS OF BULK AT MOST 1048576: true; the input reads as it did. -/
def fnRevokeStepsUptoRow : OpenClaim := { program := "ytpgmfjipkhldmaa", sum := "3c77776aa808e7798d024ffe4a200195e6460c33f5c9f7cc3a5d060b2c96664a", func := "loop.example/capkernel/laws.FnRevokeSteps", spec := "fnRevokeSteps", inPlace := ["internal/abi.NoEscape"], apart := false, narrowed := true }
def FnRevokeStepsUptoSaid : Prop := fnRevokeStepsUptoRow.holds Try.pinned (OpenSpec.upto fnRevokeStepsSpec)

/-- 'laws.FnRevokeSome', WHERE WHAT IT READS IS OF BULK AT MOST 1048576: true; the input reads as it did. -/
def fnRevokeSomeUptoRow : OpenClaim := { program := "ytpgmfjipkhldmaa", sum := "3c77776aa808e7798d024ffe4a200195e6460c33f5c9f7cc3a5d060b2c96664a", func := "loop.example/capkernel/laws.FnRevokeSome", spec := "fnRevokeSome", inPlace := ["internal/abi.NoEscape"], apart := false, narrowed := true }
def FnRevokeSomeUptoSaid : Prop := fnRevokeSomeUptoRow.holds Try.pinned (OpenSpec.upto fnRevokeSomeSpec)

/-- 'laws.FnRemoveAll', WHERE WHAT IT READS IS OF BULK AT MOST 1048576: true; the input reads as it did. -/
def fnRemoveAllUptoRow : OpenClaim := { program := "ytpgmfjipkhldmaa", sum := "3c77776aa808e7798d024ffe4a200195e6460c33f5c9f7cc3a5d060b2c96664a", func := "loop.example/capkernel/laws.FnRemoveAll", spec := "fnRemoveAll", inPlace := ["internal/abi.NoEscape"], apart := false, narrowed := true }
def FnRemoveAllUptoSaid : Prop := fnRemoveAllUptoRow.holds Try.pinned (OpenSpec.upto fnRemoveAllSpec)

/-- 'laws.FnExactRevokeSome', WHERE WHAT IT READS IS OF BULK AT MOST 1048576: true; the input reads as it did. -/
def fnExactRevokeSomeUptoRow : OpenClaim := { program := "ytpgmfjipkhldmaa", sum := "3c77776aa808e7798d024ffe4a200195e6460c33f5c9f7cc3a5d060b2c96664a", func := "loop.example/capkernel/laws.FnExactRevokeSome", spec := "fnExactRevokeSome", apart := false, narrowed := true }
def FnExactRevokeSomeUptoSaid : Prop := fnExactRevokeSomeUptoRow.holds Try.pinned (OpenSpec.upto fnExactRevokeSomeSpec)

/-- 'laws.FnStrongestLeft', WHERE WHAT IT READS IS OF BULK AT MOST 1048576: true; the input reads as it did. -/
def fnStrongestLeftUptoRow : OpenClaim := { program := "ytpgmfjipkhldmaa", sum := "3c77776aa808e7798d024ffe4a200195e6460c33f5c9f7cc3a5d060b2c96664a", func := "loop.example/capkernel/laws.FnStrongestLeft", spec := "fnStrongestLeft", inPlace := ["internal/abi.NoEscape"], apart := false, narrowed := true }
def FnStrongestLeftUptoSaid : Prop := fnStrongestLeftUptoRow.holds Try.pinned (OpenSpec.upto fnStrongestLeftSpec)

end Rows
end Go.Proofs.Ytpgmfjipkhldmaa
