/-
  No cell of these rows narrows 'for every input' (looked for: loops, veiled, ifaces, maps, wideKeys, modest, calm, conditions, laid).
  DERIVED. THE GIVEN ROWS OF THIS SEAT. 9 by the template 'for every input the law returns true; each argument reads behind the call as it read before'; 0 by the template 'total and deterministic' (their statements: YthbfpgdfigilaaaTotals.lean).
  GIVEN WITH THE SEED: the statements are not yours to turn. If you find one false, say at which input.
  Laid BY PROGRAM, IN A SANDBOX (cutbox-rows.mjs): the forced cells as the released guide's own fill.sh prints them over the translation 3268248c5d61834a… (all of the seat's roots in one cut). By AI agents, Wed Nov 11 2026. No macro, syntax, notation, axiom, sorry.
-/
import Derived.Test.YthbfpgdfigilaaaChecked
import GoSem.Claim
import GoSem.ClaimJoined
import GoSem.ClaimMapViews
import Derived.JoinedTies
import Derived.KernelRfl
namespace Go.Proofs.Ythbfpgdfigilaaa
/- THE CELL 'sum', in the pinned program and in every row, IS THE sha256 OF THE DUMP (.gsa) THAT YthbfpgdfigilaaaProg.lean LOADS. Nothing in Lean hashes anything: it is a label: what it is worth is what the hold of that sum in a sandbox is worth. -/
noncomputable def Try.pinned : Pinned := { name := "ythbfpgdfigilaaa", sum := "3268248c5d61834a7ca9d8fd3451b82cf7139e1cb80e730656aac51f32db5a8e", checked := Try.checked }
namespace Rows
def none {H : Type} : Left H := { results := [], args := [] }

/-- 'laws.FnExactMessageValid': WHATEVER THE INPUT: true; the input reads as it did. -/
def fnExactMessageValidSpec : ChangeSpec := { name := "fnExactMessageValid", fn := fun _ => fun
  | [d] => { results := [.lit (.bool true)], args := [d] }
  | _ => none }
def fnExactMessageValidRow : OpenClaim := { program := "ythbfpgdfigilaaa", sum := "3268248c5d61834a7ca9d8fd3451b82cf7139e1cb80e730656aac51f32db5a8e", func := "loop.example/capkernel/laws.FnExactMessageValid", spec := "fnExactMessageValid", unfollowed := true, recurses := true, apart := false }
def FnExactMessageValidSaid : Prop := fnExactMessageValidRow.holds Try.pinned (OpenSpec.ofChange fnExactMessageValidSpec)

/-- ITS FALSE NEIGHBOUR: 'it returns false'. Refute it at one input. -/
def fnExactMessageValidWrong : ChangeSpec := { name := "fnExactMessageValid", fn := fun _ => fun
  | [d] => { results := [.lit (.bool false)], args := [d] }
  | _ => none }
def FnExactMessageValidWrongFalsely : Prop := fnExactMessageValidRow.holds Try.pinned (OpenSpec.ofChange fnExactMessageValidWrong)

/-- 'laws.FnExactPackMessage': WHATEVER THE INPUT: true; the input reads as it did. -/
def fnExactPackMessageSpec : ChangeSpec := { name := "fnExactPackMessage", fn := fun _ => fun
  | [d] => { results := [.lit (.bool true)], args := [d] }
  | _ => none }
def fnExactPackMessageRow : OpenClaim := { program := "ythbfpgdfigilaaa", sum := "3268248c5d61834a7ca9d8fd3451b82cf7139e1cb80e730656aac51f32db5a8e", func := "loop.example/capkernel/laws.FnExactPackMessage", spec := "fnExactPackMessage", unfollowed := true, recurses := true, apart := false }
def FnExactPackMessageSaid : Prop := fnExactPackMessageRow.holds Try.pinned (OpenSpec.ofChange fnExactPackMessageSpec)

/-- ITS FALSE NEIGHBOUR: 'it returns false'. Refute it at one input. -/
def fnExactPackMessageWrong : ChangeSpec := { name := "fnExactPackMessage", fn := fun _ => fun
  | [d] => { results := [.lit (.bool false)], args := [d] }
  | _ => none }
def FnExactPackMessageWrongFalsely : Prop := fnExactPackMessageRow.holds Try.pinned (OpenSpec.ofChange fnExactPackMessageWrong)

/-- 'laws.FnExactUnpackMessage': WHATEVER THE INPUT: true; the input reads as it did. -/
def fnExactUnpackMessageSpec : ChangeSpec := { name := "fnExactUnpackMessage", fn := fun _ => fun
  | [d] => { results := [.lit (.bool true)], args := [d] }
  | _ => none }
def fnExactUnpackMessageRow : OpenClaim := { program := "ythbfpgdfigilaaa", sum := "3268248c5d61834a7ca9d8fd3451b82cf7139e1cb80e730656aac51f32db5a8e", func := "loop.example/capkernel/laws.FnExactUnpackMessage", spec := "fnExactUnpackMessage", unfollowed := true, recurses := true, apart := false }
def FnExactUnpackMessageSaid : Prop := fnExactUnpackMessageRow.holds Try.pinned (OpenSpec.ofChange fnExactUnpackMessageSpec)

/-- ITS FALSE NEIGHBOUR: 'it returns false'. Refute it at one input. -/
def fnExactUnpackMessageWrong : ChangeSpec := { name := "fnExactUnpackMessage", fn := fun _ => fun
  | [d] => { results := [.lit (.bool false)], args := [d] }
  | _ => none }
def FnExactUnpackMessageWrongFalsely : Prop := fnExactUnpackMessageRow.holds Try.pinned (OpenSpec.ofChange fnExactUnpackMessageWrong)

/-- 'laws.FnExactSendOver': WHATEVER THE INPUT: true; the input reads as it did. -/
def fnExactSendOverSpec : ChangeSpec := { name := "fnExactSendOver", fn := fun _ => fun
  | [d1, d2] => { results := [.lit (.bool true)], args := [d1, d2] }
  | _ => none }
def fnExactSendOverRow : OpenClaim := { program := "ythbfpgdfigilaaa", sum := "3268248c5d61834a7ca9d8fd3451b82cf7139e1cb80e730656aac51f32db5a8e", func := "loop.example/capkernel/laws.FnExactSendOver", spec := "fnExactSendOver", unfollowed := true, recurses := true, apart := false }
def FnExactSendOverSaid : Prop := fnExactSendOverRow.holds Try.pinned (OpenSpec.ofChange fnExactSendOverSpec)

/-- ITS FALSE NEIGHBOUR: 'it returns false'. Refute it at one input. -/
def fnExactSendOverWrong : ChangeSpec := { name := "fnExactSendOver", fn := fun _ => fun
  | [d1, d2] => { results := [.lit (.bool false)], args := [d1, d2] }
  | _ => none }
def FnExactSendOverWrongFalsely : Prop := fnExactSendOverRow.holds Try.pinned (OpenSpec.ofChange fnExactSendOverWrong)

/-- 'laws.FnUnpackMessage': WHATEVER THE INPUT: true; the input reads as it did. -/
def fnUnpackMessageSpec : ChangeSpec := { name := "fnUnpackMessage", fn := fun _ => fun
  | [d] => { results := [.lit (.bool true)], args := [d] }
  | _ => none }
def fnUnpackMessageRow : OpenClaim := { program := "ythbfpgdfigilaaa", sum := "3268248c5d61834a7ca9d8fd3451b82cf7139e1cb80e730656aac51f32db5a8e", func := "loop.example/capkernel/laws.FnUnpackMessage", spec := "fnUnpackMessage", inPlace := ["internal/abi.NoEscape"], unfollowed := true, recurses := true, apart := false }
def FnUnpackMessageSaid : Prop := fnUnpackMessageRow.holds Try.pinned (OpenSpec.ofChange fnUnpackMessageSpec)

/-- ITS FALSE NEIGHBOUR: 'it returns false'. Refute it at one input. -/
def fnUnpackMessageWrong : ChangeSpec := { name := "fnUnpackMessage", fn := fun _ => fun
  | [d] => { results := [.lit (.bool false)], args := [d] }
  | _ => none }
def FnUnpackMessageWrongFalsely : Prop := fnUnpackMessageRow.holds Try.pinned (OpenSpec.ofChange fnUnpackMessageWrong)

/-- 'laws.FnMessageValid': WHATEVER THE INPUT: true; the input reads as it did. -/
def fnMessageValidSpec : ChangeSpec := { name := "fnMessageValid", fn := fun _ => fun
  | [d] => { results := [.lit (.bool true)], args := [d] }
  | _ => none }
def fnMessageValidRow : OpenClaim := { program := "ythbfpgdfigilaaa", sum := "3268248c5d61834a7ca9d8fd3451b82cf7139e1cb80e730656aac51f32db5a8e", func := "loop.example/capkernel/laws.FnMessageValid", spec := "fnMessageValid", inPlace := ["internal/abi.NoEscape"], unfollowed := true, recurses := true, apart := false }
def FnMessageValidSaid : Prop := fnMessageValidRow.holds Try.pinned (OpenSpec.ofChange fnMessageValidSpec)

/-- ITS FALSE NEIGHBOUR: 'it returns false'. Refute it at one input. -/
def fnMessageValidWrong : ChangeSpec := { name := "fnMessageValid", fn := fun _ => fun
  | [d] => { results := [.lit (.bool false)], args := [d] }
  | _ => none }
def FnMessageValidWrongFalsely : Prop := fnMessageValidRow.holds Try.pinned (OpenSpec.ofChange fnMessageValidWrong)

/-- 'laws.FnSendOver': WHATEVER THE INPUT: true; the input reads as it did. -/
def fnSendOverSpec : ChangeSpec := { name := "fnSendOver", fn := fun _ => fun
  | [d] => { results := [.lit (.bool true)], args := [d] }
  | _ => none }
def fnSendOverRow : OpenClaim := { program := "ythbfpgdfigilaaa", sum := "3268248c5d61834a7ca9d8fd3451b82cf7139e1cb80e730656aac51f32db5a8e", func := "loop.example/capkernel/laws.FnSendOver", spec := "fnSendOver", inPlace := ["internal/abi.NoEscape"], unfollowed := true, recurses := true, apart := false }
def FnSendOverSaid : Prop := fnSendOverRow.holds Try.pinned (OpenSpec.ofChange fnSendOverSpec)

/-- ITS FALSE NEIGHBOUR: 'it returns false'. Refute it at one input. -/
def fnSendOverWrong : ChangeSpec := { name := "fnSendOver", fn := fun _ => fun
  | [d] => { results := [.lit (.bool false)], args := [d] }
  | _ => none }
def FnSendOverWrongFalsely : Prop := fnSendOverRow.holds Try.pinned (OpenSpec.ofChange fnSendOverWrong)

/-- 'laws.FnSendChain': WHATEVER THE INPUT: true; the input reads as it did. -/
def fnSendChainSpec : ChangeSpec := { name := "fnSendChain", fn := fun _ => fun
  | [d1, d2] => { results := [.lit (.bool true)], args := [d1, d2] }
  | _ => none }
def fnSendChainRow : OpenClaim := { program := "ythbfpgdfigilaaa", sum := "3268248c5d61834a7ca9d8fd3451b82cf7139e1cb80e730656aac51f32db5a8e", func := "loop.example/capkernel/laws.FnSendChain", spec := "fnSendChain", inPlace := ["internal/abi.NoEscape"], unfollowed := true, recurses := true, apart := false }
def FnSendChainSaid : Prop := fnSendChainRow.holds Try.pinned (OpenSpec.ofChange fnSendChainSpec)

/-- ITS FALSE NEIGHBOUR: 'it returns false'. Refute it at one input. -/
def fnSendChainWrong : ChangeSpec := { name := "fnSendChain", fn := fun _ => fun
  | [d1, d2] => { results := [.lit (.bool false)], args := [d1, d2] }
  | _ => none }
def FnSendChainWrongFalsely : Prop := fnSendChainRow.holds Try.pinned (OpenSpec.ofChange fnSendChainWrong)

/-- 'laws.FnPackMessage': WHATEVER THE INPUT: true; the input reads as it did. -/
def fnPackMessageSpec : ChangeSpec := { name := "fnPackMessage", fn := fun _ => fun
  | [d] => { results := [.lit (.bool true)], args := [d] }
  | _ => none }
def fnPackMessageRow : OpenClaim := { program := "ythbfpgdfigilaaa", sum := "3268248c5d61834a7ca9d8fd3451b82cf7139e1cb80e730656aac51f32db5a8e", func := "loop.example/capkernel/laws.FnPackMessage", spec := "fnPackMessage", inPlace := ["internal/abi.NoEscape"], unfollowed := true, recurses := true, apart := false }
def FnPackMessageSaid : Prop := fnPackMessageRow.holds Try.pinned (OpenSpec.ofChange fnPackMessageSpec)

/-- ITS FALSE NEIGHBOUR: 'it returns false'. Refute it at one input. -/
def fnPackMessageWrong : ChangeSpec := { name := "fnPackMessage", fn := fun _ => fun
  | [d] => { results := [.lit (.bool false)], args := [d] }
  | _ => none }
def FnPackMessageWrongFalsely : Prop := fnPackMessageRow.holds Try.pinned (OpenSpec.ofChange fnPackMessageWrong)

/- THE SECOND FORM. 'bulk': how many values and letters a reading holds, each counted each time it is reached (what is shared counts as often as it is met; a slice's spare places count too). A statement '..UptoSaid' is the law's where the arguments, and the package variables that the reading takes, are together of bulk at most 1048576: NARROWER than '..Said'. Prove '..Said' where nothing that the law and all that it calls make is longer than what came in: it says more and counts as full. Else prove '..UptoSaid'. A law counts once. -/
mutual
def uptoBulk {H : Type} : DataW H → Nat
  | .lit (.string bytes) => bytes.length + 1
  | .lit _ => 1
  | .nil => 1
  | .ptr d => uptoBulk d + 1
  | .slice elems spare => uptoBulkAll elems + uptoBulkAll spare + 1
  | .agg parts => uptoBulkAll parts + 1
  | .iface _ d => uptoBulk d + 1
  | .map entries => uptoBulkEntries entries + 1
  | .held _ => 1
def uptoBulkAll {H : Type} : List (DataW H) → Nat
  | [] => 0
  | d :: r => uptoBulk d + uptoBulkAll r
def uptoBulkEntries {H : Type} : List (Lit × DataW H) → Nat
  | [] => 0
  | x :: r => uptoBulkEntry x + uptoBulkEntries r
def uptoBulkEntry {H : Type} : Lit × DataW H → Nat
  | (.string bytes, d) => bytes.length + uptoBulk d + 1
  | (_, d) => uptoBulk d + 1
 end
def uptoSmall : (H : Type) → List (DataW H) → Bool := fun _ ds => decide (uptoBulkAll ds ≤ 1048576)
def OpenSpec.upto (s : _root_.Go.ChangeSpec) : _root_.Go.OpenSpec := { _root_.Go.OpenSpec.ofChange s with cond := some uptoSmall }

/-- 'laws.FnExactMessageValid', WHERE WHAT IT READS IS OF BULK AT MOST 1048576: true; the input reads as it did. -/
def fnExactMessageValidUptoRow : OpenClaim := { program := "ythbfpgdfigilaaa", sum := "3268248c5d61834a7ca9d8fd3451b82cf7139e1cb80e730656aac51f32db5a8e", func := "loop.example/capkernel/laws.FnExactMessageValid", spec := "fnExactMessageValid", unfollowed := true, recurses := true, apart := false, narrowed := true }
def FnExactMessageValidUptoSaid : Prop := fnExactMessageValidUptoRow.holds Try.pinned (OpenSpec.upto fnExactMessageValidSpec)

/-- 'laws.FnExactPackMessage', WHERE WHAT IT READS IS OF BULK AT MOST 1048576: true; the input reads as it did. -/
def fnExactPackMessageUptoRow : OpenClaim := { program := "ythbfpgdfigilaaa", sum := "3268248c5d61834a7ca9d8fd3451b82cf7139e1cb80e730656aac51f32db5a8e", func := "loop.example/capkernel/laws.FnExactPackMessage", spec := "fnExactPackMessage", unfollowed := true, recurses := true, apart := false, narrowed := true }
def FnExactPackMessageUptoSaid : Prop := fnExactPackMessageUptoRow.holds Try.pinned (OpenSpec.upto fnExactPackMessageSpec)

/-- 'laws.FnExactUnpackMessage', WHERE WHAT IT READS IS OF BULK AT MOST 1048576: true; the input reads as it did. -/
def fnExactUnpackMessageUptoRow : OpenClaim := { program := "ythbfpgdfigilaaa", sum := "3268248c5d61834a7ca9d8fd3451b82cf7139e1cb80e730656aac51f32db5a8e", func := "loop.example/capkernel/laws.FnExactUnpackMessage", spec := "fnExactUnpackMessage", unfollowed := true, recurses := true, apart := false, narrowed := true }
def FnExactUnpackMessageUptoSaid : Prop := fnExactUnpackMessageUptoRow.holds Try.pinned (OpenSpec.upto fnExactUnpackMessageSpec)

/-- 'laws.FnExactSendOver', WHERE WHAT IT READS IS OF BULK AT MOST 1048576: true; the input reads as it did. -/
def fnExactSendOverUptoRow : OpenClaim := { program := "ythbfpgdfigilaaa", sum := "3268248c5d61834a7ca9d8fd3451b82cf7139e1cb80e730656aac51f32db5a8e", func := "loop.example/capkernel/laws.FnExactSendOver", spec := "fnExactSendOver", unfollowed := true, recurses := true, apart := false, narrowed := true }
def FnExactSendOverUptoSaid : Prop := fnExactSendOverUptoRow.holds Try.pinned (OpenSpec.upto fnExactSendOverSpec)

/-- 'laws.FnUnpackMessage', WHERE WHAT IT READS IS OF BULK AT MOST 1048576: true; the input reads as it did. -/
def fnUnpackMessageUptoRow : OpenClaim := { program := "ythbfpgdfigilaaa", sum := "3268248c5d61834a7ca9d8fd3451b82cf7139e1cb80e730656aac51f32db5a8e", func := "loop.example/capkernel/laws.FnUnpackMessage", spec := "fnUnpackMessage", inPlace := ["internal/abi.NoEscape"], unfollowed := true, recurses := true, apart := false, narrowed := true }
def FnUnpackMessageUptoSaid : Prop := fnUnpackMessageUptoRow.holds Try.pinned (OpenSpec.upto fnUnpackMessageSpec)

/-- 'laws.FnMessageValid', WHERE WHAT IT READS IS OF BULK AT MOST 1048576: true; the input reads as it did. -/
def fnMessageValidUptoRow : OpenClaim := { program := "ythbfpgdfigilaaa", sum := "3268248c5d61834a7ca9d8fd3451b82cf7139e1cb80e730656aac51f32db5a8e", func := "loop.example/capkernel/laws.FnMessageValid", spec := "fnMessageValid", inPlace := ["internal/abi.NoEscape"], unfollowed := true, recurses := true, apart := false, narrowed := true }
def FnMessageValidUptoSaid : Prop := fnMessageValidUptoRow.holds Try.pinned (OpenSpec.upto fnMessageValidSpec)

/-- 'laws.FnSendOver', WHERE WHAT IT READS IS OF BULK AT MOST 1048576: true; the input reads as it did. -/
def fnSendOverUptoRow : OpenClaim := { program := "ythbfpgdfigilaaa", sum := "3268248c5d61834a7ca9d8fd3451b82cf7139e1cb80e730656aac51f32db5a8e", func := "loop.example/capkernel/laws.FnSendOver", spec := "fnSendOver", inPlace := ["internal/abi.NoEscape"], unfollowed := true, recurses := true, apart := false, narrowed := true }
def FnSendOverUptoSaid : Prop := fnSendOverUptoRow.holds Try.pinned (OpenSpec.upto fnSendOverSpec)

/-- 'laws.FnSendChain', WHERE WHAT IT READS IS OF BULK AT MOST 1048576: true; the input reads as it did. -/
def fnSendChainUptoRow : OpenClaim := { program := "ythbfpgdfigilaaa", sum := "3268248c5d61834a7ca9d8fd3451b82cf7139e1cb80e730656aac51f32db5a8e", func := "loop.example/capkernel/laws.FnSendChain", spec := "fnSendChain", inPlace := ["internal/abi.NoEscape"], unfollowed := true, recurses := true, apart := false, narrowed := true }
def FnSendChainUptoSaid : Prop := fnSendChainUptoRow.holds Try.pinned (OpenSpec.upto fnSendChainSpec)

/-- 'laws.FnPackMessage', WHERE WHAT IT READS IS OF BULK AT MOST 1048576: true; the input reads as it did. -/
def fnPackMessageUptoRow : OpenClaim := { program := "ythbfpgdfigilaaa", sum := "3268248c5d61834a7ca9d8fd3451b82cf7139e1cb80e730656aac51f32db5a8e", func := "loop.example/capkernel/laws.FnPackMessage", spec := "fnPackMessage", inPlace := ["internal/abi.NoEscape"], unfollowed := true, recurses := true, apart := false, narrowed := true }
def FnPackMessageUptoSaid : Prop := fnPackMessageUptoRow.holds Try.pinned (OpenSpec.upto fnPackMessageSpec)

end Rows
end Go.Proofs.Ythbfpgdfigilaaa
