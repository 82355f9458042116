/-
  No cell of these rows narrows 'for every input' (looked for: loops, veiled, ifaces, maps, wideKeys, modest, calm, conditions, laid).
  DERIVED. THE GIVEN ROWS OF THIS SEAT. 9 by the template 'for every input the law returns true; each argument reads behind the call as it read before'; 0 by the template 'total and deterministic' (their statements: YtcdbamaifdabnaaTotals.lean).
  GIVEN WITH THE SEED: the statements are not yours to turn. If you find one false, say at which input.
  Laid BY PROGRAM, IN A SANDBOX (cutbox-rows.mjs): the forced cells as the released guide's own fill.sh prints them over the translation 171ddc6dbe5f0b9c… (all of the seat's roots in one cut). By AI agents, Wed Nov 11 2026. No macro, syntax, notation, axiom, sorry.
-/
import Derived.Test.YtcdbamaifdabnaaChecked
import GoSem.Claim
import GoSem.ClaimJoined
import GoSem.ClaimMapViews
import Derived.JoinedTies
import Derived.KernelRfl
namespace Go.Proofs.Ytcdbamaifdabnaa
/- THE CELL 'sum', in the pinned program and in every row, IS THE sha256 OF THE DUMP (.gsa) THAT YtcdbamaifdabnaaProg.lean LOADS. Nothing in Lean hashes anything: it is a label: what it is worth is what the hold of that sum in a sandbox is worth. -/
noncomputable def Try.pinned : Pinned := { name := "ytcdbamaifdabnaa", sum := "171ddc6dbe5f0b9cd350a7a59508f5a14ff0383154761681130d974c2a7a721b", checked := Try.checked }
namespace Rows
def none {H : Type} : Left H := { results := [], args := [] }

/-- 'laws.FnExactNoticeValid': WHATEVER THE INPUT: true; the input reads as it did. -/
def fnExactNoticeValidSpec : ChangeSpec := { name := "fnExactNoticeValid", fn := fun _ => fun
  | [d] => { results := [.lit (.bool true)], args := [d] }
  | _ => none }
def fnExactNoticeValidRow : OpenClaim := { program := "ytcdbamaifdabnaa", sum := "171ddc6dbe5f0b9cd350a7a59508f5a14ff0383154761681130d974c2a7a721b", func := "loop.example/capkernel/laws.FnExactNoticeValid", spec := "fnExactNoticeValid", apart := false }
def FnExactNoticeValidSaid : Prop := fnExactNoticeValidRow.holds Try.pinned (OpenSpec.ofChange fnExactNoticeValidSpec)

/-- ITS FALSE NEIGHBOUR: 'it returns false'. Refute it at one input. -/
def fnExactNoticeValidWrong : ChangeSpec := { name := "fnExactNoticeValid", fn := fun _ => fun
  | [d] => { results := [.lit (.bool false)], args := [d] }
  | _ => none }
def FnExactNoticeValidWrongFalsely : Prop := fnExactNoticeValidRow.holds Try.pinned (OpenSpec.ofChange fnExactNoticeValidWrong)

/-- 'laws.FnExactPollNotice': WHATEVER THE INPUT: true; the input reads as it did. -/
def fnExactPollNoticeSpec : ChangeSpec := { name := "fnExactPollNotice", fn := fun _ => fun
  | [d] => { results := [.lit (.bool true)], args := [d] }
  | _ => none }
def fnExactPollNoticeRow : OpenClaim := { program := "ytcdbamaifdabnaa", sum := "171ddc6dbe5f0b9cd350a7a59508f5a14ff0383154761681130d974c2a7a721b", func := "loop.example/capkernel/laws.FnExactPollNotice", spec := "fnExactPollNotice", apart := false }
def FnExactPollNoticeSaid : Prop := fnExactPollNoticeRow.holds Try.pinned (OpenSpec.ofChange fnExactPollNoticeSpec)

/-- ITS FALSE NEIGHBOUR: 'it returns false'. Refute it at one input. -/
def fnExactPollNoticeWrong : ChangeSpec := { name := "fnExactPollNotice", fn := fun _ => fun
  | [d] => { results := [.lit (.bool false)], args := [d] }
  | _ => none }
def FnExactPollNoticeWrongFalsely : Prop := fnExactPollNoticeRow.holds Try.pinned (OpenSpec.ofChange fnExactPollNoticeWrong)

/-- 'laws.FnExactSignalNotice': WHATEVER THE INPUT: true; the input reads as it did. -/
def fnExactSignalNoticeSpec : ChangeSpec := { name := "fnExactSignalNotice", fn := fun _ => fun
  | [d1, d2] => { results := [.lit (.bool true)], args := [d1, d2] }
  | _ => none }
def fnExactSignalNoticeRow : OpenClaim := { program := "ytcdbamaifdabnaa", sum := "171ddc6dbe5f0b9cd350a7a59508f5a14ff0383154761681130d974c2a7a721b", func := "loop.example/capkernel/laws.FnExactSignalNotice", spec := "fnExactSignalNotice", apart := false }
def FnExactSignalNoticeSaid : Prop := fnExactSignalNoticeRow.holds Try.pinned (OpenSpec.ofChange fnExactSignalNoticeSpec)

/-- ITS FALSE NEIGHBOUR: 'it returns false'. Refute it at one input. -/
def fnExactSignalNoticeWrong : ChangeSpec := { name := "fnExactSignalNotice", fn := fun _ => fun
  | [d1, d2] => { results := [.lit (.bool false)], args := [d1, d2] }
  | _ => none }
def FnExactSignalNoticeWrongFalsely : Prop := fnExactSignalNoticeRow.holds Try.pinned (OpenSpec.ofChange fnExactSignalNoticeWrong)

/-- 'laws.FnExactWaitNotice': WHATEVER THE INPUT: true; the input reads as it did. -/
def fnExactWaitNoticeSpec : ChangeSpec := { name := "fnExactWaitNotice", fn := fun _ => fun
  | [d1, d2] => { results := [.lit (.bool true)], args := [d1, d2] }
  | _ => none }
def fnExactWaitNoticeRow : OpenClaim := { program := "ytcdbamaifdabnaa", sum := "171ddc6dbe5f0b9cd350a7a59508f5a14ff0383154761681130d974c2a7a721b", func := "loop.example/capkernel/laws.FnExactWaitNotice", spec := "fnExactWaitNotice", apart := false }
def FnExactWaitNoticeSaid : Prop := fnExactWaitNoticeRow.holds Try.pinned (OpenSpec.ofChange fnExactWaitNoticeSpec)

/-- ITS FALSE NEIGHBOUR: 'it returns false'. Refute it at one input. -/
def fnExactWaitNoticeWrong : ChangeSpec := { name := "fnExactWaitNotice", fn := fun _ => fun
  | [d1, d2] => { results := [.lit (.bool false)], args := [d1, d2] }
  | _ => none }
def FnExactWaitNoticeWrongFalsely : Prop := fnExactWaitNoticeRow.holds Try.pinned (OpenSpec.ofChange fnExactWaitNoticeWrong)

/-- 'laws.FnNoticeValid': WHATEVER THE INPUT: true; the input reads as it did. -/
def fnNoticeValidSpec : ChangeSpec := { name := "fnNoticeValid", fn := fun _ => fun
  | [d] => { results := [.lit (.bool true)], args := [d] }
  | _ => none }
def fnNoticeValidRow : OpenClaim := { program := "ytcdbamaifdabnaa", sum := "171ddc6dbe5f0b9cd350a7a59508f5a14ff0383154761681130d974c2a7a721b", func := "loop.example/capkernel/laws.FnNoticeValid", spec := "fnNoticeValid", inPlace := ["internal/abi.NoEscape"], apart := false }
def FnNoticeValidSaid : Prop := fnNoticeValidRow.holds Try.pinned (OpenSpec.ofChange fnNoticeValidSpec)

/-- ITS FALSE NEIGHBOUR: 'it returns false'. Refute it at one input. -/
def fnNoticeValidWrong : ChangeSpec := { name := "fnNoticeValid", fn := fun _ => fun
  | [d] => { results := [.lit (.bool false)], args := [d] }
  | _ => none }
def FnNoticeValidWrongFalsely : Prop := fnNoticeValidRow.holds Try.pinned (OpenSpec.ofChange fnNoticeValidWrong)

/-- 'laws.FnPollNotice': WHATEVER THE INPUT: true; the input reads as it did. -/
def fnPollNoticeSpec : ChangeSpec := { name := "fnPollNotice", fn := fun _ => fun
  | [d] => { results := [.lit (.bool true)], args := [d] }
  | _ => none }
def fnPollNoticeRow : OpenClaim := { program := "ytcdbamaifdabnaa", sum := "171ddc6dbe5f0b9cd350a7a59508f5a14ff0383154761681130d974c2a7a721b", func := "loop.example/capkernel/laws.FnPollNotice", spec := "fnPollNotice", inPlace := ["internal/abi.NoEscape"], apart := false }
def FnPollNoticeSaid : Prop := fnPollNoticeRow.holds Try.pinned (OpenSpec.ofChange fnPollNoticeSpec)

/-- ITS FALSE NEIGHBOUR: 'it returns false'. Refute it at one input. -/
def fnPollNoticeWrong : ChangeSpec := { name := "fnPollNotice", fn := fun _ => fun
  | [d] => { results := [.lit (.bool false)], args := [d] }
  | _ => none }
def FnPollNoticeWrongFalsely : Prop := fnPollNoticeRow.holds Try.pinned (OpenSpec.ofChange fnPollNoticeWrong)

/-- 'laws.FnNoticeBoth': WHATEVER THE INPUT: true; the input reads as it did. -/
def fnNoticeBothSpec : ChangeSpec := { name := "fnNoticeBoth", fn := fun _ => fun
  | [d1, d2] => { results := [.lit (.bool true)], args := [d1, d2] }
  | _ => none }
def fnNoticeBothRow : OpenClaim := { program := "ytcdbamaifdabnaa", sum := "171ddc6dbe5f0b9cd350a7a59508f5a14ff0383154761681130d974c2a7a721b", func := "loop.example/capkernel/laws.FnNoticeBoth", spec := "fnNoticeBoth", inPlace := ["internal/abi.NoEscape"], apart := false }
def FnNoticeBothSaid : Prop := fnNoticeBothRow.holds Try.pinned (OpenSpec.ofChange fnNoticeBothSpec)

/-- ITS FALSE NEIGHBOUR: 'it returns false'. Refute it at one input. -/
def fnNoticeBothWrong : ChangeSpec := { name := "fnNoticeBoth", fn := fun _ => fun
  | [d1, d2] => { results := [.lit (.bool false)], args := [d1, d2] }
  | _ => none }
def FnNoticeBothWrongFalsely : Prop := fnNoticeBothRow.holds Try.pinned (OpenSpec.ofChange fnNoticeBothWrong)

/-- 'laws.FnSignalNotice': WHATEVER THE INPUT: true; the input reads as it did. -/
def fnSignalNoticeSpec : ChangeSpec := { name := "fnSignalNotice", fn := fun _ => fun
  | [d] => { results := [.lit (.bool true)], args := [d] }
  | _ => none }
def fnSignalNoticeRow : OpenClaim := { program := "ytcdbamaifdabnaa", sum := "171ddc6dbe5f0b9cd350a7a59508f5a14ff0383154761681130d974c2a7a721b", func := "loop.example/capkernel/laws.FnSignalNotice", spec := "fnSignalNotice", inPlace := ["internal/abi.NoEscape"], apart := false }
def FnSignalNoticeSaid : Prop := fnSignalNoticeRow.holds Try.pinned (OpenSpec.ofChange fnSignalNoticeSpec)

/-- ITS FALSE NEIGHBOUR: 'it returns false'. Refute it at one input. -/
def fnSignalNoticeWrong : ChangeSpec := { name := "fnSignalNotice", fn := fun _ => fun
  | [d] => { results := [.lit (.bool false)], args := [d] }
  | _ => none }
def FnSignalNoticeWrongFalsely : Prop := fnSignalNoticeRow.holds Try.pinned (OpenSpec.ofChange fnSignalNoticeWrong)

/-- 'laws.FnWaitNotice': WHATEVER THE INPUT: true; the input reads as it did. -/
def fnWaitNoticeSpec : ChangeSpec := { name := "fnWaitNotice", fn := fun _ => fun
  | [d] => { results := [.lit (.bool true)], args := [d] }
  | _ => none }
def fnWaitNoticeRow : OpenClaim := { program := "ytcdbamaifdabnaa", sum := "171ddc6dbe5f0b9cd350a7a59508f5a14ff0383154761681130d974c2a7a721b", func := "loop.example/capkernel/laws.FnWaitNotice", spec := "fnWaitNotice", inPlace := ["internal/abi.NoEscape"], apart := false }
def FnWaitNoticeSaid : Prop := fnWaitNoticeRow.holds Try.pinned (OpenSpec.ofChange fnWaitNoticeSpec)

/-- ITS FALSE NEIGHBOUR: 'it returns false'. Refute it at one input. -/
def fnWaitNoticeWrong : ChangeSpec := { name := "fnWaitNotice", fn := fun _ => fun
  | [d] => { results := [.lit (.bool false)], args := [d] }
  | _ => none }
def FnWaitNoticeWrongFalsely : Prop := fnWaitNoticeRow.holds Try.pinned (OpenSpec.ofChange fnWaitNoticeWrong)

/- THE SECOND FORM. 'bulk': how many values and letters a reading holds, each counted each time it is reached (what is shared counts as often as it is met; a slice's spare places count too). A statement '..UptoSaid' is the law's where the arguments, and the package variables that the reading takes, are together of bulk at most 1048576: NARROWER than '..Said'. Prove '..Said' where nothing that the law and all that it calls make is longer than what came in: it says more and counts as full. Else prove '..UptoSaid'. A law counts once. -/
mutual
def uptoBulk {H : Type} : DataW H → Nat
  | .lit (.string bytes) => bytes.length + 1
  | .lit _ => 1
  | .nil => 1
  | .ptr d => uptoBulk d + 1
  | .slice elems spare => uptoBulkAll elems + uptoBulkAll spare + 1
  | .agg parts => uptoBulkAll parts + 1
  | .iface _ d => uptoBulk d + 1
  | .map entries => uptoBulkEntries entries + 1
  | .held _ => 1
def uptoBulkAll {H : Type} : List (DataW H) → Nat
  | [] => 0
  | d :: r => uptoBulk d + uptoBulkAll r
def uptoBulkEntries {H : Type} : List (Lit × DataW H) → Nat
  | [] => 0
  | x :: r => uptoBulkEntry x + uptoBulkEntries r
def uptoBulkEntry {H : Type} : Lit × DataW H → Nat
  | (.string bytes, d) => bytes.length + uptoBulk d + 1
  | (_, d) => uptoBulk d + 1
 end
def uptoSmall : (H : Type) → List (DataW H) → Bool := fun _ ds => decide (uptoBulkAll ds ≤ 1048576)
def OpenSpec.upto (s : _root_.Go.ChangeSpec) : _root_.Go.OpenSpec := { _root_.Go.OpenSpec.ofChange s with cond := some uptoSmall }

/-- 'laws.FnExactNoticeValid', WHERE WHAT IT READS IS OF BULK AT MOST 1048576: true; the input reads as it did. -/
def fnExactNoticeValidUptoRow : OpenClaim := { program := "ytcdbamaifdabnaa", sum := "171ddc6dbe5f0b9cd350a7a59508f5a14ff0383154761681130d974c2a7a721b", func := "loop.example/capkernel/laws.FnExactNoticeValid", spec := "fnExactNoticeValid", apart := false, narrowed := true }
def FnExactNoticeValidUptoSaid : Prop := fnExactNoticeValidUptoRow.holds Try.pinned (OpenSpec.upto fnExactNoticeValidSpec)

/-- 'laws.FnExactPollNotice', WHERE WHAT IT READS IS OF BULK AT MOST 1048576: true; the input reads as it did. -/
def fnExactPollNoticeUptoRow : OpenClaim := { program := "ytcdbamaifdabnaa", sum := "171ddc6dbe5f0b9cd350a7a59508f5a14ff0383154761681130d974c2a7a721b", func := "loop.example/capkernel/laws.FnExactPollNotice", spec := "fnExactPollNotice", apart := false, narrowed := true }
def FnExactPollNoticeUptoSaid : Prop := fnExactPollNoticeUptoRow.holds Try.pinned (OpenSpec.upto fnExactPollNoticeSpec)

/-- 'laws.FnExactSignalNotice', WHERE WHAT IT READS IS OF BULK AT MOST 1048576: true; the input reads as it did. -/
def fnExactSignalNoticeUptoRow : OpenClaim := { program := "ytcdbamaifdabnaa", sum := "171ddc6dbe5f0b9cd350a7a59508f5a14ff0383154761681130d974c2a7a721b", func := "loop.example/capkernel/laws.FnExactSignalNotice", spec := "fnExactSignalNotice", apart := false, narrowed := true }
def FnExactSignalNoticeUptoSaid : Prop := fnExactSignalNoticeUptoRow.holds Try.pinned (OpenSpec.upto fnExactSignalNoticeSpec)

/-- 'laws.FnExactWaitNotice', WHERE WHAT IT READS IS OF BULK AT MOST 1048576: true; the input reads as it did. -/
def fnExactWaitNoticeUptoRow : OpenClaim := { program := "ytcdbamaifdabnaa", sum := "171ddc6dbe5f0b9cd350a7a59508f5a14ff0383154761681130d974c2a7a721b", func := "loop.example/capkernel/laws.FnExactWaitNotice", spec := "fnExactWaitNotice", apart := false, narrowed := true }
def FnExactWaitNoticeUptoSaid : Prop := fnExactWaitNoticeUptoRow.holds Try.pinned (OpenSpec.upto fnExactWaitNoticeSpec)

/-- 'laws.FnNoticeValid', WHERE WHAT IT READS IS OF BULK AT MOST 1048576: true; the input reads as it did. -/
def fnNoticeValidUptoRow : OpenClaim := { program := "ytcdbamaifdabnaa", sum := "171ddc6dbe5f0b9cd350a7a59508f5a14ff0383154761681130d974c2a7a721b", func := "loop.example/capkernel/laws.FnNoticeValid", spec := "fnNoticeValid", inPlace := ["internal/abi.NoEscape"], apart := false, narrowed := true }
def FnNoticeValidUptoSaid : Prop := fnNoticeValidUptoRow.holds Try.pinned (OpenSpec.upto fnNoticeValidSpec)

/-- 'laws.FnPollNotice', WHERE WHAT IT READS IS OF BULK AT MOST 1048576: true; the input reads as it did. -/
def fnPollNoticeUptoRow : OpenClaim := { program := "ytcdbamaifdabnaa", sum := "171ddc6dbe5f0b9cd350a7a59508f5a14ff0383154761681130d974c2a7a721b", func := "loop.example/capkernel/laws.FnPollNotice", spec := "fnPollNotice", inPlace := ["internal/abi.NoEscape"], apart := false, narrowed := true }
def FnPollNoticeUptoSaid : Prop := fnPollNoticeUptoRow.holds Try.pinned (OpenSpec.upto fnPollNoticeSpec)

/-- 'laws.FnNoticeBoth', WHERE WHAT IT READS IS OF BULK AT MOST 1048576: true; the input reads as it did. -/
def fnNoticeBothUptoRow : OpenClaim := { program := "ytcdbamaifdabnaa", sum := "171ddc6dbe5f0b9cd350a7a59508f5a14ff0383154761681130d974c2a7a721b", func := "loop.example/capkernel/laws.FnNoticeBoth", spec := "fnNoticeBoth", inPlace := ["internal/abi.NoEscape"], apart := false, narrowed := true }
def FnNoticeBothUptoSaid : Prop := fnNoticeBothUptoRow.holds Try.pinned (OpenSpec.upto fnNoticeBothSpec)

/-- 'laws.FnSignalNotice', WHERE WHAT IT READS IS OF BULK AT MOST 1048576: true; the input reads as it did. -/
def fnSignalNoticeUptoRow : OpenClaim := { program := "ytcdbamaifdabnaa", sum := "171ddc6dbe5f0b9cd350a7a59508f5a14ff0383154761681130d974c2a7a721b", func := "loop.example/capkernel/laws.FnSignalNotice", spec := "fnSignalNotice", inPlace := ["internal/abi.NoEscape"], apart := false, narrowed := true }
def FnSignalNoticeUptoSaid : Prop := fnSignalNoticeUptoRow.holds Try.pinned (OpenSpec.upto fnSignalNoticeSpec)

/-- 'laws.FnWaitNotice', WHERE WHAT IT READS IS OF BULK AT MOST 1048576: true; the input reads as it did. -/
def fnWaitNoticeUptoRow : OpenClaim := { program := "ytcdbamaifdabnaa", sum := "171ddc6dbe5f0b9cd350a7a59508f5a14ff0383154761681130d974c2a7a721b", func := "loop.example/capkernel/laws.FnWaitNotice", spec := "fnWaitNotice", inPlace := ["internal/abi.NoEscape"], apart := false, narrowed := true }
def FnWaitNoticeUptoSaid : Prop := fnWaitNoticeUptoRow.holds Try.pinned (OpenSpec.upto fnWaitNoticeSpec)

end Rows
end Go.Proofs.Ytcdbamaifdabnaa
