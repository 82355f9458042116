/-
  No cell of these rows narrows 'for every input' (looked for: loops, veiled, ifaces, maps, wideKeys, modest, calm, conditions, laid).
  DERIVED. THE GIVEN ROWS OF THIS SEAT. 12 by the template 'for every input the law returns true; each argument reads behind the call as it read before'; 0 by the template 'total and deterministic' (their statements: YtjpmgoejcafjiaaTotals.lean).
  GIVEN WITH THE SEED: the statements are not yours to turn. If you find one false, say at which input.
  Laid BY PROGRAM, IN A SANDBOX (cutbox-rows.mjs): the forced cells as the released guide's own fill.sh prints them over the translation e657be48e17ab0a4… (all of the seat's roots in one cut). By AI agents, Wed Nov 11 2026. No macro, syntax, notation, axiom, sorry.
-/
import Derived.Test.YtjpmgoejcafjiaaChecked
import GoSem.Claim
import GoSem.ClaimJoined
import GoSem.ClaimMapViews
import Derived.JoinedTies
import Derived.KernelRfl
namespace Go.Proofs.Ytjpmgoejcafjiaa
/- THE CELL 'sum', in the pinned program and in every row, IS THE sha256 OF THE DUMP (.gsa) THAT YtjpmgoejcafjiaaProg.lean LOADS. Nothing in Lean hashes anything: it is a label: what it is worth is what the hold of that sum in a sandbox is worth. -/
noncomputable def Try.pinned : Pinned := { name := "ytjpmgoejcafjiaa", sum := "e657be48e17ab0a415f308f805d536d30307d598558dd822ab8d8a6b1064c5a0", checked := Try.checked }
namespace Rows
def none {H : Type} : Left H := { results := [], args := [] }

/-- 'laws.FnExactTimesValid': WHATEVER THE INPUT: true; the input reads as it did. -/
def fnExactTimesValidSpec : ChangeSpec := { name := "fnExactTimesValid", fn := fun _ => fun
  | [d] => { results := [.lit (.bool true)], args := [d] }
  | _ => none }
def fnExactTimesValidRow : OpenClaim := { program := "ytjpmgoejcafjiaa", sum := "e657be48e17ab0a415f308f805d536d30307d598558dd822ab8d8a6b1064c5a0", func := "loop.example/capkernel/laws.FnExactTimesValid", spec := "fnExactTimesValid", unfollowed := true, recurses := true, apart := false }
def FnExactTimesValidSaid : Prop := fnExactTimesValidRow.holds Try.pinned (OpenSpec.ofChange fnExactTimesValidSpec)

/-- ITS FALSE NEIGHBOUR: 'it returns false'. Refute it at one input. -/
def fnExactTimesValidWrong : ChangeSpec := { name := "fnExactTimesValid", fn := fun _ => fun
  | [d] => { results := [.lit (.bool false)], args := [d] }
  | _ => none }
def FnExactTimesValidWrongFalsely : Prop := fnExactTimesValidRow.holds Try.pinned (OpenSpec.ofChange fnExactTimesValidWrong)

/-- 'laws.FnExactCallsValid': WHATEVER THE INPUT: true; the input reads as it did. -/
def fnExactCallsValidSpec : ChangeSpec := { name := "fnExactCallsValid", fn := fun _ => fun
  | [d] => { results := [.lit (.bool true)], args := [d] }
  | _ => none }
def fnExactCallsValidRow : OpenClaim := { program := "ytjpmgoejcafjiaa", sum := "e657be48e17ab0a415f308f805d536d30307d598558dd822ab8d8a6b1064c5a0", func := "loop.example/capkernel/laws.FnExactCallsValid", spec := "fnExactCallsValid", apart := false }
def FnExactCallsValidSaid : Prop := fnExactCallsValidRow.holds Try.pinned (OpenSpec.ofChange fnExactCallsValidSpec)

/-- ITS FALSE NEIGHBOUR: 'it returns false'. Refute it at one input. -/
def fnExactCallsValidWrong : ChangeSpec := { name := "fnExactCallsValid", fn := fun _ => fun
  | [d] => { results := [.lit (.bool false)], args := [d] }
  | _ => none }
def FnExactCallsValidWrongFalsely : Prop := fnExactCallsValidRow.holds Try.pinned (OpenSpec.ofChange fnExactCallsValidWrong)

/-- 'laws.FnExactUseTime': WHATEVER THE INPUT: true; the input reads as it did. -/
def fnExactUseTimeSpec : ChangeSpec := { name := "fnExactUseTime", fn := fun _ => fun
  | [d1, d2, d3] => { results := [.lit (.bool true)], args := [d1, d2, d3] }
  | _ => none }
def fnExactUseTimeRow : OpenClaim := { program := "ytjpmgoejcafjiaa", sum := "e657be48e17ab0a415f308f805d536d30307d598558dd822ab8d8a6b1064c5a0", func := "loop.example/capkernel/laws.FnExactUseTime", spec := "fnExactUseTime", unfollowed := true, recurses := true, apart := false }
def FnExactUseTimeSaid : Prop := fnExactUseTimeRow.holds Try.pinned (OpenSpec.ofChange fnExactUseTimeSpec)

/-- ITS FALSE NEIGHBOUR: 'it returns false'. Refute it at one input. -/
def fnExactUseTimeWrong : ChangeSpec := { name := "fnExactUseTime", fn := fun _ => fun
  | [d1, d2, d3] => { results := [.lit (.bool false)], args := [d1, d2, d3] }
  | _ => none }
def FnExactUseTimeWrongFalsely : Prop := fnExactUseTimeRow.holds Try.pinned (OpenSpec.ofChange fnExactUseTimeWrong)

/-- 'laws.FnExactLendTime': WHATEVER THE INPUT: true; the input reads as it did. -/
def fnExactLendTimeSpec : ChangeSpec := { name := "fnExactLendTime", fn := fun _ => fun
  | [d1, d2, d3, d4] => { results := [.lit (.bool true)], args := [d1, d2, d3, d4] }
  | _ => none }
def fnExactLendTimeRow : OpenClaim := { program := "ytjpmgoejcafjiaa", sum := "e657be48e17ab0a415f308f805d536d30307d598558dd822ab8d8a6b1064c5a0", func := "loop.example/capkernel/laws.FnExactLendTime", spec := "fnExactLendTime", unfollowed := true, recurses := true, apart := false }
def FnExactLendTimeSaid : Prop := fnExactLendTimeRow.holds Try.pinned (OpenSpec.ofChange fnExactLendTimeSpec)

/-- ITS FALSE NEIGHBOUR: 'it returns false'. Refute it at one input. -/
def fnExactLendTimeWrong : ChangeSpec := { name := "fnExactLendTime", fn := fun _ => fun
  | [d1, d2, d3, d4] => { results := [.lit (.bool false)], args := [d1, d2, d3, d4] }
  | _ => none }
def FnExactLendTimeWrongFalsely : Prop := fnExactLendTimeRow.holds Try.pinned (OpenSpec.ofChange fnExactLendTimeWrong)

/-- 'laws.FnExactPopReply': WHATEVER THE INPUT: true; the input reads as it did. -/
def fnExactPopReplySpec : ChangeSpec := { name := "fnExactPopReply", fn := fun _ => fun
  | [d] => { results := [.lit (.bool true)], args := [d] }
  | _ => none }
def fnExactPopReplyRow : OpenClaim := { program := "ytjpmgoejcafjiaa", sum := "e657be48e17ab0a415f308f805d536d30307d598558dd822ab8d8a6b1064c5a0", func := "loop.example/capkernel/laws.FnExactPopReply", spec := "fnExactPopReply", apart := false }
def FnExactPopReplySaid : Prop := fnExactPopReplyRow.holds Try.pinned (OpenSpec.ofChange fnExactPopReplySpec)

/-- ITS FALSE NEIGHBOUR: 'it returns false'. Refute it at one input. -/
def fnExactPopReplyWrong : ChangeSpec := { name := "fnExactPopReply", fn := fun _ => fun
  | [d] => { results := [.lit (.bool false)], args := [d] }
  | _ => none }
def FnExactPopReplyWrongFalsely : Prop := fnExactPopReplyRow.holds Try.pinned (OpenSpec.ofChange fnExactPopReplyWrong)

/-- 'laws.FnExactPushCall': WHATEVER THE INPUT: true; the input reads as it did. -/
def fnExactPushCallSpec : ChangeSpec := { name := "fnExactPushCall", fn := fun _ => fun
  | [d1, d2] => { results := [.lit (.bool true)], args := [d1, d2] }
  | _ => none }
def fnExactPushCallRow : OpenClaim := { program := "ytjpmgoejcafjiaa", sum := "e657be48e17ab0a415f308f805d536d30307d598558dd822ab8d8a6b1064c5a0", func := "loop.example/capkernel/laws.FnExactPushCall", spec := "fnExactPushCall", apart := false }
def FnExactPushCallSaid : Prop := fnExactPushCallRow.holds Try.pinned (OpenSpec.ofChange fnExactPushCallSpec)

/-- ITS FALSE NEIGHBOUR: 'it returns false'. Refute it at one input. -/
def fnExactPushCallWrong : ChangeSpec := { name := "fnExactPushCall", fn := fun _ => fun
  | [d1, d2] => { results := [.lit (.bool false)], args := [d1, d2] }
  | _ => none }
def FnExactPushCallWrongFalsely : Prop := fnExactPushCallRow.holds Try.pinned (OpenSpec.ofChange fnExactPushCallWrong)

/-- 'laws.FnExactDropCaller': WHATEVER THE INPUT: true; the input reads as it did. -/
def fnExactDropCallerSpec : ChangeSpec := { name := "fnExactDropCaller", fn := fun _ => fun
  | [d1, d2] => { results := [.lit (.bool true)], args := [d1, d2] }
  | _ => none }
def fnExactDropCallerRow : OpenClaim := { program := "ytjpmgoejcafjiaa", sum := "e657be48e17ab0a415f308f805d536d30307d598558dd822ab8d8a6b1064c5a0", func := "loop.example/capkernel/laws.FnExactDropCaller", spec := "fnExactDropCaller", apart := false }
def FnExactDropCallerSaid : Prop := fnExactDropCallerRow.holds Try.pinned (OpenSpec.ofChange fnExactDropCallerSpec)

/-- ITS FALSE NEIGHBOUR: 'it returns false'. Refute it at one input. -/
def fnExactDropCallerWrong : ChangeSpec := { name := "fnExactDropCaller", fn := fun _ => fun
  | [d1, d2] => { results := [.lit (.bool false)], args := [d1, d2] }
  | _ => none }
def FnExactDropCallerWrongFalsely : Prop := fnExactDropCallerRow.holds Try.pinned (OpenSpec.ofChange fnExactDropCallerWrong)

/-- 'laws.FnCallsValid': WHATEVER THE INPUT: true; the input reads as it did. -/
def fnCallsValidSpec : ChangeSpec := { name := "fnCallsValid", fn := fun _ => fun
  | [d] => { results := [.lit (.bool true)], args := [d] }
  | _ => none }
def fnCallsValidRow : OpenClaim := { program := "ytjpmgoejcafjiaa", sum := "e657be48e17ab0a415f308f805d536d30307d598558dd822ab8d8a6b1064c5a0", func := "loop.example/capkernel/laws.FnCallsValid", spec := "fnCallsValid", inPlace := ["internal/abi.NoEscape"], apart := false }
def FnCallsValidSaid : Prop := fnCallsValidRow.holds Try.pinned (OpenSpec.ofChange fnCallsValidSpec)

/-- ITS FALSE NEIGHBOUR: 'it returns false'. Refute it at one input. -/
def fnCallsValidWrong : ChangeSpec := { name := "fnCallsValid", fn := fun _ => fun
  | [d] => { results := [.lit (.bool false)], args := [d] }
  | _ => none }
def FnCallsValidWrongFalsely : Prop := fnCallsValidRow.holds Try.pinned (OpenSpec.ofChange fnCallsValidWrong)

/-- 'laws.FnCallsAll': WHATEVER THE INPUT: true; the input reads as it did. -/
def fnCallsAllSpec : ChangeSpec := { name := "fnCallsAll", fn := fun _ => fun
  | [d] => { results := [.lit (.bool true)], args := [d] }
  | _ => none }
def fnCallsAllRow : OpenClaim := { program := "ytjpmgoejcafjiaa", sum := "e657be48e17ab0a415f308f805d536d30307d598558dd822ab8d8a6b1064c5a0", func := "loop.example/capkernel/laws.FnCallsAll", spec := "fnCallsAll", inPlace := ["internal/abi.NoEscape"], apart := false }
def FnCallsAllSaid : Prop := fnCallsAllRow.holds Try.pinned (OpenSpec.ofChange fnCallsAllSpec)

/-- ITS FALSE NEIGHBOUR: 'it returns false'. Refute it at one input. -/
def fnCallsAllWrong : ChangeSpec := { name := "fnCallsAll", fn := fun _ => fun
  | [d] => { results := [.lit (.bool false)], args := [d] }
  | _ => none }
def FnCallsAllWrongFalsely : Prop := fnCallsAllRow.holds Try.pinned (OpenSpec.ofChange fnCallsAllWrong)

/-- 'laws.FnPopReply': WHATEVER THE INPUT: true; the input reads as it did. -/
def fnPopReplySpec : ChangeSpec := { name := "fnPopReply", fn := fun _ => fun
  | [d] => { results := [.lit (.bool true)], args := [d] }
  | _ => none }
def fnPopReplyRow : OpenClaim := { program := "ytjpmgoejcafjiaa", sum := "e657be48e17ab0a415f308f805d536d30307d598558dd822ab8d8a6b1064c5a0", func := "loop.example/capkernel/laws.FnPopReply", spec := "fnPopReply", inPlace := ["internal/abi.NoEscape"], apart := false }
def FnPopReplySaid : Prop := fnPopReplyRow.holds Try.pinned (OpenSpec.ofChange fnPopReplySpec)

/-- ITS FALSE NEIGHBOUR: 'it returns false'. Refute it at one input. -/
def fnPopReplyWrong : ChangeSpec := { name := "fnPopReply", fn := fun _ => fun
  | [d] => { results := [.lit (.bool false)], args := [d] }
  | _ => none }
def FnPopReplyWrongFalsely : Prop := fnPopReplyRow.holds Try.pinned (OpenSpec.ofChange fnPopReplyWrong)

/-- 'laws.FnPushCall': WHATEVER THE INPUT: true; the input reads as it did. -/
def fnPushCallSpec : ChangeSpec := { name := "fnPushCall", fn := fun _ => fun
  | [d] => { results := [.lit (.bool true)], args := [d] }
  | _ => none }
def fnPushCallRow : OpenClaim := { program := "ytjpmgoejcafjiaa", sum := "e657be48e17ab0a415f308f805d536d30307d598558dd822ab8d8a6b1064c5a0", func := "loop.example/capkernel/laws.FnPushCall", spec := "fnPushCall", inPlace := ["internal/abi.NoEscape"], apart := false }
def FnPushCallSaid : Prop := fnPushCallRow.holds Try.pinned (OpenSpec.ofChange fnPushCallSpec)

/-- ITS FALSE NEIGHBOUR: 'it returns false'. Refute it at one input. -/
def fnPushCallWrong : ChangeSpec := { name := "fnPushCall", fn := fun _ => fun
  | [d] => { results := [.lit (.bool false)], args := [d] }
  | _ => none }
def FnPushCallWrongFalsely : Prop := fnPushCallRow.holds Try.pinned (OpenSpec.ofChange fnPushCallWrong)

/-- 'laws.FnDropCaller': WHATEVER THE INPUT: true; the input reads as it did. -/
def fnDropCallerSpec : ChangeSpec := { name := "fnDropCaller", fn := fun _ => fun
  | [d] => { results := [.lit (.bool true)], args := [d] }
  | _ => none }
def fnDropCallerRow : OpenClaim := { program := "ytjpmgoejcafjiaa", sum := "e657be48e17ab0a415f308f805d536d30307d598558dd822ab8d8a6b1064c5a0", func := "loop.example/capkernel/laws.FnDropCaller", spec := "fnDropCaller", inPlace := ["internal/abi.NoEscape"], apart := false }
def FnDropCallerSaid : Prop := fnDropCallerRow.holds Try.pinned (OpenSpec.ofChange fnDropCallerSpec)

/-- ITS FALSE NEIGHBOUR: 'it returns false'. Refute it at one input. -/
def fnDropCallerWrong : ChangeSpec := { name := "fnDropCaller", fn := fun _ => fun
  | [d] => { results := [.lit (.bool false)], args := [d] }
  | _ => none }
def FnDropCallerWrongFalsely : Prop := fnDropCallerRow.holds Try.pinned (OpenSpec.ofChange fnDropCallerWrong)

/- THE SECOND FORM. 'bulk': how many values and letters a reading holds, each counted each time it is reached (what is shared counts as often as it is met; a slice's spare places count too). A statement '..UptoSaid' is the law's where the arguments, and the package variables that the reading takes, are together of bulk at most 1048576: NARROWER than '..Said'. Prove '..Said' where nothing that the law and all that it calls make is longer than what came in: it says more and counts as full. Else prove '..UptoSaid'. A law counts once. -/
mutual
def uptoBulk {H : Type} : DataW H → Nat
  | .lit (.string bytes) => bytes.length + 1
  | .lit _ => 1
  | .nil => 1
  | .ptr d => uptoBulk d + 1
  | .slice elems spare => uptoBulkAll elems + uptoBulkAll spare + 1
  | .agg parts => uptoBulkAll parts + 1
  | .iface _ d => uptoBulk d + 1
  | .map entries => uptoBulkEntries entries + 1
  | .held _ => 1
def uptoBulkAll {H : Type} : List (DataW H) → Nat
  | [] => 0
  | d :: r => uptoBulk d + uptoBulkAll r
def uptoBulkEntries {H : Type} : List (Lit × DataW H) → Nat
  | [] => 0
  | x :: r => uptoBulkEntry x + uptoBulkEntries r
def uptoBulkEntry {H : Type} : Lit × DataW H → Nat
  | (.string bytes, d) => bytes.length + uptoBulk d + 1
  | (_, d) => uptoBulk d + 1
 end
def uptoSmall : (H : Type) → List (DataW H) → Bool := fun _ ds => decide (uptoBulkAll ds ≤ 1048576)
def OpenSpec.upto (s : _root_.Go.ChangeSpec) : _root_.Go.OpenSpec := { _root_.Go.OpenSpec.ofChange s with cond := some uptoSmall }

/-- 'laws.FnExactTimesValid', WHERE WHAT IT READS IS OF BULK AT MOST 1048576: true; the input reads as it did. -/
def fnExactTimesValidUptoRow : OpenClaim := { program := "ytjpmgoejcafjiaa", sum := "e657be48e17ab0a415f308f805d536d30307d598558dd822ab8d8a6b1064c5a0", func := "loop.example/capkernel/laws.FnExactTimesValid", spec := "fnExactTimesValid", unfollowed := true, recurses := true, apart := false, narrowed := true }
def FnExactTimesValidUptoSaid : Prop := fnExactTimesValidUptoRow.holds Try.pinned (OpenSpec.upto fnExactTimesValidSpec)

/-- 'laws.FnExactCallsValid', WHERE WHAT IT READS IS OF BULK AT MOST 1048576: true; the input reads as it did. -/
def fnExactCallsValidUptoRow : OpenClaim := { program := "ytjpmgoejcafjiaa", sum := "e657be48e17ab0a415f308f805d536d30307d598558dd822ab8d8a6b1064c5a0", func := "loop.example/capkernel/laws.FnExactCallsValid", spec := "fnExactCallsValid", apart := false, narrowed := true }
def FnExactCallsValidUptoSaid : Prop := fnExactCallsValidUptoRow.holds Try.pinned (OpenSpec.upto fnExactCallsValidSpec)

/-- 'laws.FnExactUseTime', WHERE WHAT IT READS IS OF BULK AT MOST 1048576: true; the input reads as it did. -/
def fnExactUseTimeUptoRow : OpenClaim := { program := "ytjpmgoejcafjiaa", sum := "e657be48e17ab0a415f308f805d536d30307d598558dd822ab8d8a6b1064c5a0", func := "loop.example/capkernel/laws.FnExactUseTime", spec := "fnExactUseTime", unfollowed := true, recurses := true, apart := false, narrowed := true }
def FnExactUseTimeUptoSaid : Prop := fnExactUseTimeUptoRow.holds Try.pinned (OpenSpec.upto fnExactUseTimeSpec)

/-- 'laws.FnExactLendTime', WHERE WHAT IT READS IS OF BULK AT MOST 1048576: true; the input reads as it did. -/
def fnExactLendTimeUptoRow : OpenClaim := { program := "ytjpmgoejcafjiaa", sum := "e657be48e17ab0a415f308f805d536d30307d598558dd822ab8d8a6b1064c5a0", func := "loop.example/capkernel/laws.FnExactLendTime", spec := "fnExactLendTime", unfollowed := true, recurses := true, apart := false, narrowed := true }
def FnExactLendTimeUptoSaid : Prop := fnExactLendTimeUptoRow.holds Try.pinned (OpenSpec.upto fnExactLendTimeSpec)

/-- 'laws.FnExactPopReply', WHERE WHAT IT READS IS OF BULK AT MOST 1048576: true; the input reads as it did. -/
def fnExactPopReplyUptoRow : OpenClaim := { program := "ytjpmgoejcafjiaa", sum := "e657be48e17ab0a415f308f805d536d30307d598558dd822ab8d8a6b1064c5a0", func := "loop.example/capkernel/laws.FnExactPopReply", spec := "fnExactPopReply", apart := false, narrowed := true }
def FnExactPopReplyUptoSaid : Prop := fnExactPopReplyUptoRow.holds Try.pinned (OpenSpec.upto fnExactPopReplySpec)

/-- 'laws.FnExactPushCall', WHERE WHAT IT READS IS OF BULK AT MOST 1048576: true; the input reads as it did. -/
def fnExactPushCallUptoRow : OpenClaim := { program := "ytjpmgoejcafjiaa", sum := "e657be48e17ab0a415f308f805d536d30307d598558dd822ab8d8a6b1064c5a0", func := "loop.example/capkernel/laws.FnExactPushCall", spec := "fnExactPushCall", apart := false, narrowed := true }
def FnExactPushCallUptoSaid : Prop := fnExactPushCallUptoRow.holds Try.pinned (OpenSpec.upto fnExactPushCallSpec)

/-- 'laws.FnExactDropCaller', WHERE WHAT IT READS IS OF BULK AT MOST 1048576: true; the input reads as it did. -/
def fnExactDropCallerUptoRow : OpenClaim := { program := "ytjpmgoejcafjiaa", sum := "e657be48e17ab0a415f308f805d536d30307d598558dd822ab8d8a6b1064c5a0", func := "loop.example/capkernel/laws.FnExactDropCaller", spec := "fnExactDropCaller", apart := false, narrowed := true }
def FnExactDropCallerUptoSaid : Prop := fnExactDropCallerUptoRow.holds Try.pinned (OpenSpec.upto fnExactDropCallerSpec)

/-- 'laws.FnCallsValid', WHERE WHAT IT READS IS OF BULK AT MOST 1048576: true; the input reads as it did. -/
def fnCallsValidUptoRow : OpenClaim := { program := "ytjpmgoejcafjiaa", sum := "e657be48e17ab0a415f308f805d536d30307d598558dd822ab8d8a6b1064c5a0", func := "loop.example/capkernel/laws.FnCallsValid", spec := "fnCallsValid", inPlace := ["internal/abi.NoEscape"], apart := false, narrowed := true }
def FnCallsValidUptoSaid : Prop := fnCallsValidUptoRow.holds Try.pinned (OpenSpec.upto fnCallsValidSpec)

/-- 'laws.FnCallsAll', WHERE WHAT IT READS IS OF BULK AT MOST 1048576: true; the input reads as it did. -/
def fnCallsAllUptoRow : OpenClaim := { program := "ytjpmgoejcafjiaa", sum := "e657be48e17ab0a415f308f805d536d30307d598558dd822ab8d8a6b1064c5a0", func := "loop.example/capkernel/laws.FnCallsAll", spec := "fnCallsAll", inPlace := ["internal/abi.NoEscape"], apart := false, narrowed := true }
def FnCallsAllUptoSaid : Prop := fnCallsAllUptoRow.holds Try.pinned (OpenSpec.upto fnCallsAllSpec)

/-- 'laws.FnPopReply', WHERE WHAT IT READS IS OF BULK AT MOST 1048576: true; the input reads as it did. -/
def fnPopReplyUptoRow : OpenClaim := { program := "ytjpmgoejcafjiaa", sum := "e657be48e17ab0a415f308f805d536d30307d598558dd822ab8d8a6b1064c5a0", func := "loop.example/capkernel/laws.FnPopReply", spec := "fnPopReply", inPlace := ["internal/abi.NoEscape"], apart := false, narrowed := true }
def FnPopReplyUptoSaid : Prop := fnPopReplyUptoRow.holds Try.pinned (OpenSpec.upto fnPopReplySpec)

/-- 'laws.FnPushCall', WHERE WHAT IT READS IS OF BULK AT MOST 1048576: true; the input reads as it did. -/
def fnPushCallUptoRow : OpenClaim := { program := "ytjpmgoejcafjiaa", sum := "e657be48e17ab0a415f308f805d536d30307d598558dd822ab8d8a6b1064c5a0", func := "loop.example/capkernel/laws.FnPushCall", spec := "fnPushCall", inPlace := ["internal/abi.NoEscape"], apart := false, narrowed := true }
def FnPushCallUptoSaid : Prop := fnPushCallUptoRow.holds Try.pinned (OpenSpec.upto fnPushCallSpec)

/-- 'laws.FnDropCaller', WHERE WHAT IT READS IS OF BULK AT MOST 1048576: true; the input reads as it did. -/
def fnDropCallerUptoRow : OpenClaim := { program := "ytjpmgoejcafjiaa", sum := "e657be48e17ab0a415f308f805d536d30307d598558dd822ab8d8a6b1064c5a0", func := "loop.example/capkernel/laws.FnDropCaller", spec := "fnDropCaller", inPlace := ["internal/abi.NoEscape"], apart := false, narrowed := true }
def FnDropCallerUptoSaid : Prop := fnDropCallerUptoRow.holds Try.pinned (OpenSpec.upto fnDropCallerSpec)

end Rows
end Go.Proofs.Ytjpmgoejcafjiaa
