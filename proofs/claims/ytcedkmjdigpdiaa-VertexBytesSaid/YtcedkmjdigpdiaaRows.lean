/-
  No cell of these rows narrows 'for every input' (looked for: loops, veiled, ifaces, maps, wideKeys, modest, calm, conditions, laid).
  DERIVED. THE GIVEN ROWS OF THIS SEAT. 3 by the template 'for every input the law returns true; each argument reads behind the call as it read before'; 0 by the template 'total and deterministic' (their statements: YtcedkmjdigpdiaaTotals.lean).
  GIVEN WITH THE SEED: the statements are not yours to turn. If you find one false, say at which input.
  Laid BY PROGRAM, IN A SANDBOX (cutbox-rows.mjs): the forced cells as the released guide's own fill.sh prints them over the translation fa627d6a6e9001e0… (all of the seat's roots in one cut). By AI agents, Wed Nov 11 2026. No macro, syntax, notation, axiom, sorry.
-/
import Derived.Test.YtcedkmjdigpdiaaChecked
import GoSem.Claim
import GoSem.ClaimJoined
import GoSem.ClaimMapViews
import Derived.JoinedTies
import Derived.KernelRfl
namespace Go.Proofs.Ytcedkmjdigpdiaa
/- THE CELL 'sum', in the pinned program and in every row, IS THE sha256 OF THE DUMP (.gsa) THAT YtcedkmjdigpdiaaProg.lean LOADS. Nothing in Lean hashes anything: it is a label: what it is worth is what the hold of that sum in a sandbox is worth. -/
noncomputable def Try.pinned : Pinned := { name := "ytcedkmjdigpdiaa", sum := "fa627d6a6e9001e0b86ebe02e104787370c2dfc23555a2b6827799f31537de8d", checked := Try.checked }
namespace Rows
def none {H : Type} : Left H := { results := [], args := [] }

/-- 'selvedgelaw07.BatchBytes': WHATEVER THE INPUT: true; the input reads as it did. -/
def batchBytesSpec : ChangeSpec := { name := "batchBytes", fn := fun _ => fun
  | [d] => { results := [.lit (.bool true)], args := [d] }
  | _ => none }
def batchBytesRow : OpenClaim := { program := "ytcedkmjdigpdiaa", sum := "fa627d6a6e9001e0b86ebe02e104787370c2dfc23555a2b6827799f31537de8d", func := "selvedge/selvedgelaw07.BatchBytes", spec := "batchBytes", inPlace := ["internal/abi.NoEscape", "internal/bytealg.MakeNoZero"], unfollowed := true, recurses := true, apart := false }
def BatchBytesSaid : Prop := batchBytesRow.holds Try.pinned (OpenSpec.ofChange batchBytesSpec)

/-- ITS FALSE NEIGHBOUR: 'it returns false'. Refute it at one input. -/
def batchBytesWrong : ChangeSpec := { name := "batchBytes", fn := fun _ => fun
  | [d] => { results := [.lit (.bool false)], args := [d] }
  | _ => none }
def BatchBytesWrongFalsely : Prop := batchBytesRow.holds Try.pinned (OpenSpec.ofChange batchBytesWrong)

/-- 'selvedgelaw07.BatchDigests': WHATEVER THE INPUT: true; the input reads as it did. -/
def batchDigestsSpec : ChangeSpec := { name := "batchDigests", fn := fun _ => fun
  | [d] => { results := [.lit (.bool true)], args := [d] }
  | _ => none }
def batchDigestsRow : OpenClaim := { program := "ytcedkmjdigpdiaa", sum := "fa627d6a6e9001e0b86ebe02e104787370c2dfc23555a2b6827799f31537de8d", func := "selvedge/selvedgelaw07.BatchDigests", spec := "batchDigests", inPlace := ["internal/abi.NoEscape", "internal/bytealg.MakeNoZero"], unfollowed := true, recurses := true, apart := false }
def BatchDigestsSaid : Prop := batchDigestsRow.holds Try.pinned (OpenSpec.ofChange batchDigestsSpec)

/-- ITS FALSE NEIGHBOUR: 'it returns false'. Refute it at one input. -/
def batchDigestsWrong : ChangeSpec := { name := "batchDigests", fn := fun _ => fun
  | [d] => { results := [.lit (.bool false)], args := [d] }
  | _ => none }
def BatchDigestsWrongFalsely : Prop := batchDigestsRow.holds Try.pinned (OpenSpec.ofChange batchDigestsWrong)

/-- 'selvedgelaw08.VertexBytes': WHATEVER THE INPUT: true; the input reads as it did. -/
def vertexBytesSpec : ChangeSpec := { name := "vertexBytes", fn := fun _ => fun
  | [d1, d2] => { results := [.lit (.bool true)], args := [d1, d2] }
  | _ => none }
def vertexBytesRow : OpenClaim := { program := "ytcedkmjdigpdiaa", sum := "fa627d6a6e9001e0b86ebe02e104787370c2dfc23555a2b6827799f31537de8d", func := "selvedge/selvedgelaw08.VertexBytes", spec := "vertexBytes", inPlace := ["internal/abi.NoEscape", "internal/bytealg.MakeNoZero"], unfollowed := true, recurses := true, apart := false }
def VertexBytesSaid : Prop := vertexBytesRow.holds Try.pinned (OpenSpec.ofChange vertexBytesSpec)

/-- ITS FALSE NEIGHBOUR: 'it returns false'. Refute it at one input. -/
def vertexBytesWrong : ChangeSpec := { name := "vertexBytes", fn := fun _ => fun
  | [d1, d2] => { results := [.lit (.bool false)], args := [d1, d2] }
  | _ => none }
def VertexBytesWrongFalsely : Prop := vertexBytesRow.holds Try.pinned (OpenSpec.ofChange vertexBytesWrong)

/- THE SECOND FORM. 'bulk': how many values and letters a reading holds, each counted each time it is reached (what is shared counts as often as it is met; a slice's spare places count too). A statement '..UptoSaid' is the law's where the arguments, and the package variables that the reading takes, are together of bulk at most 1048576: NARROWER than '..Said'. Prove '..Said' where nothing that the law and all that it calls make is longer than what came in: it says more and counts as full. Else prove '..UptoSaid'. A law counts once. -/
mutual
def uptoBulk {H : Type} : DataW H → Nat
  | .lit (.string bytes) => bytes.length + 1
  | .lit _ => 1
  | .nil => 1
  | .ptr d => uptoBulk d + 1
  | .slice elems spare => uptoBulkAll elems + uptoBulkAll spare + 1
  | .agg parts => uptoBulkAll parts + 1
  | .iface _ d => uptoBulk d + 1
  | .map entries => uptoBulkEntries entries + 1
  | .held _ => 1
def uptoBulkAll {H : Type} : List (DataW H) → Nat
  | [] => 0
  | d :: r => uptoBulk d + uptoBulkAll r
def uptoBulkEntries {H : Type} : List (Lit × DataW H) → Nat
  | [] => 0
  | x :: r => uptoBulkEntry x + uptoBulkEntries r
def uptoBulkEntry {H : Type} : Lit × DataW H → Nat
  | (.string bytes, d) => bytes.length + uptoBulk d + 1
  | (_, d) => uptoBulk d + 1
 end
def uptoSmall : (H : Type) → List (DataW H) → Bool := fun _ ds => decide (uptoBulkAll ds ≤ 1048576)
def OpenSpec.upto (s : _root_.Go.ChangeSpec) : _root_.Go.OpenSpec := { _root_.Go.OpenSpec.ofChange s with cond := some uptoSmall }

/-- 'selvedgelaw07.BatchBytes', WHERE WHAT IT READS IS OF BULK AT MOST 1048576: true; the input reads as it did. -/
def batchBytesUptoRow : OpenClaim := { program := "ytcedkmjdigpdiaa", sum := "fa627d6a6e9001e0b86ebe02e104787370c2dfc23555a2b6827799f31537de8d", func := "selvedge/selvedgelaw07.BatchBytes", spec := "batchBytes", inPlace := ["internal/abi.NoEscape", "internal/bytealg.MakeNoZero"], unfollowed := true, recurses := true, apart := false, narrowed := true }
def BatchBytesUptoSaid : Prop := batchBytesUptoRow.holds Try.pinned (OpenSpec.upto batchBytesSpec)

/-- 'selvedgelaw07.BatchDigests', WHERE WHAT IT READS IS OF BULK AT MOST 1048576: true; the input reads as it did. -/
def batchDigestsUptoRow : OpenClaim := { program := "ytcedkmjdigpdiaa", sum := "fa627d6a6e9001e0b86ebe02e104787370c2dfc23555a2b6827799f31537de8d", func := "selvedge/selvedgelaw07.BatchDigests", spec := "batchDigests", inPlace := ["internal/abi.NoEscape", "internal/bytealg.MakeNoZero"], unfollowed := true, recurses := true, apart := false, narrowed := true }
def BatchDigestsUptoSaid : Prop := batchDigestsUptoRow.holds Try.pinned (OpenSpec.upto batchDigestsSpec)

/-- 'selvedgelaw08.VertexBytes', WHERE WHAT IT READS IS OF BULK AT MOST 1048576: true; the input reads as it did. -/
def vertexBytesUptoRow : OpenClaim := { program := "ytcedkmjdigpdiaa", sum := "fa627d6a6e9001e0b86ebe02e104787370c2dfc23555a2b6827799f31537de8d", func := "selvedge/selvedgelaw08.VertexBytes", spec := "vertexBytes", inPlace := ["internal/abi.NoEscape", "internal/bytealg.MakeNoZero"], unfollowed := true, recurses := true, apart := false, narrowed := true }
def VertexBytesUptoSaid : Prop := vertexBytesUptoRow.holds Try.pinned (OpenSpec.upto vertexBytesSpec)

end Rows
end Go.Proofs.Ytcedkmjdigpdiaa
