/-
  No cell of these rows narrows 'for every input' (looked for: loops, veiled, ifaces, maps, wideKeys, modest, calm, conditions, laid).
  DERIVED. THE GIVEN ROWS OF THIS SEAT. 5 by the template 'for every input the law returns true; each argument reads behind the call as it read before'; 0 by the template 'total and deterministic' (their statements: YtklhjlaofkngcaaTotals.lean).
  GIVEN WITH THE SEED: the statements are not yours to turn. If you find one false, say at which input.
  Laid BY PROGRAM, IN A SANDBOX (cutbox-rows.mjs): the forced cells as the released guide's own fill.sh prints them over the translation de2877951dca7391… (all of the seat's roots in one cut). By AI agents, Wed Nov 11 2026. No macro, syntax, notation, axiom, sorry.
-/
import Derived.Test.YtklhjlaofkngcaaChecked
import GoSem.Claim
import GoSem.ClaimJoined
import GoSem.ClaimMapViews
import Derived.JoinedTies
import Derived.KernelRfl
namespace Go.Proofs.Ytklhjlaofkngcaa
/- THE CELL 'sum', in the pinned program and in every row, IS THE sha256 OF THE DUMP (.gsa) THAT YtklhjlaofkngcaaProg.lean LOADS. Nothing in Lean hashes anything: it is a label: what it is worth is what the hold of that sum in a sandbox is worth. -/
noncomputable def Try.pinned : Pinned := { name := "ytklhjlaofkngcaa", sum := "de2877951dca739151364d5af8c5cce99a24774088f4b6556031a8330683d3b3", checked := Try.checked }
namespace Rows
def none {H : Type} : Left H := { results := [], args := [] }

/-- 'selvedgelaw11.DagAsks': WHATEVER THE INPUT: true; the input reads as it did. -/
def dagAsksSpec : ChangeSpec := { name := "dagAsks", fn := fun _ => fun
  | [d] => { results := [.lit (.bool true)], args := [d] }
  | _ => none }
def dagAsksRow : OpenClaim := { program := "ytklhjlaofkngcaa", sum := "de2877951dca739151364d5af8c5cce99a24774088f4b6556031a8330683d3b3", func := "selvedge/selvedgelaw11.DagAsks", spec := "dagAsks", inPlace := ["internal/abi.NoEscape", "internal/bytealg.MakeNoZero", "slices.overlaps[selvedge/api.Entry]"], unfollowed := true, recurses := true, apart := false }
def DagAsksSaid : Prop := dagAsksRow.holds Try.pinned (OpenSpec.ofChange dagAsksSpec)

/-- ITS FALSE NEIGHBOUR: 'it returns false'. Refute it at one input. -/
def dagAsksWrong : ChangeSpec := { name := "dagAsks", fn := fun _ => fun
  | [d] => { results := [.lit (.bool false)], args := [d] }
  | _ => none }
def DagAsksWrongFalsely : Prop := dagAsksRow.holds Try.pinned (OpenSpec.ofChange dagAsksWrong)

/-- 'selvedgelaw11.DagOrder': WHATEVER THE INPUT: true; the input reads as it did. -/
def dagOrderSpec : ChangeSpec := { name := "dagOrder", fn := fun _ => fun
  | [d1, d2, d3] => { results := [.lit (.bool true)], args := [d1, d2, d3] }
  | _ => none }
def dagOrderRow : OpenClaim := { program := "ytklhjlaofkngcaa", sum := "de2877951dca739151364d5af8c5cce99a24774088f4b6556031a8330683d3b3", func := "selvedge/selvedgelaw11.DagOrder", spec := "dagOrder", inPlace := ["internal/abi.NoEscape", "internal/bytealg.MakeNoZero", "slices.overlaps[selvedge/api.Entry]"], unfollowed := true, recurses := true, apart := false }
def DagOrderSaid : Prop := dagOrderRow.holds Try.pinned (OpenSpec.ofChange dagOrderSpec)

/-- ITS FALSE NEIGHBOUR: 'it returns false'. Refute it at one input. -/
def dagOrderWrong : ChangeSpec := { name := "dagOrder", fn := fun _ => fun
  | [d1, d2, d3] => { results := [.lit (.bool false)], args := [d1, d2, d3] }
  | _ => none }
def DagOrderWrongFalsely : Prop := dagOrderRow.holds Try.pinned (OpenSpec.ofChange dagOrderWrong)

/-- 'selvedgelaw11.DagRounds': WHATEVER THE INPUT: true; the input reads as it did. -/
def dagRoundsSpec : ChangeSpec := { name := "dagRounds", fn := fun _ => fun
  | [d] => { results := [.lit (.bool true)], args := [d] }
  | _ => none }
def dagRoundsRow : OpenClaim := { program := "ytklhjlaofkngcaa", sum := "de2877951dca739151364d5af8c5cce99a24774088f4b6556031a8330683d3b3", func := "selvedge/selvedgelaw11.DagRounds", spec := "dagRounds", inPlace := ["internal/abi.NoEscape", "internal/bytealg.MakeNoZero", "slices.overlaps[selvedge/api.Entry]"], unfollowed := true, recurses := true, apart := false }
def DagRoundsSaid : Prop := dagRoundsRow.holds Try.pinned (OpenSpec.ofChange dagRoundsSpec)

/-- ITS FALSE NEIGHBOUR: 'it returns false'. Refute it at one input. -/
def dagRoundsWrong : ChangeSpec := { name := "dagRounds", fn := fun _ => fun
  | [d] => { results := [.lit (.bool false)], args := [d] }
  | _ => none }
def DagRoundsWrongFalsely : Prop := dagRoundsRow.holds Try.pinned (OpenSpec.ofChange dagRoundsWrong)

/-- 'selvedgelaw11.DagGrows': WHATEVER THE INPUT: true; the input reads as it did. -/
def dagGrowsSpec : ChangeSpec := { name := "dagGrows", fn := fun _ => fun
  | [d1, d2] => { results := [.lit (.bool true)], args := [d1, d2] }
  | _ => none }
def dagGrowsRow : OpenClaim := { program := "ytklhjlaofkngcaa", sum := "de2877951dca739151364d5af8c5cce99a24774088f4b6556031a8330683d3b3", func := "selvedge/selvedgelaw11.DagGrows", spec := "dagGrows", inPlace := ["internal/abi.NoEscape", "internal/bytealg.MakeNoZero", "slices.overlaps[selvedge/api.Entry]"], unfollowed := true, recurses := true, apart := false }
def DagGrowsSaid : Prop := dagGrowsRow.holds Try.pinned (OpenSpec.ofChange dagGrowsSpec)

/-- ITS FALSE NEIGHBOUR: 'it returns false'. Refute it at one input. -/
def dagGrowsWrong : ChangeSpec := { name := "dagGrows", fn := fun _ => fun
  | [d1, d2] => { results := [.lit (.bool false)], args := [d1, d2] }
  | _ => none }
def DagGrowsWrongFalsely : Prop := dagGrowsRow.holds Try.pinned (OpenSpec.ofChange dagGrowsWrong)

/-- 'selvedgelaw11.DagDrops': WHATEVER THE INPUT: true; the input reads as it did. -/
def dagDropsSpec : ChangeSpec := { name := "dagDrops", fn := fun _ => fun
  | [d1, d2, d3] => { results := [.lit (.bool true)], args := [d1, d2, d3] }
  | _ => none }
def dagDropsRow : OpenClaim := { program := "ytklhjlaofkngcaa", sum := "de2877951dca739151364d5af8c5cce99a24774088f4b6556031a8330683d3b3", func := "selvedge/selvedgelaw11.DagDrops", spec := "dagDrops", inPlace := ["internal/abi.NoEscape", "internal/bytealg.MakeNoZero", "slices.overlaps[selvedge/api.Entry]"], unfollowed := true, recurses := true, apart := false }
def DagDropsSaid : Prop := dagDropsRow.holds Try.pinned (OpenSpec.ofChange dagDropsSpec)

/-- ITS FALSE NEIGHBOUR: 'it returns false'. Refute it at one input. -/
def dagDropsWrong : ChangeSpec := { name := "dagDrops", fn := fun _ => fun
  | [d1, d2, d3] => { results := [.lit (.bool false)], args := [d1, d2, d3] }
  | _ => none }
def DagDropsWrongFalsely : Prop := dagDropsRow.holds Try.pinned (OpenSpec.ofChange dagDropsWrong)

/- THE SECOND FORM. 'bulk': how many values and letters a reading holds, each counted each time it is reached (what is shared counts as often as it is met; a slice's spare places count too). A statement '..UptoSaid' is the law's where the arguments, and the package variables that the reading takes, are together of bulk at most 1048576: NARROWER than '..Said'. Prove '..Said' where nothing that the law and all that it calls make is longer than what came in: it says more and counts as full. Else prove '..UptoSaid'. A law counts once. -/
mutual
def uptoBulk {H : Type} : DataW H → Nat
  | .lit (.string bytes) => bytes.length + 1
  | .lit _ => 1
  | .nil => 1
  | .ptr d => uptoBulk d + 1
  | .slice elems spare => uptoBulkAll elems + uptoBulkAll spare + 1
  | .agg parts => uptoBulkAll parts + 1
  | .iface _ d => uptoBulk d + 1
  | .map entries => uptoBulkEntries entries + 1
  | .held _ => 1
def uptoBulkAll {H : Type} : List (DataW H) → Nat
  | [] => 0
  | d :: r => uptoBulk d + uptoBulkAll r
def uptoBulkEntries {H : Type} : List (Lit × DataW H) → Nat
  | [] => 0
  | x :: r => uptoBulkEntry x + uptoBulkEntries r
def uptoBulkEntry {H : Type} : Lit × DataW H → Nat
  | (.string bytes, d) => bytes.length + uptoBulk d + 1
  | (_, d) => uptoBulk d + 1
 end
def uptoSmall : (H : Type) → List (DataW H) → Bool := fun _ ds => decide (uptoBulkAll ds ≤ 1048576)
def OpenSpec.upto (s : _root_.Go.ChangeSpec) : _root_.Go.OpenSpec := { _root_.Go.OpenSpec.ofChange s with cond := some uptoSmall }

/-- 'selvedgelaw11.DagAsks', WHERE WHAT IT READS IS OF BULK AT MOST 1048576: true; the input reads as it did. -/
def dagAsksUptoRow : OpenClaim := { program := "ytklhjlaofkngcaa", sum := "de2877951dca739151364d5af8c5cce99a24774088f4b6556031a8330683d3b3", func := "selvedge/selvedgelaw11.DagAsks", spec := "dagAsks", inPlace := ["internal/abi.NoEscape", "internal/bytealg.MakeNoZero", "slices.overlaps[selvedge/api.Entry]"], unfollowed := true, recurses := true, apart := false, narrowed := true }
def DagAsksUptoSaid : Prop := dagAsksUptoRow.holds Try.pinned (OpenSpec.upto dagAsksSpec)

/-- 'selvedgelaw11.DagOrder', WHERE WHAT IT READS IS OF BULK AT MOST 1048576: true; the input reads as it did. -/
def dagOrderUptoRow : OpenClaim := { program := "ytklhjlaofkngcaa", sum := "de2877951dca739151364d5af8c5cce99a24774088f4b6556031a8330683d3b3", func := "selvedge/selvedgelaw11.DagOrder", spec := "dagOrder", inPlace := ["internal/abi.NoEscape", "internal/bytealg.MakeNoZero", "slices.overlaps[selvedge/api.Entry]"], unfollowed := true, recurses := true, apart := false, narrowed := true }
def DagOrderUptoSaid : Prop := dagOrderUptoRow.holds Try.pinned (OpenSpec.upto dagOrderSpec)

/-- 'selvedgelaw11.DagRounds', WHERE WHAT IT READS IS OF BULK AT MOST 1048576: true; the input reads as it did. -/
def dagRoundsUptoRow : OpenClaim := { program := "ytklhjlaofkngcaa", sum := "de2877951dca739151364d5af8c5cce99a24774088f4b6556031a8330683d3b3", func := "selvedge/selvedgelaw11.DagRounds", spec := "dagRounds", inPlace := ["internal/abi.NoEscape", "internal/bytealg.MakeNoZero", "slices.overlaps[selvedge/api.Entry]"], unfollowed := true, recurses := true, apart := false, narrowed := true }
def DagRoundsUptoSaid : Prop := dagRoundsUptoRow.holds Try.pinned (OpenSpec.upto dagRoundsSpec)

/-- 'selvedgelaw11.DagGrows', WHERE WHAT IT READS IS OF BULK AT MOST 1048576: true; the input reads as it did. -/
def dagGrowsUptoRow : OpenClaim := { program := "ytklhjlaofkngcaa", sum := "de2877951dca739151364d5af8c5cce99a24774088f4b6556031a8330683d3b3", func := "selvedge/selvedgelaw11.DagGrows", spec := "dagGrows", inPlace := ["internal/abi.NoEscape", "internal/bytealg.MakeNoZero", "slices.overlaps[selvedge/api.Entry]"], unfollowed := true, recurses := true, apart := false, narrowed := true }
def DagGrowsUptoSaid : Prop := dagGrowsUptoRow.holds Try.pinned (OpenSpec.upto dagGrowsSpec)

/-- 'selvedgelaw11.DagDrops', WHERE WHAT IT READS IS OF BULK AT MOST 1048576: true; the input reads as it did. -/
def dagDropsUptoRow : OpenClaim := { program := "ytklhjlaofkngcaa", sum := "de2877951dca739151364d5af8c5cce99a24774088f4b6556031a8330683d3b3", func := "selvedge/selvedgelaw11.DagDrops", spec := "dagDrops", inPlace := ["internal/abi.NoEscape", "internal/bytealg.MakeNoZero", "slices.overlaps[selvedge/api.Entry]"], unfollowed := true, recurses := true, apart := false, narrowed := true }
def DagDropsUptoSaid : Prop := dagDropsUptoRow.holds Try.pinned (OpenSpec.upto dagDropsSpec)

end Rows
end Go.Proofs.Ytklhjlaofkngcaa
