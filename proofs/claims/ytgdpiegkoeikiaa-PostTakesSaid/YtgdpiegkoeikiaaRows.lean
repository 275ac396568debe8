/-
  No cell of these rows narrows 'for every input' (looked for: loops, veiled, ifaces, maps, wideKeys, modest, calm, conditions, laid).
  DERIVED. THE GIVEN ROWS OF THIS SEAT. 2 by the template 'for every input the law returns true; each argument reads behind the call as it read before'; 0 by the template 'total and deterministic' (their statements: YtgdpiegkoeikiaaTotals.lean).
  GIVEN WITH THE SEED: the statements are not yours to turn. If you find one false, say at which input.
  Laid BY PROGRAM, IN A SANDBOX (cutbox-rows.mjs): the forced cells as the released guide's own fill.sh prints them over the translation ac041f0435e4eaa1… (all of the seat's roots in one cut). By AI agents, Wed Nov 11 2026. No macro, syntax, notation, axiom, sorry.
-/
import Derived.Test.YtgdpiegkoeikiaaChecked
import GoSem.Claim
import GoSem.ClaimJoined
import GoSem.ClaimMapViews
import Derived.JoinedTies
import Derived.KernelRfl
namespace Go.Proofs.Ytgdpiegkoeikiaa
/- THE CELL 'sum', in the pinned program and in every row, IS THE sha256 OF THE DUMP (.gsa) THAT YtgdpiegkoeikiaaProg.lean LOADS. Nothing in Lean hashes anything: it is a label: what it is worth is what the hold of that sum in a sandbox is worth. -/
noncomputable def Try.pinned : Pinned := { name := "ytgdpiegkoeikiaa", sum := "ac041f0435e4eaa138f435966f4702b06bac19e826d508ecbf10b5501da26529", checked := Try.checked }
namespace Rows
def none {H : Type} : Left H := { results := [], args := [] }

/-- 'selvedgelaw18.PostTakes': WHATEVER THE INPUT: true; the input reads as it did. -/
def postTakesSpec : ChangeSpec := { name := "postTakes", fn := fun _ => fun
  | [d1, d2] => { results := [.lit (.bool true)], args := [d1, d2] }
  | _ => none }
def postTakesRow : OpenClaim := { program := "ytgdpiegkoeikiaa", sum := "ac041f0435e4eaa138f435966f4702b06bac19e826d508ecbf10b5501da26529", func := "selvedge/selvedgelaw18.PostTakes", spec := "postTakes", unfollowed := true, recurses := true, apart := false }
def PostTakesSaid : Prop := postTakesRow.holds Try.pinned (OpenSpec.ofChange postTakesSpec)

/-- ITS FALSE NEIGHBOUR: 'it returns false'. Refute it at one input. -/
def postTakesWrong : ChangeSpec := { name := "postTakes", fn := fun _ => fun
  | [d1, d2] => { results := [.lit (.bool false)], args := [d1, d2] }
  | _ => none }
def PostTakesWrongFalsely : Prop := postTakesRow.holds Try.pinned (OpenSpec.ofChange postTakesWrong)

/-- 'selvedgelaw10.CertBack': WHATEVER THE INPUT: true; the input reads as it did. -/
def certBackSpec : ChangeSpec := { name := "certBack", fn := fun _ => fun
  | [d1, d2, d3] => { results := [.lit (.bool true)], args := [d1, d2, d3] }
  | _ => none }
def certBackRow : OpenClaim := { program := "ytgdpiegkoeikiaa", sum := "ac041f0435e4eaa138f435966f4702b06bac19e826d508ecbf10b5501da26529", func := "selvedge/selvedgelaw10.CertBack", spec := "certBack", inPlace := ["internal/abi.NoEscape", "internal/bytealg.MakeNoZero"], unfollowed := true, recurses := true, apart := false }
def CertBackSaid : Prop := certBackRow.holds Try.pinned (OpenSpec.ofChange certBackSpec)

/-- ITS FALSE NEIGHBOUR: 'it returns false'. Refute it at one input. -/
def certBackWrong : ChangeSpec := { name := "certBack", fn := fun _ => fun
  | [d1, d2, d3] => { results := [.lit (.bool false)], args := [d1, d2, d3] }
  | _ => none }
def CertBackWrongFalsely : Prop := certBackRow.holds Try.pinned (OpenSpec.ofChange certBackWrong)

/- THE SECOND FORM. 'bulk': how many values and letters a reading holds, each counted each time it is reached (what is shared counts as often as it is met; a slice's spare places count too). A statement '..UptoSaid' is the law's where the arguments, and the package variables that the reading takes, are together of bulk at most 1048576: NARROWER than '..Said'. Prove '..Said' where nothing that the law and all that it calls make is longer than what came in: it says more and counts as full. Else prove '..UptoSaid'. A law counts once. -/
mutual
def uptoBulk {H : Type} : DataW H → Nat
  | .lit (.string bytes) => bytes.length + 1
  | .lit _ => 1
  | .nil => 1
  | .ptr d => uptoBulk d + 1
  | .slice elems spare => uptoBulkAll elems + uptoBulkAll spare + 1
  | .agg parts => uptoBulkAll parts + 1
  | .iface _ d => uptoBulk d + 1
  | .map entries => uptoBulkEntries entries + 1
  | .held _ => 1
def uptoBulkAll {H : Type} : List (DataW H) → Nat
  | [] => 0
  | d :: r => uptoBulk d + uptoBulkAll r
def uptoBulkEntries {H : Type} : List (Lit × DataW H) → Nat
  | [] => 0
  | x :: r => uptoBulkEntry x + uptoBulkEntries r
def uptoBulkEntry {H : Type} : Lit × DataW H → Nat
  | (.string bytes, d) => bytes.length + uptoBulk d + 1
  | (_, d) => uptoBulk d + 1
 end
def uptoSmall : (H : Type) → List (DataW H) → Bool := fun _ ds => decide (uptoBulkAll ds ≤ 1048576)
def OpenSpec.upto (s : _root_.Go.ChangeSpec) : _root_.Go.OpenSpec := { _root_.Go.OpenSpec.ofChange s with cond := some uptoSmall }

/-- 'selvedgelaw18.PostTakes', WHERE WHAT IT READS IS OF BULK AT MOST 1048576: true; the input reads as it did. -/
def postTakesUptoRow : OpenClaim := { program := "ytgdpiegkoeikiaa", sum := "ac041f0435e4eaa138f435966f4702b06bac19e826d508ecbf10b5501da26529", func := "selvedge/selvedgelaw18.PostTakes", spec := "postTakes", unfollowed := true, recurses := true, apart := false, narrowed := true }
def PostTakesUptoSaid : Prop := postTakesUptoRow.holds Try.pinned (OpenSpec.upto postTakesSpec)

/-- 'selvedgelaw10.CertBack', WHERE WHAT IT READS IS OF BULK AT MOST 1048576: true; the input reads as it did. -/
def certBackUptoRow : OpenClaim := { program := "ytgdpiegkoeikiaa", sum := "ac041f0435e4eaa138f435966f4702b06bac19e826d508ecbf10b5501da26529", func := "selvedge/selvedgelaw10.CertBack", spec := "certBack", inPlace := ["internal/abi.NoEscape", "internal/bytealg.MakeNoZero"], unfollowed := true, recurses := true, apart := false, narrowed := true }
def CertBackUptoSaid : Prop := certBackUptoRow.holds Try.pinned (OpenSpec.upto certBackSpec)

end Rows
end Go.Proofs.Ytgdpiegkoeikiaa
