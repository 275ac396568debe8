/-
  No cell of these rows narrows 'for every input' (looked for: loops, veiled, ifaces, maps, wideKeys, modest, calm, conditions, laid).
  DERIVED. THE GIVEN ROWS OF THIS SEAT. 15 by the template 'for every input the law returns true; each argument reads behind the call as it read before'; 0 by the template 'total and deterministic' (their statements: YtijnodcbgadooaaTotals.lean).
  GIVEN WITH THE SEED: the statements are not yours to turn. If you find one false, say at which input.
  Laid BY PROGRAM, IN A SANDBOX (cutbox-rows.mjs): the forced cells as the released guide's own fill.sh prints them over the translation 2fa2f28c5d7926e4… (all of the seat's roots in one cut). By AI agents, Wed Nov 11 2026. No macro, syntax, notation, axiom, sorry.
-/
import Derived.Test.YtijnodcbgadooaaChecked
import GoSem.Claim
import GoSem.ClaimJoined
import GoSem.ClaimMapViews
import Derived.JoinedTies
import Derived.KernelRfl
namespace Go.Proofs.Ytijnodcbgadooaa
/- THE CELL 'sum', in the pinned program and in every row, IS THE sha256 OF THE DUMP (.gsa) THAT YtijnodcbgadooaaProg.lean LOADS. Nothing in Lean hashes anything: it is a label: what it is worth is what the hold of that sum in a sandbox is worth. -/
noncomputable def Try.pinned : Pinned := { name := "ytijnodcbgadooaa", sum := "2fa2f28c5d7926e45c4762caae9040f05a2152d9d5c8acd9c0b2df4df634bc91", checked := Try.checked }
namespace Rows
def none {H : Type} : Left H := { results := [], args := [] }

/-- 'selvedgelaw01.DigitsNums': WHATEVER THE INPUT: true; the input reads as it did. -/
def digitsNumsSpec : ChangeSpec := { name := "digitsNums", fn := fun _ => fun
  | [d1, d2] => { results := [.lit (.bool true)], args := [d1, d2] }
  | _ => none }
def digitsNumsRow : OpenClaim := { program := "ytijnodcbgadooaa", sum := "2fa2f28c5d7926e45c4762caae9040f05a2152d9d5c8acd9c0b2df4df634bc91", func := "selvedge/selvedgelaw01.DigitsNums", spec := "digitsNums", apart := false }
def DigitsNumsSaid : Prop := digitsNumsRow.holds Try.pinned (OpenSpec.ofChange digitsNumsSpec)

/-- ITS FALSE NEIGHBOUR: 'it returns false'. Refute it at one input. -/
def digitsNumsWrong : ChangeSpec := { name := "digitsNums", fn := fun _ => fun
  | [d1, d2] => { results := [.lit (.bool false)], args := [d1, d2] }
  | _ => none }
def DigitsNumsWrongFalsely : Prop := digitsNumsRow.holds Try.pinned (OpenSpec.ofChange digitsNumsWrong)

/-- 'selvedgelaw01.DigitsTakes': WHATEVER THE INPUT: true; the input reads as it did. -/
def digitsTakesSpec : ChangeSpec := { name := "digitsTakes", fn := fun _ => fun
  | [d] => { results := [.lit (.bool true)], args := [d] }
  | _ => none }
def digitsTakesRow : OpenClaim := { program := "ytijnodcbgadooaa", sum := "2fa2f28c5d7926e45c4762caae9040f05a2152d9d5c8acd9c0b2df4df634bc91", func := "selvedge/selvedgelaw01.DigitsTakes", spec := "digitsTakes", apart := false }
def DigitsTakesSaid : Prop := digitsTakesRow.holds Try.pinned (OpenSpec.ofChange digitsTakesSpec)

/-- ITS FALSE NEIGHBOUR: 'it returns false'. Refute it at one input. -/
def digitsTakesWrong : ChangeSpec := { name := "digitsTakes", fn := fun _ => fun
  | [d] => { results := [.lit (.bool false)], args := [d] }
  | _ => none }
def DigitsTakesWrongFalsely : Prop := digitsTakesRow.holds Try.pinned (OpenSpec.ofChange digitsTakesWrong)

/-- 'selvedgelaw01.DigitsOrder': WHATEVER THE INPUT: true; the input reads as it did. -/
def digitsOrderSpec : ChangeSpec := { name := "digitsOrder", fn := fun _ => fun
  | [d1, d2] => { results := [.lit (.bool true)], args := [d1, d2] }
  | _ => none }
def digitsOrderRow : OpenClaim := { program := "ytijnodcbgadooaa", sum := "2fa2f28c5d7926e45c4762caae9040f05a2152d9d5c8acd9c0b2df4df634bc91", func := "selvedge/selvedgelaw01.DigitsOrder", spec := "digitsOrder", apart := false }
def DigitsOrderSaid : Prop := digitsOrderRow.holds Try.pinned (OpenSpec.ofChange digitsOrderSpec)

/-- ITS FALSE NEIGHBOUR: 'it returns false'. Refute it at one input. -/
def digitsOrderWrong : ChangeSpec := { name := "digitsOrder", fn := fun _ => fun
  | [d1, d2] => { results := [.lit (.bool false)], args := [d1, d2] }
  | _ => none }
def DigitsOrderWrongFalsely : Prop := digitsOrderRow.holds Try.pinned (OpenSpec.ofChange digitsOrderWrong)

/-- 'selvedgelaw01.DigitsSizes': WHATEVER THE INPUT: true; the input reads as it did. -/
def digitsSizesSpec : ChangeSpec := { name := "digitsSizes", fn := fun _ => fun
  | [d] => { results := [.lit (.bool true)], args := [d] }
  | _ => none }
def digitsSizesRow : OpenClaim := { program := "ytijnodcbgadooaa", sum := "2fa2f28c5d7926e45c4762caae9040f05a2152d9d5c8acd9c0b2df4df634bc91", func := "selvedge/selvedgelaw01.DigitsSizes", spec := "digitsSizes", apart := false }
def DigitsSizesSaid : Prop := digitsSizesRow.holds Try.pinned (OpenSpec.ofChange digitsSizesSpec)

/-- ITS FALSE NEIGHBOUR: 'it returns false'. Refute it at one input. -/
def digitsSizesWrong : ChangeSpec := { name := "digitsSizes", fn := fun _ => fun
  | [d] => { results := [.lit (.bool false)], args := [d] }
  | _ => none }
def DigitsSizesWrongFalsely : Prop := digitsSizesRow.holds Try.pinned (OpenSpec.ofChange digitsSizesWrong)

/-- 'selvedgelaw01.DigitsTexts': WHATEVER THE INPUT: true; the input reads as it did. -/
def digitsTextsSpec : ChangeSpec := { name := "digitsTexts", fn := fun _ => fun
  | [d1, d2] => { results := [.lit (.bool true)], args := [d1, d2] }
  | _ => none }
def digitsTextsRow : OpenClaim := { program := "ytijnodcbgadooaa", sum := "2fa2f28c5d7926e45c4762caae9040f05a2152d9d5c8acd9c0b2df4df634bc91", func := "selvedge/selvedgelaw01.DigitsTexts", spec := "digitsTexts", apart := false }
def DigitsTextsSaid : Prop := digitsTextsRow.holds Try.pinned (OpenSpec.ofChange digitsTextsSpec)

/-- ITS FALSE NEIGHBOUR: 'it returns false'. Refute it at one input. -/
def digitsTextsWrong : ChangeSpec := { name := "digitsTexts", fn := fun _ => fun
  | [d1, d2] => { results := [.lit (.bool false)], args := [d1, d2] }
  | _ => none }
def DigitsTextsWrongFalsely : Prop := digitsTextsRow.holds Try.pinned (OpenSpec.ofChange digitsTextsWrong)

/-- 'selvedgelaw07.BatchApart': WHATEVER THE INPUT: true; the input reads as it did. -/
def batchApartSpec : ChangeSpec := { name := "batchApart", fn := fun _ => fun
  | [d1, d2] => { results := [.lit (.bool true)], args := [d1, d2] }
  | _ => none }
def batchApartRow : OpenClaim := { program := "ytijnodcbgadooaa", sum := "2fa2f28c5d7926e45c4762caae9040f05a2152d9d5c8acd9c0b2df4df634bc91", func := "selvedge/selvedgelaw07.BatchApart", spec := "batchApart", inPlace := ["internal/abi.NoEscape"], unfollowed := true, recurses := true, apart := false }
def BatchApartSaid : Prop := batchApartRow.holds Try.pinned (OpenSpec.ofChange batchApartSpec)

/-- ITS FALSE NEIGHBOUR: 'it returns false'. Refute it at one input. -/
def batchApartWrong : ChangeSpec := { name := "batchApart", fn := fun _ => fun
  | [d1, d2] => { results := [.lit (.bool false)], args := [d1, d2] }
  | _ => none }
def BatchApartWrongFalsely : Prop := batchApartRow.holds Try.pinned (OpenSpec.ofChange batchApartWrong)

/-- 'selvedgelaw07.BatchSame': WHATEVER THE INPUT: true; the input reads as it did. -/
def batchSameSpec : ChangeSpec := { name := "batchSame", fn := fun _ => fun
  | [d1, d2] => { results := [.lit (.bool true)], args := [d1, d2] }
  | _ => none }
def batchSameRow : OpenClaim := { program := "ytijnodcbgadooaa", sum := "2fa2f28c5d7926e45c4762caae9040f05a2152d9d5c8acd9c0b2df4df634bc91", func := "selvedge/selvedgelaw07.BatchSame", spec := "batchSame", inPlace := ["internal/abi.NoEscape"], unfollowed := true, recurses := true, apart := false }
def BatchSameSaid : Prop := batchSameRow.holds Try.pinned (OpenSpec.ofChange batchSameSpec)

/-- ITS FALSE NEIGHBOUR: 'it returns false'. Refute it at one input. -/
def batchSameWrong : ChangeSpec := { name := "batchSame", fn := fun _ => fun
  | [d1, d2] => { results := [.lit (.bool false)], args := [d1, d2] }
  | _ => none }
def BatchSameWrongFalsely : Prop := batchSameRow.holds Try.pinned (OpenSpec.ofChange batchSameWrong)

/-- 'selvedgelaw01.DigitsRows': WHATEVER THE INPUT: true; the input reads as it did. -/
def digitsRowsSpec : ChangeSpec := { name := "digitsRows", fn := fun _ => fun
  | [d] => { results := [.lit (.bool true)], args := [d] }
  | _ => none }
def digitsRowsRow : OpenClaim := { program := "ytijnodcbgadooaa", sum := "2fa2f28c5d7926e45c4762caae9040f05a2152d9d5c8acd9c0b2df4df634bc91", func := "selvedge/selvedgelaw01.DigitsRows", spec := "digitsRows", inPlace := ["internal/abi.NoEscape"], unfollowed := true, recurses := true, apart := false }
def DigitsRowsSaid : Prop := digitsRowsRow.holds Try.pinned (OpenSpec.ofChange digitsRowsSpec)

/-- ITS FALSE NEIGHBOUR: 'it returns false'. Refute it at one input. -/
def digitsRowsWrong : ChangeSpec := { name := "digitsRows", fn := fun _ => fun
  | [d] => { results := [.lit (.bool false)], args := [d] }
  | _ => none }
def DigitsRowsWrongFalsely : Prop := digitsRowsRow.holds Try.pinned (OpenSpec.ofChange digitsRowsWrong)

/-- 'selvedgelaw01.DigitsBack': WHATEVER THE INPUT: true; the input reads as it did. -/
def digitsBackSpec : ChangeSpec := { name := "digitsBack", fn := fun _ => fun
  | [d] => { results := [.lit (.bool true)], args := [d] }
  | _ => none }
def digitsBackRow : OpenClaim := { program := "ytijnodcbgadooaa", sum := "2fa2f28c5d7926e45c4762caae9040f05a2152d9d5c8acd9c0b2df4df634bc91", func := "selvedge/selvedgelaw01.DigitsBack", spec := "digitsBack", inPlace := ["internal/abi.NoEscape"], unfollowed := true, recurses := true, apart := false }
def DigitsBackSaid : Prop := digitsBackRow.holds Try.pinned (OpenSpec.ofChange digitsBackSpec)

/-- ITS FALSE NEIGHBOUR: 'it returns false'. Refute it at one input. -/
def digitsBackWrong : ChangeSpec := { name := "digitsBack", fn := fun _ => fun
  | [d] => { results := [.lit (.bool false)], args := [d] }
  | _ => none }
def DigitsBackWrongFalsely : Prop := digitsBackRow.holds Try.pinned (OpenSpec.ofChange digitsBackWrong)

/-- 'selvedgelaw01.DigitsCut': WHATEVER THE INPUT: true; the input reads as it did. -/
def digitsCutSpec : ChangeSpec := { name := "digitsCut", fn := fun _ => fun
  | [d1, d2, d3] => { results := [.lit (.bool true)], args := [d1, d2, d3] }
  | _ => none }
def digitsCutRow : OpenClaim := { program := "ytijnodcbgadooaa", sum := "2fa2f28c5d7926e45c4762caae9040f05a2152d9d5c8acd9c0b2df4df634bc91", func := "selvedge/selvedgelaw01.DigitsCut", spec := "digitsCut", inPlace := ["internal/abi.NoEscape"], unfollowed := true, recurses := true, apart := false }
def DigitsCutSaid : Prop := digitsCutRow.holds Try.pinned (OpenSpec.ofChange digitsCutSpec)

/-- ITS FALSE NEIGHBOUR: 'it returns false'. Refute it at one input. -/
def digitsCutWrong : ChangeSpec := { name := "digitsCut", fn := fun _ => fun
  | [d1, d2, d3] => { results := [.lit (.bool false)], args := [d1, d2, d3] }
  | _ => none }
def DigitsCutWrongFalsely : Prop := digitsCutRow.holds Try.pinned (OpenSpec.ofChange digitsCutWrong)

/-- 'selvedgelaw01.DigitsJoin': WHATEVER THE INPUT: true; the input reads as it did. -/
def digitsJoinSpec : ChangeSpec := { name := "digitsJoin", fn := fun _ => fun
  | [d1, d2] => { results := [.lit (.bool true)], args := [d1, d2] }
  | _ => none }
def digitsJoinRow : OpenClaim := { program := "ytijnodcbgadooaa", sum := "2fa2f28c5d7926e45c4762caae9040f05a2152d9d5c8acd9c0b2df4df634bc91", func := "selvedge/selvedgelaw01.DigitsJoin", spec := "digitsJoin", inPlace := ["internal/abi.NoEscape"], unfollowed := true, recurses := true, apart := false }
def DigitsJoinSaid : Prop := digitsJoinRow.holds Try.pinned (OpenSpec.ofChange digitsJoinSpec)

/-- ITS FALSE NEIGHBOUR: 'it returns false'. Refute it at one input. -/
def digitsJoinWrong : ChangeSpec := { name := "digitsJoin", fn := fun _ => fun
  | [d1, d2] => { results := [.lit (.bool false)], args := [d1, d2] }
  | _ => none }
def DigitsJoinWrongFalsely : Prop := digitsJoinRow.holds Try.pinned (OpenSpec.ofChange digitsJoinWrong)

/-- 'selvedgelaw18.PostCut': WHATEVER THE INPUT: true; the input reads as it did. -/
def postCutSpec : ChangeSpec := { name := "postCut", fn := fun _ => fun
  | [d1, d2] => { results := [.lit (.bool true)], args := [d1, d2] }
  | _ => none }
def postCutRow : OpenClaim := { program := "ytijnodcbgadooaa", sum := "2fa2f28c5d7926e45c4762caae9040f05a2152d9d5c8acd9c0b2df4df634bc91", func := "selvedge/selvedgelaw18.PostCut", spec := "postCut", unfollowed := true, recurses := true, apart := false }
def PostCutSaid : Prop := postCutRow.holds Try.pinned (OpenSpec.ofChange postCutSpec)

/-- ITS FALSE NEIGHBOUR: 'it returns false'. Refute it at one input. -/
def postCutWrong : ChangeSpec := { name := "postCut", fn := fun _ => fun
  | [d1, d2] => { results := [.lit (.bool false)], args := [d1, d2] }
  | _ => none }
def PostCutWrongFalsely : Prop := postCutRow.holds Try.pinned (OpenSpec.ofChange postCutWrong)

/-- 'selvedgelaw08.VertexApart': WHATEVER THE INPUT: true; the input reads as it did. -/
def vertexApartSpec : ChangeSpec := { name := "vertexApart", fn := fun _ => fun
  | [d1, d2, d3] => { results := [.lit (.bool true)], args := [d1, d2, d3] }
  | _ => none }
def vertexApartRow : OpenClaim := { program := "ytijnodcbgadooaa", sum := "2fa2f28c5d7926e45c4762caae9040f05a2152d9d5c8acd9c0b2df4df634bc91", func := "selvedge/selvedgelaw08.VertexApart", spec := "vertexApart", inPlace := ["internal/abi.NoEscape"], unfollowed := true, recurses := true, apart := false }
def VertexApartSaid : Prop := vertexApartRow.holds Try.pinned (OpenSpec.ofChange vertexApartSpec)

/-- ITS FALSE NEIGHBOUR: 'it returns false'. Refute it at one input. -/
def vertexApartWrong : ChangeSpec := { name := "vertexApart", fn := fun _ => fun
  | [d1, d2, d3] => { results := [.lit (.bool false)], args := [d1, d2, d3] }
  | _ => none }
def VertexApartWrongFalsely : Prop := vertexApartRow.holds Try.pinned (OpenSpec.ofChange vertexApartWrong)

/-- 'selvedgelaw07.BatchTakes': WHATEVER THE INPUT: true; the input reads as it did. -/
def batchTakesSpec : ChangeSpec := { name := "batchTakes", fn := fun _ => fun
  | [d] => { results := [.lit (.bool true)], args := [d] }
  | _ => none }
def batchTakesRow : OpenClaim := { program := "ytijnodcbgadooaa", sum := "2fa2f28c5d7926e45c4762caae9040f05a2152d9d5c8acd9c0b2df4df634bc91", func := "selvedge/selvedgelaw07.BatchTakes", spec := "batchTakes", inPlace := ["internal/abi.NoEscape"], unfollowed := true, recurses := true, apart := false }
def BatchTakesSaid : Prop := batchTakesRow.holds Try.pinned (OpenSpec.ofChange batchTakesSpec)

/-- ITS FALSE NEIGHBOUR: 'it returns false'. Refute it at one input. -/
def batchTakesWrong : ChangeSpec := { name := "batchTakes", fn := fun _ => fun
  | [d] => { results := [.lit (.bool false)], args := [d] }
  | _ => none }
def BatchTakesWrongFalsely : Prop := batchTakesRow.holds Try.pinned (OpenSpec.ofChange batchTakesWrong)

/-- 'selvedgelaw07.BatchBack': WHATEVER THE INPUT: true; the input reads as it did. -/
def batchBackSpec : ChangeSpec := { name := "batchBack", fn := fun _ => fun
  | [d1, d2] => { results := [.lit (.bool true)], args := [d1, d2] }
  | _ => none }
def batchBackRow : OpenClaim := { program := "ytijnodcbgadooaa", sum := "2fa2f28c5d7926e45c4762caae9040f05a2152d9d5c8acd9c0b2df4df634bc91", func := "selvedge/selvedgelaw07.BatchBack", spec := "batchBack", inPlace := ["internal/abi.NoEscape"], unfollowed := true, recurses := true, apart := false }
def BatchBackSaid : Prop := batchBackRow.holds Try.pinned (OpenSpec.ofChange batchBackSpec)

/-- ITS FALSE NEIGHBOUR: 'it returns false'. Refute it at one input. -/
def batchBackWrong : ChangeSpec := { name := "batchBack", fn := fun _ => fun
  | [d1, d2] => { results := [.lit (.bool false)], args := [d1, d2] }
  | _ => none }
def BatchBackWrongFalsely : Prop := batchBackRow.holds Try.pinned (OpenSpec.ofChange batchBackWrong)

/- THE SECOND FORM. 'bulk': how many values and letters a reading holds, each counted each time it is reached (what is shared counts as often as it is met; a slice's spare places count too). A statement '..UptoSaid' is the law's where the arguments, and the package variables that the reading takes, are together of bulk at most 1048576: NARROWER than '..Said'. Prove '..Said' where nothing that the law and all that it calls make is longer than what came in: it says more and counts as full. Else prove '..UptoSaid'. A law counts once. -/
mutual
def uptoBulk {H : Type} : DataW H → Nat
  | .lit (.string bytes) => bytes.length + 1
  | .lit _ => 1
  | .nil => 1
  | .ptr d => uptoBulk d + 1
  | .slice elems spare => uptoBulkAll elems + uptoBulkAll spare + 1
  | .agg parts => uptoBulkAll parts + 1
  | .iface _ d => uptoBulk d + 1
  | .map entries => uptoBulkEntries entries + 1
  | .held _ => 1
def uptoBulkAll {H : Type} : List (DataW H) → Nat
  | [] => 0
  | d :: r => uptoBulk d + uptoBulkAll r
def uptoBulkEntries {H : Type} : List (Lit × DataW H) → Nat
  | [] => 0
  | x :: r => uptoBulkEntry x + uptoBulkEntries r
def uptoBulkEntry {H : Type} : Lit × DataW H → Nat
  | (.string bytes, d) => bytes.length + uptoBulk d + 1
  | (_, d) => uptoBulk d + 1
 end
def uptoSmall : (H : Type) → List (DataW H) → Bool := fun _ ds => decide (uptoBulkAll ds ≤ 1048576)
def OpenSpec.upto (s : _root_.Go.ChangeSpec) : _root_.Go.OpenSpec := { _root_.Go.OpenSpec.ofChange s with cond := some uptoSmall }

/-- 'selvedgelaw01.DigitsNums', WHERE WHAT IT READS IS OF BULK AT MOST 1048576: true; the input reads as it did. -/
def digitsNumsUptoRow : OpenClaim := { program := "ytijnodcbgadooaa", sum := "2fa2f28c5d7926e45c4762caae9040f05a2152d9d5c8acd9c0b2df4df634bc91", func := "selvedge/selvedgelaw01.DigitsNums", spec := "digitsNums", apart := false, narrowed := true }
def DigitsNumsUptoSaid : Prop := digitsNumsUptoRow.holds Try.pinned (OpenSpec.upto digitsNumsSpec)

/-- 'selvedgelaw01.DigitsTakes', WHERE WHAT IT READS IS OF BULK AT MOST 1048576: true; the input reads as it did. -/
def digitsTakesUptoRow : OpenClaim := { program := "ytijnodcbgadooaa", sum := "2fa2f28c5d7926e45c4762caae9040f05a2152d9d5c8acd9c0b2df4df634bc91", func := "selvedge/selvedgelaw01.DigitsTakes", spec := "digitsTakes", apart := false, narrowed := true }
def DigitsTakesUptoSaid : Prop := digitsTakesUptoRow.holds Try.pinned (OpenSpec.upto digitsTakesSpec)

/-- 'selvedgelaw01.DigitsOrder', WHERE WHAT IT READS IS OF BULK AT MOST 1048576: true; the input reads as it did. -/
def digitsOrderUptoRow : OpenClaim := { program := "ytijnodcbgadooaa", sum := "2fa2f28c5d7926e45c4762caae9040f05a2152d9d5c8acd9c0b2df4df634bc91", func := "selvedge/selvedgelaw01.DigitsOrder", spec := "digitsOrder", apart := false, narrowed := true }
def DigitsOrderUptoSaid : Prop := digitsOrderUptoRow.holds Try.pinned (OpenSpec.upto digitsOrderSpec)

/-- 'selvedgelaw01.DigitsSizes', WHERE WHAT IT READS IS OF BULK AT MOST 1048576: true; the input reads as it did. -/
def digitsSizesUptoRow : OpenClaim := { program := "ytijnodcbgadooaa", sum := "2fa2f28c5d7926e45c4762caae9040f05a2152d9d5c8acd9c0b2df4df634bc91", func := "selvedge/selvedgelaw01.DigitsSizes", spec := "digitsSizes", apart := false, narrowed := true }
def DigitsSizesUptoSaid : Prop := digitsSizesUptoRow.holds Try.pinned (OpenSpec.upto digitsSizesSpec)

/-- 'selvedgelaw01.DigitsTexts', WHERE WHAT IT READS IS OF BULK AT MOST 1048576: true; the input reads as it did. -/
def digitsTextsUptoRow : OpenClaim := { program := "ytijnodcbgadooaa", sum := "2fa2f28c5d7926e45c4762caae9040f05a2152d9d5c8acd9c0b2df4df634bc91", func := "selvedge/selvedgelaw01.DigitsTexts", spec := "digitsTexts", apart := false, narrowed := true }
def DigitsTextsUptoSaid : Prop := digitsTextsUptoRow.holds Try.pinned (OpenSpec.upto digitsTextsSpec)

/-- 'selvedgelaw07.BatchApart', WHERE WHAT IT READS IS OF BULK AT MOST 1048576: true; the input reads as it did. -/
def batchApartUptoRow : OpenClaim := { program := "ytijnodcbgadooaa", sum := "2fa2f28c5d7926e45c4762caae9040f05a2152d9d5c8acd9c0b2df4df634bc91", func := "selvedge/selvedgelaw07.BatchApart", spec := "batchApart", inPlace := ["internal/abi.NoEscape"], unfollowed := true, recurses := true, apart := false, narrowed := true }
def BatchApartUptoSaid : Prop := batchApartUptoRow.holds Try.pinned (OpenSpec.upto batchApartSpec)

/-- 'selvedgelaw07.BatchSame', WHERE WHAT IT READS IS OF BULK AT MOST 1048576: true; the input reads as it did. -/
def batchSameUptoRow : OpenClaim := { program := "ytijnodcbgadooaa", sum := "2fa2f28c5d7926e45c4762caae9040f05a2152d9d5c8acd9c0b2df4df634bc91", func := "selvedge/selvedgelaw07.BatchSame", spec := "batchSame", inPlace := ["internal/abi.NoEscape"], unfollowed := true, recurses := true, apart := false, narrowed := true }
def BatchSameUptoSaid : Prop := batchSameUptoRow.holds Try.pinned (OpenSpec.upto batchSameSpec)

/-- 'selvedgelaw01.DigitsRows', WHERE WHAT IT READS IS OF BULK AT MOST 1048576: true; the input reads as it did. -/
def digitsRowsUptoRow : OpenClaim := { program := "ytijnodcbgadooaa", sum := "2fa2f28c5d7926e45c4762caae9040f05a2152d9d5c8acd9c0b2df4df634bc91", func := "selvedge/selvedgelaw01.DigitsRows", spec := "digitsRows", inPlace := ["internal/abi.NoEscape"], unfollowed := true, recurses := true, apart := false, narrowed := true }
def DigitsRowsUptoSaid : Prop := digitsRowsUptoRow.holds Try.pinned (OpenSpec.upto digitsRowsSpec)

/-- 'selvedgelaw01.DigitsBack', WHERE WHAT IT READS IS OF BULK AT MOST 1048576: true; the input reads as it did. -/
def digitsBackUptoRow : OpenClaim := { program := "ytijnodcbgadooaa", sum := "2fa2f28c5d7926e45c4762caae9040f05a2152d9d5c8acd9c0b2df4df634bc91", func := "selvedge/selvedgelaw01.DigitsBack", spec := "digitsBack", inPlace := ["internal/abi.NoEscape"], unfollowed := true, recurses := true, apart := false, narrowed := true }
def DigitsBackUptoSaid : Prop := digitsBackUptoRow.holds Try.pinned (OpenSpec.upto digitsBackSpec)

/-- 'selvedgelaw01.DigitsCut', WHERE WHAT IT READS IS OF BULK AT MOST 1048576: true; the input reads as it did. -/
def digitsCutUptoRow : OpenClaim := { program := "ytijnodcbgadooaa", sum := "2fa2f28c5d7926e45c4762caae9040f05a2152d9d5c8acd9c0b2df4df634bc91", func := "selvedge/selvedgelaw01.DigitsCut", spec := "digitsCut", inPlace := ["internal/abi.NoEscape"], unfollowed := true, recurses := true, apart := false, narrowed := true }
def DigitsCutUptoSaid : Prop := digitsCutUptoRow.holds Try.pinned (OpenSpec.upto digitsCutSpec)

/-- 'selvedgelaw01.DigitsJoin', WHERE WHAT IT READS IS OF BULK AT MOST 1048576: true; the input reads as it did. -/
def digitsJoinUptoRow : OpenClaim := { program := "ytijnodcbgadooaa", sum := "2fa2f28c5d7926e45c4762caae9040f05a2152d9d5c8acd9c0b2df4df634bc91", func := "selvedge/selvedgelaw01.DigitsJoin", spec := "digitsJoin", inPlace := ["internal/abi.NoEscape"], unfollowed := true, recurses := true, apart := false, narrowed := true }
def DigitsJoinUptoSaid : Prop := digitsJoinUptoRow.holds Try.pinned (OpenSpec.upto digitsJoinSpec)

/-- 'selvedgelaw18.PostCut', WHERE WHAT IT READS IS OF BULK AT MOST 1048576: true; the input reads as it did. -/
def postCutUptoRow : OpenClaim := { program := "ytijnodcbgadooaa", sum := "2fa2f28c5d7926e45c4762caae9040f05a2152d9d5c8acd9c0b2df4df634bc91", func := "selvedge/selvedgelaw18.PostCut", spec := "postCut", unfollowed := true, recurses := true, apart := false, narrowed := true }
def PostCutUptoSaid : Prop := postCutUptoRow.holds Try.pinned (OpenSpec.upto postCutSpec)

/-- 'selvedgelaw08.VertexApart', WHERE WHAT IT READS IS OF BULK AT MOST 1048576: true; the input reads as it did. -/
def vertexApartUptoRow : OpenClaim := { program := "ytijnodcbgadooaa", sum := "2fa2f28c5d7926e45c4762caae9040f05a2152d9d5c8acd9c0b2df4df634bc91", func := "selvedge/selvedgelaw08.VertexApart", spec := "vertexApart", inPlace := ["internal/abi.NoEscape"], unfollowed := true, recurses := true, apart := false, narrowed := true }
def VertexApartUptoSaid : Prop := vertexApartUptoRow.holds Try.pinned (OpenSpec.upto vertexApartSpec)

/-- 'selvedgelaw07.BatchTakes', WHERE WHAT IT READS IS OF BULK AT MOST 1048576: true; the input reads as it did. -/
def batchTakesUptoRow : OpenClaim := { program := "ytijnodcbgadooaa", sum := "2fa2f28c5d7926e45c4762caae9040f05a2152d9d5c8acd9c0b2df4df634bc91", func := "selvedge/selvedgelaw07.BatchTakes", spec := "batchTakes", inPlace := ["internal/abi.NoEscape"], unfollowed := true, recurses := true, apart := false, narrowed := true }
def BatchTakesUptoSaid : Prop := batchTakesUptoRow.holds Try.pinned (OpenSpec.upto batchTakesSpec)

/-- 'selvedgelaw07.BatchBack', WHERE WHAT IT READS IS OF BULK AT MOST 1048576: true; the input reads as it did. -/
def batchBackUptoRow : OpenClaim := { program := "ytijnodcbgadooaa", sum := "2fa2f28c5d7926e45c4762caae9040f05a2152d9d5c8acd9c0b2df4df634bc91", func := "selvedge/selvedgelaw07.BatchBack", spec := "batchBack", inPlace := ["internal/abi.NoEscape"], unfollowed := true, recurses := true, apart := false, narrowed := true }
def BatchBackUptoSaid : Prop := batchBackUptoRow.holds Try.pinned (OpenSpec.upto batchBackSpec)

end Rows
end Go.Proofs.Ytijnodcbgadooaa
