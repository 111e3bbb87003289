/-
  No cell of these rows narrows 'for every input' (looked for: loops, veiled, ifaces, maps, wideKeys, modest, calm, conditions, laid).
  DERIVED. THE GIVEN ROWS OF THIS SEAT. 6 by the template 'for every input the law returns true; each argument reads behind the call as it read before'; 0 by the template 'total and deterministic' (their statements: YtedjodnaalconaaTotals.lean).
  GIVEN WITH THE SEED: the statements are not yours to turn. If you find one false, say at which input.
  Laid BY PROGRAM, IN A SANDBOX (cutbox-rows.mjs): the forced cells as the released guide's own fill.sh prints them over the translation 7f37696965e83c8c… (all of the seat's roots in one cut). By AI agents, Wed Nov 11 2026. No macro, syntax, notation, axiom, sorry.
-/
import Derived.Test.YtedjodnaalconaaChecked
import GoSem.Claim
import GoSem.ClaimJoined
import GoSem.ClaimMapViews
import Derived.JoinedTies
import Derived.KernelRfl
namespace Go.Proofs.Ytedjodnaalconaa
/- THE CELL 'sum', in the pinned program and in every row, IS THE sha256 OF THE DUMP (.gsa) THAT YtedjodnaalconaaProg.lean LOADS. Nothing in Lean hashes anything: it is a label: what it is worth is what the hold of that sum in a sandbox is worth. -/
noncomputable def Try.pinned : Pinned := { name := "ytedjodnaalconaa", sum := "7f37696965e83c8c5c93425d9d170e23b180f76cea470fbd87183e70bf6102bf", checked := Try.checked }
namespace Rows
def none {H : Type} : Left H := { results := [], args := [] }

/-- 'wellspringlaw18.TmplMakes': WHATEVER THE INPUT: true; the input reads as it did. -/
def tmplMakesSpec : ChangeSpec := { name := "tmplMakes", fn := fun _ => fun
  | [d1, d2, d3] => { results := [.lit (.bool true)], args := [d1, d2, d3] }
  | _ => none }
def tmplMakesRow : OpenClaim := { program := "ytedjodnaalconaa", sum := "7f37696965e83c8c5c93425d9d170e23b180f76cea470fbd87183e70bf6102bf", func := "wellspring/wellspringlaw18.TmplMakes", spec := "tmplMakes", inPlace := ["internal/abi.NoEscape", "internal/bytealg.MakeNoZero"], unfollowed := true, recurses := true, apart := false }
def TmplMakesSaid : Prop := tmplMakesRow.holds Try.pinned (OpenSpec.ofChange tmplMakesSpec)

/-- ITS FALSE NEIGHBOUR: 'it returns false'. Refute it at one input. -/
def tmplMakesWrong : ChangeSpec := { name := "tmplMakes", fn := fun _ => fun
  | [d1, d2, d3] => { results := [.lit (.bool false)], args := [d1, d2, d3] }
  | _ => none }
def TmplMakesWrongFalsely : Prop := tmplMakesRow.holds Try.pinned (OpenSpec.ofChange tmplMakesWrong)

/-- 'wellspringlaw18.TmplTells': WHATEVER THE INPUT: true; the input reads as it did. -/
def tmplTellsSpec : ChangeSpec := { name := "tmplTells", fn := fun _ => fun
  | [d1, d2, d3] => { results := [.lit (.bool true)], args := [d1, d2, d3] }
  | _ => none }
def tmplTellsRow : OpenClaim := { program := "ytedjodnaalconaa", sum := "7f37696965e83c8c5c93425d9d170e23b180f76cea470fbd87183e70bf6102bf", func := "wellspring/wellspringlaw18.TmplTells", spec := "tmplTells", inPlace := ["internal/abi.NoEscape", "internal/bytealg.MakeNoZero"], unfollowed := true, recurses := true, apart := false }
def TmplTellsSaid : Prop := tmplTellsRow.holds Try.pinned (OpenSpec.ofChange tmplTellsSpec)

/-- ITS FALSE NEIGHBOUR: 'it returns false'. Refute it at one input. -/
def tmplTellsWrong : ChangeSpec := { name := "tmplTells", fn := fun _ => fun
  | [d1, d2, d3] => { results := [.lit (.bool false)], args := [d1, d2, d3] }
  | _ => none }
def TmplTellsWrongFalsely : Prop := tmplTellsRow.holds Try.pinned (OpenSpec.ofChange tmplTellsWrong)

/-- 'wellspringlaw18.TmplParts': WHATEVER THE INPUT: true; the input reads as it did. -/
def tmplPartsSpec : ChangeSpec := { name := "tmplParts", fn := fun _ => fun
  | [d1, d2, d3] => { results := [.lit (.bool true)], args := [d1, d2, d3] }
  | _ => none }
def tmplPartsRow : OpenClaim := { program := "ytedjodnaalconaa", sum := "7f37696965e83c8c5c93425d9d170e23b180f76cea470fbd87183e70bf6102bf", func := "wellspring/wellspringlaw18.TmplParts", spec := "tmplParts", inPlace := ["internal/abi.NoEscape", "internal/bytealg.MakeNoZero"], unfollowed := true, recurses := true, apart := false }
def TmplPartsSaid : Prop := tmplPartsRow.holds Try.pinned (OpenSpec.ofChange tmplPartsSpec)

/-- ITS FALSE NEIGHBOUR: 'it returns false'. Refute it at one input. -/
def tmplPartsWrong : ChangeSpec := { name := "tmplParts", fn := fun _ => fun
  | [d1, d2, d3] => { results := [.lit (.bool false)], args := [d1, d2, d3] }
  | _ => none }
def TmplPartsWrongFalsely : Prop := tmplPartsRow.holds Try.pinned (OpenSpec.ofChange tmplPartsWrong)

/-- 'wellspringlaw18.TmplCovers': WHATEVER THE INPUT: true; the input reads as it did. -/
def tmplCoversSpec : ChangeSpec := { name := "tmplCovers", fn := fun _ => fun
  | [d1, d2, d3] => { results := [.lit (.bool true)], args := [d1, d2, d3] }
  | _ => none }
def tmplCoversRow : OpenClaim := { program := "ytedjodnaalconaa", sum := "7f37696965e83c8c5c93425d9d170e23b180f76cea470fbd87183e70bf6102bf", func := "wellspring/wellspringlaw18.TmplCovers", spec := "tmplCovers", inPlace := ["internal/abi.NoEscape", "internal/bytealg.MakeNoZero"], unfollowed := true, recurses := true, apart := false }
def TmplCoversSaid : Prop := tmplCoversRow.holds Try.pinned (OpenSpec.ofChange tmplCoversSpec)

/-- ITS FALSE NEIGHBOUR: 'it returns false'. Refute it at one input. -/
def tmplCoversWrong : ChangeSpec := { name := "tmplCovers", fn := fun _ => fun
  | [d1, d2, d3] => { results := [.lit (.bool false)], args := [d1, d2, d3] }
  | _ => none }
def TmplCoversWrongFalsely : Prop := tmplCoversRow.holds Try.pinned (OpenSpec.ofChange tmplCoversWrong)

/-- 'wellspringlaw18.TmplTurned': WHATEVER THE INPUT: true; the input reads as it did. -/
def tmplTurnedSpec : ChangeSpec := { name := "tmplTurned", fn := fun _ => fun
  | [d1, d2, d3] => { results := [.lit (.bool true)], args := [d1, d2, d3] }
  | _ => none }
def tmplTurnedRow : OpenClaim := { program := "ytedjodnaalconaa", sum := "7f37696965e83c8c5c93425d9d170e23b180f76cea470fbd87183e70bf6102bf", func := "wellspring/wellspringlaw18.TmplTurned", spec := "tmplTurned", inPlace := ["internal/abi.NoEscape", "internal/bytealg.MakeNoZero"], unfollowed := true, recurses := true, apart := false }
def TmplTurnedSaid : Prop := tmplTurnedRow.holds Try.pinned (OpenSpec.ofChange tmplTurnedSpec)

/-- ITS FALSE NEIGHBOUR: 'it returns false'. Refute it at one input. -/
def tmplTurnedWrong : ChangeSpec := { name := "tmplTurned", fn := fun _ => fun
  | [d1, d2, d3] => { results := [.lit (.bool false)], args := [d1, d2, d3] }
  | _ => none }
def TmplTurnedWrongFalsely : Prop := tmplTurnedRow.holds Try.pinned (OpenSpec.ofChange tmplTurnedWrong)

/-- 'wellspringlaw18.TmplLater': WHATEVER THE INPUT: true; the input reads as it did. -/
def tmplLaterSpec : ChangeSpec := { name := "tmplLater", fn := fun _ => fun
  | [d1, d2, d3] => { results := [.lit (.bool true)], args := [d1, d2, d3] }
  | _ => none }
def tmplLaterRow : OpenClaim := { program := "ytedjodnaalconaa", sum := "7f37696965e83c8c5c93425d9d170e23b180f76cea470fbd87183e70bf6102bf", func := "wellspring/wellspringlaw18.TmplLater", spec := "tmplLater", inPlace := ["internal/abi.NoEscape", "internal/bytealg.MakeNoZero"], unfollowed := true, recurses := true, apart := false }
def TmplLaterSaid : Prop := tmplLaterRow.holds Try.pinned (OpenSpec.ofChange tmplLaterSpec)

/-- ITS FALSE NEIGHBOUR: 'it returns false'. Refute it at one input. -/
def tmplLaterWrong : ChangeSpec := { name := "tmplLater", fn := fun _ => fun
  | [d1, d2, d3] => { results := [.lit (.bool false)], args := [d1, d2, d3] }
  | _ => none }
def TmplLaterWrongFalsely : Prop := tmplLaterRow.holds Try.pinned (OpenSpec.ofChange tmplLaterWrong)

/- THE SECOND FORM. 'bulk': how many values and letters a reading holds, each counted each time it is reached (what is shared counts as often as it is met; a slice's spare places count too). A statement '..UptoSaid' is the law's where the arguments, and the package variables that the reading takes, are together of bulk at most 1048576: NARROWER than '..Said'. Prove '..Said' where nothing that the law and all that it calls make is longer than what came in: it says more and counts as full. Else prove '..UptoSaid'. A law counts once. -/
mutual
def uptoBulk {H : Type} : DataW H → Nat
  | .lit (.string bytes) => bytes.length + 1
  | .lit _ => 1
  | .nil => 1
  | .ptr d => uptoBulk d + 1
  | .slice elems spare => uptoBulkAll elems + uptoBulkAll spare + 1
  | .agg parts => uptoBulkAll parts + 1
  | .iface _ d => uptoBulk d + 1
  | .map entries => uptoBulkEntries entries + 1
  | .held _ => 1
def uptoBulkAll {H : Type} : List (DataW H) → Nat
  | [] => 0
  | d :: r => uptoBulk d + uptoBulkAll r
def uptoBulkEntries {H : Type} : List (Lit × DataW H) → Nat
  | [] => 0
  | x :: r => uptoBulkEntry x + uptoBulkEntries r
def uptoBulkEntry {H : Type} : Lit × DataW H → Nat
  | (.string bytes, d) => bytes.length + uptoBulk d + 1
  | (_, d) => uptoBulk d + 1
 end
def uptoSmall : (H : Type) → List (DataW H) → Bool := fun _ ds => decide (uptoBulkAll ds ≤ 1048576)
def OpenSpec.upto (s : _root_.Go.ChangeSpec) : _root_.Go.OpenSpec := { _root_.Go.OpenSpec.ofChange s with cond := some uptoSmall }

/-- 'wellspringlaw18.TmplMakes', WHERE WHAT IT READS IS OF BULK AT MOST 1048576: true; the input reads as it did. -/
def tmplMakesUptoRow : OpenClaim := { program := "ytedjodnaalconaa", sum := "7f37696965e83c8c5c93425d9d170e23b180f76cea470fbd87183e70bf6102bf", func := "wellspring/wellspringlaw18.TmplMakes", spec := "tmplMakes", inPlace := ["internal/abi.NoEscape", "internal/bytealg.MakeNoZero"], unfollowed := true, recurses := true, apart := false, narrowed := true }
def TmplMakesUptoSaid : Prop := tmplMakesUptoRow.holds Try.pinned (OpenSpec.upto tmplMakesSpec)

/-- 'wellspringlaw18.TmplTells', WHERE WHAT IT READS IS OF BULK AT MOST 1048576: true; the input reads as it did. -/
def tmplTellsUptoRow : OpenClaim := { program := "ytedjodnaalconaa", sum := "7f37696965e83c8c5c93425d9d170e23b180f76cea470fbd87183e70bf6102bf", func := "wellspring/wellspringlaw18.TmplTells", spec := "tmplTells", inPlace := ["internal/abi.NoEscape", "internal/bytealg.MakeNoZero"], unfollowed := true, recurses := true, apart := false, narrowed := true }
def TmplTellsUptoSaid : Prop := tmplTellsUptoRow.holds Try.pinned (OpenSpec.upto tmplTellsSpec)

/-- 'wellspringlaw18.TmplParts', WHERE WHAT IT READS IS OF BULK AT MOST 1048576: true; the input reads as it did. -/
def tmplPartsUptoRow : OpenClaim := { program := "ytedjodnaalconaa", sum := "7f37696965e83c8c5c93425d9d170e23b180f76cea470fbd87183e70bf6102bf", func := "wellspring/wellspringlaw18.TmplParts", spec := "tmplParts", inPlace := ["internal/abi.NoEscape", "internal/bytealg.MakeNoZero"], unfollowed := true, recurses := true, apart := false, narrowed := true }
def TmplPartsUptoSaid : Prop := tmplPartsUptoRow.holds Try.pinned (OpenSpec.upto tmplPartsSpec)

/-- 'wellspringlaw18.TmplCovers', WHERE WHAT IT READS IS OF BULK AT MOST 1048576: true; the input reads as it did. -/
def tmplCoversUptoRow : OpenClaim := { program := "ytedjodnaalconaa", sum := "7f37696965e83c8c5c93425d9d170e23b180f76cea470fbd87183e70bf6102bf", func := "wellspring/wellspringlaw18.TmplCovers", spec := "tmplCovers", inPlace := ["internal/abi.NoEscape", "internal/bytealg.MakeNoZero"], unfollowed := true, recurses := true, apart := false, narrowed := true }
def TmplCoversUptoSaid : Prop := tmplCoversUptoRow.holds Try.pinned (OpenSpec.upto tmplCoversSpec)

/-- 'wellspringlaw18.TmplTurned', WHERE WHAT IT READS IS OF BULK AT MOST 1048576: true; the input reads as it did. -/
def tmplTurnedUptoRow : OpenClaim := { program := "ytedjodnaalconaa", sum := "7f37696965e83c8c5c93425d9d170e23b180f76cea470fbd87183e70bf6102bf", func := "wellspring/wellspringlaw18.TmplTurned", spec := "tmplTurned", inPlace := ["internal/abi.NoEscape", "internal/bytealg.MakeNoZero"], unfollowed := true, recurses := true, apart := false, narrowed := true }
def TmplTurnedUptoSaid : Prop := tmplTurnedUptoRow.holds Try.pinned (OpenSpec.upto tmplTurnedSpec)

/-- 'wellspringlaw18.TmplLater', WHERE WHAT IT READS IS OF BULK AT MOST 1048576: true; the input reads as it did. -/
def tmplLaterUptoRow : OpenClaim := { program := "ytedjodnaalconaa", sum := "7f37696965e83c8c5c93425d9d170e23b180f76cea470fbd87183e70bf6102bf", func := "wellspring/wellspringlaw18.TmplLater", spec := "tmplLater", inPlace := ["internal/abi.NoEscape", "internal/bytealg.MakeNoZero"], unfollowed := true, recurses := true, apart := false, narrowed := true }
def TmplLaterUptoSaid : Prop := tmplLaterUptoRow.holds Try.pinned (OpenSpec.upto tmplLaterSpec)

end Rows
end Go.Proofs.Ytedjodnaalconaa
