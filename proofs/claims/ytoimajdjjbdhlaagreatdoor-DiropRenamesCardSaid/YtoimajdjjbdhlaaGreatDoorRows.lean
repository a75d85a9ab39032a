/-
  NARROWER THAN 'FOR EVERY INPUT', by the rows' own cells (each row's printed sentence says how): DiropRenames: laid · DiropNumbers: laid · DiropPlays: laid · DiropRefused: laid · DiropAsks: laid · DiropMakes: laid.
  DERIVED. THE GIVEN ROWS OF THIS SEAT. 6 by the template 'for every input the law returns true; each argument reads behind the call as it read before'; 0 by the template 'total and deterministic' (their statements: YtoimajdjjbdhlaaGreatDoorTotals.lean).
  GIVEN WITH THE SEED: the statements are not yours to turn. If you find one false, say at which input.
  Laid BY PROGRAM, IN A SANDBOX (cutbox-rows.mjs): the forced cells as the released guide's own fill.sh prints them over the translation 32316af78ef60324… (all of the seat's roots in one cut). By AI agents, Wed Nov 11 2026. No macro, syntax, notation, axiom, sorry.
-/
import Derived.Test.YtoimajdjjbdhlaaGreatDoorChecked
import GoSem.PinnedTables
import GoSem.Claim
import GoSem.ClaimJoined
import GoSem.ClaimMapViews
import Derived.JoinedTies
import Derived.KernelRfl
namespace Go.Proofs.YtoimajdjjbdhlaaGreatDoor
/- THE CELL 'sum', in the pinned program and in every row, IS THE sha256 OF THE DUMP (.gsa) THAT YtoimajdjjbdhlaaGreatDoorProg.lean LOADS. Nothing in Lean hashes anything: it is a label: what it is worth is what the hold of that sum in a sandbox is worth. -/
noncomputable def Tryz.pinned : Pinned := { name := "ytoimajdjjbdhlaagreatdoor", sum := "32316af78ef60324975cc77d0477f1d41138bf8d1f25505cc9c8613f883aa510", checked := Tryz.checked }
namespace Rows
def none {H : Type} : Left H := { results := [], args := [] }

/- WHAT THE LISTED PACKAGE-LEVEL VARIABLES READ AS WHEN THE CALL BEGINS. Each datum BY PROGRAM (the guide's laid-datum.mjs) off the statement by which the dump's own 'gosem.cut.vars' lays the variable. In a bare row this is a premise. The card (YtoimajdjjbdhlaaGreatDoorCards.lean) ties it to the program's text. -/
def laid_unicode_utf8_acceptRanges {H : Type} : DataW H := .agg [.agg [.lit (.int .u8 128), .lit (.int .u8 191)], .agg [.lit (.int .u8 160), .lit (.int .u8 191)], .agg [.lit (.int .u8 128), .lit (.int .u8 159)], .agg [.lit (.int .u8 144), .lit (.int .u8 191)], .agg [.lit (.int .u8 128), .lit (.int .u8 143)], .agg [.lit (.int .u8 0), .lit (.int .u8 0)], .agg [.lit (.int .u8 0), .lit (.int .u8 0)], .agg [.lit (.int .u8 0), .lit (.int .u8 0)], .agg [.lit (.int .u8 0), .lit (.int .u8 0)], .agg [.lit (.int .u8 0), .lit (.int .u8 0)], .agg [.lit (.int .u8 0), .lit (.int .u8 0)], .agg [.lit (.int .u8 0), .lit (.int .u8 0)], .agg [.lit (.int .u8 0), .lit (.int .u8 0)], .agg [.lit (.int .u8 0), .lit (.int .u8 0)], .agg [.lit (.int .u8 0), .lit (.int .u8 0)], .agg [.lit (.int .u8 0), .lit (.int .u8 0)]]
/-- One of Go's own tables, pinned by name: the form's constant. -/
def laid_unicode_utf8_first : DataW Unit := Go.Pinned.utf8First

/-- 'warrenlaw13.DiropRenames': WHATEVER THE INPUT: true; the input reads as it did. -/
def diropRenamesSpec : ChangeSpec := { name := "diropRenames", fn := fun _ => fun
  | [d1, d2, d3] => { results := [.lit (.bool true)], args := [d1, d2, d3] }
  | _ => none }
def diropRenamesRow : OpenClaim := { program := "ytoimajdjjbdhlaagreatdoor", sum := "32316af78ef60324975cc77d0477f1d41138bf8d1f25505cc9c8613f883aa510", func := "warren/warrenlaw13.DiropRenames", spec := "diropRenames", inPlace := ["internal/bytealg.IndexByteString", "internal/bytealg.IndexString", "internal/abi.NoEscape", "internal/bytealg.MakeNoZero"], unfollowed := true, recurses := true, named := ["unicode/utf8.first", "unicode/utf8.acceptRanges", "internal/bytealg.MaxLen"], apart := false, laid := [("unicode/utf8.acceptRanges", laid_unicode_utf8_acceptRanges), ("unicode/utf8.first", laid_unicode_utf8_first)] }
def DiropRenamesSaid : Prop := diropRenamesRow.holds Tryz.pinned (OpenSpec.ofChange diropRenamesSpec)

/-- ITS FALSE NEIGHBOUR: 'it returns false'. Refute it at one input. -/
def diropRenamesWrong : ChangeSpec := { name := "diropRenames", fn := fun _ => fun
  | [d1, d2, d3] => { results := [.lit (.bool false)], args := [d1, d2, d3] }
  | _ => none }
def DiropRenamesWrongFalsely : Prop := diropRenamesRow.holds Tryz.pinned (OpenSpec.ofChange diropRenamesWrong)

/-- 'warrenlaw13.DiropNumbers': WHATEVER THE INPUT: true; the input reads as it did. -/
def diropNumbersSpec : ChangeSpec := { name := "diropNumbers", fn := fun _ => fun
  | [] => { results := [.lit (.bool true)], args := [] }
  | _ => none }
def diropNumbersRow : OpenClaim := { program := "ytoimajdjjbdhlaagreatdoor", sum := "32316af78ef60324975cc77d0477f1d41138bf8d1f25505cc9c8613f883aa510", func := "warren/warrenlaw13.DiropNumbers", spec := "diropNumbers", inPlace := ["internal/bytealg.IndexByteString", "internal/bytealg.IndexString", "internal/abi.NoEscape", "internal/bytealg.MakeNoZero"], unfollowed := true, recurses := true, named := ["unicode/utf8.first", "unicode/utf8.acceptRanges", "internal/bytealg.MaxLen"], apart := false, laid := [("unicode/utf8.acceptRanges", laid_unicode_utf8_acceptRanges), ("unicode/utf8.first", laid_unicode_utf8_first)] }
def DiropNumbersSaid : Prop := diropNumbersRow.holds Tryz.pinned (OpenSpec.ofChange diropNumbersSpec)

/-- ITS FALSE NEIGHBOUR: 'it returns false'. Refute it at one input. -/
def diropNumbersWrong : ChangeSpec := { name := "diropNumbers", fn := fun _ => fun
  | [] => { results := [.lit (.bool false)], args := [] }
  | _ => none }
def DiropNumbersWrongFalsely : Prop := diropNumbersRow.holds Tryz.pinned (OpenSpec.ofChange diropNumbersWrong)

/-- 'warrenlaw13.DiropPlays': WHATEVER THE INPUT: true; the input reads as it did. -/
def diropPlaysSpec : ChangeSpec := { name := "diropPlays", fn := fun _ => fun
  | [d1, d2, d3, d4] => { results := [.lit (.bool true)], args := [d1, d2, d3, d4] }
  | _ => none }
def diropPlaysRow : OpenClaim := { program := "ytoimajdjjbdhlaagreatdoor", sum := "32316af78ef60324975cc77d0477f1d41138bf8d1f25505cc9c8613f883aa510", func := "warren/warrenlaw13.DiropPlays", spec := "diropPlays", inPlace := ["internal/bytealg.IndexByteString", "internal/bytealg.IndexString", "internal/abi.NoEscape", "internal/bytealg.MakeNoZero"], unfollowed := true, recurses := true, named := ["unicode/utf8.first", "unicode/utf8.acceptRanges", "internal/bytealg.MaxLen"], apart := false, laid := [("unicode/utf8.acceptRanges", laid_unicode_utf8_acceptRanges), ("unicode/utf8.first", laid_unicode_utf8_first)] }
def DiropPlaysSaid : Prop := diropPlaysRow.holds Tryz.pinned (OpenSpec.ofChange diropPlaysSpec)

/-- ITS FALSE NEIGHBOUR: 'it returns false'. Refute it at one input. -/
def diropPlaysWrong : ChangeSpec := { name := "diropPlays", fn := fun _ => fun
  | [d1, d2, d3, d4] => { results := [.lit (.bool false)], args := [d1, d2, d3, d4] }
  | _ => none }
def DiropPlaysWrongFalsely : Prop := diropPlaysRow.holds Tryz.pinned (OpenSpec.ofChange diropPlaysWrong)

/-- 'warrenlaw13.DiropRefused': WHATEVER THE INPUT: true; the input reads as it did. -/
def diropRefusedSpec : ChangeSpec := { name := "diropRefused", fn := fun _ => fun
  | [d1, d2, d3] => { results := [.lit (.bool true)], args := [d1, d2, d3] }
  | _ => none }
def diropRefusedRow : OpenClaim := { program := "ytoimajdjjbdhlaagreatdoor", sum := "32316af78ef60324975cc77d0477f1d41138bf8d1f25505cc9c8613f883aa510", func := "warren/warrenlaw13.DiropRefused", spec := "diropRefused", inPlace := ["internal/bytealg.IndexByteString", "internal/bytealg.IndexString", "internal/abi.NoEscape", "internal/bytealg.MakeNoZero"], unfollowed := true, recurses := true, named := ["unicode/utf8.first", "unicode/utf8.acceptRanges", "internal/bytealg.MaxLen"], apart := false, laid := [("unicode/utf8.acceptRanges", laid_unicode_utf8_acceptRanges), ("unicode/utf8.first", laid_unicode_utf8_first)] }
def DiropRefusedSaid : Prop := diropRefusedRow.holds Tryz.pinned (OpenSpec.ofChange diropRefusedSpec)

/-- ITS FALSE NEIGHBOUR: 'it returns false'. Refute it at one input. -/
def diropRefusedWrong : ChangeSpec := { name := "diropRefused", fn := fun _ => fun
  | [d1, d2, d3] => { results := [.lit (.bool false)], args := [d1, d2, d3] }
  | _ => none }
def DiropRefusedWrongFalsely : Prop := diropRefusedRow.holds Tryz.pinned (OpenSpec.ofChange diropRefusedWrong)

/-- 'warrenlaw13.DiropAsks': WHATEVER THE INPUT: true; the input reads as it did. -/
def diropAsksSpec : ChangeSpec := { name := "diropAsks", fn := fun _ => fun
  | [d1, d2, d3] => { results := [.lit (.bool true)], args := [d1, d2, d3] }
  | _ => none }
def diropAsksRow : OpenClaim := { program := "ytoimajdjjbdhlaagreatdoor", sum := "32316af78ef60324975cc77d0477f1d41138bf8d1f25505cc9c8613f883aa510", func := "warren/warrenlaw13.DiropAsks", spec := "diropAsks", inPlace := ["internal/bytealg.IndexByteString", "internal/bytealg.IndexString", "internal/abi.NoEscape", "internal/bytealg.MakeNoZero"], unfollowed := true, recurses := true, named := ["unicode/utf8.first", "unicode/utf8.acceptRanges", "internal/bytealg.MaxLen"], apart := false, laid := [("unicode/utf8.acceptRanges", laid_unicode_utf8_acceptRanges), ("unicode/utf8.first", laid_unicode_utf8_first)] }
def DiropAsksSaid : Prop := diropAsksRow.holds Tryz.pinned (OpenSpec.ofChange diropAsksSpec)

/-- ITS FALSE NEIGHBOUR: 'it returns false'. Refute it at one input. -/
def diropAsksWrong : ChangeSpec := { name := "diropAsks", fn := fun _ => fun
  | [d1, d2, d3] => { results := [.lit (.bool false)], args := [d1, d2, d3] }
  | _ => none }
def DiropAsksWrongFalsely : Prop := diropAsksRow.holds Tryz.pinned (OpenSpec.ofChange diropAsksWrong)

/-- 'warrenlaw13.DiropMakes': WHATEVER THE INPUT: true; the input reads as it did. -/
def diropMakesSpec : ChangeSpec := { name := "diropMakes", fn := fun _ => fun
  | [d1, d2, d3, d4] => { results := [.lit (.bool true)], args := [d1, d2, d3, d4] }
  | _ => none }
def diropMakesRow : OpenClaim := { program := "ytoimajdjjbdhlaagreatdoor", sum := "32316af78ef60324975cc77d0477f1d41138bf8d1f25505cc9c8613f883aa510", func := "warren/warrenlaw13.DiropMakes", spec := "diropMakes", inPlace := ["internal/bytealg.IndexByteString", "internal/bytealg.IndexString", "internal/abi.NoEscape", "internal/bytealg.MakeNoZero"], unfollowed := true, recurses := true, named := ["unicode/utf8.first", "unicode/utf8.acceptRanges", "internal/bytealg.MaxLen"], apart := false, laid := [("unicode/utf8.acceptRanges", laid_unicode_utf8_acceptRanges), ("unicode/utf8.first", laid_unicode_utf8_first)] }
def DiropMakesSaid : Prop := diropMakesRow.holds Tryz.pinned (OpenSpec.ofChange diropMakesSpec)

/-- ITS FALSE NEIGHBOUR: 'it returns false'. Refute it at one input. -/
def diropMakesWrong : ChangeSpec := { name := "diropMakes", fn := fun _ => fun
  | [d1, d2, d3, d4] => { results := [.lit (.bool false)], args := [d1, d2, d3, d4] }
  | _ => none }
def DiropMakesWrongFalsely : Prop := diropMakesRow.holds Tryz.pinned (OpenSpec.ofChange diropMakesWrong)

/- THE SECOND FORM. 'bulk': how many values and letters a reading holds, each counted each time it is reached (what is shared counts as often as it is met; a slice's spare places count too). A statement '..UptoSaid' is the law's where the arguments, and the package variables that the reading takes, are together of bulk at most 1048576: NARROWER than '..Said'. Prove '..Said' where nothing that the law and all that it calls make is longer than what came in: it says more and counts as full. Else prove '..UptoSaid'. A law counts once. -/
mutual
def uptoBulk {H : Type} : DataW H → Nat
  | .lit (.string bytes) => bytes.length + 1
  | .lit _ => 1
  | .nil => 1
  | .ptr d => uptoBulk d + 1
  | .slice elems spare => uptoBulkAll elems + uptoBulkAll spare + 1
  | .agg parts => uptoBulkAll parts + 1
  | .iface _ d => uptoBulk d + 1
  | .map entries => uptoBulkEntries entries + 1
  | .held _ => 1
def uptoBulkAll {H : Type} : List (DataW H) → Nat
  | [] => 0
  | d :: r => uptoBulk d + uptoBulkAll r
def uptoBulkEntries {H : Type} : List (Lit × DataW H) → Nat
  | [] => 0
  | x :: r => uptoBulkEntry x + uptoBulkEntries r
def uptoBulkEntry {H : Type} : Lit × DataW H → Nat
  | (.string bytes, d) => bytes.length + uptoBulk d + 1
  | (_, d) => uptoBulk d + 1
 end
def uptoSmall : (H : Type) → List (DataW H) → Bool := fun _ ds => decide (uptoBulkAll ds ≤ 1048576)
def OpenSpec.upto (s : _root_.Go.ChangeSpec) : _root_.Go.OpenSpec := { _root_.Go.OpenSpec.ofChange s with cond := some uptoSmall }

/-- 'warrenlaw13.DiropRenames', WHERE WHAT IT READS IS OF BULK AT MOST 1048576: true; the input reads as it did. -/
def diropRenamesUptoRow : OpenClaim := { program := "ytoimajdjjbdhlaagreatdoor", sum := "32316af78ef60324975cc77d0477f1d41138bf8d1f25505cc9c8613f883aa510", func := "warren/warrenlaw13.DiropRenames", spec := "diropRenames", inPlace := ["internal/bytealg.IndexByteString", "internal/bytealg.IndexString", "internal/abi.NoEscape", "internal/bytealg.MakeNoZero"], unfollowed := true, recurses := true, named := ["unicode/utf8.first", "unicode/utf8.acceptRanges", "internal/bytealg.MaxLen"], apart := false, laid := [("unicode/utf8.acceptRanges", laid_unicode_utf8_acceptRanges), ("unicode/utf8.first", laid_unicode_utf8_first)], narrowed := true }
def DiropRenamesUptoSaid : Prop := diropRenamesUptoRow.holds Tryz.pinned (OpenSpec.upto diropRenamesSpec)

/-- 'warrenlaw13.DiropNumbers', WHERE WHAT IT READS IS OF BULK AT MOST 1048576: true; the input reads as it did. -/
def diropNumbersUptoRow : OpenClaim := { program := "ytoimajdjjbdhlaagreatdoor", sum := "32316af78ef60324975cc77d0477f1d41138bf8d1f25505cc9c8613f883aa510", func := "warren/warrenlaw13.DiropNumbers", spec := "diropNumbers", inPlace := ["internal/bytealg.IndexByteString", "internal/bytealg.IndexString", "internal/abi.NoEscape", "internal/bytealg.MakeNoZero"], unfollowed := true, recurses := true, named := ["unicode/utf8.first", "unicode/utf8.acceptRanges", "internal/bytealg.MaxLen"], apart := false, laid := [("unicode/utf8.acceptRanges", laid_unicode_utf8_acceptRanges), ("unicode/utf8.first", laid_unicode_utf8_first)], narrowed := true }
def DiropNumbersUptoSaid : Prop := diropNumbersUptoRow.holds Tryz.pinned (OpenSpec.upto diropNumbersSpec)

/-- 'warrenlaw13.DiropPlays', WHERE WHAT IT READS IS OF BULK AT MOST 1048576: true; the input reads as it did. -/
def diropPlaysUptoRow : OpenClaim := { program := "ytoimajdjjbdhlaagreatdoor", sum := "32316af78ef60324975cc77d0477f1d41138bf8d1f25505cc9c8613f883aa510", func := "warren/warrenlaw13.DiropPlays", spec := "diropPlays", inPlace := ["internal/bytealg.IndexByteString", "internal/bytealg.IndexString", "internal/abi.NoEscape", "internal/bytealg.MakeNoZero"], unfollowed := true, recurses := true, named := ["unicode/utf8.first", "unicode/utf8.acceptRanges", "internal/bytealg.MaxLen"], apart := false, laid := [("unicode/utf8.acceptRanges", laid_unicode_utf8_acceptRanges), ("unicode/utf8.first", laid_unicode_utf8_first)], narrowed := true }
def DiropPlaysUptoSaid : Prop := diropPlaysUptoRow.holds Tryz.pinned (OpenSpec.upto diropPlaysSpec)

/-- 'warrenlaw13.DiropRefused', WHERE WHAT IT READS IS OF BULK AT MOST 1048576: true; the input reads as it did. -/
def diropRefusedUptoRow : OpenClaim := { program := "ytoimajdjjbdhlaagreatdoor", sum := "32316af78ef60324975cc77d0477f1d41138bf8d1f25505cc9c8613f883aa510", func := "warren/warrenlaw13.DiropRefused", spec := "diropRefused", inPlace := ["internal/bytealg.IndexByteString", "internal/bytealg.IndexString", "internal/abi.NoEscape", "internal/bytealg.MakeNoZero"], unfollowed := true, recurses := true, named := ["unicode/utf8.first", "unicode/utf8.acceptRanges", "internal/bytealg.MaxLen"], apart := false, laid := [("unicode/utf8.acceptRanges", laid_unicode_utf8_acceptRanges), ("unicode/utf8.first", laid_unicode_utf8_first)], narrowed := true }
def DiropRefusedUptoSaid : Prop := diropRefusedUptoRow.holds Tryz.pinned (OpenSpec.upto diropRefusedSpec)

/-- 'warrenlaw13.DiropAsks', WHERE WHAT IT READS IS OF BULK AT MOST 1048576: true; the input reads as it did. -/
def diropAsksUptoRow : OpenClaim := { program := "ytoimajdjjbdhlaagreatdoor", sum := "32316af78ef60324975cc77d0477f1d41138bf8d1f25505cc9c8613f883aa510", func := "warren/warrenlaw13.DiropAsks", spec := "diropAsks", inPlace := ["internal/bytealg.IndexByteString", "internal/bytealg.IndexString", "internal/abi.NoEscape", "internal/bytealg.MakeNoZero"], unfollowed := true, recurses := true, named := ["unicode/utf8.first", "unicode/utf8.acceptRanges", "internal/bytealg.MaxLen"], apart := false, laid := [("unicode/utf8.acceptRanges", laid_unicode_utf8_acceptRanges), ("unicode/utf8.first", laid_unicode_utf8_first)], narrowed := true }
def DiropAsksUptoSaid : Prop := diropAsksUptoRow.holds Tryz.pinned (OpenSpec.upto diropAsksSpec)

/-- 'warrenlaw13.DiropMakes', WHERE WHAT IT READS IS OF BULK AT MOST 1048576: true; the input reads as it did. -/
def diropMakesUptoRow : OpenClaim := { program := "ytoimajdjjbdhlaagreatdoor", sum := "32316af78ef60324975cc77d0477f1d41138bf8d1f25505cc9c8613f883aa510", func := "warren/warrenlaw13.DiropMakes", spec := "diropMakes", inPlace := ["internal/bytealg.IndexByteString", "internal/bytealg.IndexString", "internal/abi.NoEscape", "internal/bytealg.MakeNoZero"], unfollowed := true, recurses := true, named := ["unicode/utf8.first", "unicode/utf8.acceptRanges", "internal/bytealg.MaxLen"], apart := false, laid := [("unicode/utf8.acceptRanges", laid_unicode_utf8_acceptRanges), ("unicode/utf8.first", laid_unicode_utf8_first)], narrowed := true }
def DiropMakesUptoSaid : Prop := diropMakesUptoRow.holds Tryz.pinned (OpenSpec.upto diropMakesSpec)

end Rows
end Go.Proofs.YtoimajdjjbdhlaaGreatDoor
