/-
  NARROWER THAN 'FOR EVERY INPUT', by the rows' own cells (each row's printed sentence says how): ScanTokens: laid · ScanBytes: laid · ScanNames: laid · ScanParts: laid · ScanPlain: laid · ScanHeld: laid · ScanMarks: laid · SerialBack: laid · SerialPlain: laid.
  DERIVED. THE GIVEN ROWS OF THIS SEAT. 9 by the template 'for every input the law returns true; each argument reads behind the call as it read before'; 0 by the template 'total and deterministic' (their statements: YtoacojkmclngmaaGreatDoorTotals.lean).
  GIVEN WITH THE SEED: the statements are not yours to turn. If you find one false, say at which input.
  Laid BY PROGRAM, IN A SANDBOX (cutbox-rows.mjs): the forced cells as the released guide's own fill.sh prints them over the translation cf5d8f9ee148f199… (all of the seat's roots in one cut). By AI agents, Wed Nov 11 2026. No macro, syntax, notation, axiom, sorry.
-/
import Derived.Test.YtoacojkmclngmaaGreatDoorChecked
import GoSem.PinnedTables
import GoSem.Claim
import GoSem.ClaimJoined
import GoSem.ClaimMapViews
import Derived.JoinedTies
import Derived.KernelRfl
namespace Go.Proofs.YtoacojkmclngmaaGreatDoor
/- THE CELL 'sum', in the pinned program and in every row, IS THE sha256 OF THE DUMP (.gsa) THAT YtoacojkmclngmaaGreatDoorProg.lean LOADS. Nothing in Lean hashes anything: it is a label: what it is worth is what the hold of that sum in a sandbox is worth. -/
noncomputable def Tryz.pinned : Pinned := { name := "ytoacojkmclngmaagreatdoor", sum := "cf5d8f9ee148f199cc355a505b9c9fc843327dd9b794774db87690f206a3cd6f", checked := Tryz.checked }
namespace Rows
def none {H : Type} : Left H := { results := [], args := [] }

/- WHAT THE LISTED PACKAGE-LEVEL VARIABLES READ AS WHEN THE CALL BEGINS. Each datum BY PROGRAM (the guide's laid-datum.mjs) off the statement by which the dump's own 'gosem.cut.vars' lays the variable. In a bare row this is a premise. The card (YtoacojkmclngmaaGreatDoorCards.lean) ties it to the program's text. -/
def laid_unicode_utf8_acceptRanges {H : Type} : DataW H := .agg [.agg [.lit (.int .u8 128), .lit (.int .u8 191)], .agg [.lit (.int .u8 160), .lit (.int .u8 191)], .agg [.lit (.int .u8 128), .lit (.int .u8 159)], .agg [.lit (.int .u8 144), .lit (.int .u8 191)], .agg [.lit (.int .u8 128), .lit (.int .u8 143)], .agg [.lit (.int .u8 0), .lit (.int .u8 0)], .agg [.lit (.int .u8 0), .lit (.int .u8 0)], .agg [.lit (.int .u8 0), .lit (.int .u8 0)], .agg [.lit (.int .u8 0), .lit (.int .u8 0)], .agg [.lit (.int .u8 0), .lit (.int .u8 0)], .agg [.lit (.int .u8 0), .lit (.int .u8 0)], .agg [.lit (.int .u8 0), .lit (.int .u8 0)], .agg [.lit (.int .u8 0), .lit (.int .u8 0)], .agg [.lit (.int .u8 0), .lit (.int .u8 0)], .agg [.lit (.int .u8 0), .lit (.int .u8 0)], .agg [.lit (.int .u8 0), .lit (.int .u8 0)]]
def laid_cribble_entity_old {H : Type} : DataW H := .agg [.lit (.int .i32 8364), .lit (.int .i32 129), .lit (.int .i32 8218), .lit (.int .i32 402), .lit (.int .i32 8222), .lit (.int .i32 8230), .lit (.int .i32 8224), .lit (.int .i32 8225), .lit (.int .i32 710), .lit (.int .i32 8240), .lit (.int .i32 352), .lit (.int .i32 8249), .lit (.int .i32 338), .lit (.int .i32 141), .lit (.int .i32 381), .lit (.int .i32 143), .lit (.int .i32 144), .lit (.int .i32 8216), .lit (.int .i32 8217), .lit (.int .i32 8220), .lit (.int .i32 8221), .lit (.int .i32 8226), .lit (.int .i32 8211), .lit (.int .i32 8212), .lit (.int .i32 732), .lit (.int .i32 8482), .lit (.int .i32 353), .lit (.int .i32 8250), .lit (.int .i32 339), .lit (.int .i32 157), .lit (.int .i32 382), .lit (.int .i32 376)]
/-- One of Go's own tables, pinned by name: the form's constant. -/
def laid_unicode_utf8_first : DataW Unit := Go.Pinned.utf8First

/-- 'cribblelaw18.ScanTokens': WHATEVER THE INPUT: true; the input reads as it did. -/
def scanTokensSpec : ChangeSpec := { name := "scanTokens", fn := fun _ => fun
  | [d] => { results := [.lit (.bool true)], args := [d] }
  | _ => none }
def scanTokensRow : OpenClaim := { program := "ytoacojkmclngmaagreatdoor", sum := "cf5d8f9ee148f199cc355a505b9c9fc843327dd9b794774db87690f206a3cd6f", func := "cribble/cribblelaw18.ScanTokens", spec := "scanTokens", inPlace := ["internal/bytealg.IndexByteString", "internal/bytealg.CountString", "internal/bytealg.IndexString", "internal/abi.NoEscape", "internal/bytealg.MakeNoZero"], unfollowed := true, recurses := true, named := ["internal/bytealg.MaxLen", "unicode/utf8.first", "unicode/utf8.acceptRanges", "cribble/entity.old"], apart := false, laid := [("unicode/utf8.acceptRanges", laid_unicode_utf8_acceptRanges), ("cribble/entity.old", laid_cribble_entity_old), ("unicode/utf8.first", laid_unicode_utf8_first)] }
def ScanTokensSaid : Prop := scanTokensRow.holds Tryz.pinned (OpenSpec.ofChange scanTokensSpec)

/-- ITS FALSE NEIGHBOUR: 'it returns false'. Refute it at one input. -/
def scanTokensWrong : ChangeSpec := { name := "scanTokens", fn := fun _ => fun
  | [d] => { results := [.lit (.bool false)], args := [d] }
  | _ => none }
def ScanTokensWrongFalsely : Prop := scanTokensRow.holds Tryz.pinned (OpenSpec.ofChange scanTokensWrong)

/-- 'cribblelaw18.ScanBytes': WHATEVER THE INPUT: true; the input reads as it did. -/
def scanBytesSpec : ChangeSpec := { name := "scanBytes", fn := fun _ => fun
  | [d] => { results := [.lit (.bool true)], args := [d] }
  | _ => none }
def scanBytesRow : OpenClaim := { program := "ytoacojkmclngmaagreatdoor", sum := "cf5d8f9ee148f199cc355a505b9c9fc843327dd9b794774db87690f206a3cd6f", func := "cribble/cribblelaw18.ScanBytes", spec := "scanBytes", inPlace := ["internal/bytealg.IndexByteString", "internal/bytealg.CountString", "internal/bytealg.IndexString", "internal/abi.NoEscape", "internal/bytealg.MakeNoZero"], unfollowed := true, recurses := true, named := ["internal/bytealg.MaxLen", "unicode/utf8.first", "unicode/utf8.acceptRanges", "cribble/entity.old"], apart := false, laid := [("unicode/utf8.acceptRanges", laid_unicode_utf8_acceptRanges), ("cribble/entity.old", laid_cribble_entity_old), ("unicode/utf8.first", laid_unicode_utf8_first)] }
def ScanBytesSaid : Prop := scanBytesRow.holds Tryz.pinned (OpenSpec.ofChange scanBytesSpec)

/-- ITS FALSE NEIGHBOUR: 'it returns false'. Refute it at one input. -/
def scanBytesWrong : ChangeSpec := { name := "scanBytes", fn := fun _ => fun
  | [d] => { results := [.lit (.bool false)], args := [d] }
  | _ => none }
def ScanBytesWrongFalsely : Prop := scanBytesRow.holds Tryz.pinned (OpenSpec.ofChange scanBytesWrong)

/-- 'cribblelaw18.ScanNames': WHATEVER THE INPUT: true; the input reads as it did. -/
def scanNamesSpec : ChangeSpec := { name := "scanNames", fn := fun _ => fun
  | [d] => { results := [.lit (.bool true)], args := [d] }
  | _ => none }
def scanNamesRow : OpenClaim := { program := "ytoacojkmclngmaagreatdoor", sum := "cf5d8f9ee148f199cc355a505b9c9fc843327dd9b794774db87690f206a3cd6f", func := "cribble/cribblelaw18.ScanNames", spec := "scanNames", inPlace := ["internal/bytealg.IndexByteString", "internal/bytealg.CountString", "internal/bytealg.IndexString", "internal/abi.NoEscape", "internal/bytealg.MakeNoZero"], unfollowed := true, recurses := true, named := ["internal/bytealg.MaxLen", "unicode/utf8.first", "unicode/utf8.acceptRanges", "cribble/entity.old"], apart := false, laid := [("unicode/utf8.acceptRanges", laid_unicode_utf8_acceptRanges), ("cribble/entity.old", laid_cribble_entity_old), ("unicode/utf8.first", laid_unicode_utf8_first)] }
def ScanNamesSaid : Prop := scanNamesRow.holds Tryz.pinned (OpenSpec.ofChange scanNamesSpec)

/-- ITS FALSE NEIGHBOUR: 'it returns false'. Refute it at one input. -/
def scanNamesWrong : ChangeSpec := { name := "scanNames", fn := fun _ => fun
  | [d] => { results := [.lit (.bool false)], args := [d] }
  | _ => none }
def ScanNamesWrongFalsely : Prop := scanNamesRow.holds Tryz.pinned (OpenSpec.ofChange scanNamesWrong)

/-- 'cribblelaw18.ScanParts': WHATEVER THE INPUT: true; the input reads as it did. -/
def scanPartsSpec : ChangeSpec := { name := "scanParts", fn := fun _ => fun
  | [d] => { results := [.lit (.bool true)], args := [d] }
  | _ => none }
def scanPartsRow : OpenClaim := { program := "ytoacojkmclngmaagreatdoor", sum := "cf5d8f9ee148f199cc355a505b9c9fc843327dd9b794774db87690f206a3cd6f", func := "cribble/cribblelaw18.ScanParts", spec := "scanParts", inPlace := ["internal/bytealg.IndexByteString", "internal/bytealg.CountString", "internal/bytealg.IndexString", "internal/abi.NoEscape", "internal/bytealg.MakeNoZero"], unfollowed := true, recurses := true, named := ["internal/bytealg.MaxLen", "unicode/utf8.first", "unicode/utf8.acceptRanges", "cribble/entity.old"], apart := false, laid := [("unicode/utf8.acceptRanges", laid_unicode_utf8_acceptRanges), ("cribble/entity.old", laid_cribble_entity_old), ("unicode/utf8.first", laid_unicode_utf8_first)] }
def ScanPartsSaid : Prop := scanPartsRow.holds Tryz.pinned (OpenSpec.ofChange scanPartsSpec)

/-- ITS FALSE NEIGHBOUR: 'it returns false'. Refute it at one input. -/
def scanPartsWrong : ChangeSpec := { name := "scanParts", fn := fun _ => fun
  | [d] => { results := [.lit (.bool false)], args := [d] }
  | _ => none }
def ScanPartsWrongFalsely : Prop := scanPartsRow.holds Tryz.pinned (OpenSpec.ofChange scanPartsWrong)

/-- 'cribblelaw18.ScanPlain': WHATEVER THE INPUT: true; the input reads as it did. -/
def scanPlainSpec : ChangeSpec := { name := "scanPlain", fn := fun _ => fun
  | [d] => { results := [.lit (.bool true)], args := [d] }
  | _ => none }
def scanPlainRow : OpenClaim := { program := "ytoacojkmclngmaagreatdoor", sum := "cf5d8f9ee148f199cc355a505b9c9fc843327dd9b794774db87690f206a3cd6f", func := "cribble/cribblelaw18.ScanPlain", spec := "scanPlain", inPlace := ["internal/bytealg.IndexByteString", "internal/bytealg.CountString", "internal/bytealg.IndexString", "internal/abi.NoEscape", "internal/bytealg.MakeNoZero"], unfollowed := true, recurses := true, named := ["internal/bytealg.MaxLen", "unicode/utf8.first", "unicode/utf8.acceptRanges", "cribble/entity.old"], apart := false, laid := [("unicode/utf8.acceptRanges", laid_unicode_utf8_acceptRanges), ("cribble/entity.old", laid_cribble_entity_old), ("unicode/utf8.first", laid_unicode_utf8_first)] }
def ScanPlainSaid : Prop := scanPlainRow.holds Tryz.pinned (OpenSpec.ofChange scanPlainSpec)

/-- ITS FALSE NEIGHBOUR: 'it returns false'. Refute it at one input. -/
def scanPlainWrong : ChangeSpec := { name := "scanPlain", fn := fun _ => fun
  | [d] => { results := [.lit (.bool false)], args := [d] }
  | _ => none }
def ScanPlainWrongFalsely : Prop := scanPlainRow.holds Tryz.pinned (OpenSpec.ofChange scanPlainWrong)

/-- 'cribblelaw18.ScanHeld': WHATEVER THE INPUT: true; the input reads as it did. -/
def scanHeldSpec : ChangeSpec := { name := "scanHeld", fn := fun _ => fun
  | [d] => { results := [.lit (.bool true)], args := [d] }
  | _ => none }
def scanHeldRow : OpenClaim := { program := "ytoacojkmclngmaagreatdoor", sum := "cf5d8f9ee148f199cc355a505b9c9fc843327dd9b794774db87690f206a3cd6f", func := "cribble/cribblelaw18.ScanHeld", spec := "scanHeld", inPlace := ["internal/bytealg.IndexByteString", "internal/bytealg.CountString", "internal/bytealg.IndexString", "internal/abi.NoEscape", "internal/bytealg.MakeNoZero"], unfollowed := true, recurses := true, named := ["internal/bytealg.MaxLen", "unicode/utf8.first", "unicode/utf8.acceptRanges", "cribble/entity.old"], apart := false, laid := [("unicode/utf8.acceptRanges", laid_unicode_utf8_acceptRanges), ("cribble/entity.old", laid_cribble_entity_old), ("unicode/utf8.first", laid_unicode_utf8_first)] }
def ScanHeldSaid : Prop := scanHeldRow.holds Tryz.pinned (OpenSpec.ofChange scanHeldSpec)

/-- ITS FALSE NEIGHBOUR: 'it returns false'. Refute it at one input. -/
def scanHeldWrong : ChangeSpec := { name := "scanHeld", fn := fun _ => fun
  | [d] => { results := [.lit (.bool false)], args := [d] }
  | _ => none }
def ScanHeldWrongFalsely : Prop := scanHeldRow.holds Tryz.pinned (OpenSpec.ofChange scanHeldWrong)

/-- 'cribblelaw18.ScanMarks': WHATEVER THE INPUT: true; the input reads as it did. -/
def scanMarksSpec : ChangeSpec := { name := "scanMarks", fn := fun _ => fun
  | [d1, d2] => { results := [.lit (.bool true)], args := [d1, d2] }
  | _ => none }
def scanMarksRow : OpenClaim := { program := "ytoacojkmclngmaagreatdoor", sum := "cf5d8f9ee148f199cc355a505b9c9fc843327dd9b794774db87690f206a3cd6f", func := "cribble/cribblelaw18.ScanMarks", spec := "scanMarks", inPlace := ["internal/bytealg.IndexByteString", "internal/bytealg.CountString", "internal/bytealg.IndexString", "internal/abi.NoEscape", "internal/bytealg.MakeNoZero"], unfollowed := true, recurses := true, named := ["internal/bytealg.MaxLen", "unicode/utf8.first", "unicode/utf8.acceptRanges", "cribble/entity.old"], apart := false, laid := [("unicode/utf8.acceptRanges", laid_unicode_utf8_acceptRanges), ("cribble/entity.old", laid_cribble_entity_old), ("unicode/utf8.first", laid_unicode_utf8_first)] }
def ScanMarksSaid : Prop := scanMarksRow.holds Tryz.pinned (OpenSpec.ofChange scanMarksSpec)

/-- ITS FALSE NEIGHBOUR: 'it returns false'. Refute it at one input. -/
def scanMarksWrong : ChangeSpec := { name := "scanMarks", fn := fun _ => fun
  | [d1, d2] => { results := [.lit (.bool false)], args := [d1, d2] }
  | _ => none }
def ScanMarksWrongFalsely : Prop := scanMarksRow.holds Tryz.pinned (OpenSpec.ofChange scanMarksWrong)

/-- 'cribblelaw22.SerialBack': WHATEVER THE INPUT: true; the input reads as it did. -/
def serialBackSpec : ChangeSpec := { name := "serialBack", fn := fun _ => fun
  | [d] => { results := [.lit (.bool true)], args := [d] }
  | _ => none }
def serialBackRow : OpenClaim := { program := "ytoacojkmclngmaagreatdoor", sum := "cf5d8f9ee148f199cc355a505b9c9fc843327dd9b794774db87690f206a3cd6f", func := "cribble/cribblelaw22.SerialBack", spec := "serialBack", inPlace := ["internal/abi.NoEscape", "internal/bytealg.MakeNoZero", "internal/bytealg.IndexByteString", "internal/bytealg.IndexString", "internal/bytealg.CountString"], unfollowed := true, recurses := true, named := ["internal/bytealg.MaxLen", "unicode/utf8.first", "unicode/utf8.acceptRanges", "cribble/entity.old"], apart := false, laid := [("unicode/utf8.acceptRanges", laid_unicode_utf8_acceptRanges), ("cribble/entity.old", laid_cribble_entity_old), ("unicode/utf8.first", laid_unicode_utf8_first)] }
def SerialBackSaid : Prop := serialBackRow.holds Tryz.pinned (OpenSpec.ofChange serialBackSpec)

/-- ITS FALSE NEIGHBOUR: 'it returns false'. Refute it at one input. -/
def serialBackWrong : ChangeSpec := { name := "serialBack", fn := fun _ => fun
  | [d] => { results := [.lit (.bool false)], args := [d] }
  | _ => none }
def SerialBackWrongFalsely : Prop := serialBackRow.holds Tryz.pinned (OpenSpec.ofChange serialBackWrong)

/-- 'cribblelaw22.SerialPlain': WHATEVER THE INPUT: true; the input reads as it did. -/
def serialPlainSpec : ChangeSpec := { name := "serialPlain", fn := fun _ => fun
  | [d1, d2, d3] => { results := [.lit (.bool true)], args := [d1, d2, d3] }
  | _ => none }
def serialPlainRow : OpenClaim := { program := "ytoacojkmclngmaagreatdoor", sum := "cf5d8f9ee148f199cc355a505b9c9fc843327dd9b794774db87690f206a3cd6f", func := "cribble/cribblelaw22.SerialPlain", spec := "serialPlain", inPlace := ["internal/abi.NoEscape", "internal/bytealg.MakeNoZero", "internal/bytealg.IndexByteString", "internal/bytealg.IndexString", "internal/bytealg.CountString"], unfollowed := true, recurses := true, named := ["internal/bytealg.MaxLen", "unicode/utf8.first", "unicode/utf8.acceptRanges", "cribble/entity.old"], apart := false, laid := [("unicode/utf8.acceptRanges", laid_unicode_utf8_acceptRanges), ("cribble/entity.old", laid_cribble_entity_old), ("unicode/utf8.first", laid_unicode_utf8_first)] }
def SerialPlainSaid : Prop := serialPlainRow.holds Tryz.pinned (OpenSpec.ofChange serialPlainSpec)

/-- ITS FALSE NEIGHBOUR: 'it returns false'. Refute it at one input. -/
def serialPlainWrong : ChangeSpec := { name := "serialPlain", fn := fun _ => fun
  | [d1, d2, d3] => { results := [.lit (.bool false)], args := [d1, d2, d3] }
  | _ => none }
def SerialPlainWrongFalsely : Prop := serialPlainRow.holds Tryz.pinned (OpenSpec.ofChange serialPlainWrong)

/- THE SECOND FORM. 'bulk': how many values and letters a reading holds, each counted each time it is reached (what is shared counts as often as it is met; a slice's spare places count too). A statement '..UptoSaid' is the law's where the arguments, and the package variables that the reading takes, are together of bulk at most 1048576: NARROWER than '..Said'. Prove '..Said' where nothing that the law and all that it calls make is longer than what came in: it says more and counts as full. Else prove '..UptoSaid'. A law counts once. -/
mutual
def uptoBulk {H : Type} : DataW H → Nat
  | .lit (.string bytes) => bytes.length + 1
  | .lit _ => 1
  | .nil => 1
  | .ptr d => uptoBulk d + 1
  | .slice elems spare => uptoBulkAll elems + uptoBulkAll spare + 1
  | .agg parts => uptoBulkAll parts + 1
  | .iface _ d => uptoBulk d + 1
  | .map entries => uptoBulkEntries entries + 1
  | .held _ => 1
def uptoBulkAll {H : Type} : List (DataW H) → Nat
  | [] => 0
  | d :: r => uptoBulk d + uptoBulkAll r
def uptoBulkEntries {H : Type} : List (Lit × DataW H) → Nat
  | [] => 0
  | x :: r => uptoBulkEntry x + uptoBulkEntries r
def uptoBulkEntry {H : Type} : Lit × DataW H → Nat
  | (.string bytes, d) => bytes.length + uptoBulk d + 1
  | (_, d) => uptoBulk d + 1
 end
def uptoSmall : (H : Type) → List (DataW H) → Bool := fun _ ds => decide (uptoBulkAll ds ≤ 1048576)
def OpenSpec.upto (s : _root_.Go.ChangeSpec) : _root_.Go.OpenSpec := { _root_.Go.OpenSpec.ofChange s with cond := some uptoSmall }

/-- 'cribblelaw18.ScanTokens', WHERE WHAT IT READS IS OF BULK AT MOST 1048576: true; the input reads as it did. -/
def scanTokensUptoRow : OpenClaim := { program := "ytoacojkmclngmaagreatdoor", sum := "cf5d8f9ee148f199cc355a505b9c9fc843327dd9b794774db87690f206a3cd6f", func := "cribble/cribblelaw18.ScanTokens", spec := "scanTokens", inPlace := ["internal/bytealg.IndexByteString", "internal/bytealg.CountString", "internal/bytealg.IndexString", "internal/abi.NoEscape", "internal/bytealg.MakeNoZero"], unfollowed := true, recurses := true, named := ["internal/bytealg.MaxLen", "unicode/utf8.first", "unicode/utf8.acceptRanges", "cribble/entity.old"], apart := false, laid := [("unicode/utf8.acceptRanges", laid_unicode_utf8_acceptRanges), ("cribble/entity.old", laid_cribble_entity_old), ("unicode/utf8.first", laid_unicode_utf8_first)], narrowed := true }
def ScanTokensUptoSaid : Prop := scanTokensUptoRow.holds Tryz.pinned (OpenSpec.upto scanTokensSpec)

/-- 'cribblelaw18.ScanBytes', WHERE WHAT IT READS IS OF BULK AT MOST 1048576: true; the input reads as it did. -/
def scanBytesUptoRow : OpenClaim := { program := "ytoacojkmclngmaagreatdoor", sum := "cf5d8f9ee148f199cc355a505b9c9fc843327dd9b794774db87690f206a3cd6f", func := "cribble/cribblelaw18.ScanBytes", spec := "scanBytes", inPlace := ["internal/bytealg.IndexByteString", "internal/bytealg.CountString", "internal/bytealg.IndexString", "internal/abi.NoEscape", "internal/bytealg.MakeNoZero"], unfollowed := true, recurses := true, named := ["internal/bytealg.MaxLen", "unicode/utf8.first", "unicode/utf8.acceptRanges", "cribble/entity.old"], apart := false, laid := [("unicode/utf8.acceptRanges", laid_unicode_utf8_acceptRanges), ("cribble/entity.old", laid_cribble_entity_old), ("unicode/utf8.first", laid_unicode_utf8_first)], narrowed := true }
def ScanBytesUptoSaid : Prop := scanBytesUptoRow.holds Tryz.pinned (OpenSpec.upto scanBytesSpec)

/-- 'cribblelaw18.ScanNames', WHERE WHAT IT READS IS OF BULK AT MOST 1048576: true; the input reads as it did. -/
def scanNamesUptoRow : OpenClaim := { program := "ytoacojkmclngmaagreatdoor", sum := "cf5d8f9ee148f199cc355a505b9c9fc843327dd9b794774db87690f206a3cd6f", func := "cribble/cribblelaw18.ScanNames", spec := "scanNames", inPlace := ["internal/bytealg.IndexByteString", "internal/bytealg.CountString", "internal/bytealg.IndexString", "internal/abi.NoEscape", "internal/bytealg.MakeNoZero"], unfollowed := true, recurses := true, named := ["internal/bytealg.MaxLen", "unicode/utf8.first", "unicode/utf8.acceptRanges", "cribble/entity.old"], apart := false, laid := [("unicode/utf8.acceptRanges", laid_unicode_utf8_acceptRanges), ("cribble/entity.old", laid_cribble_entity_old), ("unicode/utf8.first", laid_unicode_utf8_first)], narrowed := true }
def ScanNamesUptoSaid : Prop := scanNamesUptoRow.holds Tryz.pinned (OpenSpec.upto scanNamesSpec)

/-- 'cribblelaw18.ScanParts', WHERE WHAT IT READS IS OF BULK AT MOST 1048576: true; the input reads as it did. -/
def scanPartsUptoRow : OpenClaim := { program := "ytoacojkmclngmaagreatdoor", sum := "cf5d8f9ee148f199cc355a505b9c9fc843327dd9b794774db87690f206a3cd6f", func := "cribble/cribblelaw18.ScanParts", spec := "scanParts", inPlace := ["internal/bytealg.IndexByteString", "internal/bytealg.CountString", "internal/bytealg.IndexString", "internal/abi.NoEscape", "internal/bytealg.MakeNoZero"], unfollowed := true, recurses := true, named := ["internal/bytealg.MaxLen", "unicode/utf8.first", "unicode/utf8.acceptRanges", "cribble/entity.old"], apart := false, laid := [("unicode/utf8.acceptRanges", laid_unicode_utf8_acceptRanges), ("cribble/entity.old", laid_cribble_entity_old), ("unicode/utf8.first", laid_unicode_utf8_first)], narrowed := true }
def ScanPartsUptoSaid : Prop := scanPartsUptoRow.holds Tryz.pinned (OpenSpec.upto scanPartsSpec)

/-- 'cribblelaw18.ScanPlain', WHERE WHAT IT READS IS OF BULK AT MOST 1048576: true; the input reads as it did. -/
def scanPlainUptoRow : OpenClaim := { program := "ytoacojkmclngmaagreatdoor", sum := "cf5d8f9ee148f199cc355a505b9c9fc843327dd9b794774db87690f206a3cd6f", func := "cribble/cribblelaw18.ScanPlain", spec := "scanPlain", inPlace := ["internal/bytealg.IndexByteString", "internal/bytealg.CountString", "internal/bytealg.IndexString", "internal/abi.NoEscape", "internal/bytealg.MakeNoZero"], unfollowed := true, recurses := true, named := ["internal/bytealg.MaxLen", "unicode/utf8.first", "unicode/utf8.acceptRanges", "cribble/entity.old"], apart := false, laid := [("unicode/utf8.acceptRanges", laid_unicode_utf8_acceptRanges), ("cribble/entity.old", laid_cribble_entity_old), ("unicode/utf8.first", laid_unicode_utf8_first)], narrowed := true }
def ScanPlainUptoSaid : Prop := scanPlainUptoRow.holds Tryz.pinned (OpenSpec.upto scanPlainSpec)

/-- 'cribblelaw18.ScanHeld', WHERE WHAT IT READS IS OF BULK AT MOST 1048576: true; the input reads as it did. -/
def scanHeldUptoRow : OpenClaim := { program := "ytoacojkmclngmaagreatdoor", sum := "cf5d8f9ee148f199cc355a505b9c9fc843327dd9b794774db87690f206a3cd6f", func := "cribble/cribblelaw18.ScanHeld", spec := "scanHeld", inPlace := ["internal/bytealg.IndexByteString", "internal/bytealg.CountString", "internal/bytealg.IndexString", "internal/abi.NoEscape", "internal/bytealg.MakeNoZero"], unfollowed := true, recurses := true, named := ["internal/bytealg.MaxLen", "unicode/utf8.first", "unicode/utf8.acceptRanges", "cribble/entity.old"], apart := false, laid := [("unicode/utf8.acceptRanges", laid_unicode_utf8_acceptRanges), ("cribble/entity.old", laid_cribble_entity_old), ("unicode/utf8.first", laid_unicode_utf8_first)], narrowed := true }
def ScanHeldUptoSaid : Prop := scanHeldUptoRow.holds Tryz.pinned (OpenSpec.upto scanHeldSpec)

/-- 'cribblelaw18.ScanMarks', WHERE WHAT IT READS IS OF BULK AT MOST 1048576: true; the input reads as it did. -/
def scanMarksUptoRow : OpenClaim := { program := "ytoacojkmclngmaagreatdoor", sum := "cf5d8f9ee148f199cc355a505b9c9fc843327dd9b794774db87690f206a3cd6f", func := "cribble/cribblelaw18.ScanMarks", spec := "scanMarks", inPlace := ["internal/bytealg.IndexByteString", "internal/bytealg.CountString", "internal/bytealg.IndexString", "internal/abi.NoEscape", "internal/bytealg.MakeNoZero"], unfollowed := true, recurses := true, named := ["internal/bytealg.MaxLen", "unicode/utf8.first", "unicode/utf8.acceptRanges", "cribble/entity.old"], apart := false, laid := [("unicode/utf8.acceptRanges", laid_unicode_utf8_acceptRanges), ("cribble/entity.old", laid_cribble_entity_old), ("unicode/utf8.first", laid_unicode_utf8_first)], narrowed := true }
def ScanMarksUptoSaid : Prop := scanMarksUptoRow.holds Tryz.pinned (OpenSpec.upto scanMarksSpec)

/-- 'cribblelaw22.SerialBack', WHERE WHAT IT READS IS OF BULK AT MOST 1048576: true; the input reads as it did. -/
def serialBackUptoRow : OpenClaim := { program := "ytoacojkmclngmaagreatdoor", sum := "cf5d8f9ee148f199cc355a505b9c9fc843327dd9b794774db87690f206a3cd6f", func := "cribble/cribblelaw22.SerialBack", spec := "serialBack", inPlace := ["internal/abi.NoEscape", "internal/bytealg.MakeNoZero", "internal/bytealg.IndexByteString", "internal/bytealg.IndexString", "internal/bytealg.CountString"], unfollowed := true, recurses := true, named := ["internal/bytealg.MaxLen", "unicode/utf8.first", "unicode/utf8.acceptRanges", "cribble/entity.old"], apart := false, laid := [("unicode/utf8.acceptRanges", laid_unicode_utf8_acceptRanges), ("cribble/entity.old", laid_cribble_entity_old), ("unicode/utf8.first", laid_unicode_utf8_first)], narrowed := true }
def SerialBackUptoSaid : Prop := serialBackUptoRow.holds Tryz.pinned (OpenSpec.upto serialBackSpec)

/-- 'cribblelaw22.SerialPlain', WHERE WHAT IT READS IS OF BULK AT MOST 1048576: true; the input reads as it did. -/
def serialPlainUptoRow : OpenClaim := { program := "ytoacojkmclngmaagreatdoor", sum := "cf5d8f9ee148f199cc355a505b9c9fc843327dd9b794774db87690f206a3cd6f", func := "cribble/cribblelaw22.SerialPlain", spec := "serialPlain", inPlace := ["internal/abi.NoEscape", "internal/bytealg.MakeNoZero", "internal/bytealg.IndexByteString", "internal/bytealg.IndexString", "internal/bytealg.CountString"], unfollowed := true, recurses := true, named := ["internal/bytealg.MaxLen", "unicode/utf8.first", "unicode/utf8.acceptRanges", "cribble/entity.old"], apart := false, laid := [("unicode/utf8.acceptRanges", laid_unicode_utf8_acceptRanges), ("cribble/entity.old", laid_cribble_entity_old), ("unicode/utf8.first", laid_unicode_utf8_first)], narrowed := true }
def SerialPlainUptoSaid : Prop := serialPlainUptoRow.holds Tryz.pinned (OpenSpec.upto serialPlainSpec)

end Rows
end Go.Proofs.YtoacojkmclngmaaGreatDoor
