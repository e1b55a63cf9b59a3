/-
  NARROWER THAN 'FOR EVERY INPUT', by the rows' own cells (each row's printed sentence says how): LocaleGroups: laid · LocaleWrites: laid · LocaleBack: laid · LocaleFinds: laid · PatternShapes: laid · PatternPrints: laid · PatternJoins: laid.
  DERIVED. THE GIVEN ROWS OF THIS SEAT. 7 by the template 'for every input the law returns true; each argument reads behind the call as it read before'; 0 by the template 'total and deterministic' (their statements: YtmbhjogohfcjgaaDoorTotals.lean).
  GIVEN WITH THE SEED: the statements are not yours to turn. If you find one false, say at which input.
  Laid BY PROGRAM, IN A SANDBOX (cutbox-rows.mjs): the forced cells as the released guide's own fill.sh prints them over the translation 4d3c46432578c8dc… (all of the seat's roots in one cut). By AI agents, Wed Nov 11 2026. No macro, syntax, notation, axiom, sorry.
-/
import Derived.Test.YtmbhjogohfcjgaaDoorChecked
import GoSem.PinnedTables
import GoSem.Claim
import GoSem.ClaimJoined
import GoSem.ClaimMapViews
import Derived.JoinedTies
import Derived.KernelRfl
namespace Go.Proofs.YtmbhjogohfcjgaaDoor
/- THE CELL 'sum', in the pinned program and in every row, IS THE sha256 OF THE DUMP (.gsa) THAT YtmbhjogohfcjgaaDoorProg.lean LOADS. Nothing in Lean hashes anything: it is a label: what it is worth is what the hold of that sum in a sandbox is worth. -/
noncomputable def Tryd.pinned : Pinned := { name := "ytmbhjogohfcjgaadoor", sum := "4d3c46432578c8dc22c2ab7b4df3e3974adb54996ffb42b74813dbbe1f1a0a01", checked := Tryd.checked }
namespace Rows
def none {H : Type} : Left H := { results := [], args := [] }

/- WHAT THE LISTED PACKAGE-LEVEL VARIABLES READ AS WHEN THE CALL BEGINS. Each datum BY PROGRAM (the guide's laid-datum.mjs) off the statement by which the dump's own 'gosem.cut.vars' lays the variable. In a bare row this is a premise. The card (YtmbhjogohfcjgaaDoorCards.lean) ties it to the program's text. -/
def laid_unicode_utf8_acceptRanges {H : Type} : DataW H := .agg [.agg [.lit (.int .u8 128), .lit (.int .u8 191)], .agg [.lit (.int .u8 160), .lit (.int .u8 191)], .agg [.lit (.int .u8 128), .lit (.int .u8 159)], .agg [.lit (.int .u8 144), .lit (.int .u8 191)], .agg [.lit (.int .u8 128), .lit (.int .u8 143)], .agg [.lit (.int .u8 0), .lit (.int .u8 0)], .agg [.lit (.int .u8 0), .lit (.int .u8 0)], .agg [.lit (.int .u8 0), .lit (.int .u8 0)], .agg [.lit (.int .u8 0), .lit (.int .u8 0)], .agg [.lit (.int .u8 0), .lit (.int .u8 0)], .agg [.lit (.int .u8 0), .lit (.int .u8 0)], .agg [.lit (.int .u8 0), .lit (.int .u8 0)], .agg [.lit (.int .u8 0), .lit (.int .u8 0)], .agg [.lit (.int .u8 0), .lit (.int .u8 0)], .agg [.lit (.int .u8 0), .lit (.int .u8 0)], .agg [.lit (.int .u8 0), .lit (.int .u8 0)]]
def laid_tabard_locale_names {H : Type} : DataW H := .agg [.lit (.string [99, 104]), .lit (.string [100, 101]), .lit (.string [101, 110]), .lit (.string [102, 114]), .lit (.string [104, 105]), .lit (.string [115, 118])]
def laid_tabard_locale_signs {H : Type} : DataW H := .agg [.agg [.lit (.string [46]), .lit (.string [226, 128, 153]), .lit (.string [59]), .lit (.string [45]), .lit (.string [67, 72, 70])], .agg [.lit (.string [44]), .lit (.string [46]), .lit (.string [59]), .lit (.string [45]), .lit (.string [226, 130, 172])], .agg [.lit (.string [46]), .lit (.string [44]), .lit (.string [44]), .lit (.string [45]), .lit (.string [36])], .agg [.lit (.string [44]), .lit (.string [226, 128, 175]), .lit (.string [59]), .lit (.string [45]), .lit (.string [226, 130, 172])], .agg [.lit (.string [46]), .lit (.string [44]), .lit (.string [44]), .lit (.string [45]), .lit (.string [226, 130, 185])], .agg [.lit (.string [44]), .lit (.string [194, 160]), .lit (.string [59]), .lit (.string [226, 136, 146]), .lit (.string [107, 114])]]
/-- One of Go's own tables, pinned by name: the form's constant. -/
def laid_unicode_utf8_first : DataW Unit := Go.Pinned.utf8First

/-- 'tabardlaw11.LocaleGroups': WHATEVER THE INPUT: true; the input reads as it did. -/
def localeGroupsSpec : ChangeSpec := { name := "localeGroups", fn := fun _ => fun
  | [d1, d2, d3] => { results := [.lit (.bool true)], args := [d1, d2, d3] }
  | _ => none }
def localeGroupsRow : OpenClaim := { program := "ytmbhjogohfcjgaadoor", sum := "4d3c46432578c8dc22c2ab7b4df3e3974adb54996ffb42b74813dbbe1f1a0a01", func := "tabard/tabardlaw11.LocaleGroups", spec := "localeGroups", inPlace := ["internal/bytealg.CountString", "internal/bytealg.IndexByteString", "internal/bytealg.IndexString", "internal/abi.NoEscape", "internal/bytealg.MakeNoZero"], named := ["tabard/locale.names", "tabard/locale.signs", "internal/bytealg.MaxLen", "unicode/utf8.first", "unicode/utf8.acceptRanges"], apart := false, laid := [("unicode/utf8.acceptRanges", laid_unicode_utf8_acceptRanges), ("tabard/locale.names", laid_tabard_locale_names), ("tabard/locale.signs", laid_tabard_locale_signs), ("unicode/utf8.first", laid_unicode_utf8_first)] }
def LocaleGroupsSaid : Prop := localeGroupsRow.holds Tryd.pinned (OpenSpec.ofChange localeGroupsSpec)

/-- ITS FALSE NEIGHBOUR: 'it returns false'. Refute it at one input. -/
def localeGroupsWrong : ChangeSpec := { name := "localeGroups", fn := fun _ => fun
  | [d1, d2, d3] => { results := [.lit (.bool false)], args := [d1, d2, d3] }
  | _ => none }
def LocaleGroupsWrongFalsely : Prop := localeGroupsRow.holds Tryd.pinned (OpenSpec.ofChange localeGroupsWrong)

/-- 'tabardlaw11.LocaleWrites': WHATEVER THE INPUT: true; the input reads as it did. -/
def localeWritesSpec : ChangeSpec := { name := "localeWrites", fn := fun _ => fun
  | [d1, d2, d3, d4] => { results := [.lit (.bool true)], args := [d1, d2, d3, d4] }
  | _ => none }
def localeWritesRow : OpenClaim := { program := "ytmbhjogohfcjgaadoor", sum := "4d3c46432578c8dc22c2ab7b4df3e3974adb54996ffb42b74813dbbe1f1a0a01", func := "tabard/tabardlaw11.LocaleWrites", spec := "localeWrites", inPlace := ["internal/bytealg.CountString", "internal/bytealg.IndexByteString", "internal/bytealg.IndexString", "internal/abi.NoEscape", "internal/bytealg.MakeNoZero"], named := ["tabard/locale.names", "tabard/locale.signs", "internal/bytealg.MaxLen", "unicode/utf8.first", "unicode/utf8.acceptRanges"], apart := false, laid := [("unicode/utf8.acceptRanges", laid_unicode_utf8_acceptRanges), ("tabard/locale.names", laid_tabard_locale_names), ("tabard/locale.signs", laid_tabard_locale_signs), ("unicode/utf8.first", laid_unicode_utf8_first)] }
def LocaleWritesSaid : Prop := localeWritesRow.holds Tryd.pinned (OpenSpec.ofChange localeWritesSpec)

/-- ITS FALSE NEIGHBOUR: 'it returns false'. Refute it at one input. -/
def localeWritesWrong : ChangeSpec := { name := "localeWrites", fn := fun _ => fun
  | [d1, d2, d3, d4] => { results := [.lit (.bool false)], args := [d1, d2, d3, d4] }
  | _ => none }
def LocaleWritesWrongFalsely : Prop := localeWritesRow.holds Tryd.pinned (OpenSpec.ofChange localeWritesWrong)

/-- 'tabardlaw11.LocaleBack': WHATEVER THE INPUT: true; the input reads as it did. -/
def localeBackSpec : ChangeSpec := { name := "localeBack", fn := fun _ => fun
  | [d1, d2] => { results := [.lit (.bool true)], args := [d1, d2] }
  | _ => none }
def localeBackRow : OpenClaim := { program := "ytmbhjogohfcjgaadoor", sum := "4d3c46432578c8dc22c2ab7b4df3e3974adb54996ffb42b74813dbbe1f1a0a01", func := "tabard/tabardlaw11.LocaleBack", spec := "localeBack", inPlace := ["internal/bytealg.CountString", "internal/bytealg.IndexByteString", "internal/bytealg.IndexString", "internal/abi.NoEscape", "internal/bytealg.MakeNoZero"], named := ["tabard/locale.names", "tabard/locale.signs", "internal/bytealg.MaxLen", "unicode/utf8.first", "unicode/utf8.acceptRanges"], apart := false, laid := [("unicode/utf8.acceptRanges", laid_unicode_utf8_acceptRanges), ("tabard/locale.names", laid_tabard_locale_names), ("tabard/locale.signs", laid_tabard_locale_signs), ("unicode/utf8.first", laid_unicode_utf8_first)] }
def LocaleBackSaid : Prop := localeBackRow.holds Tryd.pinned (OpenSpec.ofChange localeBackSpec)

/-- ITS FALSE NEIGHBOUR: 'it returns false'. Refute it at one input. -/
def localeBackWrong : ChangeSpec := { name := "localeBack", fn := fun _ => fun
  | [d1, d2] => { results := [.lit (.bool false)], args := [d1, d2] }
  | _ => none }
def LocaleBackWrongFalsely : Prop := localeBackRow.holds Tryd.pinned (OpenSpec.ofChange localeBackWrong)

/-- 'tabardlaw11.LocaleFinds': WHATEVER THE INPUT: true; the input reads as it did. -/
def localeFindsSpec : ChangeSpec := { name := "localeFinds", fn := fun _ => fun
  | [d] => { results := [.lit (.bool true)], args := [d] }
  | _ => none }
def localeFindsRow : OpenClaim := { program := "ytmbhjogohfcjgaadoor", sum := "4d3c46432578c8dc22c2ab7b4df3e3974adb54996ffb42b74813dbbe1f1a0a01", func := "tabard/tabardlaw11.LocaleFinds", spec := "localeFinds", inPlace := ["internal/bytealg.CountString", "internal/bytealg.IndexByteString", "internal/bytealg.IndexString", "internal/abi.NoEscape", "internal/bytealg.MakeNoZero"], named := ["tabard/locale.names", "tabard/locale.signs", "internal/bytealg.MaxLen", "unicode/utf8.first", "unicode/utf8.acceptRanges"], apart := false, laid := [("unicode/utf8.acceptRanges", laid_unicode_utf8_acceptRanges), ("tabard/locale.names", laid_tabard_locale_names), ("tabard/locale.signs", laid_tabard_locale_signs), ("unicode/utf8.first", laid_unicode_utf8_first)] }
def LocaleFindsSaid : Prop := localeFindsRow.holds Tryd.pinned (OpenSpec.ofChange localeFindsSpec)

/-- ITS FALSE NEIGHBOUR: 'it returns false'. Refute it at one input. -/
def localeFindsWrong : ChangeSpec := { name := "localeFinds", fn := fun _ => fun
  | [d] => { results := [.lit (.bool false)], args := [d] }
  | _ => none }
def LocaleFindsWrongFalsely : Prop := localeFindsRow.holds Tryd.pinned (OpenSpec.ofChange localeFindsWrong)

/-- 'tabardlaw13.PatternShapes': WHATEVER THE INPUT: true; the input reads as it did. -/
def patternShapesSpec : ChangeSpec := { name := "patternShapes", fn := fun _ => fun
  | [d] => { results := [.lit (.bool true)], args := [d] }
  | _ => none }
def patternShapesRow : OpenClaim := { program := "ytmbhjogohfcjgaadoor", sum := "4d3c46432578c8dc22c2ab7b4df3e3974adb54996ffb42b74813dbbe1f1a0a01", func := "tabard/tabardlaw13.PatternShapes", spec := "patternShapes", inPlace := ["internal/bytealg.IndexByteString", "internal/bytealg.IndexString", "internal/abi.NoEscape", "internal/bytealg.MakeNoZero"], unfollowed := true, recurses := true, named := ["unicode/utf8.first", "unicode/utf8.acceptRanges", "internal/bytealg.MaxLen"], apart := false, laid := [("unicode/utf8.acceptRanges", laid_unicode_utf8_acceptRanges), ("unicode/utf8.first", laid_unicode_utf8_first)] }
def PatternShapesSaid : Prop := patternShapesRow.holds Tryd.pinned (OpenSpec.ofChange patternShapesSpec)

/-- ITS FALSE NEIGHBOUR: 'it returns false'. Refute it at one input. -/
def patternShapesWrong : ChangeSpec := { name := "patternShapes", fn := fun _ => fun
  | [d] => { results := [.lit (.bool false)], args := [d] }
  | _ => none }
def PatternShapesWrongFalsely : Prop := patternShapesRow.holds Tryd.pinned (OpenSpec.ofChange patternShapesWrong)

/-- 'tabardlaw13.PatternPrints': WHATEVER THE INPUT: true; the input reads as it did. -/
def patternPrintsSpec : ChangeSpec := { name := "patternPrints", fn := fun _ => fun
  | [d] => { results := [.lit (.bool true)], args := [d] }
  | _ => none }
def patternPrintsRow : OpenClaim := { program := "ytmbhjogohfcjgaadoor", sum := "4d3c46432578c8dc22c2ab7b4df3e3974adb54996ffb42b74813dbbe1f1a0a01", func := "tabard/tabardlaw13.PatternPrints", spec := "patternPrints", inPlace := ["internal/bytealg.IndexByteString", "internal/bytealg.IndexString", "internal/abi.NoEscape", "internal/bytealg.MakeNoZero"], unfollowed := true, recurses := true, named := ["unicode/utf8.first", "unicode/utf8.acceptRanges", "internal/bytealg.MaxLen"], apart := false, laid := [("unicode/utf8.acceptRanges", laid_unicode_utf8_acceptRanges), ("unicode/utf8.first", laid_unicode_utf8_first)] }
def PatternPrintsSaid : Prop := patternPrintsRow.holds Tryd.pinned (OpenSpec.ofChange patternPrintsSpec)

/-- ITS FALSE NEIGHBOUR: 'it returns false'. Refute it at one input. -/
def patternPrintsWrong : ChangeSpec := { name := "patternPrints", fn := fun _ => fun
  | [d] => { results := [.lit (.bool false)], args := [d] }
  | _ => none }
def PatternPrintsWrongFalsely : Prop := patternPrintsRow.holds Tryd.pinned (OpenSpec.ofChange patternPrintsWrong)

/-- 'tabardlaw13.PatternJoins': WHATEVER THE INPUT: true; the input reads as it did. -/
def patternJoinsSpec : ChangeSpec := { name := "patternJoins", fn := fun _ => fun
  | [d1, d2] => { results := [.lit (.bool true)], args := [d1, d2] }
  | _ => none }
def patternJoinsRow : OpenClaim := { program := "ytmbhjogohfcjgaadoor", sum := "4d3c46432578c8dc22c2ab7b4df3e3974adb54996ffb42b74813dbbe1f1a0a01", func := "tabard/tabardlaw13.PatternJoins", spec := "patternJoins", inPlace := ["internal/bytealg.IndexByteString", "internal/bytealg.IndexString", "internal/abi.NoEscape", "internal/bytealg.MakeNoZero"], unfollowed := true, recurses := true, named := ["unicode/utf8.first", "unicode/utf8.acceptRanges", "internal/bytealg.MaxLen"], apart := false, laid := [("unicode/utf8.acceptRanges", laid_unicode_utf8_acceptRanges), ("unicode/utf8.first", laid_unicode_utf8_first)] }
def PatternJoinsSaid : Prop := patternJoinsRow.holds Tryd.pinned (OpenSpec.ofChange patternJoinsSpec)

/-- ITS FALSE NEIGHBOUR: 'it returns false'. Refute it at one input. -/
def patternJoinsWrong : ChangeSpec := { name := "patternJoins", fn := fun _ => fun
  | [d1, d2] => { results := [.lit (.bool false)], args := [d1, d2] }
  | _ => none }
def PatternJoinsWrongFalsely : Prop := patternJoinsRow.holds Tryd.pinned (OpenSpec.ofChange patternJoinsWrong)

/- THE SECOND FORM. 'bulk': how many values and letters a reading holds, each counted each time it is reached (what is shared counts as often as it is met; a slice's spare places count too). A statement '..UptoSaid' is the law's where the arguments, and the package variables that the reading takes, are together of bulk at most 1048576: NARROWER than '..Said'. Prove '..Said' where nothing that the law and all that it calls make is longer than what came in: it says more and counts as full. Else prove '..UptoSaid'. A law counts once. -/
mutual
def uptoBulk {H : Type} : DataW H → Nat
  | .lit (.string bytes) => bytes.length + 1
  | .lit _ => 1
  | .nil => 1
  | .ptr d => uptoBulk d + 1
  | .slice elems spare => uptoBulkAll elems + uptoBulkAll spare + 1
  | .agg parts => uptoBulkAll parts + 1
  | .iface _ d => uptoBulk d + 1
  | .map entries => uptoBulkEntries entries + 1
  | .held _ => 1
def uptoBulkAll {H : Type} : List (DataW H) → Nat
  | [] => 0
  | d :: r => uptoBulk d + uptoBulkAll r
def uptoBulkEntries {H : Type} : List (Lit × DataW H) → Nat
  | [] => 0
  | x :: r => uptoBulkEntry x + uptoBulkEntries r
def uptoBulkEntry {H : Type} : Lit × DataW H → Nat
  | (.string bytes, d) => bytes.length + uptoBulk d + 1
  | (_, d) => uptoBulk d + 1
 end
def uptoSmall : (H : Type) → List (DataW H) → Bool := fun _ ds => decide (uptoBulkAll ds ≤ 1048576)
def OpenSpec.upto (s : _root_.Go.ChangeSpec) : _root_.Go.OpenSpec := { _root_.Go.OpenSpec.ofChange s with cond := some uptoSmall }

/-- 'tabardlaw11.LocaleGroups', WHERE WHAT IT READS IS OF BULK AT MOST 1048576: true; the input reads as it did. -/
def localeGroupsUptoRow : OpenClaim := { program := "ytmbhjogohfcjgaadoor", sum := "4d3c46432578c8dc22c2ab7b4df3e3974adb54996ffb42b74813dbbe1f1a0a01", func := "tabard/tabardlaw11.LocaleGroups", spec := "localeGroups", inPlace := ["internal/bytealg.CountString", "internal/bytealg.IndexByteString", "internal/bytealg.IndexString", "internal/abi.NoEscape", "internal/bytealg.MakeNoZero"], named := ["tabard/locale.names", "tabard/locale.signs", "internal/bytealg.MaxLen", "unicode/utf8.first", "unicode/utf8.acceptRanges"], apart := false, laid := [("unicode/utf8.acceptRanges", laid_unicode_utf8_acceptRanges), ("tabard/locale.names", laid_tabard_locale_names), ("tabard/locale.signs", laid_tabard_locale_signs), ("unicode/utf8.first", laid_unicode_utf8_first)], narrowed := true }
def LocaleGroupsUptoSaid : Prop := localeGroupsUptoRow.holds Tryd.pinned (OpenSpec.upto localeGroupsSpec)

/-- 'tabardlaw11.LocaleWrites', WHERE WHAT IT READS IS OF BULK AT MOST 1048576: true; the input reads as it did. -/
def localeWritesUptoRow : OpenClaim := { program := "ytmbhjogohfcjgaadoor", sum := "4d3c46432578c8dc22c2ab7b4df3e3974adb54996ffb42b74813dbbe1f1a0a01", func := "tabard/tabardlaw11.LocaleWrites", spec := "localeWrites", inPlace := ["internal/bytealg.CountString", "internal/bytealg.IndexByteString", "internal/bytealg.IndexString", "internal/abi.NoEscape", "internal/bytealg.MakeNoZero"], named := ["tabard/locale.names", "tabard/locale.signs", "internal/bytealg.MaxLen", "unicode/utf8.first", "unicode/utf8.acceptRanges"], apart := false, laid := [("unicode/utf8.acceptRanges", laid_unicode_utf8_acceptRanges), ("tabard/locale.names", laid_tabard_locale_names), ("tabard/locale.signs", laid_tabard_locale_signs), ("unicode/utf8.first", laid_unicode_utf8_first)], narrowed := true }
def LocaleWritesUptoSaid : Prop := localeWritesUptoRow.holds Tryd.pinned (OpenSpec.upto localeWritesSpec)

/-- 'tabardlaw11.LocaleBack', WHERE WHAT IT READS IS OF BULK AT MOST 1048576: true; the input reads as it did. -/
def localeBackUptoRow : OpenClaim := { program := "ytmbhjogohfcjgaadoor", sum := "4d3c46432578c8dc22c2ab7b4df3e3974adb54996ffb42b74813dbbe1f1a0a01", func := "tabard/tabardlaw11.LocaleBack", spec := "localeBack", inPlace := ["internal/bytealg.CountString", "internal/bytealg.IndexByteString", "internal/bytealg.IndexString", "internal/abi.NoEscape", "internal/bytealg.MakeNoZero"], named := ["tabard/locale.names", "tabard/locale.signs", "internal/bytealg.MaxLen", "unicode/utf8.first", "unicode/utf8.acceptRanges"], apart := false, laid := [("unicode/utf8.acceptRanges", laid_unicode_utf8_acceptRanges), ("tabard/locale.names", laid_tabard_locale_names), ("tabard/locale.signs", laid_tabard_locale_signs), ("unicode/utf8.first", laid_unicode_utf8_first)], narrowed := true }
def LocaleBackUptoSaid : Prop := localeBackUptoRow.holds Tryd.pinned (OpenSpec.upto localeBackSpec)

/-- 'tabardlaw11.LocaleFinds', WHERE WHAT IT READS IS OF BULK AT MOST 1048576: true; the input reads as it did. -/
def localeFindsUptoRow : OpenClaim := { program := "ytmbhjogohfcjgaadoor", sum := "4d3c46432578c8dc22c2ab7b4df3e3974adb54996ffb42b74813dbbe1f1a0a01", func := "tabard/tabardlaw11.LocaleFinds", spec := "localeFinds", inPlace := ["internal/bytealg.CountString", "internal/bytealg.IndexByteString", "internal/bytealg.IndexString", "internal/abi.NoEscape", "internal/bytealg.MakeNoZero"], named := ["tabard/locale.names", "tabard/locale.signs", "internal/bytealg.MaxLen", "unicode/utf8.first", "unicode/utf8.acceptRanges"], apart := false, laid := [("unicode/utf8.acceptRanges", laid_unicode_utf8_acceptRanges), ("tabard/locale.names", laid_tabard_locale_names), ("tabard/locale.signs", laid_tabard_locale_signs), ("unicode/utf8.first", laid_unicode_utf8_first)], narrowed := true }
def LocaleFindsUptoSaid : Prop := localeFindsUptoRow.holds Tryd.pinned (OpenSpec.upto localeFindsSpec)

/-- 'tabardlaw13.PatternShapes', WHERE WHAT IT READS IS OF BULK AT MOST 1048576: true; the input reads as it did. -/
def patternShapesUptoRow : OpenClaim := { program := "ytmbhjogohfcjgaadoor", sum := "4d3c46432578c8dc22c2ab7b4df3e3974adb54996ffb42b74813dbbe1f1a0a01", func := "tabard/tabardlaw13.PatternShapes", spec := "patternShapes", inPlace := ["internal/bytealg.IndexByteString", "internal/bytealg.IndexString", "internal/abi.NoEscape", "internal/bytealg.MakeNoZero"], unfollowed := true, recurses := true, named := ["unicode/utf8.first", "unicode/utf8.acceptRanges", "internal/bytealg.MaxLen"], apart := false, laid := [("unicode/utf8.acceptRanges", laid_unicode_utf8_acceptRanges), ("unicode/utf8.first", laid_unicode_utf8_first)], narrowed := true }
def PatternShapesUptoSaid : Prop := patternShapesUptoRow.holds Tryd.pinned (OpenSpec.upto patternShapesSpec)

/-- 'tabardlaw13.PatternPrints', WHERE WHAT IT READS IS OF BULK AT MOST 1048576: true; the input reads as it did. -/
def patternPrintsUptoRow : OpenClaim := { program := "ytmbhjogohfcjgaadoor", sum := "4d3c46432578c8dc22c2ab7b4df3e3974adb54996ffb42b74813dbbe1f1a0a01", func := "tabard/tabardlaw13.PatternPrints", spec := "patternPrints", inPlace := ["internal/bytealg.IndexByteString", "internal/bytealg.IndexString", "internal/abi.NoEscape", "internal/bytealg.MakeNoZero"], unfollowed := true, recurses := true, named := ["unicode/utf8.first", "unicode/utf8.acceptRanges", "internal/bytealg.MaxLen"], apart := false, laid := [("unicode/utf8.acceptRanges", laid_unicode_utf8_acceptRanges), ("unicode/utf8.first", laid_unicode_utf8_first)], narrowed := true }
def PatternPrintsUptoSaid : Prop := patternPrintsUptoRow.holds Tryd.pinned (OpenSpec.upto patternPrintsSpec)

/-- 'tabardlaw13.PatternJoins', WHERE WHAT IT READS IS OF BULK AT MOST 1048576: true; the input reads as it did. -/
def patternJoinsUptoRow : OpenClaim := { program := "ytmbhjogohfcjgaadoor", sum := "4d3c46432578c8dc22c2ab7b4df3e3974adb54996ffb42b74813dbbe1f1a0a01", func := "tabard/tabardlaw13.PatternJoins", spec := "patternJoins", inPlace := ["internal/bytealg.IndexByteString", "internal/bytealg.IndexString", "internal/abi.NoEscape", "internal/bytealg.MakeNoZero"], unfollowed := true, recurses := true, named := ["unicode/utf8.first", "unicode/utf8.acceptRanges", "internal/bytealg.MaxLen"], apart := false, laid := [("unicode/utf8.acceptRanges", laid_unicode_utf8_acceptRanges), ("unicode/utf8.first", laid_unicode_utf8_first)], narrowed := true }
def PatternJoinsUptoSaid : Prop := patternJoinsUptoRow.holds Tryd.pinned (OpenSpec.upto patternJoinsSpec)

end Rows
end Go.Proofs.YtmbhjogohfcjgaaDoor
