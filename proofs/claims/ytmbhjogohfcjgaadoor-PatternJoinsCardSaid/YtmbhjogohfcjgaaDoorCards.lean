/-
  DERIVED. GIVEN WITH THE SEED: THE CARDS: each row of YtmbhjogohfcjgaaDoorRows.lean that lists a variable, with what it lists TIED to the program's text (the seventh form; the later family's looks); each row that meets fmt, with fmt's text TOLD by the authors' own Lean function (tested against real Go, not proved from fmt's source: count such statements apart). THE CARD IS WHAT COUNTS. Prove the row's statement (the work); the ties are given (YtmbhjogohfcjgaaDoorTie.lean); close each card by the builder's one call (the guide's Derived/Test/ToyasCard.lean, 'card_holds'). Laid BY PROGRAM, IN A SANDBOX (cutbox-door.mjs). By AI agents, Wed Nov 11 2026. No macro, syntax, notation, axiom, sorry.
-/
import Derived.Test.YtmbhjogohfcjgaaDoorRows
import GoSem.ClaimSeven
namespace Go.Proofs.YtmbhjogohfcjgaaDoor
namespace Rows

/-- THE TIED CARD OF 'tabardlaw11.LocaleGroups'. -/
def localeGroupsCard : Claim7 := { stood := { row := localeGroupsRow, standIns := [], harness := (true, "ede2c4a536d7195fa4bfde61940c1531dd410eeeea4eaa1f19c670cb4ea721c6"), looks := true }, kinds := [], alts := [], laidByText := true, laidKinds := [.data, .data, .data, .pinned], laidTests := true, laidLooks := .later }
def LocaleGroupsCardSaid : Prop := Claim7.holds Tryd.pinned (.plain (OpenSpec.ofChange localeGroupsSpec)) localeGroupsCard

/-- THE TIED CARD OF 'tabardlaw11.LocaleWrites'. -/
def localeWritesCard : Claim7 := { stood := { row := localeWritesRow, standIns := [], harness := (true, "ede2c4a536d7195fa4bfde61940c1531dd410eeeea4eaa1f19c670cb4ea721c6"), looks := true }, kinds := [], alts := [], laidByText := true, laidKinds := [.data, .data, .data, .pinned], laidTests := true, laidLooks := .later }
def LocaleWritesCardSaid : Prop := Claim7.holds Tryd.pinned (.plain (OpenSpec.ofChange localeWritesSpec)) localeWritesCard

/-- THE TIED CARD OF 'tabardlaw11.LocaleBack'. -/
def localeBackCard : Claim7 := { stood := { row := localeBackRow, standIns := [], harness := (true, "ede2c4a536d7195fa4bfde61940c1531dd410eeeea4eaa1f19c670cb4ea721c6"), looks := true }, kinds := [], alts := [], laidByText := true, laidKinds := [.data, .data, .data, .pinned], laidTests := true, laidLooks := .later }
def LocaleBackCardSaid : Prop := Claim7.holds Tryd.pinned (.plain (OpenSpec.ofChange localeBackSpec)) localeBackCard

/-- THE TIED CARD OF 'tabardlaw11.LocaleFinds'. -/
def localeFindsCard : Claim7 := { stood := { row := localeFindsRow, standIns := [], harness := (true, "ede2c4a536d7195fa4bfde61940c1531dd410eeeea4eaa1f19c670cb4ea721c6"), looks := true }, kinds := [], alts := [], laidByText := true, laidKinds := [.data, .data, .data, .pinned], laidTests := true, laidLooks := .later }
def LocaleFindsCardSaid : Prop := Claim7.holds Tryd.pinned (.plain (OpenSpec.ofChange localeFindsSpec)) localeFindsCard

/-- THE TIED CARD OF 'tabardlaw13.PatternShapes'. -/
def patternShapesCard : Claim7 := { stood := { row := patternShapesRow, standIns := [], harness := (true, "ede2c4a536d7195fa4bfde61940c1531dd410eeeea4eaa1f19c670cb4ea721c6"), looks := true }, kinds := [], alts := [], laidByText := true, laidKinds := [.data, .pinned], laidTests := true, laidLooks := .later }
def PatternShapesCardSaid : Prop := Claim7.holds Tryd.pinned (.plain (OpenSpec.ofChange patternShapesSpec)) patternShapesCard

/-- THE TIED CARD OF 'tabardlaw13.PatternPrints'. -/
def patternPrintsCard : Claim7 := { stood := { row := patternPrintsRow, standIns := [], harness := (true, "ede2c4a536d7195fa4bfde61940c1531dd410eeeea4eaa1f19c670cb4ea721c6"), looks := true }, kinds := [], alts := [], laidByText := true, laidKinds := [.data, .pinned], laidTests := true, laidLooks := .later }
def PatternPrintsCardSaid : Prop := Claim7.holds Tryd.pinned (.plain (OpenSpec.ofChange patternPrintsSpec)) patternPrintsCard

/-- THE TIED CARD OF 'tabardlaw13.PatternJoins'. -/
def patternJoinsCard : Claim7 := { stood := { row := patternJoinsRow, standIns := [], harness := (true, "ede2c4a536d7195fa4bfde61940c1531dd410eeeea4eaa1f19c670cb4ea721c6"), looks := true }, kinds := [], alts := [], laidByText := true, laidKinds := [.data, .pinned], laidTests := true, laidLooks := .later }
def PatternJoinsCardSaid : Prop := Claim7.holds Tryd.pinned (.plain (OpenSpec.ofChange patternJoinsSpec)) patternJoinsCard

/-- THE SECOND FORM's CARD OF 'tabardlaw11.LocaleGroups'. -/
def localeGroupsUptoCard : Claim7 := { stood := { row := localeGroupsUptoRow, standIns := [], harness := (true, "ede2c4a536d7195fa4bfde61940c1531dd410eeeea4eaa1f19c670cb4ea721c6"), looks := true }, kinds := [], alts := [], laidByText := true, laidKinds := [.data, .data, .data, .pinned], laidTests := true, laidLooks := .later }
def LocaleGroupsUptoCardSaid : Prop := Claim7.holds Tryd.pinned (.plain (OpenSpec.upto localeGroupsSpec)) localeGroupsUptoCard

/-- THE SECOND FORM's CARD OF 'tabardlaw11.LocaleWrites'. -/
def localeWritesUptoCard : Claim7 := { stood := { row := localeWritesUptoRow, standIns := [], harness := (true, "ede2c4a536d7195fa4bfde61940c1531dd410eeeea4eaa1f19c670cb4ea721c6"), looks := true }, kinds := [], alts := [], laidByText := true, laidKinds := [.data, .data, .data, .pinned], laidTests := true, laidLooks := .later }
def LocaleWritesUptoCardSaid : Prop := Claim7.holds Tryd.pinned (.plain (OpenSpec.upto localeWritesSpec)) localeWritesUptoCard

/-- THE SECOND FORM's CARD OF 'tabardlaw11.LocaleBack'. -/
def localeBackUptoCard : Claim7 := { stood := { row := localeBackUptoRow, standIns := [], harness := (true, "ede2c4a536d7195fa4bfde61940c1531dd410eeeea4eaa1f19c670cb4ea721c6"), looks := true }, kinds := [], alts := [], laidByText := true, laidKinds := [.data, .data, .data, .pinned], laidTests := true, laidLooks := .later }
def LocaleBackUptoCardSaid : Prop := Claim7.holds Tryd.pinned (.plain (OpenSpec.upto localeBackSpec)) localeBackUptoCard

/-- THE SECOND FORM's CARD OF 'tabardlaw11.LocaleFinds'. -/
def localeFindsUptoCard : Claim7 := { stood := { row := localeFindsUptoRow, standIns := [], harness := (true, "ede2c4a536d7195fa4bfde61940c1531dd410eeeea4eaa1f19c670cb4ea721c6"), looks := true }, kinds := [], alts := [], laidByText := true, laidKinds := [.data, .data, .data, .pinned], laidTests := true, laidLooks := .later }
def LocaleFindsUptoCardSaid : Prop := Claim7.holds Tryd.pinned (.plain (OpenSpec.upto localeFindsSpec)) localeFindsUptoCard

/-- THE SECOND FORM's CARD OF 'tabardlaw13.PatternShapes'. -/
def patternShapesUptoCard : Claim7 := { stood := { row := patternShapesUptoRow, standIns := [], harness := (true, "ede2c4a536d7195fa4bfde61940c1531dd410eeeea4eaa1f19c670cb4ea721c6"), looks := true }, kinds := [], alts := [], laidByText := true, laidKinds := [.data, .pinned], laidTests := true, laidLooks := .later }
def PatternShapesUptoCardSaid : Prop := Claim7.holds Tryd.pinned (.plain (OpenSpec.upto patternShapesSpec)) patternShapesUptoCard

/-- THE SECOND FORM's CARD OF 'tabardlaw13.PatternPrints'. -/
def patternPrintsUptoCard : Claim7 := { stood := { row := patternPrintsUptoRow, standIns := [], harness := (true, "ede2c4a536d7195fa4bfde61940c1531dd410eeeea4eaa1f19c670cb4ea721c6"), looks := true }, kinds := [], alts := [], laidByText := true, laidKinds := [.data, .pinned], laidTests := true, laidLooks := .later }
def PatternPrintsUptoCardSaid : Prop := Claim7.holds Tryd.pinned (.plain (OpenSpec.upto patternPrintsSpec)) patternPrintsUptoCard

/-- THE SECOND FORM's CARD OF 'tabardlaw13.PatternJoins'. -/
def patternJoinsUptoCard : Claim7 := { stood := { row := patternJoinsUptoRow, standIns := [], harness := (true, "ede2c4a536d7195fa4bfde61940c1531dd410eeeea4eaa1f19c670cb4ea721c6"), looks := true }, kinds := [], alts := [], laidByText := true, laidKinds := [.data, .pinned], laidTests := true, laidLooks := .later }
def PatternJoinsUptoCardSaid : Prop := Claim7.holds Tryd.pinned (.plain (OpenSpec.upto patternJoinsSpec)) patternJoinsUptoCard
end Rows
end Go.Proofs.YtmbhjogohfcjgaaDoor
