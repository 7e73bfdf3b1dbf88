/-
  DERIVED. GIVEN WITH THE SEED: THE CARDS: each row of YtfjdijphpcddnaaDoorRows.lean that lists a variable, with what it lists TIED to the program's text (the seventh form; the later family's looks); each row that meets fmt, with fmt's text TOLD by the authors' own Lean function (tested against real Go, not proved from fmt's source: count such statements apart). THE CARD IS WHAT COUNTS. Prove the row's statement (the work); the ties are given (YtfjdijphpcddnaaDoorTie.lean); close each card by the builder's one call (the guide's Derived/Test/ToyasCard.lean, 'card_holds'). Laid BY PROGRAM, IN A SANDBOX (cutbox-door.mjs). By AI agents, Wed Nov 11 2026. No macro, syntax, notation, axiom, sorry.
-/
import Derived.Test.YtfjdijphpcddnaaDoorRows
import GoSem.ClaimSeven
namespace Go.Proofs.YtfjdijphpcddnaaDoor
namespace Rows

/-- THE TIED CARD OF 'milestonelaw01.PrefixOf'. -/
def prefixOfCard : Claim7 := { stood := { row := prefixOfRow, standIns := [], harness := (true, "07d0c9edde097ca835d45bf0ae9c934ccd58ee60c99b79548115e47a75e22404"), looks := false }, kinds := [], alts := [], laidByText := true, laidKinds := [.data, .data, .data], laidTests := true, laidLooks := .later }
def PrefixOfCardSaid : Prop := Claim7.holds Tryd.pinned (.plain (OpenSpec.ofChange prefixOfSpec)) prefixOfCard

/-- THE TIED CARD OF 'milestonelaw01.PrefixHas'. -/
def prefixHasCard : Claim7 := { stood := { row := prefixHasRow, standIns := [], harness := (true, "07d0c9edde097ca835d45bf0ae9c934ccd58ee60c99b79548115e47a75e22404"), looks := false }, kinds := [], alts := [], laidByText := true, laidKinds := [.data, .data, .data], laidTests := true, laidLooks := .later }
def PrefixHasCardSaid : Prop := Claim7.holds Tryd.pinned (.plain (OpenSpec.ofChange prefixHasSpec)) prefixHasCard

/-- THE TIED CARD OF 'milestonelaw01.PrefixCommon'. -/
def prefixCommonCard : Claim7 := { stood := { row := prefixCommonRow, standIns := [], harness := (true, "07d0c9edde097ca835d45bf0ae9c934ccd58ee60c99b79548115e47a75e22404"), looks := false }, kinds := [], alts := [], laidByText := true, laidKinds := [.data, .data, .data], laidTests := true, laidLooks := .later }
def PrefixCommonCardSaid : Prop := Claim7.holds Tryd.pinned (.plain (OpenSpec.ofChange prefixCommonSpec)) prefixCommonCard

/-- THE TIED CARD OF 'milestonelaw01.PrefixNests'. -/
def prefixNestsCard : Claim7 := { stood := { row := prefixNestsRow, standIns := [], harness := (true, "07d0c9edde097ca835d45bf0ae9c934ccd58ee60c99b79548115e47a75e22404"), looks := false }, kinds := [], alts := [], laidByText := true, laidKinds := [.data, .data, .data], laidTests := true, laidLooks := .later }
def PrefixNestsCardSaid : Prop := Claim7.holds Tryd.pinned (.plain (OpenSpec.ofChange prefixNestsSpec)) prefixNestsCard

/-- THE TIED CARD OF 'milestonelaw01.PrefixTexts'. -/
def prefixTextsCard : Claim7 := { stood := { row := prefixTextsRow, standIns := [], harness := (true, "07d0c9edde097ca835d45bf0ae9c934ccd58ee60c99b79548115e47a75e22404"), looks := false }, kinds := [], alts := [], laidByText := true, laidKinds := [.data, .data, .data], laidTests := true, laidLooks := .later }
def PrefixTextsCardSaid : Prop := Claim7.holds Tryd.pinned (.plain (OpenSpec.ofChange prefixTextsSpec)) prefixTextsCard

/-- THE TIED CARD OF 'milestonelaw01.PrefixParses'. -/
def prefixParsesCard : Claim7 := { stood := { row := prefixParsesRow, standIns := [], harness := (true, "07d0c9edde097ca835d45bf0ae9c934ccd58ee60c99b79548115e47a75e22404"), looks := false }, kinds := [], alts := [], laidByText := true, laidKinds := [.data, .data, .data], laidTests := true, laidLooks := .later }
def PrefixParsesCardSaid : Prop := Claim7.holds Tryd.pinned (.plain (OpenSpec.ofChange prefixParsesSpec)) prefixParsesCard

/-- THE TIED CARD OF 'milestonelaw01.PrefixOrders'. -/
def prefixOrdersCard : Claim7 := { stood := { row := prefixOrdersRow, standIns := [], harness := (true, "07d0c9edde097ca835d45bf0ae9c934ccd58ee60c99b79548115e47a75e22404"), looks := false }, kinds := [], alts := [], laidByText := true, laidKinds := [.data, .data, .data], laidTests := true, laidLooks := .later }
def PrefixOrdersCardSaid : Prop := Claim7.holds Tryd.pinned (.plain (OpenSpec.ofChange prefixOrdersSpec)) prefixOrdersCard

/-- THE SECOND FORM's CARD OF 'milestonelaw01.PrefixOf'. -/
def prefixOfUptoCard : Claim7 := { stood := { row := prefixOfUptoRow, standIns := [], harness := (true, "07d0c9edde097ca835d45bf0ae9c934ccd58ee60c99b79548115e47a75e22404"), looks := false }, kinds := [], alts := [], laidByText := true, laidKinds := [.data, .data, .data], laidTests := true, laidLooks := .later }
def PrefixOfUptoCardSaid : Prop := Claim7.holds Tryd.pinned (.plain (OpenSpec.upto prefixOfSpec)) prefixOfUptoCard

/-- THE SECOND FORM's CARD OF 'milestonelaw01.PrefixHas'. -/
def prefixHasUptoCard : Claim7 := { stood := { row := prefixHasUptoRow, standIns := [], harness := (true, "07d0c9edde097ca835d45bf0ae9c934ccd58ee60c99b79548115e47a75e22404"), looks := false }, kinds := [], alts := [], laidByText := true, laidKinds := [.data, .data, .data], laidTests := true, laidLooks := .later }
def PrefixHasUptoCardSaid : Prop := Claim7.holds Tryd.pinned (.plain (OpenSpec.upto prefixHasSpec)) prefixHasUptoCard

/-- THE SECOND FORM's CARD OF 'milestonelaw01.PrefixCommon'. -/
def prefixCommonUptoCard : Claim7 := { stood := { row := prefixCommonUptoRow, standIns := [], harness := (true, "07d0c9edde097ca835d45bf0ae9c934ccd58ee60c99b79548115e47a75e22404"), looks := false }, kinds := [], alts := [], laidByText := true, laidKinds := [.data, .data, .data], laidTests := true, laidLooks := .later }
def PrefixCommonUptoCardSaid : Prop := Claim7.holds Tryd.pinned (.plain (OpenSpec.upto prefixCommonSpec)) prefixCommonUptoCard

/-- THE SECOND FORM's CARD OF 'milestonelaw01.PrefixNests'. -/
def prefixNestsUptoCard : Claim7 := { stood := { row := prefixNestsUptoRow, standIns := [], harness := (true, "07d0c9edde097ca835d45bf0ae9c934ccd58ee60c99b79548115e47a75e22404"), looks := false }, kinds := [], alts := [], laidByText := true, laidKinds := [.data, .data, .data], laidTests := true, laidLooks := .later }
def PrefixNestsUptoCardSaid : Prop := Claim7.holds Tryd.pinned (.plain (OpenSpec.upto prefixNestsSpec)) prefixNestsUptoCard

/-- THE SECOND FORM's CARD OF 'milestonelaw01.PrefixTexts'. -/
def prefixTextsUptoCard : Claim7 := { stood := { row := prefixTextsUptoRow, standIns := [], harness := (true, "07d0c9edde097ca835d45bf0ae9c934ccd58ee60c99b79548115e47a75e22404"), looks := false }, kinds := [], alts := [], laidByText := true, laidKinds := [.data, .data, .data], laidTests := true, laidLooks := .later }
def PrefixTextsUptoCardSaid : Prop := Claim7.holds Tryd.pinned (.plain (OpenSpec.upto prefixTextsSpec)) prefixTextsUptoCard

/-- THE SECOND FORM's CARD OF 'milestonelaw01.PrefixParses'. -/
def prefixParsesUptoCard : Claim7 := { stood := { row := prefixParsesUptoRow, standIns := [], harness := (true, "07d0c9edde097ca835d45bf0ae9c934ccd58ee60c99b79548115e47a75e22404"), looks := false }, kinds := [], alts := [], laidByText := true, laidKinds := [.data, .data, .data], laidTests := true, laidLooks := .later }
def PrefixParsesUptoCardSaid : Prop := Claim7.holds Tryd.pinned (.plain (OpenSpec.upto prefixParsesSpec)) prefixParsesUptoCard

/-- THE SECOND FORM's CARD OF 'milestonelaw01.PrefixOrders'. -/
def prefixOrdersUptoCard : Claim7 := { stood := { row := prefixOrdersUptoRow, standIns := [], harness := (true, "07d0c9edde097ca835d45bf0ae9c934ccd58ee60c99b79548115e47a75e22404"), looks := false }, kinds := [], alts := [], laidByText := true, laidKinds := [.data, .data, .data], laidTests := true, laidLooks := .later }
def PrefixOrdersUptoCardSaid : Prop := Claim7.holds Tryd.pinned (.plain (OpenSpec.upto prefixOrdersSpec)) prefixOrdersUptoCard
end Rows
end Go.Proofs.YtfjdijphpcddnaaDoor
