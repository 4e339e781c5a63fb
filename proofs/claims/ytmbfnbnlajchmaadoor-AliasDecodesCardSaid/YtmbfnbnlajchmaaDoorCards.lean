/-
  DERIVED. GIVEN WITH THE SEED: THE CARDS: each row of YtmbfnbnlajchmaaDoorRows.lean that lists a variable, with what it lists TIED to the program's text (the seventh form; the later family's looks); each row that meets fmt, with fmt's text TOLD by the authors' own Lean function (tested against real Go, not proved from fmt's source: count such statements apart). THE CARD IS WHAT COUNTS. Prove the row's statement (the work); the ties are given (YtmbfnbnlajchmaaDoorTie.lean); close each card by the builder's one call (the guide's Derived/Test/ToyasCard.lean, 'card_holds'). Laid BY PROGRAM, IN A SANDBOX (cutbox-door.mjs). By AI agents, Wed Nov 11 2026. No macro, syntax, notation, axiom, sorry.
-/
import Derived.Test.YtmbfnbnlajchmaaDoorRows
import GoSem.ClaimSeven
namespace Go.Proofs.YtmbfnbnlajchmaaDoor
namespace Rows

/-- THE TIED CARD OF 'isoglosslaw05.GrandFinds'. -/
def grandFindsCard : Claim7 := { stood := { row := grandFindsRow, standIns := [], harness := (true, "6a18041be7856e83a7803a4fd4827aeaa05faed70f5690650cc4c92293e75888"), looks := false }, kinds := [], alts := [], laidByText := true, laidKinds := [.data], laidTests := true, laidLooks := .later }
def GrandFindsCardSaid : Prop := Claim7.holds Tryd.pinned (.plain (OpenSpec.ofChange grandFindsSpec)) grandFindsCard

/-- THE TIED CARD OF 'isoglosslaw05.GrandAll'. -/
def grandAllCard : Claim7 := { stood := { row := grandAllRow, standIns := [], harness := (true, "6a18041be7856e83a7803a4fd4827aeaa05faed70f5690650cc4c92293e75888"), looks := false }, kinds := [], alts := [], laidByText := true, laidKinds := [.data], laidTests := true, laidLooks := .later }
def GrandAllCardSaid : Prop := Claim7.holds Tryd.pinned (.plain (OpenSpec.ofChange grandAllSpec)) grandAllCard

/-- THE TIED CARD OF 'isoglosslaw05.GrandCases'. -/
def grandCasesCard : Claim7 := { stood := { row := grandCasesRow, standIns := [], harness := (true, "6a18041be7856e83a7803a4fd4827aeaa05faed70f5690650cc4c92293e75888"), looks := false }, kinds := [], alts := [], laidByText := true, laidKinds := [.data], laidTests := true, laidLooks := .later }
def GrandCasesCardSaid : Prop := Claim7.holds Tryd.pinned (.plain (OpenSpec.ofChange grandCasesSpec)) grandCasesCard

/-- THE TIED CARD OF 'isoglosslaw05.GrandNames'. -/
def grandNamesCard : Claim7 := { stood := { row := grandNamesRow, standIns := [], harness := (true, "6a18041be7856e83a7803a4fd4827aeaa05faed70f5690650cc4c92293e75888"), looks := false }, kinds := [], alts := [], laidByText := true, laidKinds := [.data], laidTests := true, laidLooks := .later }
def GrandNamesCardSaid : Prop := Claim7.holds Tryd.pinned (.plain (OpenSpec.ofChange grandNamesSpec)) grandNamesCard

/-- THE TIED CARD OF 'isoglosslaw05.GrandTags'. -/
def grandTagsCard : Claim7 := { stood := { row := grandTagsRow, standIns := [], harness := (true, "6a18041be7856e83a7803a4fd4827aeaa05faed70f5690650cc4c92293e75888"), looks := false }, kinds := [], alts := [], laidByText := true, laidKinds := [.data], laidTests := true, laidLooks := .later }
def GrandTagsCardSaid : Prop := Claim7.holds Tryd.pinned (.plain (OpenSpec.ofChange grandTagsSpec)) grandTagsCard

/-- THE TIED CARD OF 'isoglosslaw12.AliasTells'. -/
def aliasTellsCard : Claim7 := { stood := { row := aliasTellsRow, standIns := [], harness := (true, "6a18041be7856e83a7803a4fd4827aeaa05faed70f5690650cc4c92293e75888"), looks := false }, kinds := [], alts := [], laidByText := true, laidKinds := [.data], laidTests := true, laidLooks := .later }
def AliasTellsCardSaid : Prop := Claim7.holds Tryd.pinned (.plain (OpenSpec.ofChange aliasTellsSpec)) aliasTellsCard

/-- THE TIED CARD OF 'isoglosslaw12.AliasSmall'. -/
def aliasSmallCard : Claim7 := { stood := { row := aliasSmallRow, standIns := [], harness := (true, "6a18041be7856e83a7803a4fd4827aeaa05faed70f5690650cc4c92293e75888"), looks := false }, kinds := [], alts := [], laidByText := true, laidKinds := [.data], laidTests := true, laidLooks := .later }
def AliasSmallCardSaid : Prop := Claim7.holds Tryd.pinned (.plain (OpenSpec.ofChange aliasSmallSpec)) aliasSmallCard

/-- THE TIED CARD OF 'isoglosslaw12.AliasKeys'. -/
def aliasKeysCard : Claim7 := { stood := { row := aliasKeysRow, standIns := [], harness := (true, "6a18041be7856e83a7803a4fd4827aeaa05faed70f5690650cc4c92293e75888"), looks := false }, kinds := [], alts := [], laidByText := true, laidKinds := [.data], laidTests := true, laidLooks := .later }
def AliasKeysCardSaid : Prop := Claim7.holds Tryd.pinned (.plain (OpenSpec.ofChange aliasKeysSpec)) aliasKeysCard

/-- THE TIED CARD OF 'isoglosslaw12.AliasOrders'. -/
def aliasOrdersCard : Claim7 := { stood := { row := aliasOrdersRow, standIns := [], harness := (true, "6a18041be7856e83a7803a4fd4827aeaa05faed70f5690650cc4c92293e75888"), looks := false }, kinds := [], alts := [], laidByText := true, laidKinds := [.data], laidTests := true, laidLooks := .later }
def AliasOrdersCardSaid : Prop := Claim7.holds Tryd.pinned (.plain (OpenSpec.ofChange aliasOrdersSpec)) aliasOrdersCard

/-- THE TIED CARD OF 'isoglosslaw12.AliasDecodes'. -/
def aliasDecodesCard : Claim7 := { stood := { row := aliasDecodesRow, standIns := [], harness := (true, "6a18041be7856e83a7803a4fd4827aeaa05faed70f5690650cc4c92293e75888"), looks := false }, kinds := [], alts := [], laidByText := true, laidKinds := [.data], laidTests := true, laidLooks := .later }
def AliasDecodesCardSaid : Prop := Claim7.holds Tryd.pinned (.plain (OpenSpec.ofChange aliasDecodesSpec)) aliasDecodesCard

/-- THE TIED CARD OF 'isoglosslaw12.AliasBack'. -/
def aliasBackCard : Claim7 := { stood := { row := aliasBackRow, standIns := [], harness := (true, "6a18041be7856e83a7803a4fd4827aeaa05faed70f5690650cc4c92293e75888"), looks := false }, kinds := [], alts := [], laidByText := true, laidKinds := [.data], laidTests := true, laidLooks := .later }
def AliasBackCardSaid : Prop := Claim7.holds Tryd.pinned (.plain (OpenSpec.ofChange aliasBackSpec)) aliasBackCard

/-- THE SECOND FORM's CARD OF 'isoglosslaw05.GrandFinds'. -/
def grandFindsUptoCard : Claim7 := { stood := { row := grandFindsUptoRow, standIns := [], harness := (true, "6a18041be7856e83a7803a4fd4827aeaa05faed70f5690650cc4c92293e75888"), looks := false }, kinds := [], alts := [], laidByText := true, laidKinds := [.data], laidTests := true, laidLooks := .later }
def GrandFindsUptoCardSaid : Prop := Claim7.holds Tryd.pinned (.plain (OpenSpec.upto grandFindsSpec)) grandFindsUptoCard

/-- THE SECOND FORM's CARD OF 'isoglosslaw05.GrandAll'. -/
def grandAllUptoCard : Claim7 := { stood := { row := grandAllUptoRow, standIns := [], harness := (true, "6a18041be7856e83a7803a4fd4827aeaa05faed70f5690650cc4c92293e75888"), looks := false }, kinds := [], alts := [], laidByText := true, laidKinds := [.data], laidTests := true, laidLooks := .later }
def GrandAllUptoCardSaid : Prop := Claim7.holds Tryd.pinned (.plain (OpenSpec.upto grandAllSpec)) grandAllUptoCard

/-- THE SECOND FORM's CARD OF 'isoglosslaw05.GrandCases'. -/
def grandCasesUptoCard : Claim7 := { stood := { row := grandCasesUptoRow, standIns := [], harness := (true, "6a18041be7856e83a7803a4fd4827aeaa05faed70f5690650cc4c92293e75888"), looks := false }, kinds := [], alts := [], laidByText := true, laidKinds := [.data], laidTests := true, laidLooks := .later }
def GrandCasesUptoCardSaid : Prop := Claim7.holds Tryd.pinned (.plain (OpenSpec.upto grandCasesSpec)) grandCasesUptoCard

/-- THE SECOND FORM's CARD OF 'isoglosslaw05.GrandNames'. -/
def grandNamesUptoCard : Claim7 := { stood := { row := grandNamesUptoRow, standIns := [], harness := (true, "6a18041be7856e83a7803a4fd4827aeaa05faed70f5690650cc4c92293e75888"), looks := false }, kinds := [], alts := [], laidByText := true, laidKinds := [.data], laidTests := true, laidLooks := .later }
def GrandNamesUptoCardSaid : Prop := Claim7.holds Tryd.pinned (.plain (OpenSpec.upto grandNamesSpec)) grandNamesUptoCard

/-- THE SECOND FORM's CARD OF 'isoglosslaw05.GrandTags'. -/
def grandTagsUptoCard : Claim7 := { stood := { row := grandTagsUptoRow, standIns := [], harness := (true, "6a18041be7856e83a7803a4fd4827aeaa05faed70f5690650cc4c92293e75888"), looks := false }, kinds := [], alts := [], laidByText := true, laidKinds := [.data], laidTests := true, laidLooks := .later }
def GrandTagsUptoCardSaid : Prop := Claim7.holds Tryd.pinned (.plain (OpenSpec.upto grandTagsSpec)) grandTagsUptoCard

/-- THE SECOND FORM's CARD OF 'isoglosslaw12.AliasTells'. -/
def aliasTellsUptoCard : Claim7 := { stood := { row := aliasTellsUptoRow, standIns := [], harness := (true, "6a18041be7856e83a7803a4fd4827aeaa05faed70f5690650cc4c92293e75888"), looks := false }, kinds := [], alts := [], laidByText := true, laidKinds := [.data], laidTests := true, laidLooks := .later }
def AliasTellsUptoCardSaid : Prop := Claim7.holds Tryd.pinned (.plain (OpenSpec.upto aliasTellsSpec)) aliasTellsUptoCard

/-- THE SECOND FORM's CARD OF 'isoglosslaw12.AliasSmall'. -/
def aliasSmallUptoCard : Claim7 := { stood := { row := aliasSmallUptoRow, standIns := [], harness := (true, "6a18041be7856e83a7803a4fd4827aeaa05faed70f5690650cc4c92293e75888"), looks := false }, kinds := [], alts := [], laidByText := true, laidKinds := [.data], laidTests := true, laidLooks := .later }
def AliasSmallUptoCardSaid : Prop := Claim7.holds Tryd.pinned (.plain (OpenSpec.upto aliasSmallSpec)) aliasSmallUptoCard

/-- THE SECOND FORM's CARD OF 'isoglosslaw12.AliasKeys'. -/
def aliasKeysUptoCard : Claim7 := { stood := { row := aliasKeysUptoRow, standIns := [], harness := (true, "6a18041be7856e83a7803a4fd4827aeaa05faed70f5690650cc4c92293e75888"), looks := false }, kinds := [], alts := [], laidByText := true, laidKinds := [.data], laidTests := true, laidLooks := .later }
def AliasKeysUptoCardSaid : Prop := Claim7.holds Tryd.pinned (.plain (OpenSpec.upto aliasKeysSpec)) aliasKeysUptoCard

/-- THE SECOND FORM's CARD OF 'isoglosslaw12.AliasOrders'. -/
def aliasOrdersUptoCard : Claim7 := { stood := { row := aliasOrdersUptoRow, standIns := [], harness := (true, "6a18041be7856e83a7803a4fd4827aeaa05faed70f5690650cc4c92293e75888"), looks := false }, kinds := [], alts := [], laidByText := true, laidKinds := [.data], laidTests := true, laidLooks := .later }
def AliasOrdersUptoCardSaid : Prop := Claim7.holds Tryd.pinned (.plain (OpenSpec.upto aliasOrdersSpec)) aliasOrdersUptoCard

/-- THE SECOND FORM's CARD OF 'isoglosslaw12.AliasDecodes'. -/
def aliasDecodesUptoCard : Claim7 := { stood := { row := aliasDecodesUptoRow, standIns := [], harness := (true, "6a18041be7856e83a7803a4fd4827aeaa05faed70f5690650cc4c92293e75888"), looks := false }, kinds := [], alts := [], laidByText := true, laidKinds := [.data], laidTests := true, laidLooks := .later }
def AliasDecodesUptoCardSaid : Prop := Claim7.holds Tryd.pinned (.plain (OpenSpec.upto aliasDecodesSpec)) aliasDecodesUptoCard

/-- THE SECOND FORM's CARD OF 'isoglosslaw12.AliasBack'. -/
def aliasBackUptoCard : Claim7 := { stood := { row := aliasBackUptoRow, standIns := [], harness := (true, "6a18041be7856e83a7803a4fd4827aeaa05faed70f5690650cc4c92293e75888"), looks := false }, kinds := [], alts := [], laidByText := true, laidKinds := [.data], laidTests := true, laidLooks := .later }
def AliasBackUptoCardSaid : Prop := Claim7.holds Tryd.pinned (.plain (OpenSpec.upto aliasBackSpec)) aliasBackUptoCard
end Rows
end Go.Proofs.YtmbfnbnlajchmaaDoor
