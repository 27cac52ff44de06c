/-
  DERIVED. GIVEN WITH THE SEED: THE CARDS: each row of YtkgafkoopefghaaGreatDoorRows.lean that lists a variable, with what it lists TIED to the program's text (the seventh form; the later family's looks); each row that meets fmt, with fmt's text TOLD by the authors' own Lean function (tested against real Go, not proved from fmt's source: count such statements apart). THE CARD IS WHAT COUNTS. Prove the row's statement (the work); the ties are given (YtkgafkoopefghaaGreatDoorTie.lean); close each card by the builder's one call (the guide's Derived/Test/ToyasCard.lean, 'card_holds'). Laid BY PROGRAM, IN A SANDBOX (cutbox-door.mjs). By AI agents, Wed Nov 11 2026. No macro, syntax, notation, axiom, sorry.
-/
import Derived.Test.YtkgafkoopefghaaGreatDoorRows
import GoSem.ClaimSeven
namespace Go.Proofs.YtkgafkoopefghaaGreatDoor
namespace Rows

/-- THE TIED CARD OF 'majordomolaw06.ResourceChecks'. -/
def resourceChecksCard : Claim7 := { stood := { row := resourceChecksRow, standIns := [], harness := (true, "f8e83be3899594adff0d1b28a68e5c716942147ac0a556ced4eb70b5be65fce2"), looks := true }, kinds := [], alts := [], laidByText := true, laidKinds := [.data, .pinned], laidTests := true, laidLooks := .later }
def ResourceChecksCardSaid : Prop := Claim7.holds Tryz.pinned (.plain (OpenSpec.ofChange resourceChecksSpec)) resourceChecksCard

/-- THE TIED CARD OF 'majordomolaw07.CatalogWrites'. -/
def catalogWritesCard : Claim7 := { stood := { row := catalogWritesRow, standIns := [], harness := (true, "f8e83be3899594adff0d1b28a68e5c716942147ac0a556ced4eb70b5be65fce2"), looks := true }, kinds := [], alts := [], laidByText := true, laidKinds := [.data, .pinned], laidTests := true, laidLooks := .later }
def CatalogWritesCardSaid : Prop := Claim7.holds Tryz.pinned (.plain (OpenSpec.ofChange catalogWritesSpec)) catalogWritesCard

/-- THE TIED CARD OF 'majordomolaw07.CatalogReads'. -/
def catalogReadsCard : Claim7 := { stood := { row := catalogReadsRow, standIns := [], harness := (true, "f8e83be3899594adff0d1b28a68e5c716942147ac0a556ced4eb70b5be65fce2"), looks := true }, kinds := [], alts := [], laidByText := true, laidKinds := [.data, .pinned], laidTests := true, laidLooks := .later }
def CatalogReadsCardSaid : Prop := Claim7.holds Tryz.pinned (.plain (OpenSpec.ofChange catalogReadsSpec)) catalogReadsCard

/-- THE TIED CARD OF 'majordomolaw07.CatalogUnlike'. -/
def catalogUnlikeCard : Claim7 := { stood := { row := catalogUnlikeRow, standIns := [], harness := (true, "f8e83be3899594adff0d1b28a68e5c716942147ac0a556ced4eb70b5be65fce2"), looks := true }, kinds := [], alts := [], laidByText := true, laidKinds := [.data, .pinned], laidTests := true, laidLooks := .later }
def CatalogUnlikeCardSaid : Prop := Claim7.holds Tryz.pinned (.plain (OpenSpec.ofChange catalogUnlikeSpec)) catalogUnlikeCard

/-- THE TIED CARD OF 'majordomolaw07.CatalogCuts'. -/
def catalogCutsCard : Claim7 := { stood := { row := catalogCutsRow, standIns := [], harness := (true, "f8e83be3899594adff0d1b28a68e5c716942147ac0a556ced4eb70b5be65fce2"), looks := true }, kinds := [], alts := [], laidByText := true, laidKinds := [.data, .pinned], laidTests := true, laidLooks := .later }
def CatalogCutsCardSaid : Prop := Claim7.holds Tryz.pinned (.plain (OpenSpec.ofChange catalogCutsSpec)) catalogCutsCard

/-- THE TIED CARD OF 'majordomolaw07.CatalogSwaps'. -/
def catalogSwapsCard : Claim7 := { stood := { row := catalogSwapsRow, standIns := [], harness := (true, "f8e83be3899594adff0d1b28a68e5c716942147ac0a556ced4eb70b5be65fce2"), looks := true }, kinds := [], alts := [], laidByText := true, laidKinds := [.data, .pinned], laidTests := true, laidLooks := .later }
def CatalogSwapsCardSaid : Prop := Claim7.holds Tryz.pinned (.plain (OpenSpec.ofChange catalogSwapsSpec)) catalogSwapsCard

/-- THE TIED CARD OF 'majordomolaw07.CatalogFinds'. -/
def catalogFindsCard : Claim7 := { stood := { row := catalogFindsRow, standIns := [], harness := (true, "f8e83be3899594adff0d1b28a68e5c716942147ac0a556ced4eb70b5be65fce2"), looks := true }, kinds := [], alts := [], laidByText := true, laidKinds := [.data, .pinned], laidTests := true, laidLooks := .later }
def CatalogFindsCardSaid : Prop := Claim7.holds Tryz.pinned (.plain (OpenSpec.ofChange catalogFindsSpec)) catalogFindsCard

/-- THE SECOND FORM's CARD OF 'majordomolaw06.ResourceChecks'. -/
def resourceChecksUptoCard : Claim7 := { stood := { row := resourceChecksUptoRow, standIns := [], harness := (true, "f8e83be3899594adff0d1b28a68e5c716942147ac0a556ced4eb70b5be65fce2"), looks := true }, kinds := [], alts := [], laidByText := true, laidKinds := [.data, .pinned], laidTests := true, laidLooks := .later }
def ResourceChecksUptoCardSaid : Prop := Claim7.holds Tryz.pinned (.plain (OpenSpec.upto resourceChecksSpec)) resourceChecksUptoCard

/-- THE SECOND FORM's CARD OF 'majordomolaw07.CatalogWrites'. -/
def catalogWritesUptoCard : Claim7 := { stood := { row := catalogWritesUptoRow, standIns := [], harness := (true, "f8e83be3899594adff0d1b28a68e5c716942147ac0a556ced4eb70b5be65fce2"), looks := true }, kinds := [], alts := [], laidByText := true, laidKinds := [.data, .pinned], laidTests := true, laidLooks := .later }
def CatalogWritesUptoCardSaid : Prop := Claim7.holds Tryz.pinned (.plain (OpenSpec.upto catalogWritesSpec)) catalogWritesUptoCard

/-- THE SECOND FORM's CARD OF 'majordomolaw07.CatalogReads'. -/
def catalogReadsUptoCard : Claim7 := { stood := { row := catalogReadsUptoRow, standIns := [], harness := (true, "f8e83be3899594adff0d1b28a68e5c716942147ac0a556ced4eb70b5be65fce2"), looks := true }, kinds := [], alts := [], laidByText := true, laidKinds := [.data, .pinned], laidTests := true, laidLooks := .later }
def CatalogReadsUptoCardSaid : Prop := Claim7.holds Tryz.pinned (.plain (OpenSpec.upto catalogReadsSpec)) catalogReadsUptoCard

/-- THE SECOND FORM's CARD OF 'majordomolaw07.CatalogUnlike'. -/
def catalogUnlikeUptoCard : Claim7 := { stood := { row := catalogUnlikeUptoRow, standIns := [], harness := (true, "f8e83be3899594adff0d1b28a68e5c716942147ac0a556ced4eb70b5be65fce2"), looks := true }, kinds := [], alts := [], laidByText := true, laidKinds := [.data, .pinned], laidTests := true, laidLooks := .later }
def CatalogUnlikeUptoCardSaid : Prop := Claim7.holds Tryz.pinned (.plain (OpenSpec.upto catalogUnlikeSpec)) catalogUnlikeUptoCard

/-- THE SECOND FORM's CARD OF 'majordomolaw07.CatalogCuts'. -/
def catalogCutsUptoCard : Claim7 := { stood := { row := catalogCutsUptoRow, standIns := [], harness := (true, "f8e83be3899594adff0d1b28a68e5c716942147ac0a556ced4eb70b5be65fce2"), looks := true }, kinds := [], alts := [], laidByText := true, laidKinds := [.data, .pinned], laidTests := true, laidLooks := .later }
def CatalogCutsUptoCardSaid : Prop := Claim7.holds Tryz.pinned (.plain (OpenSpec.upto catalogCutsSpec)) catalogCutsUptoCard

/-- THE SECOND FORM's CARD OF 'majordomolaw07.CatalogSwaps'. -/
def catalogSwapsUptoCard : Claim7 := { stood := { row := catalogSwapsUptoRow, standIns := [], harness := (true, "f8e83be3899594adff0d1b28a68e5c716942147ac0a556ced4eb70b5be65fce2"), looks := true }, kinds := [], alts := [], laidByText := true, laidKinds := [.data, .pinned], laidTests := true, laidLooks := .later }
def CatalogSwapsUptoCardSaid : Prop := Claim7.holds Tryz.pinned (.plain (OpenSpec.upto catalogSwapsSpec)) catalogSwapsUptoCard

/-- THE SECOND FORM's CARD OF 'majordomolaw07.CatalogFinds'. -/
def catalogFindsUptoCard : Claim7 := { stood := { row := catalogFindsUptoRow, standIns := [], harness := (true, "f8e83be3899594adff0d1b28a68e5c716942147ac0a556ced4eb70b5be65fce2"), looks := true }, kinds := [], alts := [], laidByText := true, laidKinds := [.data, .pinned], laidTests := true, laidLooks := .later }
def CatalogFindsUptoCardSaid : Prop := Claim7.holds Tryz.pinned (.plain (OpenSpec.upto catalogFindsSpec)) catalogFindsUptoCard
end Rows
end Go.Proofs.YtkgafkoopefghaaGreatDoor
