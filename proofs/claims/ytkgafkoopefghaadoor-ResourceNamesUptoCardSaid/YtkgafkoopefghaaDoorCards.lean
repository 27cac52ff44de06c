/-
  DERIVED. GIVEN WITH THE SEED: THE CARDS: each row of YtkgafkoopefghaaDoorRows.lean that lists a variable, with what it lists TIED to the program's text (the seventh form; the later family's looks); each row that meets fmt, with fmt's text TOLD by the authors' own Lean function (tested against real Go, not proved from fmt's source: count such statements apart). THE CARD IS WHAT COUNTS. Prove the row's statement (the work); the ties are given (YtkgafkoopefghaaDoorTie.lean); close each card by the builder's one call (the guide's Derived/Test/ToyasCard.lean, 'card_holds'). Laid BY PROGRAM, IN A SANDBOX (cutbox-door.mjs). By AI agents, Wed Nov 11 2026. No macro, syntax, notation, axiom, sorry.
-/
import Derived.Test.YtkgafkoopefghaaDoorRows
import GoSem.ClaimSeven
namespace Go.Proofs.YtkgafkoopefghaaDoor
namespace Rows

/-- THE TIED CARD OF 'majordomolaw06.ResourceFull'. -/
def resourceFullCard : Claim7 := { stood := { row := resourceFullRow, standIns := [], harness := (true, "36508dc0bba094223ab7a79ea73944858370ccc2c10e5063e0f4174e2509d868"), looks := false }, kinds := [], alts := [], laidByText := true, laidKinds := [.data, .pinned], laidTests := true, laidLooks := .later }
def ResourceFullCardSaid : Prop := Claim7.holds Tryd.pinned (.plain (OpenSpec.ofChange resourceFullSpec)) resourceFullCard

/-- THE TIED CARD OF 'majordomolaw06.ResourceEnsures'. -/
def resourceEnsuresCard : Claim7 := { stood := { row := resourceEnsuresRow, standIns := [], harness := (true, "36508dc0bba094223ab7a79ea73944858370ccc2c10e5063e0f4174e2509d868"), looks := false }, kinds := [], alts := [], laidByText := true, laidKinds := [.data, .pinned], laidTests := true, laidLooks := .later }
def ResourceEnsuresCardSaid : Prop := Claim7.holds Tryd.pinned (.plain (OpenSpec.ofChange resourceEnsuresSpec)) resourceEnsuresCard

/-- THE TIED CARD OF 'majordomolaw06.ResourceTold'. -/
def resourceToldCard : Claim7 := { stood := { row := resourceToldRow, standIns := [], harness := (true, "36508dc0bba094223ab7a79ea73944858370ccc2c10e5063e0f4174e2509d868"), looks := false }, kinds := [], alts := [], laidByText := true, laidKinds := [.data, .pinned], laidTests := true, laidLooks := .later }
def ResourceToldCardSaid : Prop := Claim7.holds Tryd.pinned (.plain (OpenSpec.ofChange resourceToldSpec)) resourceToldCard

/-- THE TIED CARD OF 'majordomolaw06.ResourceNames'. -/
def resourceNamesCard : Claim7 := { stood := { row := resourceNamesRow, standIns := [], harness := (true, "36508dc0bba094223ab7a79ea73944858370ccc2c10e5063e0f4174e2509d868"), looks := false }, kinds := [], alts := [], laidByText := true, laidKinds := [.data, .pinned], laidTests := true, laidLooks := .later }
def ResourceNamesCardSaid : Prop := Claim7.holds Tryd.pinned (.plain (OpenSpec.ofChange resourceNamesSpec)) resourceNamesCard

/-- THE SECOND FORM's CARD OF 'majordomolaw06.ResourceFull'. -/
def resourceFullUptoCard : Claim7 := { stood := { row := resourceFullUptoRow, standIns := [], harness := (true, "36508dc0bba094223ab7a79ea73944858370ccc2c10e5063e0f4174e2509d868"), looks := false }, kinds := [], alts := [], laidByText := true, laidKinds := [.data, .pinned], laidTests := true, laidLooks := .later }
def ResourceFullUptoCardSaid : Prop := Claim7.holds Tryd.pinned (.plain (OpenSpec.upto resourceFullSpec)) resourceFullUptoCard

/-- THE SECOND FORM's CARD OF 'majordomolaw06.ResourceEnsures'. -/
def resourceEnsuresUptoCard : Claim7 := { stood := { row := resourceEnsuresUptoRow, standIns := [], harness := (true, "36508dc0bba094223ab7a79ea73944858370ccc2c10e5063e0f4174e2509d868"), looks := false }, kinds := [], alts := [], laidByText := true, laidKinds := [.data, .pinned], laidTests := true, laidLooks := .later }
def ResourceEnsuresUptoCardSaid : Prop := Claim7.holds Tryd.pinned (.plain (OpenSpec.upto resourceEnsuresSpec)) resourceEnsuresUptoCard

/-- THE SECOND FORM's CARD OF 'majordomolaw06.ResourceTold'. -/
def resourceToldUptoCard : Claim7 := { stood := { row := resourceToldUptoRow, standIns := [], harness := (true, "36508dc0bba094223ab7a79ea73944858370ccc2c10e5063e0f4174e2509d868"), looks := false }, kinds := [], alts := [], laidByText := true, laidKinds := [.data, .pinned], laidTests := true, laidLooks := .later }
def ResourceToldUptoCardSaid : Prop := Claim7.holds Tryd.pinned (.plain (OpenSpec.upto resourceToldSpec)) resourceToldUptoCard

/-- THE SECOND FORM's CARD OF 'majordomolaw06.ResourceNames'. -/
def resourceNamesUptoCard : Claim7 := { stood := { row := resourceNamesUptoRow, standIns := [], harness := (true, "36508dc0bba094223ab7a79ea73944858370ccc2c10e5063e0f4174e2509d868"), looks := false }, kinds := [], alts := [], laidByText := true, laidKinds := [.data, .pinned], laidTests := true, laidLooks := .later }
def ResourceNamesUptoCardSaid : Prop := Claim7.holds Tryd.pinned (.plain (OpenSpec.upto resourceNamesSpec)) resourceNamesUptoCard
end Rows
end Go.Proofs.YtkgafkoopefghaaDoor
