/- The law ResourceEnsures (chapter 06): a resource that is absent, or a service, has no parameter but its ensure: true of every input whose reading is of bulk at most 1048576, and the input reads behind the call as it read before. Conditions: the statement's own bound, and its two tables of unicode/utf8 as the program's text lays them (tied by the card). -/
import Derived.Test.YtkgafkoopefghaaDoorRows
import Derived.Test.YtkgafkoopefghaaDoorRe1
import Derived.Deep.Slices
import Derived.ChangeArms
import Derived.ChangeShapes
import Derived.WideShapes
section
set_option linter.unusedVariables false
namespace Go.Proofs.YtkgafkoopefghaaDoor.Rd
open Go.ChangeShapes Go.WideShapes Go.RowKit Go.Proofs.YtkgafkoopefghaaDoorW.PrintWords
theorem bulkAll_nil {H : Type} : Rows.uptoBulkAll ([] : List (DataW H)) = 0 := by simp [Rows.uptoBulkAll]
theorem bulkAll_cons {H : Type} (d : DataW H) (r : List (DataW H)) : Rows.uptoBulkAll (d :: r) = Rows.uptoBulk d + Rows.uptoBulkAll r := by simp [Rows.uptoBulkAll]
end Go.Proofs.YtkgafkoopefghaaDoor.Rd
end
