/- The law ResourceTold (chapter 06): to tell what would be so anyway changes nothing: true of every input whose reading is of bulk at most 1048576, and the input reads behind the call as it read before. Conditions: the statement's own bound, and its two tables of unicode/utf8 as the program's text lays them (tied by the card). -/
import Derived.Test.YtkgafkoopefghaaDoorRt28
import Derived.Test.YtkgafkoopefghaaDoorRt30
section
set_option linter.unusedVariables false
set_option linter.unusedSimpArgs false
namespace Go.Proofs.YtkgafkoopefghaaDoor.PA
open Go.RowKit Go.Maps Go.WideMaps Go.Proofs.YtkgafkoopefghaaDoor.Hk Go.Proofs.YtkgafkoopefghaaDoorW.PrintWords
theorem shown_file : fullS (⟨#[102, 105, 108, 101]⟩ : ByteArray) (⟨#[47, 97]⟩ : ByteArray) [] = (⟨#[102, 105, 108, 101]⟩, ⟨#[47, 97]⟩, [⟨⟨#[99, 111, 110, 116, 101, 110, 116]⟩, ⟨#[]⟩⟩, ⟨⟨#[101, 110, 115, 117, 114, 101]⟩, ⟨#[102, 105, 108, 101]⟩⟩, ⟨⟨#[109, 111, 100, 101]⟩, ⟨#[48, 54, 52, 52]⟩⟩], 0) := by
  have h : fullS (⟨#[102, 105, 108, 101]⟩ : ByteArray) (⟨#[47, 97]⟩ : ByteArray) [] = (⟨#[102, 105, 108, 101]⟩, ⟨#[47, 97]⟩, outS ⟨#[102, 105, 108, 101]⟩ [] fileD.head!.2, 0) := by kernel_rfl
  have hn : namesS fileD.head!.2 = [[99, 111, 110, 116, 101, 110, 116], [101, 110, 115, 117, 114, 101], [109, 111, 100, 101]] := namesS_are (by decide +kernel) (by decide +kernel)
  rw [h]
  unfold outS
  rw [hn]
  rfl
theorem shown_true : majordomolaw06_shown.f = some true := by
  unfold majordomolaw06_shown.f resource_Check.f
  rw [full_f _ _ _ (by decide), full_f _ _ _ (by decide), full_f _ _ _ (by decide), full_f _ _ _ (by decide), shown_file]
  have h1 : (fullS (⟨#[102, 105, 108, 101]⟩ : ByteArray) (⟨#[47, 97]⟩ : ByteArray) [(⟨(⟨#[112, 117, 114, 103, 101]⟩ : ByteArray), (⟨#[116, 114, 117, 101]⟩ : ByteArray)⟩ : S34)]).2.2.2 = 62 := by kernel_rfl
  have h2 : (fullS (⟨#[102, 105, 108, 101]⟩ : ByteArray) (⟨#[47, 116, 97, 98, 47, 120]⟩ : ByteArray) []).2.2.2 = 61 := by kernel_rfl
  have h3 : (fullS (⟨#[100, 105, 115, 107]⟩ : ByteArray) (⟨#[97]⟩ : ByteArray) []).2.2.2 = 60 := by kernel_rfl
  simp only [Option.bind_some]
  rw [h1, h2, h3]
  decide +kernel
end Go.Proofs.YtkgafkoopefghaaDoor.PA
end
