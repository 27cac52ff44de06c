/- A part of this law; its conditions stand in the last text. -/
import Derived.Test.YtkgafkoopefghaaGreatDoorCc2
import Derived.Test.YtkgafkoopefghaaGreatDoorCc3
import Derived.Test.YtkgafkoopefghaaGreatDoorCc4
import Derived.Test.YtkgafkoopefghaaGreatDoorCc6
import Derived.Lib.LaidIn
import Derived.Lib.LaidU8
import Derived.Shelf.Vars
import Derived.Carry
section
set_option linter.unusedVariables false
namespace Go.Proofs.YtkgafkoopefghaaGreatDoor.Rd
open Go.ChangeShapes Go.WideShapes Go.RowKit Go.Proofs.YtkgafkoopefghaaGreatDoorW.PrintWords Go.Proofs.YtkgafkoopefghaaGreatDoor.PA Go.Shelf
theorem own : ownKnob Tryz.prog.godebug = none := by kernel_rfl
theorem laidOut : laidOutB Tryz.prog = true := by kernel_rfl
def laidL : List (String × DataW Unit) := [("unicode/utf8.acceptRanges", Rows.laid_unicode_utf8_acceptRanges), ("unicode/utf8.first", Rows.laid_unicode_utf8_first)]
theorem laidL_eq : laidL = [("unicode/utf8.acceptRanges", Lib.acceptData), ("unicode/utf8.first", Lib.firstData)] := by kernel_rfl
theorem utfOk {W : World} (hL : laidMetH Tryz.prog laidL W) (hsh : W.ShapedOpen Tryz.prog) : Hk.UtfOk W := by
  rw [laidL_eq] at hL
  exact ⟨utf8Tabs_of_reads (ρ := Tryz.lays260_ren) Tryz.lays260 ⟨by kernel_rfl, by kernel_rfl, by kernel_rfl, by kernel_rfl, by kernel_rfl, by kernel_rfl, by kernel_rfl⟩ (Lib.laidMet.reads hL (.tail _ (.head _))) (Lib.laidMet.reads hL (.head _)),
    cell_of_shapedOpen_int (g := 2) (zero := #[.int .i64 0]) (t := 3) hsh (of_decide_eq_true (by kernel_rfl)) (by kernel_rfl) rfl (by kernel_rfl) (by kernel_rfl) Tryz.underlying3⟩
noncomputable def laidWorld (os : Os) : World :=
  let w0 := World.holding Tryz.prog os ⟨#[], #[], []⟩
  let put (h : Array Obj) (g : Nat) (cs : Array Value) : Array Obj := h.modify g fun
    | .cells _ t frozen => .cells cs t frozen
    | o => o
  let h1 := put w0.heap 0 (Lib.firstTab.map fun z => Value.int .u8 z).toArray
  let h2 := put h1 1 ((List.range 16).flatMap fun i => [Value.int .u8 (Lib.accLo i), Value.int .u8 (Lib.accHi i)]).toArray
  { w0 with heap := h2 }
theorem laid_met (os : Os) (args : Array Value) : laidMet Tryz.prog laidL ((laidWorld os).forCall (fun _ _ => 0) ⟨#[], args, []⟩).memory := by
  rw [laidL_eq]
  exact (LaidIn.of_run (l := [("unicode/utf8.acceptRanges", Lib.acceptData), ("unicode/utf8.first", Lib.firstData)]) [1, 0] 8 (by kernel_rfl) (by kernel_rfl) (by kernel_rfl) (by kernel_rfl)).met
theorem rd_param : Rd Tryz.prog 31 k31 (fun x b => x.f0.size + x.f1.size + 3 = b) := by
  have h := rd_iso (rd_struct2 (d0 := Kd.string) (d1 := Kd.string) Tryz.underlying31 (by kernel_rfl) rfl (by kernel_rfl) rfl (by kernel_rfl) (rd_string Tryz.underlying9) (rd_string Tryz.underlying9)) (fun x : S31 => (x.f0, x.f1)) (fun p => ⟨p.1, p.2⟩) (fun _ => rfl)
  intro H enc W fuel cs x hx
  obtain ⟨a, h1, b0, b1, h2, h3, h4⟩ := h H enc W fuel cs x hx
  exact ⟨a, h1, by have h2' : a.f0.size + 1 = b0 := h2; have h3' : a.f1.size + 1 = b1 := h3; omega⟩
def okParam (x : S31) (b : Nat) : Prop := x.f0.size + x.f1.size + 3 = b
def okRes (a b : ByteArray) (l : List S31) (n : Nat) : Prop := a.size < n ∧ b.size < n ∧ l.length < n ∧ ∀ p, p ∈ l → p.f0.size < n ∧ p.f1.size < n
theorem rd_params : Rd Tryz.prog 22 (Kd.slice 31 k31) (okL okParam) := rd_slice Tryz.underlying22 (by kernel_rfl) rd_param
theorem wf_i64_range {n : Int} (h : (Lit.int .i64 n).wf = true) : -9223372036854775808 ≤ n ∧ n ≤ 9223372036854775807 := by
  have h2 : IntKind.i64.min ≤ n ∧ n ≤ 9223372036854775807 := by simpa [Lit.wf] using h
  have h3 : IntKind.i64.min = -9223372036854775808 := by decide
  omega
theorem small {H : Type} {ds : List (DataW H)} (hk : Rows.uptoSmall H ds = true) : Rows.uptoBulkAll ds ≤ 1048576 := by
  unfold Rows.uptoSmall at hk
  exact of_decide_eq_true hk
end Go.Proofs.YtkgafkoopefghaaGreatDoor.Rd
end
