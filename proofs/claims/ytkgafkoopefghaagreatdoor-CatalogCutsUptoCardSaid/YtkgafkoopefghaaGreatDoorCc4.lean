/- A part of this law; its conditions stand in the last text. -/
import Derived.Test.YtkgafkoopefghaaGreatDoorProg
import Derived.Below
import Derived.KernelRfl
import Derived.Shelf.Unicode.DecodeLast
section
namespace Go.Proofs.YtkgafkoopefghaaGreatDoor.Hk
open Go.RowKit
def UtfOk (w : World) : Prop := Lib.Utf8Tabs 0 1 w ∧ ∃ m : Int, w.cell? ⟨2, 0, none⟩ = some (.int .i64 m)
theorem cellB {w W : World} (h : Below w.heap.size w W) {a : Addr} {v : Value} (hc : w.cell? a = some v) : W.cell? a = some v := by
  have hlt : a.block < w.heap.size := by
    unfold World.cell? at hc
    by_cases hb : a.block < w.heap.size
    · exact hb
    · rw [Array.getElem?_eq_none (by omega)] at hc
      cases hc
  exact (h.cell hlt).trans hc
theorem UtfOk.of_below {w W : World} (h : UtfOk w) (hb : Below w.heap.size w W) : UtfOk W :=
  ⟨⟨fun c hc => cellB hb (h.1.1 c hc), fun i hi => ⟨cellB hb (h.1.2 i hi).1, cellB hb (h.1.2 i hi).2⟩⟩, h.2.elim fun m hm => ⟨m, cellB hb hm⟩⟩
end Go.Proofs.YtkgafkoopefghaaGreatDoor.Hk
end
