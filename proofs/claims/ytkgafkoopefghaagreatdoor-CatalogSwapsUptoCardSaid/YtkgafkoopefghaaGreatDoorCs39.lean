/- A part of this law; its conditions stand in the last text. -/
import Derived.Test.YtkgafkoopefghaaGreatDoorCs4
import Derived.Test.YtkgafkoopefghaaGreatDoorCs6
import Derived.Lib.Walk
import Derived.Defers
import Derived.Recover
import Derived.WalkSmall
import Derived.Tactics2
section
set_option linter.unusedVariables false
set_option linter.unusedSimpArgs false
namespace Go.Proofs.YtkgafkoopefghaaGreatDoor.PA
open Go.RowKit Go.Proofs.YtkgafkoopefghaaGreatDoor.Hk Go.Proofs.YtkgafkoopefghaaGreatDoorW.PrintWords
def shortV : Value := .iface 118 (.agg #[])
set_option maxRecDepth 100000 in
theorem take_short (g : Nat) (A : Option Addr) (n c : Nat) (m : Int) (W : World) (hn : n < 2147483648) (hm : (n : Int) < m) (h0 : W.cell? ⟨g, 0, none⟩ = some (.slice A n c)) :
    Calls Tryz.prog 105 #[.pointer (some ⟨g, 0, none⟩), .int .i64 m] W fun e w' => e = .panicked [{ v := shortV, recovered := false }] ∧ w' = W := by
  unfold shortV
  have hc : m > (n : Int) := hm
  have hq : (n : Int) ≤ 9223372036854775807 := by omega
  go_enter Tryz.func105, Tryz.ntmps105
  go_wp2
  exact ⟨rfl, rfl, rfl⟩
set_option maxRecDepth 100000 in
theorem rbyte_short (g : Nat) (A : Option Addr) (c : Nat) (W : World) (h0 : W.cell? ⟨g, 0, none⟩ = some (.slice A 0 c)) :
    Calls Tryz.prog 87 #[.pointer (some ⟨g, 0, none⟩)] W fun e w' => e = .panicked [{ v := shortV, recovered := false }] ∧ w' = W := by
  have HC := As.mk (take_short g A 0 c 1 W (by decide) (by decide) h0)
  go_enter Tryz.func87, Tryz.ntmps87
  go_wp2_with (go_at_call 105; refine HC.out.mono ?_; rintro e w1 ⟨rfl, rfl⟩)
  exact ⟨rfl, rfl, rfl⟩
set_option maxRecDepth 100000 in
theorem rtwo_short (g : Nat) (A : Option Addr) (c : Nat) (W : World) (h0 : W.cell? ⟨g, 0, none⟩ = some (.slice A 0 c)) :
    Calls Tryz.prog 85 #[.pointer (some ⟨g, 0, none⟩)] W fun e w' => e = .panicked [{ v := shortV, recovered := false }] ∧ w' = W := by
  have HC := As.mk (rbyte_short g A c W h0)
  go_enter Tryz.func85, Tryz.ntmps85
  go_wp2_with (go_at_call 87; refine HC.out.mono ?_; rintro e w1 ⟨rfl, rfl⟩)
  exact ⟨rfl, rfl, rfl⟩
set_option maxRecDepth 100000 in
set_option maxHeartbeats 2000000 in
theorem catch_short (p : Addr) (x : Bool) (older : List PanicEntry) (w : World) (hc : w.cell? p = some (.bool x)) (hz : w.frozen? p = false) :
    CallsD Tryz.prog 84 #[.pointer (some p)] (.panicking ({ v := shortV, recovered := false } :: older)) w fun e u' w' =>
      e = .returned (.tuple #[]) ∧ u' = .panicking ({ v := shortV, recovered := true } :: older) ∧ ∃ w1, w' = w1.setCell p (.bool false) ∧ Below w.heap.size w w1 := by
  unfold shortV
  refine callsD_of_wpS Tryz.func84 rfl fun c₀ cs hu => ?_
  apply wpS_seq
  apply wpS_region
  simp [wpOpsS, go_sem, recoverD, hu, Tryz.ntmps84, Exit.thenS]
  refine wpS_of_wp ?_
  rw [show (#[Value.pointer (some p)] ++ (Array.replicate 9 undef).setIfInBounds 3 (Value.iface 118 (Value.agg #[]))) = #[.pointer (some p), undef, undef, undef, .iface 118 (.agg #[]), undef, undef, undef, undef, undef] from rfl]
  have hp : p.block < w.heap.size := World.block_lt_of_cell? w _ hc
  have hta : ∀ w : World, (Instr.typeAssert (.iface 118 (.agg #[])) 20 118 true).run Tryz.prog w = .ok (.tuple #[.agg #[], .bool true]) w := fun w => by kernel_rfl
  have hz2 : (w.alloc (.cells #[] 118 (0, 0))).frozen? p = false := by
    have h1 : (w.alloc (.cells #[] 118 (0, 0))).heap[p.block]? = w.heap[p.block]? := (bA (Below.refl w.heap.size w) _).block _ hp
    unfold World.frozen? at hz ⊢
    rw [h1]; exact hz
  go_wp2
  cases c₀
  simp_all [bodyPostS, results, Tryz.results84]
  exact ⟨_, rfl, bA (Below.refl _ _) _⟩
set_option maxRecDepth 100000 in
set_option maxHeartbeats 4000000 in
theorem read_short (A : Option Addr) (c : Nat) (w : World) :
    Calls Tryz.prog 46 #[.slice A 0 c] w fun e w' => e = .returned (.tuple #[.agg #[.int .i64 0, .string (⟨#[]⟩ : ByteArray), .slice none 0 0, .slice none 0 0], .bool false]) ∧ Below w.heap.size w w' := by
  have hmf : ∀ (fn : Fn) (first cap : Array Value) (w : World), (Instr.makeFunc fn first cap).run Tryz.prog w = .ok (.func fn first cap) w := fun _ _ _ _ => rfl
  have HB := As.mk (Below.refl w.heap.size w)
  have hu37 := Tryz.underlying37
  have hu120 := Tryz.underlying120
  go_enter_defers Tryz.func46, Tryz.ntmps46
  go_wp2_with (first | ((with_reducible refine gate_dst (N := 2) rfl ?_); refine box_event ?hg (N := 2) ?hd (cs := #[.int .i64 0, .string (⟨#[]⟩ : ByteArray), .slice none 0 0, .slice none 0 0]) (t := 37) ?hr ?_; (case hd => rfl); (case hg => rfl); (case hr => first | (go_simp; done) | (go_simp; rfl)); intro g2 hg w1 hbox hb; have n1 := As.mk hb; clear HB; have HB := n1; clear n1; have BK2 := As.mk hbox; clear hb hbox hg) | ((with_reducible refine gate_dst (N := 3) rfl ?_); refine box_event ?hg (N := 3) ?hd (cs := #[.bool false]) (t := 4) ?hr ?_; (case hd => rfl); (case hg => rfl); (case hr => first | (go_simp; done) | (go_simp; rfl)); intro g3 hg w1 hbox hb; have n1 := As.mk (HB.out.trans (hb.mono HB.out.size)); have n2 := As.mk (kB BK2.out hb); have NE := As.mk ((by rw [hg]; exact Nat.ne_of_lt (blk_lt (w := _) BK2.out)) : g2 ≠ g3); have GE := As.mk ((by rw [hg]; exact HB.out.size) : w.heap.size ≤ g3); clear HB BK2; have HB := n1; have BK2 := n2; clear n1 n2; have BK3 := As.mk hbox; clear hb hbox hg) | ((with_reducible refine gate_dst (N := 10) rfl ?_); refine box_event ?hg (N := 10) ?hd (cs := #[.slice A 0 c]) (t := 120) ?hr ?_; (case hd => rfl); (case hg => rfl); (case hr => first | (go_simp; done) | (go_simp; rfl)); intro g10 hg w1 hbox hb; have n1 := As.mk (HB.out.trans (hb.mono HB.out.size)); have n2 := As.mk (kB BK2.out hb); have n3 := As.mk (kB BK3.out hb); clear HB BK2 BK3; have HB := n1; have BK2 := n2; have BK3 := n3; clear n1 n2 n3; have BK10 := As.mk hbox; clear hb hbox hg) | (go_at_call 85; refine (rtwo_short g10 A c _ ((kC BK10.out 0).trans rfl)).mono ?_; rintro e w9 ⟨rfl, rfl⟩))
  refine leaves_cons (f := 84) (args := #[.pointer (some ⟨g3, 0, none⟩)]) (by simp) (by simp [go_sem]) ?_
  refine (catch_short ⟨g3, 0, none⟩ false [] _ ((kC BK3.out 0).trans rfl) (kF BK3.out 0)).mono ?_
  rintro e u' w9 ⟨rfl, rfl, w8, hw, hb⟩
  have b2 := kB BK2.out hb
  have b3 := kB BK3.out hb
  have HB9 : Below w.heap.size w w9 := by rw [hw]; exact bS (HB.out.trans (hb.mono HB.out.size)) GE.out
  have k2 : w9.heap[g2]? = some (.cells #[.int .i64 0, .string (⟨#[]⟩ : ByteArray), .slice none 0 0, .slice none 0 0] 37 (0, 0)) := by rw [hw]; exact kR (p := ⟨g3, 0, none⟩) b2 NE.out (.bool false)
  have k3 : w9.heap[g3]? = some (.cells #[.bool false] 4 (0, 0)) := by rw [hw]; exact kP b3 0 (.bool false) (cs' := #[.bool false]) rfl
  have m0 : w9.cell? ⟨g2, 0, none⟩ = some (.int .i64 0) := (kC k2 0).trans rfl
  have m1 : w9.cell? ⟨g2, 1, none⟩ = some (.string (⟨#[]⟩ : ByteArray)) := (kC k2 1).trans rfl
  have m2 : w9.cell? ⟨g2, 2, none⟩ = some (.slice none 0 0) := (kC k2 2).trans rfl
  have m3 : w9.cell? ⟨g2, 3, none⟩ = some (.slice none 0 0) := (kC k2 3).trans rfl
  have m4 : w9.cell? ⟨g3, 0, none⟩ = some (.bool false) := (kC k3 0).trans rfl
  clear hw hb b2 b3 k2 k3
  simp [Leaves, settle, results, Tryz.results46, go_sem, m0, m1, m2, m3, m4]
  exact HB9
end Go.Proofs.YtkgafkoopefghaaGreatDoor.PA
end
