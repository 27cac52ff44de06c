/- A part of this law; its conditions stand in the last text. -/
import Derived.Test.YtkgafkoopefghaaGreatDoorCc4
import Derived.Test.YtkgafkoopefghaaGreatDoorCc6
import Derived.Lib.Walk
section
set_option linter.unusedVariables false
set_option linter.unusedSimpArgs false
namespace Go.Proofs.YtkgafkoopefghaaGreatDoor.PA
open Go.RowKit Go.Proofs.YtkgafkoopefghaaGreatDoor.Hk Go.Proofs.YtkgafkoopefghaaGreatDoorW.PrintWords
def KeepT (W W' : World) : Prop := W.heap.size ≤ W'.heap.size ∧ ∀ (k : Nat) (cs : Array Value) (t : Nat), W.heap[k]? = some (.cells cs t (0, 0)) → t ≠ 5 → t ≠ 107 → W'.heap[k]? = some (.cells cs t (0, 0))
theorem KeepT.refl (W : World) : KeepT W W := ⟨Nat.le_refl _, fun _ _ _ h _ _ => h⟩
theorem KeepT.trans {A B C : World} (h : KeepT A B) (k : KeepT B C) : KeepT A C := ⟨Nat.le_trans h.1 k.1, fun i cs t e h1 h2 => k.2 i cs t (h.2 i cs t e h1 h2) h1 h2⟩
theorem KeepT.below {A B C : World} (h : KeepT A B) (k : Below B.heap.size B C) : KeepT A C := h.trans ⟨k.size, fun i cs t e _ _ => (k.block i (blk_lt e)).trans e⟩
theorem KeepT.grown {A W W1 : World} {base : Nat} {ok : Nat → Prop} {v : Value} {xs : List Int} (h : KeepT A W) (hR : Kd.R (Kd.int .u8) 5 W base ok v xs) (hg : W.grownBy W1 v.ownBlock) : KeepT A W1 :=
  h.trans ⟨hg.size, fun i cs t e h1 _ => blk_grown e hg (Kd.R_ne hR e (fun q => h1 q.symm))⟩
theorem KeepT.set {A W : World} {g : Nat} {cs0 : Array Value} (h : KeepT A W) (hg : W.heap[g]? = some (.cells cs0 107 (0, 0))) (u : Value) : KeepT A (W.setCell ⟨g, 0, none⟩ u) :=
  h.trans ⟨by simp [World.setCell], fun i cs t e _ h2 => (Below.heap_setCell W ⟨g, 0, none⟩ u i (fun q => by
    have q' : i = g := q
    subst q'
    rw [e] at hg
    injection hg with hg
    injection hg with _ hg
    exact h2 hg)).trans e⟩
def WrS (w0 W : World) (g : Nat) (xs : List Int) : Prop := ∃ v, W.heap[g]? = some (.cells #[v] 107 (0, 0)) ∧ Kd.R (Kd.int .u8) 5 W w0.heap.size (fun _ => True) v xs ∧ Below w0.heap.size w0 W ∧ w0.heap.size ≤ g
theorem WrS.later {w0 W W' : World} {g : Nat} {xs : List Int} (h : WrS w0 W g xs) (hb : Below W.heap.size W W') : WrS w0 W' g xs := by
  obtain ⟨v, h1, h2, h3, h4⟩ := h
  exact ⟨v, kB h1 hb, Kd.R_below h2 hb, bT h3 hb, h4⟩
theorem WrS.of_below {w0 W : World} {g : Nat} {xs : List Int} (h : WrS w0 W g xs) : Below w0.heap.size w0 W := h.elim fun _ h => h.2.2.1
theorem WrS.put {w0 W : World} {g m c : Nat} {v : Value} {A : Option Addr} {xs : List Int} (hg : W.heap[g]? = some (.cells #[v] 107 (0, 0))) (hR : Kd.R (Kd.int .u8) 5 W w0.heap.size (fun _ => True) (.slice A xs.length c) xs) (hm : m = xs.length) (hB : Below w0.heap.size w0 W) (hge : w0.heap.size ≤ g) : WrS w0 (W.setCell ⟨g, 0, none⟩ (.slice A m c)) g xs := by
  subst hm
  exact ⟨_, kP hg 0 _ rfl, Kd.R_set hR hg (by decide) 0 _, bS hB hge, hge⟩
set_option maxRecDepth 100000 in
set_option maxHeartbeats 2000000 in
theorem wbyte_calls (w0 W : World) (g : Nat) (xs : List Int) (n : Int) (H : WrS w0 W g xs) (hl : xs.length + 1 ≤ 140737488355328) :
    Calls Tryz.prog 71 #[.pointer (some ⟨g, 0, none⟩), .int .i64 n] W fun e w' => e = .returned (.tuple #[]) ∧ WrS w0 w' g (xs ++ [n % 256]) ∧ KeepT W w' := by
  obtain ⟨v, hg0, hR, hB, hge⟩ := H
  have BK := As.mk hg0
  have HO := As.mk hR
  have HB := As.mk hB
  have HK := As.mk (KeepT.refl W)
  have k0 : W.cell? ⟨g, 0, none⟩ = some v := (kC hg0 0).trans rfl
  have f0 := kF hg0 0
  clear hg0 hR hB
  have hu107 := Tryz.underlying107
  go_enter Tryz.func71, Tryz.ntmps71
  go_wp2_with (first
    | ((with_reducible refine gate_dst (N := 11) rfl ?_); refine Kd.R_lit (Kd.int .u8) (w0 := _) _ 5 ?hg (N := 11) ?hd (xs := [n % 256]) (inner := [.int .u8 (n % 256)]) (ok := fun _ => True) (okp := fun _ => True) ?hr ?hp (fun _ hk => hk) trivial (Below.refl _ _) (Nat.le_refl _) (by simp) ?_; (case hd => rfl); (case hg => rfl); (case hr => first | (go_simp; done) | (go_simp; rfl)); (case hp => exact (Reps.one (show Kd.M (Kd.int .u8) _ _ _ (n % 256) [.int .u8 (n % 256)] from rfl) (Reps.none _ _))); intro v1 w1 ho1 hb hg_ hn_; clear hg_ hn_; have n1 := As.mk (kB BK.out hb); have n2 := As.mk (Kd.R_below HO.out hb); have n3 := As.mk (bT HB.out hb); have n4 := As.mk (KeepT.below HK.out hb); clear BK HO HB HK k0 f0; have BK := n1; have HO := n2; have HB := n3; have HK := n4; clear n1 n2 n3 n4 hb; have HO1 := As.mk ho1; clear ho1; obtain ⟨A1, c1, e1⟩ := Kd.R_slice HO1.out; subst e1; have k0 : w1.cell? ⟨g, 0, none⟩ = some v := (kC BK.out 0).trans rfl; have f0 := kF BK.out 0)
    | ((with_reducible refine gate_builtin (b := .append) (xs := #[.tmp 8, .tmp 11]) rfl ?_); at_builtin; refine Kd.R_append_row (w0 := w0) (Value.int .u8) (0 : Int) w0.heap.size rfl (.tmp 8) (.tmp 11) 39 5 (.int .u8 0) 1 rfl Tryz.underlying39 info5 rfl (by decide) v xs [n % 256] A1 _ _ (fun _ => True) rfl rfl (fun _ _ => trivial) HO.out (Kd.R_reads' HO1.out).2.2 HB.out HB.out.size (by simp; omega) ?_; intro v2 w2 ho2 hb2 hg2 hat2; clear hat2; obtain ⟨A2, c2, e2⟩ := Kd.R_slice ho2; subst e2; have n1 := As.mk (blk_grown BK.out hg2 (Kd.R_ne HO.out BK.out (by decide))); have n4 := As.mk (KeepT.grown HK.out HO.out hg2); clear BK HO HB HK k0 f0; have BK := n1; have HO := As.mk ho2; have HB := As.mk hb2; have HK := n4; clear n1 n4 ho2 hb2 hg2; have k0 : w2.cell? ⟨g, 0, none⟩ = some v := (kC BK.out 0).trans rfl; have f0 := kF BK.out 0))
  go_end0
  exact ⟨rfl, WrS.put BK.out HO.out (by simp) HB.out hge, KeepT.set HK.out BK.out _⟩
set_option maxRecDepth 100000 in
set_option maxHeartbeats 2000000 in
theorem wtwo_calls (w0 W : World) (g : Nat) (xs : List Int) (n : Int) (H : WrS w0 W g xs) (hl : xs.length + 2 ≤ 140737488355328) :
    Calls Tryz.prog 69 #[.pointer (some ⟨g, 0, none⟩), .int .i64 n] W fun e w' => e = .returned (.tuple #[]) ∧ WrS w0 w' g (xs ++ [n / 256 % 256, n % 256]) ∧ KeepT W w' := by
  obtain ⟨v, hg0, hR, hB, hge⟩ := H
  have BK := As.mk hg0
  have HO := As.mk hR
  have HB := As.mk hB
  have HK := As.mk (KeepT.refl W)
  have k0 : W.cell? ⟨g, 0, none⟩ = some v := (kC hg0 0).trans rfl
  have f0 := kF hg0 0
  clear hg0 hR hB
  have hu107 := Tryz.underlying107
  go_enter Tryz.func69, Tryz.ntmps69
  go_wp2_with (first
    | ((with_reducible refine gate_dst (N := 14) rfl ?_); refine Kd.R_lit (Kd.int .u8) (w0 := _) _ 5 ?hg (N := 14) ?hd (xs := [n / 256 % 256, n % 256]) (inner := [.int .u8 (n / 256 % 256), .int .u8 (n % 256)]) (ok := fun _ => True) (okp := fun _ => True) ?hr ?hp (fun _ hk => hk) trivial (Below.refl _ _) (Nat.le_refl _) (by simp) ?_; (case hd => rfl); (case hg => rfl); (case hr => first | (go_simp; done) | (go_simp; rfl)); (case hp => exact (Reps.one (show Kd.M (Kd.int .u8) _ _ _ (n / 256 % 256) [.int .u8 (n / 256 % 256)] from rfl) (Reps.one (show Kd.M (Kd.int .u8) _ _ _ (n % 256) [.int .u8 (n % 256)] from rfl) (Reps.none _ _)))); intro v1 w1 ho1 hb hg_ hn_; clear hg_ hn_; have n1 := As.mk (kB BK.out hb); have n2 := As.mk (Kd.R_below HO.out hb); have n3 := As.mk (bT HB.out hb); have n4 := As.mk (KeepT.below HK.out hb); clear BK HO HB HK k0 f0; have BK := n1; have HO := n2; have HB := n3; have HK := n4; clear n1 n2 n3 n4 hb; have HO1 := As.mk ho1; clear ho1; obtain ⟨A1, c1, e1⟩ := Kd.R_slice HO1.out; subst e1; have k0 : w1.cell? ⟨g, 0, none⟩ = some v := (kC BK.out 0).trans rfl; have f0 := kF BK.out 0)
    | ((with_reducible refine gate_builtin (b := .append) (xs := #[.tmp 8, .tmp 14]) rfl ?_); at_builtin; refine Kd.R_append_row (w0 := w0) (Value.int .u8) (0 : Int) w0.heap.size rfl (.tmp 8) (.tmp 14) 39 5 (.int .u8 0) 1 rfl Tryz.underlying39 info5 rfl (by decide) v xs [n / 256 % 256, n % 256] A1 _ _ (fun _ => True) rfl rfl (fun _ _ => trivial) HO.out (Kd.R_reads' HO1.out).2.2 HB.out HB.out.size (by simp; omega) ?_; intro v2 w2 ho2 hb2 hg2 hat2; clear hat2; obtain ⟨A2, c2, e2⟩ := Kd.R_slice ho2; subst e2; have n1 := As.mk (blk_grown BK.out hg2 (Kd.R_ne HO.out BK.out (by decide))); have n4 := As.mk (KeepT.grown HK.out HO.out hg2); clear BK HO HB HK k0 f0; have BK := n1; have HO := As.mk ho2; have HB := As.mk hb2; have HK := n4; clear n1 n4 ho2 hb2 hg2; have k0 : w2.cell? ⟨g, 0, none⟩ = some v := (kC BK.out 0).trans rfl; have f0 := kF BK.out 0))
  go_end0
  exact ⟨rfl, WrS.put BK.out HO.out (by simp) HB.out hge, KeepT.set HK.out BK.out _⟩
set_option maxRecDepth 100000 in
set_option maxHeartbeats 2000000 in
theorem wtext_calls (w0 W : World) (g : Nat) (xs : List Int) (s : ByteArray) (H : WrS w0 W g xs) (hl : xs.length + 2 + s.size ≤ 140737488355328) :
    Calls Tryz.prog 70 #[.pointer (some ⟨g, 0, none⟩), .string s] W fun e w' => e = .returned (.tuple #[]) ∧ WrS w0 w' g (xs ++ [(s.size : Int) / 256 % 256, (s.size : Int) % 256] ++ bytesOf s) ∧ KeepT W w' := by
  have HT := As.mk (wtwo_calls w0 W g xs (s.size : Int) H (by omega))
  clear H
  have hm : (s.size : Int) ≤ 9223372036854775807 := by omega
  have hu107 := Tryz.underlying107
  go_enter Tryz.func70, Tryz.ntmps70
  go_wp2_with (first
    | (go_at_call 69; refine HT.out.mono ?_; rintro e w1 ⟨rfl, h1, hk⟩; obtain ⟨v, hg0, hR, hB, hge⟩ := h1; have BK := As.mk hg0; have HO := As.mk hR; have HB := As.mk hB; have HK := As.mk hk; have GE := As.mk hge; clear hg0 hR hB hk hge; have k0 : w1.cell? ⟨g, 0, none⟩ = some v := (kC BK.out 0).trans rfl; have f0 := kF BK.out 0)
    | ((with_reducible refine gate_builtin (b := .append) (xs := #[.tmp 12, .tmp 13]) rfl ?_); at_builtin; refine print_append_str (w0 := w0) w0.heap.size rfl (.tmp 12) (.tmp 13) 39 9 5 rfl Tryz.underlying39 Tryz.underlying9 info5 v (xs ++ [(s.size : Int) / 256 % 256, (s.size : Int) % 256]) s rfl rfl (Kd.own_of_R HO.out) HB.out HB.out.size (by simp; omega) ?_; intro v2 w2 ho2 hb2 hg2; have hr2 : Kd.R (Kd.int .u8) 5 w2 w0.heap.size (fun _ => True) v2 (xs ++ [(s.size : Int) / 256 % 256, (s.size : Int) % 256] ++ bytesOf s) := Kd.R_of_own ho2 (fun _ _ => trivial); obtain ⟨A2, c2, e2⟩ := Kd.R_slice hr2; subst e2; have n1 := As.mk (blk_grown BK.out hg2 (Kd.R_ne HO.out BK.out (by decide))); have n4 := As.mk (KeepT.grown HK.out HO.out hg2); clear BK HO HB HK k0 f0; have BK := n1; have HO := As.mk hr2; have HB := As.mk hb2; have HK := n4; clear n1 n4 ho2 hr2 hb2 hg2; have k0 : w2.cell? ⟨g, 0, none⟩ = some v := (kC BK.out 0).trans rfl; have f0 := kF BK.out 0))
  go_end0
  exact ⟨rfl, WrS.put BK.out HO.out (by simp) HB.out GE.out, KeepT.set HK.out BK.out _⟩
end Go.Proofs.YtkgafkoopefghaaGreatDoor.PA
end
