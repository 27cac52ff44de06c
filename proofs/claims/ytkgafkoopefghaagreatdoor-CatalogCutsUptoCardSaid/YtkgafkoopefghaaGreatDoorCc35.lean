/- A part of this law; its conditions stand in the last text. -/
import Derived.Test.YtkgafkoopefghaaGreatDoorCc4
import Derived.Test.YtkgafkoopefghaaGreatDoorCc6
import Derived.Lib.Walk
import Derived.Defers
import Derived.Recover
import Derived.WalkSmall
import Derived.Tactics2
import Derived.Laws.BitsLemmas
import Derived.Test.YtkgafkoopefghaaGreatDoorCc1
import Derived.Test.YtkgafkoopefghaaGreatDoorCc8
section
set_option linter.unusedVariables false
set_option linter.unusedSimpArgs false
namespace Go.Proofs.YtkgafkoopefghaaGreatDoor.PA
open Go.RowKit Go.Proofs.YtkgafkoopefghaaGreatDoor.Hk Go.Proofs.YtkgafkoopefghaaGreatDoorW.PrintWords
def shortV : Value := .iface 118 (.agg #[])
set_option maxRecDepth 100000 in
theorem take_short (g : Nat) (A : Option Addr) (n c : Nat) (m : Int) (W : World) (hn : n < 2147483648) (hm : (n : Int) < m) (h0 : W.cell? ⟨g, 0, none⟩ = some (.slice A n c)) :
    Calls Tryz.prog 105 #[.pointer (some ⟨g, 0, none⟩), .int .i64 m] W fun e w' => e = .panicked [{ v := shortV, recovered := false }] ∧ w' = W := by
  unfold shortV
  have hc : m > (n : Int) := hm
  have hq : (n : Int) ≤ 9223372036854775807 := by omega
  go_enter Tryz.func105, Tryz.ntmps105
  go_wp2
  exact ⟨rfl, rfl, rfl⟩
set_option maxRecDepth 100000 in
theorem rbyte_short (g : Nat) (A : Option Addr) (c : Nat) (W : World) (h0 : W.cell? ⟨g, 0, none⟩ = some (.slice A 0 c)) :
    Calls Tryz.prog 87 #[.pointer (some ⟨g, 0, none⟩)] W fun e w' => e = .panicked [{ v := shortV, recovered := false }] ∧ w' = W := by
  have HC := As.mk (take_short g A 0 c 1 W (by decide) (by decide) h0)
  go_enter Tryz.func87, Tryz.ntmps87
  go_wp2_with (go_at_call 105; refine HC.out.mono ?_; rintro e w1 ⟨rfl, rfl⟩)
  exact ⟨rfl, rfl, rfl⟩
set_option maxRecDepth 100000 in
theorem rtwo_short (g : Nat) (A : Option Addr) (c : Nat) (W : World) (h0 : W.cell? ⟨g, 0, none⟩ = some (.slice A 0 c)) :
    Calls Tryz.prog 85 #[.pointer (some ⟨g, 0, none⟩)] W fun e w' => e = .panicked [{ v := shortV, recovered := false }] ∧ w' = W := by
  have HC := As.mk (rbyte_short g A c W h0)
  go_enter Tryz.func85, Tryz.ntmps85
  go_wp2_with (go_at_call 87; refine HC.out.mono ?_; rintro e w1 ⟨rfl, rfl⟩)
  exact ⟨rfl, rfl, rfl⟩
set_option maxRecDepth 100000 in
set_option maxHeartbeats 2000000 in
theorem catch_short (p : Addr) (x : Bool) (older : List PanicEntry) (w : World) (hc : w.cell? p = some (.bool x)) (hz : w.frozen? p = false) :
    CallsD Tryz.prog 84 #[.pointer (some p)] (.panicking ({ v := shortV, recovered := false } :: older)) w fun e u' w' =>
      e = .returned (.tuple #[]) ∧ u' = .panicking ({ v := shortV, recovered := true } :: older) ∧ ∃ w1, w' = w1.setCell p (.bool false) ∧ Below w.heap.size w w1 := by
  unfold shortV
  refine callsD_of_wpS Tryz.func84 rfl fun c₀ cs hu => ?_
  apply wpS_seq
  apply wpS_region
  simp [wpOpsS, go_sem, recoverD, hu, Tryz.ntmps84, Exit.thenS]
  refine wpS_of_wp ?_
  rw [show (#[Value.pointer (some p)] ++ (Array.replicate 9 undef).setIfInBounds 3 (Value.iface 118 (Value.agg #[]))) = #[.pointer (some p), undef, undef, undef, .iface 118 (.agg #[]), undef, undef, undef, undef, undef] from rfl]
  have hp : p.block < w.heap.size := World.block_lt_of_cell? w _ hc
  have hta : ∀ w : World, (Instr.typeAssert (.iface 118 (.agg #[])) 20 118 true).run Tryz.prog w = .ok (.tuple #[.agg #[], .bool true]) w := fun w => by kernel_rfl
  have hz2 : (w.alloc (.cells #[] 118 (0, 0))).frozen? p = false := by
    have h1 : (w.alloc (.cells #[] 118 (0, 0))).heap[p.block]? = w.heap[p.block]? := (bA (Below.refl w.heap.size w) _).block _ hp
    unfold World.frozen? at hz ⊢
    rw [h1]; exact hz
  go_wp2
  cases c₀
  simp_all [bodyPostS, results, Tryz.results84]
  exact ⟨_, rfl, bA (Below.refl _ _) _⟩
set_option maxRecDepth 100000 in
set_option maxHeartbeats 4000000 in
theorem read_short (A : Option Addr) (c : Nat) (w : World) :
    Calls Tryz.prog 46 #[.slice A 0 c] w fun e w' => e = .returned (.tuple #[.agg #[.int .i64 0, .string (⟨#[]⟩ : ByteArray), .slice none 0 0, .slice none 0 0], .bool false]) ∧ Below w.heap.size w w' := by
  have hmf : ∀ (fn : Fn) (first cap : Array Value) (w : World), (Instr.makeFunc fn first cap).run Tryz.prog w = .ok (.func fn first cap) w := fun _ _ _ _ => rfl
  have HB := As.mk (Below.refl w.heap.size w)
  have hu37 := Tryz.underlying37
  have hu120 := Tryz.underlying120
  go_enter_defers Tryz.func46, Tryz.ntmps46
  go_wp2_with (first | ((with_reducible refine gate_dst (N := 2) rfl ?_); refine box_event ?hg (N := 2) ?hd (cs := #[.int .i64 0, .string (⟨#[]⟩ : ByteArray), .slice none 0 0, .slice none 0 0]) (t := 37) ?hr ?_; (case hd => rfl); (case hg => rfl); (case hr => first | (go_simp; done) | (go_simp; rfl)); intro g2 hg w1 hbox hb; have n1 := As.mk hb; clear HB; have HB := n1; clear n1; have BK2 := As.mk hbox; clear hb hbox hg) | ((with_reducible refine gate_dst (N := 3) rfl ?_); refine box_event ?hg (N := 3) ?hd (cs := #[.bool false]) (t := 4) ?hr ?_; (case hd => rfl); (case hg => rfl); (case hr => first | (go_simp; done) | (go_simp; rfl)); intro g3 hg w1 hbox hb; have n1 := As.mk (HB.out.trans (hb.mono HB.out.size)); have n2 := As.mk (kB BK2.out hb); have NE := As.mk ((by rw [hg]; exact Nat.ne_of_lt (blk_lt (w := _) BK2.out)) : g2 ≠ g3); have GE := As.mk ((by rw [hg]; exact HB.out.size) : w.heap.size ≤ g3); clear HB BK2; have HB := n1; have BK2 := n2; clear n1 n2; have BK3 := As.mk hbox; clear hb hbox hg) | ((with_reducible refine gate_dst (N := 10) rfl ?_); refine box_event ?hg (N := 10) ?hd (cs := #[.slice A 0 c]) (t := 120) ?hr ?_; (case hd => rfl); (case hg => rfl); (case hr => first | (go_simp; done) | (go_simp; rfl)); intro g10 hg w1 hbox hb; have n1 := As.mk (HB.out.trans (hb.mono HB.out.size)); have n2 := As.mk (kB BK2.out hb); have n3 := As.mk (kB BK3.out hb); clear HB BK2 BK3; have HB := n1; have BK2 := n2; have BK3 := n3; clear n1 n2 n3; have BK10 := As.mk hbox; clear hb hbox hg) | (go_at_call 85; refine (rtwo_short g10 A c _ ((kC BK10.out 0).trans rfl)).mono ?_; rintro e w9 ⟨rfl, rfl⟩))
  refine leaves_cons (f := 84) (args := #[.pointer (some ⟨g3, 0, none⟩)]) (by simp) (by simp [go_sem]) ?_
  refine (catch_short ⟨g3, 0, none⟩ false [] _ ((kC BK3.out 0).trans rfl) (kF BK3.out 0)).mono ?_
  rintro e u' w9 ⟨rfl, rfl, w8, hw, hb⟩
  have b2 := kB BK2.out hb
  have b3 := kB BK3.out hb
  have HB9 : Below w.heap.size w w9 := by rw [hw]; exact bS (HB.out.trans (hb.mono HB.out.size)) GE.out
  have k2 : w9.heap[g2]? = some (.cells #[.int .i64 0, .string (⟨#[]⟩ : ByteArray), .slice none 0 0, .slice none 0 0] 37 (0, 0)) := by rw [hw]; exact kR (p := ⟨g3, 0, none⟩) b2 NE.out (.bool false)
  have k3 : w9.heap[g3]? = some (.cells #[.bool false] 4 (0, 0)) := by rw [hw]; exact kP b3 0 (.bool false) (cs' := #[.bool false]) rfl
  have m0 : w9.cell? ⟨g2, 0, none⟩ = some (.int .i64 0) := (kC k2 0).trans rfl
  have m1 : w9.cell? ⟨g2, 1, none⟩ = some (.string (⟨#[]⟩ : ByteArray)) := (kC k2 1).trans rfl
  have m2 : w9.cell? ⟨g2, 2, none⟩ = some (.slice none 0 0) := (kC k2 2).trans rfl
  have m3 : w9.cell? ⟨g2, 3, none⟩ = some (.slice none 0 0) := (kC k2 3).trans rfl
  have m4 : w9.cell? ⟨g3, 0, none⟩ = some (.bool false) := (kC k3 0).trans rfl
  clear hw hb b2 b3 k2 k3
  simp [Leaves, settle, results, Tryz.results46, go_sem, m0, m1, m2, m3, m4]
  exact HB9
end Go.Proofs.YtkgafkoopefghaaGreatDoor.PA
end
section
set_option linter.unusedVariables false
set_option linter.unusedSimpArgs false
namespace Go.Proofs.YtkgafkoopefghaaGreatDoor.PA
open Go.RowKit Go.Proofs.YtkgafkoopefghaaGreatDoor.Hk Go.Proofs.YtkgafkoopefghaaGreatDoorW.PrintWords
def RdS (w0 W : World) (g : Nat) (xs : List Int) : Prop := ∃ A c, W.heap[g]? = some (.cells #[.slice A xs.length c] 120 (0, 0)) ∧ xs.length ≤ c ∧ ReadsInt w0 .u8 A xs.length xs ∧ Below w0.heap.size w0 W ∧ w0.heap.size ≤ g ∧ xs.length < 2147483648 ∧ ∀ x, x ∈ xs → 0 ≤ x ∧ x < 256
theorem RdS.of_below {w0 W : World} {g : Nat} {xs : List Int} (h : RdS w0 W g xs) : Below w0.heap.size w0 W := h.elim fun _ h => h.elim fun _ h => h.2.2.2.1
def RdE (w0 W : World) (g : Nat) (Q : Value → Prop) (e : Ending) (w' : World) : Prop :=
  KeepBut W w' g none ∧ Below w0.heap.size w0 w' ∧ (e = .panicked [{ v := shortV, recovered := false }] ∨ ∃ v xs, e = .returned v ∧ Q v ∧ RdS w0 w' g xs)
def TakeE (w0 W : World) (g : Nat) (xs : List Int) (n : Int) (e : Ending) (w' : World) : Prop :=
  KeepBut W w' g none ∧ Below w0.heap.size w0 w' ∧ (((xs.length : Int) < n ∧ e = .panicked [{ v := shortV, recovered := false }]) ∨ (n ≤ (xs.length : Int) ∧ ∃ A1 c1, e = .returned (.slice A1 n.toNat c1) ∧ ReadsInt w0 .u8 A1 n.toNat (xs.take n.toNat) ∧ RdS w0 w' g (xs.drop n.toNat)))
set_option maxRecDepth 100000 in
set_option maxHeartbeats 2000000 in
theorem take_calls (w0 W : World) (g : Nat) (xs : List Int) (n : Int) (hn : 0 ≤ n) (hm : n < 2147483648) (H : RdS w0 W g xs) :
    Calls Tryz.prog 105 #[.pointer (some ⟨g, 0, none⟩), .int .i64 n] W (TakeE w0 W g xs n) := by
  obtain ⟨A, c, hg, hc, hC, hB, hge, hx, hin⟩ := H
  have k0 : W.cell? ⟨g, 0, none⟩ = some (.slice A xs.length c) := (kC hg 0).trans rfl
  by_cases hlt : (xs.length : Int) < n
  · refine (take_short g A xs.length c n W (by omega) hlt k0).mono ?_
    rintro e w' ⟨rfl, rfl⟩
    exact ⟨KeepBut.refl _ _ _, hB, .inl ⟨hlt, rfl⟩⟩
  · have hle : n ≤ (xs.length : Int) := by omega
    obtain ⟨i0, hi, hzz⟩ := Option.map_eq_some_iff.1 info5
    simp only [Prod.mk.injEq] at hzz
    obtain ⟨t1, t2, t3⟩ := print_take_of (P := Tryz.prog) (Value.int .u8) (0 : Int) 39 5 .i64 Tryz.underlying39 hi hzz.2.1 A c xs n hn hle hc
    obtain ⟨A2, d1, d2, d3⟩ := print_drop_of (P := Tryz.prog) (Value.int .u8) (0 : Int) 39 5 .i64 Tryz.underlying39 hi hzz.2.1 A c xs n hn hle hc
    have f0 := kF hg 0
    have hgt : ¬ n > (xs.length : Int) := hlt
    have hq : (xs.length : Int) ≤ 9223372036854775807 := by omega
    have hu120 := Tryz.underlying120
    have e1 : (xs.take n.toNat).length = n.toNat := by rw [List.length_take]; omega
    have e2 : (xs.drop n.toNat).length = xs.length - n.toNat := List.length_drop ..
    have HT2 := t2 w0 hC
    have HD2 := d2 w0 hC
    rw [e1] at t1 HT2
    rw [e2] at d1 HD2 d3
    have HQ := As.mk (show ∀ w' c2 c3, KeepBut W w' g none → Below w0.heap.size w0 w' → w'.heap[g]? = some (.cells #[.slice A2 (xs.length - n.toNat) c3] 120 (0, 0)) → xs.length - n.toNat ≤ c3 → TakeE w0 W g xs n (.returned (.slice A n.toNat c2)) w' from fun w' c2 c3 h1 h2 h3 h4 => ⟨h1, h2, .inr ⟨hle, A, c2, rfl, HT2, A2, c3, by rw [e2]; exact h3, by rw [e2]; exact h4, by rw [e2]; exact HD2, h2, hge, by rw [e2]; omega, fun x hx => hin x (List.mem_of_mem_drop hx)⟩⟩)
    have BK := As.mk hg
    have HB := As.mk hB
    clear hg hB hC hi hzz t2 d2 HT2 HD2 e1 e2
    go_enter Tryz.func105, Tryz.ntmps105
    go_wp2
    go_ret
    exact HQ.out _ _ _ ((KeepBut.refl _ _ _).set_ 0 _) (bS HB.out hge) (kP BK.out 0 _ rfl) d3
theorem take1_none {w0 W w' : World} {g : Nat} {e : Ending} (h : TakeE w0 W g [] 1 e w') : e = .panicked [{ v := shortV, recovered := false }] ∧ KeepBut W w' g none ∧ Below w0.heap.size w0 w' := by
  obtain ⟨h1, h2, ⟨_, rfl⟩ | ⟨hle, _⟩⟩ := h
  · exact ⟨rfl, h1, h2⟩
  · simp at hle
theorem take1_one {w0 W w' : World} {g : Nat} {x : Int} {rest : List Int} {e : Ending} (h : TakeE w0 W g (x :: rest) 1 e w') : ∃ ad c, e = .returned (.slice (some ad) 1 c) ∧ w'.cell? ad = some (.int .u8 x) ∧ KeepBut W w' g none ∧ Below w0.heap.size w0 w' ∧ RdS w0 w' g rest := by
  obtain ⟨h1, h2, ⟨hlt, _⟩ | ⟨hle, A1, c1, rfl, hr, hs⟩⟩ := h
  · simp only [List.length_cons] at hlt; omega
  obtain ⟨ad, e1, hcell⟩ := ReadsInt.at_ hr 0 (by decide) (by simp)
  subst e1
  have hcell : w0.cell? (ad.add 0) = some (.int .u8 x) := hcell
  rw [Addr.add_zero'] at hcell
  exact ⟨ad, c1, rfl, (h2.cell (World.block_lt_of_cell? _ _ hcell)).trans hcell, h1, h2, hs⟩
set_option maxRecDepth 100000 in
set_option maxHeartbeats 2000000 in
theorem rbyte_calls (w0 W : World) (g : Nat) (xs : List Int) (H : RdS w0 W g xs) :
    Calls Tryz.prog 87 #[.pointer (some ⟨g, 0, none⟩)] W (RdE w0 W g (fun v => ∃ x : Int, v = .int .i64 x ∧ 0 ≤ x ∧ x < 256)) := by
  have hin : ∀ x, x ∈ xs → 0 ≤ x ∧ x < 256 := H.elim fun _ h => h.elim fun _ h => h.2.2.2.2.2.2
  have HC := As.mk (take_calls w0 W g xs 1 (by decide) (by decide) H)
  clear H
  go_enter Tryz.func87, Tryz.ntmps87
  cases xs with
  | nil =>
    go_wp2_with (go_at_call 105; refine HC.out.mono ?_; rintro e w1 ht; obtain ⟨rfl, hk, hb⟩ := take1_none ht; clear ht; have HK := As.mk hk; have HB := As.mk hb; clear hk hb)
    exact ⟨rfl, HK.out, HB.out, .inl rfl⟩
  | cons x rest =>
    have hx := hin x (by simp)
    have hw : wrap64 x = x := by unfold wrap64; omega
    go_wp2_with (go_at_call 105; refine HC.out.mono ?_; rintro e w1 ht; obtain ⟨ad, c1, rfl, hcell, hk, hb, hs⟩ := take1_one ht; clear ht; have HK := As.mk hk; have HB := As.mk hb; have HS := As.mk hs; clear hk hb hs)
    go_ret
    exact ⟨HK.out, HB.out, .inr ⟨_, rest, rfl, ⟨x, rfl, hx⟩, HS.out⟩⟩
theorem or_two {x y : Int} (hx : 0 ≤ x ∧ x < 256) (hy : 0 ≤ y ∧ y < 256) : Go.bits .or .i64 (x * 256) y = x * 256 + y :=
  bits_join .i64 63 (by decide) (fun n h0 h1 => by rw [IntKind.wrap_i64]; omega) 8 (x * 256) y (by omega) (by omega) (by omega) hy.1 (by omega) (by omega)
set_option maxRecDepth 100000 in
set_option maxHeartbeats 2000000 in
theorem rtwo_calls (w0 W : World) (g : Nat) (xs : List Int) (H : RdS w0 W g xs) :
    Calls Tryz.prog 85 #[.pointer (some ⟨g, 0, none⟩)] W (RdE w0 W g (fun v => ∃ x : Int, v = .int .i64 x ∧ 0 ≤ x ∧ x < 65536)) := by
  have HS := As.mk H
  have T1 := As.mk True.intro
  clear H
  go_enter Tryz.func85, Tryz.ntmps85
  go_wp2_with (go_at_call 87; first
    | (clear T1; refine (rbyte_calls w0 _ g _ HS.out).mono ?_; rintro e w1 ⟨hk, hb, rfl | ⟨v, ys, rfl, ⟨x, rfl, hx⟩, hs⟩⟩; (focus (exact ⟨rfl, hk, hb, .inl rfl⟩)); clear HS; have HS := As.mk hs; have HK := As.mk hk; clear hs hk hb; have HX := As.mk hx; have hw : wrap64 (x * 256) = x * 256 := by (unfold wrap64; omega))
    | (refine (rbyte_calls w0 _ g _ HS.out).mono ?_; rintro e w2 ⟨hk, hb, rfl | ⟨v, ys, rfl, ⟨y, rfl, hy⟩, hs⟩⟩; (focus (exact ⟨rfl, HK.out.trans hk (.inl rfl), hb, .inl rfl⟩)); clear HS; have HS := As.mk hs; have nk := As.mk (HK.out.trans hk (.inl rfl)); clear HK; have HK := nk; clear nk; have HB := As.mk hb; clear hs hk hb; have HY := As.mk hy; have ho := or_two HX.out hy; clear hx hy))
  go_ret
  have hx := HX.out
  have hy := HY.out
  exact ⟨HK.out, HB.out, .inr ⟨_, _, rfl, ⟨x * 256 + y, by rw [← ho]; rfl, by omega, by omega⟩, HS.out⟩⟩
set_option maxRecDepth 100000 in
set_option maxHeartbeats 2000000 in
theorem rtext_calls (w0 W : World) (g : Nat) (xs : List Int) (H : RdS w0 W g xs) :
    Calls Tryz.prog 86 #[.pointer (some ⟨g, 0, none⟩)] W (RdE w0 W g (fun v => ∃ s : ByteArray, v = .string s ∧ s.size < 65536)) := by
  have HS := As.mk H
  clear H
  go_enter Tryz.func86, Tryz.ntmps86
  go_wp2_with (first
    | (go_at_call 85; refine (rtwo_calls w0 _ g _ HS.out).mono ?_; rintro e w1 ⟨hk, hb, rfl | ⟨v, ys, rfl, ⟨x, rfl, hx⟩, hs⟩⟩; (focus (exact ⟨rfl, hk, hb, .inl rfl⟩)); clear HS; have HS := As.mk hs; have HK := As.mk hk; clear hs hk hb; have HX := As.mk hx; clear hx)
    | (go_at_call 105; refine (take_calls w0 _ g _ x HX.out.1 (by have := HX.out.2; omega) HS.out).mono ?_; rintro e w2 ⟨hk, hb, ⟨hlt, rfl⟩ | ⟨hle, A1, c1, rfl, hr, hs⟩⟩; (focus (exact ⟨rfl, HK.out.trans hk (.inl rfl), hb, .inl rfl⟩)); clear HS; have HS := As.mk hs; have nk := As.mk (HK.out.trans hk (.inl rfl)); clear HK; have HK := nk; clear nk hs hk hle; have hcv := string_of_reads (c := c1) (P := Tryz.prog) Tryz.underlying39 Tryz.underlying5 Tryz.underlying9 (hr.below hb); have HB := As.mk hb; clear hb hr))
  go_ret
  exact ⟨HK.out, HB.out, .inr ⟨_, _, rfl, ⟨_, rfl, by rw [strOfNums_size, List.length_take]; have := HX.out.1; have := HX.out.2; omega⟩, HS.out⟩⟩
end Go.Proofs.YtkgafkoopefghaaGreatDoor.PA
end
section
set_option linter.unusedVariables false
set_option linter.unusedSimpArgs false
namespace Go.Proofs.YtkgafkoopefghaaGreatDoor.PA
open Go.RowKit Go.Proofs.YtkgafkoopefghaaGreatDoor.Hk Go.Proofs.YtkgafkoopefghaaGreatDoorW.PrintWords
section
open Go.Proofs.YtkgafkoopefghaaGreatDoorW.PrintLast
variable {P : Program} {ops : Array Oper} {Q : Exit → Act → World → Prop} {md : Region.Mode} {S S' : World → Prop} {ds : List Nat}
theorem goesP_ {oi : Oper} {N : Option Tmp} {a : Act} {w : World} {K : Act → World → Prop} {f : FuncId} {fn : Func} {os : Array Operand} {ts : Array TypeId} (hf : P.funcs[f]? = some fn) (hname : (fn.name == "runtime.NumGoroutine") = false) (hb : fn.body.isSome = true) (args : Array Value)
    (hw : Region.wanted oi (yielded ops a.tmps) = true) (hN : oi.dst = N) (hop : oi.op = .call { callee := .value (.func f), args := os, argTypes := ts }) (hargs : os.map a.eval = args)
    (h : Calls P f args w fun e w' => (∃ v, e = .returned v ∧ K (a.put N v) w') ∨ (∃ c, e = .panicked c ∧ Q (.panic c) a w')) : if Region.wanted oi (yielded ops a.tmps) = true then Oper.wp P oi a w K Q else K (a.put N undef) w := by
  have he := enters_ hf hname hb args w
  have hrun : (execOp a.eval oi).run P w = .ok (.enter f args) w := by
    unfold execOp
    simp [hop, resolve, Deferred.ofValue, invoke, Act.eval, hargs, he]
  rw [if_pos hw]
  subst hN
  unfold Oper.wp
  rw [hrun, Oper.upon_enter]
  refine h.mono fun e w'' hh => ?_
  rcases hh with ⟨v, rfl, hk⟩ | ⟨c, rfl, hk⟩
  · exact hk
  · exact hk
theorem hold_ : ∀ {fuel : Nat} {l : Array Bool} {a : Act} {w : World}, wpAnyLast P md ops Q S' ds fuel l a w → wpAnyLast P md ops Q (fun _ => True) ds fuel l a w
  | 0, _, _, _, h => h
  | fuel + 1, _, _, _, h => ⟨h.1, fun i hi => wpOp_mono (fun a' w' h' => ⟨fun _ _ => trivial, hold_ h'.2⟩) (h.2 i hi)⟩
theorem joinS_ {σ : Type} {fuel : Nat} {l : Array Bool} {a : Act} {w : World} (fuel' : Nat) (l' : Array Bool) (ns : σ → List (Tmp × Value)) (F : σ → World → Prop)
    (hcont : ∀ (S' : World → Prop) s w', F s w' → wpAnyLast P md ops Q S' ds fuel' l' (putAll a (ns s)) w')
    (h : (∀ (S' : World → Prop) s w', F s w' → wpAnyLast P md ops Q S' ds fuel' l' (putAll a (ns s)) w') → wpAnyLast P md ops Q S ds fuel l a w) : wpAnyLast P md ops Q S ds fuel l a w := h hcont
end
def Mv (W W' : World) (t : Nat) : Prop := ∀ (k : Nat) (cs : Array Value) (q : Nat), W.heap[k]? = some (Obj.cells cs q (0, 0)) → q ≠ t → W'.heap[k]? = W.heap[k]?
theorem Mv.below {W W' : World} {t : Nat} (h : Below W.heap.size W W') : Mv W W' t := fun k cs q hk _ => h.block k (blk_lt hk)
theorem Mv.keep {W W' : World} {g t : Nat} {cs : Array Value} (hk : KeepBut W W' g none) (hg : W.heap[g]? = some (.cells cs t (0, 0))) : Mv W W' t := fun k cs' q hc hq => hk.2 k (blk_lt hc) (blk_ne hc hg hq) (by simp)
theorem Mv.set {W : World} {g t j : Nat} {cs : Array Value} (hg : W.heap[g]? = some (.cells cs t (0, 0))) (u : Value) : Mv W (W.setCell ⟨g, j, none⟩ u) t := fun k cs' q hc hq => Below.heap_setCell W ⟨g, j, none⟩ u k (blk_ne hc hg hq)
theorem Mv.grown {W W' : World} {t : Nat} {v : Value} (hg : W.grownBy W' v.ownBlock) (ho : ∀ k, v.ownBlock = some k → ∃ cells, W.heap[k]? = some (.cells cells t (0, 0))) : Mv W W' t := fun k cs q hc hq => hg.block k (blk_lt hc) (fun e => by
  obtain ⟨cells, h2⟩ := ho k e.symm
  exact blk_ne hc h2 hq rfl)
theorem Mv.blk {W W' : World} {t g q : Nat} {cs : Array Value} (h : Mv W W' t) (hg : W.heap[g]? = some (.cells cs q (0, 0))) (hq : q ≠ t) : W'.heap[g]? = some (.cells cs q (0, 0)) := (h g cs q hg hq).trans hg
theorem Mv.R {α : Type} {d : Kd α} {e base t : Nat} {W W' : World} {ok : Nat → Prop} {v : Value} {xs : List α} (m : Mv W W' t) (h : d.R e W base ok v xs) (ht : ∀ q, q ∈ e :: d.E → q ≠ t) : d.R e W' base ok v xs :=
  Kd.R_mono (Kd.R_move (Kd.R_bound h) (fun k hk => by
    obtain ⟨_, _, _, q, hq, cells, hc⟩ := hk
    exact m k cells q hc (ht q hq))) (fun _ hk => hk.1)
theorem RdS.mv {w0 W W' : World} {g t : Nat} {xs : List Int} (h : RdS w0 W g xs) (m : Mv W W' t) (ht : 120 ≠ t) (hb : Below w0.heap.size w0 W') : RdS w0 W' g xs := by
  obtain ⟨A, c, h1, h2, h3, h4, h5, h6, h7⟩ := h
  exact ⟨A, c, m.blk h1 ht, h2, h3, hb, h5, h6, h7⟩
theorem RdS.moved {w0 W W' : World} {g : Nat} {xs : List Int} (h : RdS w0 W g xs) (hk : KeepBut W W' g none) : Mv W W' 120 := by
  obtain ⟨A, c, h1, _⟩ := h
  exact Mv.keep hk h1
def CB (w0 W : World) (g2 g3 : Nat) (v : Int) (n : ByteArray) (vR vE : Value) : Prop :=
  Below w0.heap.size w0 W ∧ w0.heap.size ≤ g2 ∧ w0.heap.size ≤ g3 ∧ W.heap[g2]? = some (.cells #[.int .i64 v, .string n, vR, vE] 37 (0, 0)) ∧ (∃ b, W.heap[g3]? = some (.cells #[.bool b] 4 (0, 0))) ∧ (0 ≤ v ∧ v < 65536) ∧ n.size < 65536
theorem CB.mv {w0 W W' : World} {g2 g3 t : Nat} {v : Int} {n : ByteArray} {vR vE : Value} (h : CB w0 W g2 g3 v n vR vE) (m : Mv W W' t) (hb : Below w0.heap.size w0 W') (h2 : 37 ≠ t) (h3 : 4 ≠ t) : CB w0 W' g2 g3 v n vR vE := by
  obtain ⟨c1, c2, c3, c4, ⟨b, c5⟩, c6, c7⟩ := h
  exact ⟨hb, c2, c3, m.blk c4 h2, ⟨b, m.blk c5 h3⟩, c6, c7⟩
def fitS (s : S24) : Prop := s.f0.size < 65536 ∧ s.f1.size < 65536 ∧ s.f2.length ≤ 255 ∧ ∀ p, p ∈ s.f2 → p.f0.size < 65536 ∧ p.f1.size < 65536
def fitQ (R : List S24) (E : List S50) : Prop := R.length ≤ 255 ∧ E.length ≤ 255 ∧ ∀ s, s ∈ R → fitS s
def CM (w0 W : World) (g2 g3 g : Nat) (xs : List Int) (ok : Nat → Prop) (v : Int) (n : ByteArray) (vR vE : Value) (R : List S24) (E : List S50) : Prop :=
  CB w0 W g2 g3 v n vR vE ∧ RdS w0 W g xs ∧ Kd.R k24 24 W w0.heap.size ok vR R ∧ Kd.R k50 50 W w0.heap.size (fun _ => True) vE E ∧ fitQ R E
def CZ (w0 W : World) (g2 g3 : Nat) : Prop := ∃ v n vR vE R E, CB w0 W g2 g3 v n vR vE ∧ Kd.R k24 24 W w0.heap.size (fun _ => True) vR R ∧ Kd.R k50 50 W w0.heap.size (fun _ => True) vE E ∧ fitQ R E
section
variable {w0 W W' : World} {g2 g3 g t : Nat} {xs ys : List Int} {ok ok' : Nat → Prop} {v : Int} {n : ByteArray} {vR vE : Value} {R : List S24} {E : List S50}
theorem CM.mv (h : CM w0 W g2 g3 g xs ok v n vR vE R E) (m : Mv W W' t) (hb : Below w0.heap.size w0 W') (ht : 37 ≠ t ∧ 4 ≠ t ∧ 120 ≠ t ∧ 24 ≠ t ∧ 31 ≠ t ∧ 50 ≠ t) : CM w0 W' g2 g3 g xs ok v n vR vE R E := by
  obtain ⟨h1, h2, h3, h4, h5⟩ := h
  refine ⟨h1.mv m hb ht.1 ht.2.1, h2.mv m ht.2.2.1 hb, m.R h3 ?_, m.R h4 ?_, h5⟩
  · intro q hq
    rcases List.mem_cons.1 hq with rfl | hq
    · exact ht.2.2.2.1
    · have : q = 31 := by simpa [k24, Kd.iso, Kd.pair, Kd.string, Kd.slice, Kd.scalar, k31] using hq
      rw [this]; exact ht.2.2.2.2.1
  · intro q hq
    rcases List.mem_cons.1 hq with rfl | hq
    · exact ht.2.2.2.2.2
    · cases hq
theorem CM.later (h : CM w0 W g2 g3 g xs ok v n vR vE R E) (hb : Below W.heap.size W W') : CM w0 W' g2 g3 g xs ok v n vR vE R E := h.mv (t := 0) (Mv.below hb) (bT h.1.1 hb) (by decide)
theorem CM.read (h : CM w0 W g2 g3 g xs ok v n vR vE R E) (hk : KeepBut W W' g none) (hs : RdS w0 W' g ys) : CM w0 W' g2 g3 g ys ok v n vR vE R E := by
  obtain ⟨h1, h2, h3, h4, h5⟩ := h
  have m := h2.moved hk
  refine ⟨h1.mv m hs.of_below (by decide) (by decide), hs, m.R h3 (by decide), m.R h4 (by decide), h5⟩
theorem CM.thrown (h : CM w0 W g2 g3 g xs ok v n vR vE R E) (hk : KeepBut W W' g none) (hb : Below w0.heap.size w0 W') : CZ w0 W' g2 g3 := by
  obtain ⟨h1, h2, h3, h4, h5⟩ := h
  have m := h2.moved hk
  exact ⟨v, n, vR, vE, R, E, h1.mv m hb (by decide) (by decide), Kd.R_mono (m.R h3 (by decide)) (fun _ _ => trivial), m.R h4 (by decide), h5⟩
theorem CM.z (h : CM w0 W g2 g3 g xs ok v n vR vE R E) : CZ w0 W g2 g3 := ⟨v, n, vR, vE, R, E, h.1, Kd.R_mono h.2.2.1 (fun _ _ => trivial), h.2.2.2⟩
theorem CM.box2 (h : CM w0 W g2 g3 g xs ok v n vR vE R E) : W.heap[g2]? = some (.cells #[.int .i64 v, .string n, vR, vE] 37 (0, 0)) := h.1.2.2.2.1
theorem CM.bel (h : CM w0 W g2 g3 g xs ok v n vR vE R E) : Below w0.heap.size w0 W := h.1.1
theorem CM.put (h : CM w0 W g2 g3 g xs ok v n vR vE R E) (j : Nat) (u : Value) {v' : Int} {n' : ByteArray} {vR' vE' : Value} {R' : List S24} {E' : List S50} (he : #[Value.int .i64 v, .string n, vR, vE].setIfInBounds j u = #[Value.int .i64 v', .string n', vR', vE'])
    (hv : 0 ≤ v' ∧ v' < 65536) (hn : n'.size < 65536) (hR : Kd.R k24 24 W w0.heap.size ok vR' R') (hE : Kd.R k50 50 W w0.heap.size (fun _ => True) vE' E') (hf : fitQ R' E') : CM w0 (W.setCell ⟨g2, j, none⟩ u) g2 g3 g xs ok v' n' vR' vE' R' E' := by
  obtain ⟨⟨c1, c2, c3, c4, ⟨b, c5⟩, c6, c7⟩, h2, h3, h4, h5⟩ := h
  have m : Mv W (W.setCell ⟨g2, j, none⟩ u) 37 := Mv.set c4 u
  have hb := bS (j := j) (v := u) c1 c2
  exact ⟨⟨hb, c2, c3, kP c4 j u he, ⟨b, m.blk c5 (by decide)⟩, hv, hn⟩, h2.mv m (by decide) hb, m.R hR (by decide), m.R hE (by decide), hf⟩
theorem CM.head {v0 : Int} {n0 : ByteArray} (h : CM w0 W g2 g3 g xs ok v0 n0 vR vE R E) {x : Int} {s : ByteArray} (hx : 0 ≤ x ∧ x < 65536) (hs : s.size < 65536) : CM w0 ((W.setCell ⟨g2, 0, none⟩ (.int .i64 x)).setCell ⟨g2, 1, none⟩ (.string s)) g2 g3 g xs ok x s vR vE R E := by
  have h1 := h.put 0 (.int .i64 x) (v' := x) (n' := n0) (vR' := vR) (vE' := vE) rfl hx h.1.2.2.2.2.2.2 h.2.2.1 h.2.2.2.1 h.2.2.2.2
  exact h1.put 1 (.string s) (v' := x) (n' := s) (vR' := vR) (vE' := vE) rfl hx hs h1.2.2.1 h1.2.2.2.1 h1.2.2.2.2
theorem CM.grewE (h : CM w0 W g2 g3 g xs ok v n vR vE R E) {v1 : Value} {E' : List S50} (hb : Below w0.heap.size w0 W') (hg : W.grownBy W' vE.ownBlock) (hE : Kd.R k50 50 W' w0.heap.size (fun _ => True) v1 E') (hf : fitQ R E') :
    W'.heap[g2]? = some (.cells #[.int .i64 v, .string n, vR, vE] 37 (0, 0)) ∧ CM w0 (W'.setCell ⟨g2, 3, none⟩ v1) g2 g3 g xs ok v n vR v1 R E' := by
  obtain ⟨h1, h2, h3, h4, h5⟩ := h
  have m : Mv W W' 50 := Mv.grown hg (Kd.R_typed h4)
  obtain ⟨c1, c2, c3, c4, ⟨b, c5⟩, c6, c7⟩ := h1.mv m hb (by decide) (by decide)
  have m2 : Mv W' (W'.setCell ⟨g2, 3, none⟩ v1) 37 := Mv.set c4 v1
  have hb2 := bS (j := 3) (v := v1) c1 c2
  exact ⟨c4, ⟨hb2, c2, c3, kP c4 3 v1 rfl, ⟨b, m2.blk c5 (by decide)⟩, c6, c7⟩, (h2.mv m (by decide) hb).mv m2 (by decide) hb2, m2.R (m.R h3 (by decide)) (by decide), m2.R hE (by decide), hf⟩
theorem CM.grewR (h : CM w0 W g2 g3 g xs ok v n vR vE R E) {v1 : Value} {R' : List S24} (hb : Below w0.heap.size w0 W') (hg : W.grownBy W' vR.ownBlock) (hR : Kd.R k24 24 W' w0.heap.size ok' v1 R') (hf : fitQ R' E) :
    W'.heap[g2]? = some (.cells #[.int .i64 v, .string n, vR, vE] 37 (0, 0)) ∧ CM w0 (W'.setCell ⟨g2, 2, none⟩ v1) g2 g3 g xs ok' v n v1 vE R' E := by
  obtain ⟨h1, h2, h3, h4, h5⟩ := h
  have m : Mv W W' 24 := Mv.grown hg (Kd.R_typed h3)
  obtain ⟨c1, c2, c3, c4, ⟨b, c5⟩, c6, c7⟩ := h1.mv m hb (by decide) (by decide)
  have m2 : Mv W' (W'.setCell ⟨g2, 2, none⟩ v1) 37 := Mv.set c4 v1
  have hb2 := bS (j := 2) (v := v1) c1 c2
  exact ⟨c4, ⟨hb2, c2, c3, kP c4 2 v1 rfl, ⟨b, m2.blk c5 (by decide)⟩, c6, c7⟩, (h2.mv m (by decide) hb).mv m2 (by decide) hb2, m2.R hR (by decide), m2.R (m.R h4 (by decide)) (by decide), hf⟩
theorem fitQ.snocE {e : S50} (h : fitQ R E) (hl : E.length < 255) : fitQ R (E ++ [e]) := ⟨h.1, by rw [List.length_append, List.length_singleton]; omega, h.2.2⟩
theorem fitQ.snocR {s : S24} (h : fitQ R E) (hl : R.length < 255) (hs : fitS s) : fitQ (R ++ [s]) E := ⟨by rw [List.length_append, List.length_singleton]; omega, h.2.1, fun r hr => by
  rcases List.mem_append.1 hr with hr | hr
  · exact h.2.2 r hr
  · rw [List.mem_singleton.1 hr]; exact hs⟩
theorem CM.fresh (h : CM w0 W g2 g3 g xs ok v n vR vE R E) (o : Obj) : CM w0 (W.alloc o) g2 g3 g xs (fun k => k < W.heap.size) v n vR vE R E := by
  have hb : Below W.heap.size W (W.alloc o) := bA (Below.refl _ _) o
  obtain ⟨h1, h2, h3, h4, h5⟩ := h.later hb
  exact ⟨h1, h2, Kd.R_mono (Kd.R_below (Kd.R_bound h.2.2.1) hb) (fun k hk => hk.2.2.1), h4, h5⟩
variable {g6 : Nat}
theorem CM.set6 {cs : Array Value} (h : CM w0 W g2 g3 g xs (fun k => k < g6) v n vR vE R E) (hg : W.heap[g6]? = some (.cells cs 24 (0, 0))) (hge : w0.heap.size ≤ g6) (j : Nat) (u : Value) : CM w0 (W.setCell ⟨g6, j, none⟩ u) g2 g3 g xs (fun k => k < g6) v n vR vE R E := by
  have m : Mv W (W.setCell ⟨g6, j, none⟩ u) 24 := Mv.set hg u
  have hb := bS (j := j) (v := u) h.bel hge
  obtain ⟨h1, h2, h3, h4, h5⟩ := h
  exact ⟨h1.mv m hb (by decide) (by decide), h2.mv m (by decide) hb, Kd.R_far (p := ⟨g6, j, none⟩) h3 (fun k hk => Nat.ne_of_lt hk) u, m.R h4 (by decide), h5⟩
theorem CM.grewP {vP : Value} {ps : List S31} (h : CM w0 W g2 g3 g xs (fun k => k < g6) v n vR vE R E) (hP : Kd.R k31 31 W w0.heap.size (fun k => g6 ≤ k) vP ps) (hg : W.grownBy W' vP.ownBlock) (hb : Below w0.heap.size w0 W') : CM w0 W' g2 g3 g xs (fun k => k < g6) v n vR vE R E := by
  have m : Mv W W' 31 := Mv.grown hg (Kd.R_typed hP)
  obtain ⟨h1, h2, h3, h4, h5⟩ := h
  exact ⟨h1.mv m hb (by decide) (by decide), h2.mv m (by decide) hb, Kd.R_grown h3 hg (fun k hk e => by have := hP.1 k e.symm; omega), m.R h4 (by decide), h5⟩
theorem CM.again (h : CM w0 W g2 g3 g xs ok v n vR vE R E) : CM w0 ((((W.setCell ⟨g2, 0, none⟩ (.int .i64 v)).setCell ⟨g2, 1, none⟩ (.string n)).setCell ⟨g2, 2, none⟩ vR).setCell ⟨g2, 3, none⟩ vE) g2 g3 g xs ok v n vR vE R E := by
  have h1 := h.head h.1.2.2.2.2.2.1 h.1.2.2.2.2.2.2
  have h2 := h1.put 2 vR (v' := v) (n' := n) (vR' := vR) (vE' := vE) rfl h1.1.2.2.2.2.2.1 h1.1.2.2.2.2.2.2 h1.2.2.1 h1.2.2.2.1 h1.2.2.2.2
  exact h2.put 3 vE (v' := v) (n' := n) (vR' := vR) (vE' := vE) rfl h2.1.2.2.2.2.2.1 h2.1.2.2.2.2.2.2 h2.2.2.1 h2.2.2.2.1 h2.2.2.2.2
theorem CM.okay (h : CM w0 W g2 g3 g xs ok v n vR vE R E) (b : Bool) : CM w0 (W.setCell ⟨g3, 0, none⟩ (.bool b)) g2 g3 g xs ok v n vR vE R E := by
  obtain ⟨⟨c1, c2, c3, c4, ⟨b0, c5⟩, c6, c7⟩, h2, h3, h4, h5⟩ := h
  have m : Mv W (W.setCell ⟨g3, 0, none⟩ (.bool b)) 4 := Mv.set c5 _
  have hb := bS (j := 0) (v := .bool b) c1 c3
  exact ⟨⟨hb, c2, c3, m.blk c4 (by decide), ⟨b, kP c5 0 (.bool b) (cs' := #[.bool b]) rfl⟩, c6, c7⟩, h2.mv m (by decide) hb, m.R h3 (by decide), m.R h4 (by decide), h5⟩
theorem CM.box3 (h : CM w0 W g2 g3 g xs ok v n vR vE R E) : ∃ b, W.heap[g3]? = some (.cells #[.bool b] 4 (0, 0)) := h.1.2.2.2.2.1
theorem CM.ne (h : CM w0 W g2 g3 g xs ok v n vR vE R E) : g2 ≠ g3 ∧ g3 ≠ g2 := by
  obtain ⟨b, hb⟩ := h.box3
  exact ⟨blk_ne h.box2 hb (by decide), blk_ne hb h.box2 (by decide)⟩
end
theorem kind_at {w : World} {base n c : Nat} {ok : Nat → Prop} {A : Option Addr} {l : List ByteArray} {t : Nat} (h : Kd.R Kd.string t w base ok (.slice A n c) l) (q : Nat) (hq : q < l.length) : n = l.length ∧ ∃ ad cs, A = some ad ∧ w.cell? (ad.add q) = some (.string (l.getD q (⟨#[]⟩ : ByteArray))) ∧ w.heap[(ad.add q).block]? = some (.cells cs t (0, 0)) := by
  obtain ⟨hn, hc, hC⟩ := Kd.R_reads' h
  refine ⟨hn, ?_⟩
  obtain ⟨ad, cs, hA, hl, hK, hcell⟩ := Kd.C_get hC (⟨#[]⟩ : ByteArray) (q : Int) (by omega) (by omega)
  subst hA
  rw [Int.toNat_natCast] at hK hcell
  have hcs : cs = [.string (l.getD q (⟨#[]⟩ : ByteArray))] := hK
  subst hcs
  obtain ⟨g, rfl⟩ := Kd.R_head h
  obtain ⟨cells, hty⟩ := Kd.R_typed h g rfl
  refine ⟨_, cells, rfl, ?_, ?_⟩
  · have := hcell 0 _ rfl
    rw [show q * Kd.string.sz + 0 = q from by show q * 1 + 0 = q; omega] at this
    exact this
  · rw [add_at]; exact hty
end Go.Proofs.YtkgafkoopefghaaGreatDoor.PA
end
