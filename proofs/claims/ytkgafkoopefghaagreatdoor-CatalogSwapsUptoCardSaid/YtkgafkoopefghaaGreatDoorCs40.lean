/- A part of this law; its conditions stand in the last text. -/
import Derived.Test.YtkgafkoopefghaaGreatDoorCs39
import Derived.Test.YtkgafkoopefghaaGreatDoorCs38
import Derived.Test.YtkgafkoopefghaaGreatDoorCs29
import Derived.Test.YtkgafkoopefghaaGreatDoorCs25
import Derived.Test.YtkgafkoopefghaaGreatDoorCs6
import Derived.Test.YtkgafkoopefghaaGreatDoorCs9
import Derived.Test.YtkgafkoopefghaaGreatDoorCs31
import Derived.Test.YtkgafkoopefghaaGreatDoorCs35
import Derived.Test.YtkgafkoopefghaaGreatDoorCs37
import Derived.BigRegion
import Derived.BigQuiet
import Derived.Deep.QuietTactic
import Derived.Deep.DeepCutAuto
section
set_option linter.unusedVariables false
set_option linter.unusedSimpArgs false
namespace Go.Proofs.YtkgafkoopefghaaGreatDoor.PA
open Go.RowKit Go.Proofs.YtkgafkoopefghaaGreatDoor.Hk Go.Proofs.YtkgafkoopefghaaGreatDoorW.PrintWords
theorem check_groups (s : ByteArray) (hs : s.size < 2147483648) : tables_Check.f (⟨#[103, 114, 111, 117, 112, 115]⟩ : ByteArray) s [(⟨#[]⟩ : ByteArray)] = some (if keyB s = true then 0 else 51) := by
  unfold tables_Check.f
  rw [if_pos ⟨by decide, by simp only [fitB, decide_eq_true_iff]; omega, by decide, by decide⟩, check_key]
theorem enc_zero : catalog_Encode.f 1 0 (⟨#[]⟩ : ByteArray) [] [] = some ([], 70) := by
  unfold catalog_Encode.f catalog_Check.f
  rw [check_groups _ (by decide), show keyB (⟨#[]⟩ : ByteArray) = false from by decide +kernel]
  simp only [Option.bind_some]
  rw [if_neg (by decide), if_neg (by decide), show ((if (false : Bool) = true then (0 : Int) else 51) != 0) = true from by decide, catalog_Check.j0, if_pos rfl]
  rfl
def catalog_Decode.f (l0 : List Int) : Option (Int × ByteArray × (List (S24)) × (List (S50)) × Int) := if l0 = [] then some (0, (⟨#[]⟩ : ByteArray), ([] : List (S24)), ([] : List (S50)), 70) else none
set_option maxRecDepth 100000 in
set_option maxHeartbeats 4000000 in
theorem catalog_Decode.calls (A0 : Option Addr) (c0 : Nat) (l0 : List Int) (r1 : Int) (r2 : ByteArray) (r3 : List (S24)) (r4 : List (S50)) (r5 : Int) (w : World) (hr0 : Kd.C (Kd.int .u8) w A0 l0.length l0) (hc0 : l0.length ≤ c0) (h : catalog_Decode.f l0 = some (r1, r2, r3, r4, r5)) (hU : UtfOk w) :
    Calls Tryz.prog 23 #[.slice A0 l0.length c0] w fun e w' => ∃ v2_ v3_ : Value, e = .returned (.tuple #[.agg #[.int .i64 r1, .string r2, v2_, v3_], .int .i64 r5]) ∧ Kd.S k24 24 w' w.heap.size (fun _ => True) v2_ r3 ∧ Kd.R k50 50 w' w.heap.size (fun _ => True) v3_ r4 ∧ Below w.heap.size w w' := by
  unfold catalog_Decode.f at h
  by_cases c : l0 = []
  rotate_left
  · rw [if_neg c] at h; cases h
  rw [if_pos c] at h
  subst c
  simp only [Option.some.injEq, Prod.mk.injEq] at h
  obtain ⟨rfl, rfl, rfl, rfl, rfl⟩ := h
  clear hr0 hc0
  have HU := As.mk hU
  clear hU
  have hu37 := Tryz.underlying37
  have HB := As.mk (Below.refl w.heap.size w)
  go_enter Tryz.func23, Tryz.ntmps23
  go_wp2_with (first | ((with_reducible refine gate_dst (N := 2) rfl ?_); refine box_event ?hg (N := 2) ?hd (cs := #[.int .i64 0, .string (⟨#[]⟩ : ByteArray), .slice none 0 0, .slice none 0 0]) (t := 37) ?hr ?_; (case hd => rfl); (case hg => rfl); (case hr => first | (go_simp; done) | (go_simp; rfl)); intro g2 hg w1 hbox hb; have GE2 := As.mk ((by rw [hg]; exact HB.out.size) : w.heap.size ≤ g2); have n1 := As.mk (HB.out.trans (hb.mono HB.out.size)); clear HB; have HB := n1; clear n1; have BK2 := As.mk hbox; clear hb hbox hg; have mg2_0 : w1.cell? ⟨g2, 0, none⟩ = some (.int .i64 0) := (kC BK2.out 0).trans rfl; have fg2_0 := kF BK2.out 0; have mg2_1 : w1.cell? ⟨g2, 1, none⟩ = some (.string (⟨#[]⟩ : ByteArray)) := (kC BK2.out 1).trans rfl; have fg2_1 := kF BK2.out 1; have mg2_2 : w1.cell? ⟨g2, 2, none⟩ = some (.slice none 0 0) := (kC BK2.out 2).trans rfl; have fg2_2 := kF BK2.out 2; have mg2_3 : w1.cell? ⟨g2, 3, none⟩ = some (.slice none 0 0) := (kC BK2.out 3).trans rfl; have fg2_3 := kF BK2.out 3) | (go_at_call 46; refine (read_short _ _ _).mono ?_; rintro e w1 ⟨rfl, hb⟩; have n1 := As.mk (HB.out.trans (hb.mono HB.out.size)); have n2 := As.mk (kB BK2.out hb); clear HB BK2 mg2_0 fg2_0 mg2_1 fg2_1 mg2_2 fg2_2 mg2_3 fg2_3; have HB := n1; have BK2 := n2; clear n1 n2 hb; have mg2_0 : w1.cell? ⟨g2, 0, none⟩ = some (.int .i64 0) := (kC BK2.out 0).trans rfl; have fg2_0 := kF BK2.out 0; have mg2_1 : w1.cell? ⟨g2, 1, none⟩ = some (.string (⟨#[]⟩ : ByteArray)) := (kC BK2.out 1).trans rfl; have fg2_1 := kF BK2.out 1; have mg2_2 : w1.cell? ⟨g2, 2, none⟩ = some (.slice none 0 0) := (kC BK2.out 2).trans rfl; have fg2_2 := kF BK2.out 2; have mg2_3 : w1.cell? ⟨g2, 3, none⟩ = some (.slice none 0 0) := (kC BK2.out 3).trans rfl; have fg2_3 := kF BK2.out 3) | ((with_reducible refine gate_dst (N := 4) rfl ?_); refine box_event ?hg (N := 4) ?hd (cs := #[.int .i64 0, .string (⟨#[]⟩ : ByteArray), .slice none 0 0, .slice none 0 0]) (t := 37) ?hr ?_; (case hd => rfl); (case hg => rfl); (case hr => first | (go_simp; done) | (go_simp; rfl)); intro g4 hg w1 hbox hb; have GE4 := As.mk ((by rw [hg]; exact HB.out.size) : w.heap.size ≤ g4); have n1 := As.mk (HB.out.trans (hb.mono HB.out.size)); have n2 := As.mk (kB BK2.out hb); have NE := As.mk ((by rw [hg]; exact Nat.ne_of_lt (blk_lt (w := _) BK2.out)) : g2 ≠ g4); clear HB BK2 mg2_0 fg2_0 mg2_1 fg2_1 mg2_2 fg2_2 mg2_3 fg2_3; have HB := n1; have BK2 := n2; clear n1 n2; have BK4 := As.mk hbox; clear hb hbox hg; have mg2_0 : w1.cell? ⟨g2, 0, none⟩ = some (.int .i64 0) := (kC BK2.out 0).trans rfl; have fg2_0 := kF BK2.out 0; have mg2_1 : w1.cell? ⟨g2, 1, none⟩ = some (.string (⟨#[]⟩ : ByteArray)) := (kC BK2.out 1).trans rfl; have fg2_1 := kF BK2.out 1; have mg2_2 : w1.cell? ⟨g2, 2, none⟩ = some (.slice none 0 0) := (kC BK2.out 2).trans rfl; have fg2_2 := kF BK2.out 2; have mg2_3 : w1.cell? ⟨g2, 3, none⟩ = some (.slice none 0 0) := (kC BK2.out 3).trans rfl; have fg2_3 := kF BK2.out 3; have mg4_0 : w1.cell? ⟨g4, 0, none⟩ = some (.int .i64 0) := (kC BK4.out 0).trans rfl; have fg4_0 := kF BK4.out 0; have mg4_1 : w1.cell? ⟨g4, 1, none⟩ = some (.string (⟨#[]⟩ : ByteArray)) := (kC BK4.out 1).trans rfl; have fg4_1 := kF BK4.out 1; have mg4_2 : w1.cell? ⟨g4, 2, none⟩ = some (.slice none 0 0) := (kC BK4.out 2).trans rfl; have fg4_2 := kF BK4.out 2; have mg4_3 : w1.cell? ⟨g4, 3, none⟩ = some (.slice none 0 0) := (kC BK4.out 3).trans rfl; have fg4_3 := kF BK4.out 3) | ((with_reducible refine gate_store (t := 37) (p := 4) rfl ?_); refine store_event (t := 37) (p := 4) (v := ?vo4) (w1 := ?wo4) ?hg ?ho ?hn ?hr ?_; (case ho => rfl); (case hg => rfl); (case hn => rfl); (case hr => first | (go_simp; done) | (go_simp; rfl)); intro w2 hw; have n0 := As.mk ((by rw [hw]; exact kP (cs := #[.int .i64 0, .string (⟨#[]⟩ : ByteArray), .slice none 0 0, .slice none 0 0]) (kP (cs := #[.int .i64 0, .string (⟨#[]⟩ : ByteArray), .slice none 0 0, .slice none 0 0]) (kP (cs := #[.int .i64 0, .string (⟨#[]⟩ : ByteArray), .slice none 0 0, .slice none 0 0]) (kP (cs := #[.int .i64 0, .string (⟨#[]⟩ : ByteArray), .slice none 0 0, .slice none 0 0]) BK4.out 0 _ rfl) 1 _ rfl) 2 _ rfl) 3 _ rfl) : w2.heap[g4]? = some (.cells #[.int .i64 0, .string (⟨#[]⟩ : ByteArray), .slice none 0 0, .slice none 0 0] 37 (0, 0))); have n1 := As.mk ((by rw [hw]; exact bS (bS (bS (bS HB.out GE4.out) GE4.out) GE4.out) GE4.out) : Below w.heap.size w w2); have n2 := As.mk ((by rw [hw]; exact kR (p := ⟨g4, 3, none⟩) (kR (p := ⟨g4, 2, none⟩) (kR (p := ⟨g4, 1, none⟩) (kR (p := ⟨g4, 0, none⟩) BK2.out NE.out _) NE.out _) NE.out _) NE.out _) : w2.heap[g2]? = some (.cells #[.int .i64 0, .string (⟨#[]⟩ : ByteArray), .slice none 0 0, .slice none 0 0] 37 (0, 0))); clear HB BK4 BK2 mg4_0 fg4_0 mg4_1 fg4_1 mg4_2 fg4_2 mg4_3 fg4_3 mg2_0 fg2_0 mg2_1 fg2_1 mg2_2 fg2_2 mg2_3 fg2_3; have HB := n1; have BK4 := n0; have BK2 := n2; clear n2; clear n0 n1 hw; have mg4_0 : w2.cell? ⟨g4, 0, none⟩ = some (.int .i64 0) := (kC BK4.out 0).trans rfl; have fg4_0 := kF BK4.out 0; have mg4_1 : w2.cell? ⟨g4, 1, none⟩ = some (.string (⟨#[]⟩ : ByteArray)) := (kC BK4.out 1).trans rfl; have fg4_1 := kF BK4.out 1; have mg4_2 : w2.cell? ⟨g4, 2, none⟩ = some (.slice none 0 0) := (kC BK4.out 2).trans rfl; have fg4_2 := kF BK4.out 2; have mg4_3 : w2.cell? ⟨g4, 3, none⟩ = some (.slice none 0 0) := (kC BK4.out 3).trans rfl; have fg4_3 := kF BK4.out 3; have mg2_0 : w2.cell? ⟨g2, 0, none⟩ = some (.int .i64 0) := (kC BK2.out 0).trans rfl; have fg2_0 := kF BK2.out 0; have mg2_1 : w2.cell? ⟨g2, 1, none⟩ = some (.string (⟨#[]⟩ : ByteArray)) := (kC BK2.out 1).trans rfl; have fg2_1 := kF BK2.out 1; have mg2_2 : w2.cell? ⟨g2, 2, none⟩ = some (.slice none 0 0) := (kC BK2.out 2).trans rfl; have fg2_2 := kF BK2.out 2; have mg2_3 : w2.cell? ⟨g2, 3, none⟩ = some (.slice none 0 0) := (kC BK2.out 3).trans rfl; have fg2_3 := kF BK2.out 3) | (go_at_call 18; refine (catalog_Encode.calls 1 0 (⟨#[]⟩ : ByteArray) none 0 [] none 0 [] [] 70 _ (Kd.C_nil _ _) (Nat.le_refl _) (Kd.C_nil _ _) (Nat.le_refl _) enc_zero (UtfOk.of_below HU.out HB.out)).mono ?_; rintro e w1 ⟨v1, rfl, hr, hb⟩; have n1 := As.mk (HB.out.trans (hb.mono HB.out.size)); have n2 := As.mk (kB BK2.out hb); clear HB BK2 mg2_0 fg2_0 mg2_1 fg2_1 mg2_2 fg2_2 mg2_3 fg2_3; have HB := n1; have BK2 := n2; clear n1 n2 hb hr; have mg2_0 : w1.cell? ⟨g2, 0, none⟩ = some (.int .i64 0) := (kC BK2.out 0).trans rfl; have fg2_0 := kF BK2.out 0; have mg2_1 : w1.cell? ⟨g2, 1, none⟩ = some (.string (⟨#[]⟩ : ByteArray)) := (kC BK2.out 1).trans rfl; have fg2_1 := kF BK2.out 1; have mg2_2 : w1.cell? ⟨g2, 2, none⟩ = some (.slice none 0 0) := (kC BK2.out 2).trans rfl; have fg2_2 := kF BK2.out 2; have mg2_3 : w1.cell? ⟨g2, 3, none⟩ = some (.slice none 0 0) := (kC BK2.out 3).trans rfl; have fg2_3 := kF BK2.out 3) | ((with_reducible refine gate_store (t := 37) (p := 2) rfl ?_); refine store_event (t := 37) (p := 2) (v := ?vo2) (w1 := ?wo2) ?hg ?ho ?hn ?hr ?_; (case ho => rfl); (case hg => rfl); (case hn => rfl); (case hr => first | (go_simp; done) | (go_simp; rfl)); intro w2 hw; have n0 := As.mk ((by rw [hw]; exact kP (cs := #[.int .i64 0, .string (⟨#[]⟩ : ByteArray), .slice none 0 0, .slice none 0 0]) (kP (cs := #[.int .i64 0, .string (⟨#[]⟩ : ByteArray), .slice none 0 0, .slice none 0 0]) (kP (cs := #[.int .i64 0, .string (⟨#[]⟩ : ByteArray), .slice none 0 0, .slice none 0 0]) (kP (cs := #[.int .i64 0, .string (⟨#[]⟩ : ByteArray), .slice none 0 0, .slice none 0 0]) BK2.out 0 _ rfl) 1 _ rfl) 2 _ rfl) 3 _ rfl) : w2.heap[g2]? = some (.cells #[.int .i64 0, .string (⟨#[]⟩ : ByteArray), .slice none 0 0, .slice none 0 0] 37 (0, 0))); have n1 := As.mk ((by rw [hw]; exact bS (bS (bS (bS HB.out GE2.out) GE2.out) GE2.out) GE2.out) : Below w.heap.size w w2); clear HB BK2  mg2_0 fg2_0 mg2_1 fg2_1 mg2_2 fg2_2 mg2_3 fg2_3; have HB := n1; have BK2 := n0; clear n0 n1 hw; have mg2_0 : w2.cell? ⟨g2, 0, none⟩ = some (.int .i64 0) := (kC BK2.out 0).trans rfl; have fg2_0 := kF BK2.out 0; have mg2_1 : w2.cell? ⟨g2, 1, none⟩ = some (.string (⟨#[]⟩ : ByteArray)) := (kC BK2.out 1).trans rfl; have fg2_1 := kF BK2.out 1; have mg2_2 : w2.cell? ⟨g2, 2, none⟩ = some (.slice none 0 0) := (kC BK2.out 2).trans rfl; have fg2_2 := kF BK2.out 2; have mg2_3 : w2.cell? ⟨g2, 3, none⟩ = some (.slice none 0 0) := (kC BK2.out 3).trans rfl; have fg2_3 := kF BK2.out 3))
  refine bodyPost_ret (results_ct rfl _ _ g2 37 #[.int .i64 0, .string (⟨#[]⟩ : ByteArray), .slice none 0 0, .slice none 0 0] (0, 0) _ rfl BK2.out Tryz.underlying37 rfl (by kernel_rfl)) rfl ?_
  refine ⟨.slice none 0 0, .slice none 0 0, ?_, Kd.S_nil _ _ _ _ _, Kd.R_nil _ _ _ _ _, HB.out⟩
  rfl
end Go.Proofs.YtkgafkoopefghaaGreatDoor.PA
end
section
namespace Go.Proofs.YtkgafkoopefghaaGreatDoor.PA
open Go.RowKit Go.Proofs.YtkgafkoopefghaaGreatDoorW.PrintWords Go.Proofs.YtkgafkoopefghaaGreatDoorW.PrintLast Go.Proofs.YtkgafkoopefghaaGreatDoorW.PrintMore
open Go.Proofs.YtkgafkoopefghaaGreatDoor.Hk
attribute [local go_sem high] Go.Proofs.YtkgafkoopefghaaGreatDoor.Hk.binOp_leq_not
attribute [local go_sem] max2_int min2_int max_two min_two max_three min_three max_four min_four
set_option linter.unusedVariables false
set_option linter.unusedSimpArgs false
open Go.Maps Go.WideMaps
theorem shown_file : fullS (⟨#[102, 105, 108, 101]⟩ : ByteArray) (⟨#[47, 97]⟩ : ByteArray) [] = (⟨#[102, 105, 108, 101]⟩, ⟨#[47, 97]⟩, [⟨⟨#[99, 111, 110, 116, 101, 110, 116]⟩, ⟨#[]⟩⟩, ⟨⟨#[101, 110, 115, 117, 114, 101]⟩, ⟨#[102, 105, 108, 101]⟩⟩, ⟨⟨#[109, 111, 100, 101]⟩, ⟨#[48, 54, 52, 52]⟩⟩], 0) := by
 have h : fullS (⟨#[102, 105, 108, 101]⟩ : ByteArray) (⟨#[47, 97]⟩ : ByteArray) [] = (⟨#[102, 105, 108, 101]⟩, ⟨#[47, 97]⟩, outS ⟨#[102, 105, 108, 101]⟩ [] fileD.head!.2, 0) := by kernel_rfl
 have hn : namesS fileD.head!.2 = [[99, 111, 110, 116, 101, 110, 116], [101, 110, 115, 117, 114, 101], [109, 111, 100, 101]] := namesS_are (by decide +kernel) (by decide +kernel)
 rw [h]
 unfold outS
 rw [hn]
 rfl
theorem store4_R {W : World} {g t base : Nat} {a b c d : Value} {ok : Nat → Prop} {v : Value} {xs : List Int} (h : Kd.R (Kd.int .u8) 5 W base ok v xs) (hb : W.heap[g]? = some (.cells #[a, b, c, d] t (0, 0))) (h5 : t ≠ 5) (x y z u : Value) : Kd.R (Kd.int .u8) 5 ((((W.setCell ⟨g, 0, none⟩ x).setCell ⟨g, 1, none⟩ y).setCell ⟨g, 2, none⟩ z).setCell ⟨g, 3, none⟩ u) base ok v xs := by
 have hq : ∀ q, q ∈ 5 :: (Kd.int .u8).E → q ≠ t := fun q hq => by
  have : q = 5 := by simpa [Kd.int, Kd.scalar] using hq
  rw [this]; exact fun e => h5 e.symm
 have b1 := kP hb 0 x (cs' := #[x, b, c, d]) rfl
 have b2 := kP b1 1 y (cs' := #[x, y, c, d]) rfl
 have b3 := kP b2 2 z (cs' := #[x, y, z, d]) rfl
 exact Kd.R_set (Kd.R_set (Kd.R_set (Kd.R_set h hb hq 0 x) b1 hq 1 y) b2 hq 2 z) b3 hq 3 u
theorem check_groups7 (s : ByteArray) (hs : s.size < 2147483648) : tables_Check.f (⟨#[103, 114, 111, 117, 112, 115]⟩ : ByteArray) s [(⟨#[]⟩ : ByteArray)] = some (if keyB s = true then 0 else 51) := by
 unfold tables_Check.f
 rw [if_pos ⟨by decide, by simp only [fitB, decide_eq_true_iff]; omega, by decide, by decide⟩, check_key]
theorem check_n1 : catalog_Check.f 20 0 (⟨#[110, 49]⟩ : ByteArray) [] [] = some 0 := by
 unfold catalog_Check.f
 rw [check_groups7 _ (by decide), show keyB (⟨#[110, 49]⟩ : ByteArray) = true from by decide +kernel, Option.bind_some]
 rw [if_neg (by decide), if_neg (by decide), show ((if (true : Bool) = true then (0 : Int) else 51) != 0) = false from by decide, catalog_Check.j0, if_neg (by decide), if_neg (by decide), if_neg (by decide), catalog_Check.l0, if_neg (by decide)]
 have hb : catalog_blocked.f [] = some false := by decide +kernel
 rw [hb, Option.bind_some, if_neg (by decide), catalog_Check.l1, if_neg (by decide)]
 have hB : catalog_bytes.f 0 (⟨#[110, 49]⟩ : ByteArray) [] [] = some ([0, 0, 0, 2, 110, 49, 0, 0] : List Int) := by decide +kernel
 rw [hB]
 rfl
theorem enc_n1 : catalog_Encode.f 20 0 (⟨#[110, 49]⟩ : ByteArray) [] [] = some (([0, 0, 0, 2, 110, 49, 0, 0] : List Int), 0) := by
 have hB : catalog_bytes.f 0 (⟨#[110, 49]⟩ : ByteArray) [] [] = some ([0, 0, 0, 2, 110, 49, 0, 0] : List Int) := by decide +kernel
 unfold catalog_Encode.f
 rw [check_n1, Option.bind_some, if_pos rfl, hB]
 rfl
theorem check_a : catalog_Check.f 20 0 (⟨#[110, 49]⟩ : ByteArray) [⟨(⟨#[102, 105, 108, 101]⟩ : ByteArray), (⟨#[47, 97]⟩ : ByteArray), []⟩] [] = some 70 := by
 unfold catalog_Check.f
 rw [check_groups7 _ (by decide), show keyB (⟨#[110, 49]⟩ : ByteArray) = true from by decide +kernel, Option.bind_some]
 rw [if_neg (by decide), if_neg (by decide), show ((if (true : Bool) = true then (0 : Int) else 51) != 0) = false from by decide, catalog_Check.j0, if_neg (by decide), if_neg (by decide), if_neg (by decide), catalog_Check.l0, if_pos (by decide), if_pos (by decide), if_pos (by decide)]
 rw [show rd_T24 [(⟨(⟨#[102, 105, 108, 101]⟩ : ByteArray), (⟨#[47, 97]⟩ : ByteArray), []⟩ : S24)] 0 = ⟨(⟨#[102, 105, 108, 101]⟩ : ByteArray), (⟨#[47, 97]⟩ : ByteArray), []⟩ from rfl]
 simp only []
 rw [full_f _ _ _ (by decide), shown_file, Option.bind_some, if_pos rfl]
 rfl
def majordomolaw07_shown.f (k : Nat) : Option (Bool) := some true
set_option maxHeartbeats 8000000 in
set_option maxRecDepth 100000 in
theorem majordomolaw07_shown.calls (k : Nat)  (r : Bool) (w : World) (h : majordomolaw07_shown.f k  = some r) (hU : UtfOk w) :
 Calls Tryz.prog 16 #[] w fun e w' => e = .returned (.bool r) ∧ Below w.heap.size w w' := by
 have HU := As.mk hU
 clear hU
 obtain rfl := Option.some.inj h
 clear h
 have hu37 := Tryz.underlying37
 have HB := As.mk (Below.refl w.heap.size w)
 obtain ⟨y326, hy⟩ : ∃ y_ : List S24, y_ = [(⟨(⟨#[102, 105, 108, 101]⟩ : ByteArray), (⟨#[47, 97]⟩ : ByteArray), []⟩ : S24)] := ⟨_, rfl⟩
 have A1 := As.mk enc_n1
 have A2 := As.mk check_a
 rw [← hy] at A2
 have A3 := As.mk (show catalog_Decode.f [] = some (0, (⟨#[]⟩ : ByteArray), ([] : List S24), ([] : List S50), 70) from rfl)
 have Ny326 := As.mk hy
 clear hy
 have cs_ : ((strOfNums ([0, 0, 0, 2, 110, 49, 0, 0] : List Int)).toList == ([0, 0, 0, 2, 110, 49, 0, 0] : List UInt8)) = true := by decide +kernel
 go_enter Tryz.func16, Tryz.ntmps16
 go_wp2_with (first | ((with_reducible refine gate_callee (f := 18) rfl ?_); refine goesL_ (some 8) rfl rfl Tryz.func18 (by kernel_rfl) rfl #[.agg #[.int .i64 0, .string (⟨#[110, 49]⟩ : ByteArray), .slice none 0 0, .slice none 0 0]] rfl (by (try simp only [List.map_toArray, List.map_cons, List.map_nil]); first | done | rfl | (simp only [List.length_drop, List.length_take]; rfl)) ?_; (refine (catalog_Encode.calls 20 0 (⟨#[110, 49]⟩ : ByteArray) _ _ ([] : List (S24)) _ _ ([] : List (S50)) ([0, 0, 0, 2, 110, 49, 0, 0] : List Int) (0 : Int) _ ?side1 ?side2 ?side3 ?side4 A1.out (UtfOk.of_below HU.out (by repeat (first | (with_reducible first | exact HB.out | apply bA | apply bN | apply bD) | exact HB.out)))).mono ?_); (case side1 => exact Kd.C_nil _ _); (case side2 => exact Nat.le_refl _); (case side3 => exact Kd.C_nil _ _); (case side4 => exact Nat.le_refl _); rintro e w7 ⟨v323, rfl, ho0, hb⟩; refine ⟨_, rfl, ?_⟩; have n0_ := As.mk (Kd.R_lower ho0 (bZ (by repeat (first | (with_reducible first | exact HB.out | apply bA | apply bN | apply bD) | exact HB.out)))); have n1_ := As.mk (bT (by repeat (first | (with_reducible first | exact HB.out | apply bA | apply bN | apply bD) | exact HB.out)) hb); clear HB; have HO324 := n0_; have HB := n1_; clear n0_ n1_; (try clear hb); (try clear hb2); (try clear hk); (try clear hi); (try clear ho0)) | ((with_reducible refine gate_dst (N := 12) rfl ?_); refine Kd.S_lit k24 _ 24 ?hg (N := 12) ?hd (xs := ([(⟨(⟨#[102, 105, 108, 101]⟩ : ByteArray), (⟨#[47, 97]⟩ : ByteArray), ([] : List (S31))⟩ : S24)] : List (S24))) (inner := [.string (⟨#[102, 105, 108, 101]⟩ : ByteArray), .string (⟨#[47, 97]⟩ : ByteArray), .slice none 0 0]) (ok := fun _ => True) (okp := fun _ => True) ?hr ?hp (fun _ hk => hk) trivial (Below.refl _ _) (Nat.le_refl _) (by simp) ?_; (case hd => rfl); (case hg => rfl); (case hr => first | (go_simp; done) | (go_simp; rfl)); (case hp => exact (Reps.c3 (show Kd.M k24 _ _ _ (⟨(⟨#[102, 105, 108, 101]⟩ : ByteArray), (⟨#[47, 97]⟩ : ByteArray), ([] : List (S31))⟩ : S24) [.string (⟨#[102, 105, 108, 101]⟩ : ByteArray), .string (⟨#[47, 97]⟩ : ByteArray), .slice none 0 0] from (k24_mkM _ _ _ (⟨(⟨#[102, 105, 108, 101]⟩ : ByteArray), (⟨#[47, 97]⟩ : ByteArray), ([] : List (S31))⟩ : S24) (Kd.R_nil _ _ _ _ _))) (Reps.none _ _))); intro v327 w8 ho9 hb hg_ hnew_; clear hg_ hnew_; (first | rw [← Ny326.out] at ho9 | (simp only [Int.reduceToNat] at ho9; rw [← Ny326.out] at ho9)); have n0_ := As.mk (Kd.R_below (by (with_reducible repeat (first | apply Kd.R_alloc | apply Kd.R_drewN | apply Kd.R_drew)); exact HO324.out) hb); have n1_ := As.mk (Kd.S_lower ho9 (bZ (by repeat (first | (with_reducible first | exact HB.out | apply bA | apply bN | apply bD) | exact HB.out)))); have n2_ := As.mk (bT (by repeat (first | (with_reducible first | exact HB.out | apply bA | apply bN | apply bD) | exact HB.out)) hb); clear HO324; clear HB; have HO324 := n0_; have HO328 := n1_; have HB := n2_; clear n0_ n1_ n2_; clear hb ho9; obtain ⟨Ao10, co10, eo10⟩ := Kd.S_slice HO328.out; subst eo10) | ((with_reducible refine gate_callee (f := 21) rfl ?_); refine goesL_ (some 14) rfl rfl Tryz.func21 (by kernel_rfl) rfl #[.agg #[.int .i64 0, .string (⟨#[110, 49]⟩ : ByteArray), .slice Ao10 y326.length co10, .slice none 0 0]] rfl (by (try simp only [List.map_toArray, List.map_cons, List.map_nil]); first | done | rfl | (simp only [List.length_drop, List.length_take]; rfl)) ?_; (refine (catalog_Check.calls 20 0 (⟨#[110, 49]⟩ : ByteArray) _ _ y326 _ _ ([] : List (S50)) (70 : Int) _ ?side1 ?side2 ?side3 ?side4 A2.out (UtfOk.of_below HU.out (by repeat (first | (with_reducible first | exact HB.out | apply bA | apply bN | apply bD) | exact HB.out)))).mono ?_); (case side1 => repeat (first | exact (Kd.S_reads' HO328.out).2.2 | (with_reducible refine Kd.C_alloc ?_ _) | (with_reducible refine Kd.C_drewN ?_ _) | (with_reducible refine Kd.C_drew ?_))); (case side2 => exact (Kd.S_reads' HO328.out).2.1); (case side3 => exact Kd.C_nil _ _); (case side4 => exact Nat.le_refl _); rintro e w11 ⟨rfl, hb⟩; refine ⟨_, rfl, ?_⟩; have n0_ := As.mk (Kd.R_below (by (with_reducible repeat (first | apply Kd.R_alloc | apply Kd.R_drewN | apply Kd.R_drew)); exact HO324.out) hb); have n1_ := As.mk (Kd.S_below (by (with_reducible repeat (first | apply Kd.S_alloc | apply Kd.S_drewN | apply Kd.S_drew)); exact HO328.out) hb); have n2_ := As.mk (bT (by repeat (first | (with_reducible first | exact HB.out | apply bA | apply bN | apply bD) | exact HB.out)) hb); clear HO324; clear HO328; clear HB; have HO324 := n0_; have HO328 := n1_; have HB := n2_; clear n0_ n1_ n2_; (try clear hb); (try clear hb2); (try clear hk); (try clear hi)) | ((with_reducible refine gate_callee (f := 23) rfl ?_); refine goesL_ (some 16) rfl rfl Tryz.func23 (by kernel_rfl) rfl #[.slice none 0 0] rfl (by (try simp only [List.map_toArray, List.map_cons, List.map_nil]); first | done | rfl | (simp only [List.length_drop, List.length_take]; rfl)) ?_; (refine (catalog_Decode.calls _ _ ([] : List Int) (0 : Int) (⟨#[]⟩ : ByteArray) ([] : List S24) ([] : List S50) (70 : Int) _ ?side1 ?side2 A3.out (UtfOk.of_below HU.out (by repeat (first | (with_reducible first | exact HB.out | apply bA | apply bN | apply bD) | exact HB.out)))).mono ?_); (case side1 => exact Kd.C_nil _ _); (case side2 => exact Nat.le_refl _); rintro e w12 ⟨v333, v336, rfl, ho0, ho1, hb⟩; refine ⟨_, rfl, ?_⟩; have n0_ := As.mk (Kd.R_below (by (with_reducible repeat (first | apply Kd.R_alloc | apply Kd.R_drewN | apply Kd.R_drew)); exact HO324.out) hb); have n1_ := As.mk (Kd.S_elder' (by (with_reducible repeat (first | apply Kd.S_alloc | apply Kd.S_drewN | apply Kd.S_drew)); exact HO328.out) (Kd.S_base ho0) hb); have n2_ := As.mk (Kd.S_lower (Kd.S_new' ho0 (Kd.S_lt (by (with_reducible repeat (first | apply Kd.S_alloc | apply Kd.S_drewN | apply Kd.S_drew)); exact HO328.out))) (bZ (by repeat (first | (with_reducible first | exact HB.out | apply bA | apply bN | apply bD) | exact HB.out)))); have n3_ := As.mk (Kd.R_lower ho1 (bZ (by repeat (first | (with_reducible first | exact HB.out | apply bA | apply bN | apply bD) | exact HB.out)))); have n4_ := As.mk (bT (by repeat (first | (with_reducible first | exact HB.out | apply bA | apply bN | apply bD) | exact HB.out)) hb); clear HO324; clear HO328; clear HB; have HO324 := n0_; have HO328 := n1_; have HO334 := n2_; have HO337 := n3_; have HB := n4_; clear n0_ n1_ n2_ n3_ n4_; (try clear hb); (try clear hb2); (try clear hk); (try clear hi); (try clear ho0); (try clear ho1)) | ((with_reducible refine gate_dst (N := 4) rfl ?_); refine box_event ?hg (N := 4) ?hd (cs := #[.int .i64 0, .string (⟨#[]⟩ : ByteArray), .slice none 0 0, .slice none 0 0]) (t := 37) ?hr ?_; (case hd => rfl); (case hg => rfl); (case hr => first | (go_simp; done) | (go_simp; rfl)); intro gb339 hg w13 hbox hb; have n0_ := As.mk (Kd.R_below (by (with_reducible repeat (first | apply Kd.R_alloc | apply Kd.R_drewN | apply Kd.R_drew)); exact HO324.out) hb); have n1_ := As.mk (Kd.S_below (by (with_reducible repeat (first | apply Kd.S_alloc | apply Kd.S_drewN | apply Kd.S_drew)); exact HO328.out) hb); have n2_ := As.mk (Kd.S_below (by (with_reducible repeat (first | apply Kd.S_alloc | apply Kd.S_drewN | apply Kd.S_drew)); exact HO334.out) hb); have n3_ := As.mk (Kd.R_below (by (with_reducible repeat (first | apply Kd.R_alloc | apply Kd.R_drewN | apply Kd.R_drew)); exact HO337.out) hb); have n4_ := As.mk (bT (by repeat (first | (with_reducible first | exact HB.out | apply bA | apply bN | apply bD) | exact HB.out)) hb); have n5_ := As.mk (hbox); have n6_ := As.mk ((by rw [hg]; exact (bZ (by repeat (first | (with_reducible first | exact HB.out | apply bA | apply bN | apply bD) | exact HB.out))) : w.heap.size ≤ gb339)); have n7_ := As.mk ((by rw [hg]; exact (bZ (by repeat (first | (with_reducible first | exact HB.out | apply bA | apply bN | apply bD) | exact HB.out))) : w.heap.size ≤ gb339)); clear HO324; clear HO328; clear HO334; clear HO337; clear HB; have HO324 := n0_; have HO328 := n1_; have HO334 := n2_; have HO337 := n3_; have HB := n4_; have BK339 := n5_; have GW339 := n6_; have GE339 := n7_; clear n0_ n1_ n2_ n3_ n4_ n5_ n6_ n7_; clear hb hbox hg; have hcz14_0 : w13.cell? ⟨gb339, 0, none⟩ = some (.int .i64 0) := (kC BK339.out 0).trans rfl; have hcz14_1 : w13.cell? ⟨gb339, 1, none⟩ = some (.string (⟨#[]⟩ : ByteArray)) := (kC BK339.out 1).trans rfl; have hcz14_2 : w13.cell? ⟨gb339, 2, none⟩ = some (.slice none 0 0) := (kC BK339.out 2).trans rfl; have hcz14_3 : w13.cell? ⟨gb339, 3, none⟩ = some (.slice none 0 0) := (kC BK339.out 3).trans rfl; have hfz14_0 := kF BK339.out 0; have hfz14_1 := kF BK339.out 1; have hfz14_2 := kF BK339.out 2; have hfz14_3 := kF BK339.out 3; obtain ⟨Ao15, co15, eo15⟩ := Kd.S_slice HO334.out; subst eo15; obtain ⟨Ao16, co16, eo16⟩ := Kd.R_slice HO337.out; subst eo16) | ((with_reducible refine gate_store (t := 37) (p := 4) rfl ?_); refine store_event (t := 37) (p := 4) (v := ?vo4) (w1 := ?wo4) ?hg ?ho ?hn ?hr ?_; (case ho => rfl); (case hg => rfl); (case hn => rfl); (case hr => first | (go_simp; done) | (go_simp; rfl)); intro w14 hw; have n0 := As.mk ((by rw [hw]; exact store4_R HO324.out BK339.out (by decide) _ _ _ _) : Kd.R (Kd.int .u8) 5 w14 _ _ _ _); have n1 := As.mk ((by rw [hw]; exact bS (bS (bS (bS HB.out GE339.out) GE339.out) GE339.out) GE339.out) : Below w.heap.size w w14); clear HO324 HB BK339; have HO324 := n0; have HB := n1; clear n0 n1 hw; clear hcz14_0 hcz14_1 hcz14_2 hcz14_3 hfz14_0 hfz14_1 hfz14_2 hfz14_3; have hcv17 := own_string (P := Tryz.prog) Tryz.underlying39 Tryz.underlying5 Tryz.underlying9 (Kd.own_of_R HO324.out)))
 go_ret
 exact ⟨rfl, HB.out⟩
end Go.Proofs.YtkgafkoopefghaaGreatDoor.PA
end
section
set_option linter.unusedVariables false
set_option linter.unusedSimpArgs false
namespace Go.Proofs.YtkgafkoopefghaaGreatDoor.PA
open Go.RowKit Go.Maps Go.WideMaps Go.Proofs.YtkgafkoopefghaaGreatDoor.Hk Go.Proofs.YtkgafkoopefghaaGreatDoorW.PrintWords
theorem arr_set {a : Array Value} {i x : Nat} {u : Value} (hi : i < a.size) : (a.setIfInBounds i u)[x]? = if x = i then some u else a[x]? := by
  by_cases c : x = i
  · subst c; rw [if_pos rfl, Array.getElem?_setIfInBounds_self_of_lt hi]
  · rw [if_neg c, Array.getElem?_setIfInBounds_ne (fun e => c e.symm)]
def set6 (W : World) (g a b : Nat) (y0 y1 y2 x0 x1 x2 : Value) : World := (((((W.setCell ⟨g, a, none⟩ y0).setCell ⟨g, a + 1, none⟩ y1).setCell ⟨g, a + 2, none⟩ y2).setCell ⟨g, b, none⟩ x0).setCell ⟨g, b + 1, none⟩ x1).setCell ⟨g, b + 2, none⟩ x2
theorem swap_C3 {α : Type} {d : Kd α} (hsz : d.sz = 3) {e base n cap g : Nat} {ok : Nat → Prop} {W : World} {xs : List α} (z : α) (h : d.R e W base ok (.slice (some ⟨g, 0, none⟩) n cap) xs) (p q : Nat) (hp : p < n) (hq : q < n) (hpq : p ≠ q) {x0 x1 x2 y0 y1 y2 : Value}
    (hx0 : W.cell? ⟨g, p * 3, none⟩ = some x0) (hx1 : W.cell? ⟨g, p * 3 + 1, none⟩ = some x1) (hx2 : W.cell? ⟨g, p * 3 + 2, none⟩ = some x2) (hy0 : W.cell? ⟨g, q * 3, none⟩ = some y0) (hy1 : W.cell? ⟨g, q * 3 + 1, none⟩ = some y1) (hy2 : W.cell? ⟨g, q * 3 + 2, none⟩ = some y2) :
    d.C (set6 W g (p * 3) (q * 3) y0 y1 y2 x0 x1 x2) (some ⟨g, 0, none⟩) n (swapL z xs p q) := by
  obtain ⟨hn, hcap, hC⟩ := Kd.R_reads' h
  obtain ⟨cur, hcur⟩ := Kd.R_typed h g rfl
  have cc : ∀ x, W.cell? ⟨g, x, none⟩ = cur[x]? := fun x => kC hcur x
  have b := blk_set (blk_set (blk_set (blk_set (blk_set (blk_set hcur (p * 3) y0) (p * 3 + 1) y1) (p * 3 + 2) y2) (q * 3) x0) (q * 3 + 1) x1) (q * 3 + 2) x2
  have lt : ∀ {x : Nat} {u : Value}, W.cell? ⟨g, x, none⟩ = some u → x < cur.size := fun {x u} hu => by rw [cc] at hu; exact (Array.getElem?_eq_some_iff.1 hu).1
  have s0 := lt hx0
  have s1 := lt hx1
  have s2 := lt hx2
  have t0 := lt hy0
  have t1 := lt hy1
  have t2 := lt hy2
  have key : ∀ x, (set6 W g (p * 3) (q * 3) y0 y1 y2 x0 x1 x2).cell? ⟨g, x, none⟩ = if x = q * 3 + 2 then some x2 else if x = q * 3 + 1 then some x1 else if x = q * 3 then some x0 else if x = p * 3 + 2 then some y2 else if x = p * 3 + 1 then some y1 else if x = p * 3 then some y0 else W.cell? ⟨g, x, none⟩ := fun x => by
    have hc := kC b x
    unfold set6
    rw [hc, arr_set (by simp only [Array.size_setIfInBounds]; exact t2), arr_set (by simp only [Array.size_setIfInBounds]; exact t1), arr_set (by simp only [Array.size_setIfInBounds]; exact t0), arr_set (by simp only [Array.size_setIfInBounds]; exact s2), arr_set (by simp only [Array.size_setIfInBounds]; exact s1), arr_set s0, cc]
  have move : ∀ (x : α) (cs : List Value), d.M W base (fun k => ok k ∧ some k ≠ (Value.slice (some ⟨g, 0, none⟩) n cap).ownBlock) x cs → d.K (set6 W g (p * 3) (q * 3) y0 y1 y2 x0 x1 x2) x cs := fun x cs hM => by
    have hk : ∀ k, (ok k ∧ some k ≠ (Value.slice (some ⟨g, 0, none⟩) n cap).ownBlock) → k ≠ g := fun k hk e => hk.2 (by rw [e]; rfl)
    unfold set6
    exact d.K_of_M (Kd.M_far (p := ⟨g, _, none⟩) (Kd.M_far (p := ⟨g, _, none⟩) (Kd.M_far (p := ⟨g, _, none⟩) (Kd.M_far (p := ⟨g, _, none⟩) (Kd.M_far (p := ⟨g, _, none⟩) (Kd.M_far (p := ⟨g, _, none⟩) hM hk _) hk _) hk _) hk _) hk _) hk _)
  have at_ : ∀ (i : Nat), i < n → ∃ c : List Value, c.length = 3 ∧ d.K (set6 W g (p * 3) (q * 3) y0 y1 y2 x0 x1 x2) (xs.getD i z) c ∧ ∀ j u, c[j]? = some u → W.cell? ⟨g, i * 3 + j, none⟩ = some u := fun i hi => by
    obtain ⟨c, hcl, hM, hcc⟩ := Kd.R_getA h z (i : Int) (by omega) (by omega)
    rw [Int.toNat_natCast] at hM hcc
    rw [hsz] at hcl hcc
    refine ⟨c, hcl, move _ _ hM, fun j u hu => ?_⟩
    have := hcc j u hu
    rw [add_at, Nat.zero_add] at this
    exact this
  refine ⟨by rw [swapL_len, hn], by have := hC.2.1; omega, fun _ => ⟨_, rfl, fun j x hj => ?_⟩⟩
  have hjl : j < n := by
    have := (List.getElem?_eq_some_iff.1 hj).1
    rw [swapL_len] at this
    omega
  have hx : x = (swapL z xs p q).getD j z := by rw [List.getD_eq_getElem?_getD, hj]; rfl
  by_cases cq : j = q
  · subst cq
    rw [swapL_q (by omega)] at hx
    obtain ⟨c, h1, h2, h3⟩ := at_ p hp
    rw [← hx] at h2
    refine ⟨c, by rw [h1, hsz], h2, fun i u hu => ?_⟩
    have hi : i < 3 := by have := (List.getElem?_eq_some_iff.1 hu).1; omega
    rw [add_at, Nat.zero_add, hsz, key, ← h3 i u hu]
    have h4 := h3 i u hu
    match i, hi with
    | 0, _ => rw [if_neg (by omega), if_neg (by omega), if_pos (by omega)]; exact hx0.symm
    | 1, _ => rw [if_neg (by omega), if_pos rfl]; exact hx1.symm
    | 2, _ => rw [if_pos rfl]; exact hx2.symm
  by_cases cp : j = p
  · subst cp
    rw [swapL_p (by omega) hpq] at hx
    obtain ⟨c, h1, h2, h3⟩ := at_ q hq
    rw [← hx] at h2
    refine ⟨c, by rw [h1, hsz], h2, fun i u hu => ?_⟩
    have hi : i < 3 := by have := (List.getElem?_eq_some_iff.1 hu).1; omega
    rw [add_at, Nat.zero_add, hsz, key, ← h3 i u hu]
    match i, hi with
    | 0, _ => rw [if_neg (by omega), if_neg (by omega), if_neg (by omega), if_neg (by omega), if_neg (by omega), if_pos (by omega)]; exact hy0.symm
    | 1, _ => rw [if_neg (by omega), if_neg (by omega), if_neg (by omega), if_neg (by omega), if_pos rfl]; exact hy1.symm
    | 2, _ => rw [if_neg (by omega), if_neg (by omega), if_neg (by omega), if_pos rfl]; exact hy2.symm
  · obtain ⟨c, h1, h2, h3⟩ := at_ j hjl
    have hx3 : x = xs.getD j z := by
      rw [hx]
      unfold swapL
      rw [List.getD_eq_getElem?_getD, List.getElem?_set_ne (fun e => cq e.symm), List.getElem?_set_ne (fun e => cp e.symm), List.getD_eq_getElem?_getD]
    rw [← hx3] at h2
    refine ⟨c, by rw [h1, hsz], h2, fun i u hu => ?_⟩
    have hi : i < 3 := by have := (List.getElem?_eq_some_iff.1 hu).1; omega
    rw [add_at, Nat.zero_add, hsz, key, if_neg (by omega), if_neg (by omega), if_neg (by omega), if_neg (by omega), if_neg (by omega), if_neg (by omega)]
    exact h3 i u hu
theorem set6_far {W : World} {g a b k tt : Nat} {y0 y1 y2 x0 x1 x2 : Value} {cs : Array Value} (hk : W.heap[k]? = some (.cells cs tt (0, 0))) (hne : k ≠ g) : (set6 W g a b y0 y1 y2 x0 x1 x2).heap[k]? = some (.cells cs tt (0, 0)) := by
  unfold set6
  exact kR (p := ⟨g, _, none⟩) (kR (p := ⟨g, _, none⟩) (kR (p := ⟨g, _, none⟩) (kR (p := ⟨g, _, none⟩) (kR (p := ⟨g, _, none⟩) (kR (p := ⟨g, _, none⟩) hk hne _) hne _) hne _) hne _) hne _) hne _
theorem set6_below {w W : World} {g a b : Nat} {y0 y1 y2 x0 x1 x2 : Value} (h : Below w.heap.size w W) (hg : w.heap.size ≤ g) : Below w.heap.size w (set6 W g a b y0 y1 y2 x0 x1 x2) := by
  unfold set6
  exact bS (bS (bS (bS (bS (bS h hg) hg) hg) hg) hg) hg
theorem set6_R {α : Type} {dd : Kd α} {e base : Nat} {ok : Nat → Prop} {W : World} {g a b t : Nat} {cs : Array Value} {y0 y1 y2 x0 x1 x2 vv : Value} {xs : List α} (h : Kd.R dd e W base ok vv xs) (hb : W.heap[g]? = some (.cells cs t (0, 0))) (ht : ∀ q, q ∈ e :: dd.E → q ≠ t) : Kd.R dd e (set6 W g a b y0 y1 y2 x0 x1 x2) base ok vv xs := by
  have h0 := Kd.R_types h hb ht
  have hk : ∀ k, (ok k ∧ k ≠ g) → k ≠ g := fun k hk => hk.2
  unfold set6
  exact Kd.R_mono (Kd.R_far (p := ⟨g, _, none⟩) (Kd.R_far (p := ⟨g, _, none⟩) (Kd.R_far (p := ⟨g, _, none⟩) (Kd.R_far (p := ⟨g, _, none⟩) (Kd.R_far (p := ⟨g, _, none⟩) (Kd.R_far (p := ⟨g, _, none⟩) h0 hk _) hk _) hk _) hk _) hk _) hk _) (fun _ hk => hk.1)
theorem set4_S {W : World} {g t base : Nat} {a b c d : Value} {ok : Nat → Prop} {v : Value} {xs : List S24} (h : Kd.S k24 24 W base ok v xs) (hb : W.heap[g]? = some (.cells #[a, b, c, d] t (0, 0))) (ht : ∀ q, q ∈ 24 :: k24.E → q ≠ t) (x y z u : Value) : Kd.S k24 24 ((((W.setCell ⟨g, 0, none⟩ x).setCell ⟨g, 1, none⟩ y).setCell ⟨g, 2, none⟩ z).setCell ⟨g, 3, none⟩ u) base ok v xs :=
  Kd.S_set (Kd.S_set (Kd.S_set (Kd.S_set h hb ht 0 x) (kP hb 0 x (cs' := #[x, b, c, d]) rfl) ht 1 y) (kP (kP hb 0 x (cs' := #[x, b, c, d]) rfl) 1 y (cs' := #[x, y, c, d]) rfl) ht 2 z) (kP (kP (kP hb 0 x (cs' := #[x, b, c, d]) rfl) 1 y (cs' := #[x, y, c, d]) rfl) 2 z (cs' := #[x, y, z, d]) rfl) ht 3 u
theorem set4_R {α : Type} {dd : Kd α} {e : Nat} {W : World} {g t base : Nat} {a b c d : Value} {ok : Nat → Prop} {v : Value} {xs : List α} (h : Kd.R dd e W base ok v xs) (hb : W.heap[g]? = some (.cells #[a, b, c, d] t (0, 0))) (ht : ∀ q, q ∈ e :: dd.E → q ≠ t) (x y z u : Value) : Kd.R dd e ((((W.setCell ⟨g, 0, none⟩ x).setCell ⟨g, 1, none⟩ y).setCell ⟨g, 2, none⟩ z).setCell ⟨g, 3, none⟩ u) base ok v xs :=
  Kd.R_set (Kd.R_set (Kd.R_set (Kd.R_set h hb ht 0 x) (kP hb 0 x (cs' := #[x, b, c, d]) rfl) ht 1 y) (kP (kP hb 0 x (cs' := #[x, b, c, d]) rfl) 1 y (cs' := #[x, y, c, d]) rfl) ht 2 z) (kP (kP (kP hb 0 x (cs' := #[x, b, c, d]) rfl) 1 y (cs' := #[x, y, c, d]) rfl) 2 z (cs' := #[x, y, z, d]) rfl) ht 3 u
theorem set4_own {W : World} {g t : Nat} {a b c d : Value} (hb : W.heap[g]? = some (.cells #[a, b, c, d] t (0, 0))) (x y z u : Value) : ((((W.setCell ⟨g, 0, none⟩ x).setCell ⟨g, 1, none⟩ y).setCell ⟨g, 2, none⟩ z).setCell ⟨g, 3, none⟩ u).heap[g]? = some (.cells #[x, y, z, u] t (0, 0)) :=
  kP (kP (kP (kP hb 0 x (cs' := #[x, b, c, d]) rfl) 1 y (cs' := #[x, y, c, d]) rfl) 2 z (cs' := #[x, y, z, d]) rfl) 3 u rfl
theorem set4_far {W : World} {g k tt : Nat} {cs : Array Value} (hk : W.heap[k]? = some (.cells cs tt (0, 0))) (hne : k ≠ g) (x y z u : Value) : ((((W.setCell ⟨g, 0, none⟩ x).setCell ⟨g, 1, none⟩ y).setCell ⟨g, 2, none⟩ z).setCell ⟨g, 3, none⟩ u).heap[k]? = some (.cells cs tt (0, 0)) :=
  kR (p := ⟨g, _, none⟩) (kR (p := ⟨g, _, none⟩) (kR (p := ⟨g, _, none⟩) (kR (p := ⟨g, _, none⟩) hk hne _) hne _) hne _) hne _
theorem check_R {v : Int} {n : ByteArray} {R : List S24} {E : List S50} {p q k3 : Nat} {e3 : Int} (h : catalog_Check.f k3 v n (swapL z24 R p q) E = some e3) (A : Option Addr) (c : Nat) (B : Option Addr) (m : Nat) (W : World) (hA : Kd.C k24 W A R.length (swapL z24 R p q)) (hc : R.length ≤ c) (hB : Kd.C k50 W B E.length E) (hm : E.length ≤ m) (hU : UtfOk W) :
    Calls Tryz.prog 21 #[.agg #[.int .i64 v, .string n, .slice A R.length c, .slice B E.length m]] W fun e w' => e = .returned (.int .i64 e3) ∧ Below W.heap.size W w' := by
  have := catalog_Check.calls k3 v n A c (swapL z24 R p q) B m E e3 W (by rw [swapL_len]; exact hA) (by rw [swapL_len]; exact hc) hB hm h hU
  rw [swapL_len] at this
  exact this
theorem check_E {v : Int} {n : ByteArray} {R : List S24} {E : List S50} {p q k3 : Nat} {e3 : Int} (h : catalog_Check.f k3 v n R (swapL z50 E p q) = some e3) (A : Option Addr) (c : Nat) (B : Option Addr) (m : Nat) (W : World) (hA : Kd.C k24 W A R.length R) (hc : R.length ≤ c) (hB : Kd.C k50 W B E.length (swapL z50 E p q)) (hm : E.length ≤ m) (hU : UtfOk W) :
    Calls Tryz.prog 21 #[.agg #[.int .i64 v, .string n, .slice A R.length c, .slice B E.length m]] W fun e w' => e = .returned (.int .i64 e3) ∧ Below W.heap.size W w' := by
  have := catalog_Check.calls k3 v n A c R B m (swapL z50 E p q) e3 W hA hc (by rw [swapL_len]; exact hB) (by rw [swapL_len]; exact hm) h hU
  rw [swapL_len] at this
  exact this
set_option maxRecDepth 100000 in
set_option maxHeartbeats 16000000 in
theorem swaps_calls (v : Int) (n : ByteArray) (A : Option Addr) (c : Nat) (R : List S24) (B : Option Addr) (m : Nat) (E : List S50) (i k : Int) (w : World) (hr : Kd.C k24 w A R.length R) (hc : R.length ≤ c) (he : Kd.C k50 w B E.length E) (hm : E.length ≤ m) (hfit : fitC v n R E = true) (hi : -9223372036854775808 ≤ i ∧ i ≤ 9223372036854775807) (hk : -9223372036854775808 ≤ k ∧ k ≤ 9223372036854775807) (hU : UtfOk w) :
    Calls Tryz.prog 8 #[.agg #[.int .i64 v, .string n, .slice A R.length c, .slice B E.length m], .int .i64 i, .int .i64 k] w fun e w' => e = .returned (.bool true) ∧ Below w.heap.size w w' := by
  obtain ⟨k1, h1⟩ := Ev.rounds (check_ev hfit)
  obtain ⟨kl, h2⟩ := Ev.rounds (lent_ev hfit)
  have f := fitC_out hfit
  have HR := As.mk hr
  have HE := As.mk he
  have HCR := As.mk hc
  have HCE := As.mk hm
  have HU := As.mk hU
  have HB := As.mk (Below.refl w.heap.size w)
  have HL := As.mk h2
  have hu37 := Tryz.underlying37
  have hu24 := Tryz.underlying24
  have hu50 := Tryz.underlying50
  have hlR : (R.length : Int) ≤ 9223372036854775807 := by omega
  have hlE : (E.length : Int) ≤ 9223372036854775807 := by omega
  by_cases h0 : checkC v n R E = 0
  rotate_left
  · generalize checkC v n R E = e0 at h1 h0
    have c1 : (e0 == 0) = false := beq_eq_false_iff_ne.2 h0
    have c2 : (e0 != 0) = true := bne_iff_ne.2 h0
    have H1 := As.mk h1
    clear h1 h2 hr he hc hm hU hfit f h0
    go_enter Tryz.func8, Tryz.ntmps8
    go_wp2_with (first | ((with_reducible refine gate_dst (N := 3) rfl ?_); refine box_event ?hg (N := 3) ?hd (cs := #[.int .i64 v, .string n, .slice A R.length c, .slice B E.length m]) (t := 37) ?hr ?_; (case hd => rfl); (case hg => rfl); (case hr => first | (go_simp; done) | (go_simp; rfl)); intro g3 hg w1 hbox hb; have GE3 := As.mk ((by rw [hg]; exact HB.out.size) : w.heap.size ≤ g3); have n1 := As.mk (HB.out.trans (hb.mono HB.out.size)); clear HB; have HB := n1; clear n1; have BK3 := As.mk hbox; clear hb hbox hg; have mg3_0 : w1.cell? ⟨g3, 0, none⟩ = some (.int .i64 v) := (kC BK3.out 0).trans rfl; have mg3_1 : w1.cell? ⟨g3, 1, none⟩ = some (.string n) := (kC BK3.out 1).trans rfl; have mg3_2 : w1.cell? ⟨g3, 2, none⟩ = some (.slice A R.length c) := (kC BK3.out 2).trans rfl; have mg3_3 : w1.cell? ⟨g3, 3, none⟩ = some (.slice B E.length m) := (kC BK3.out 3).trans rfl) | (go_at_call 16; refine (majordomolaw07_shown.calls 0 true _ rfl (UtfOk.of_below HU.out HB.out)).mono ?_; rintro e w1 ⟨rfl, hb⟩; have n1 := As.mk (HB.out.trans (hb.mono HB.out.size)); clear HB; have HB := n1; clear n1; have n3 := As.mk (kB BK3.out hb); clear BK3 mg3_0 mg3_1 mg3_2 mg3_3; have BK3 := n3; clear n3; clear hb; have mg3_0 : w1.cell? ⟨g3, 0, none⟩ = some (.int .i64 v) := (kC BK3.out 0).trans rfl; have mg3_1 : w1.cell? ⟨g3, 1, none⟩ = some (.string n) := (kC BK3.out 1).trans rfl; have mg3_2 : w1.cell? ⟨g3, 2, none⟩ = some (.slice A R.length c) := (kC BK3.out 2).trans rfl; have mg3_3 : w1.cell? ⟨g3, 3, none⟩ = some (.slice B E.length m) := (kC BK3.out 3).trans rfl) | (go_at_call 21; refine (catalog_Check.calls k1 v n A c R B m E e0 _ (Kd.C_below HR.out HB.out) HCR.out (Kd.C_below HE.out HB.out) HCE.out H1.out (UtfOk.of_below HU.out HB.out)).mono ?_; rintro e w1 ⟨rfl, hb⟩; have n1 := As.mk (HB.out.trans (hb.mono HB.out.size)); clear HB; have HB := n1; clear n1; have n3 := As.mk (kB BK3.out hb); clear BK3 mg3_0 mg3_1 mg3_2 mg3_3; have BK3 := n3; clear n3; clear hb; have mg3_0 : w1.cell? ⟨g3, 0, none⟩ = some (.int .i64 v) := (kC BK3.out 0).trans rfl; have mg3_1 : w1.cell? ⟨g3, 1, none⟩ = some (.string n) := (kC BK3.out 1).trans rfl; have mg3_2 : w1.cell? ⟨g3, 2, none⟩ = some (.slice A R.length c) := (kC BK3.out 2).trans rfl; have mg3_3 : w1.cell? ⟨g3, 3, none⟩ = some (.slice B E.length m) := (kC BK3.out 3).trans rfl))
    go_ret
    exact ⟨rfl, HB.out⟩
  have SR := As.mk (fun (p q : Nat) (hp : p < R.length) (hq : q < R.length) (hpq : p ≠ q) => (Ev.rounds (check_ev (fit_R hfit h0 (R' := swapL z24 R p q) swapL_len (fun r hr => swapL_mem hp hq hr)))).elim fun k h => (⟨k, _, h, swapR_bad h0 hp hq hpq⟩ : ∃ k e, catalog_Check.f k v n (swapL z24 R p q) E = some e ∧ e ≠ 0))
  have SE := As.mk (fun (p q : Nat) (hp : p < E.length) (hq : q < E.length) (hpq : p ≠ q) => (Ev.rounds (check_ev (fit_E hfit h0 (E' := swapL z50 E p q) swapL_len))).elim fun k h => (⟨k, h.trans (congrArg some (swapE_bad h0 hp hq hpq))⟩ : ∃ k, catalog_Check.f k v n R (swapL z50 E p q) = some 72))
  rw [h0] at h1
  have H1 := As.mk h1
  have HI := As.mk hi
  have HK := As.mk hk
  have hf3 := f.2.2.1
  have hf4 := f.2.2.2.1
  clear h1 h2 hr he hc hm hU hfit f h0 hi hk
  go_enter Tryz.func8, Tryz.ntmps8
  go_upto_if 22 with (first | ((with_reducible refine gate_dst (N := 3) rfl ?_); refine box_event ?hg (N := 3) ?hd (cs := #[.int .i64 v, .string n, .slice A R.length c, .slice B E.length m]) (t := 37) ?hr ?_; (case hd => rfl); (case hg => rfl); (case hr => first | (go_simp; done) | (go_simp; rfl)); intro g3 hg w1 hbox hb; have GE3 := As.mk ((by rw [hg]; exact HB.out.size) : w.heap.size ≤ g3); have n1 := As.mk (HB.out.trans (hb.mono HB.out.size)); clear HB; have HB := n1; clear n1; have BK3 := As.mk hbox; clear hb hbox hg; have mg3_0 : w1.cell? ⟨g3, 0, none⟩ = some (.int .i64 v) := (kC BK3.out 0).trans rfl; have mg3_1 : w1.cell? ⟨g3, 1, none⟩ = some (.string n) := (kC BK3.out 1).trans rfl; have mg3_2 : w1.cell? ⟨g3, 2, none⟩ = some (.slice A R.length c) := (kC BK3.out 2).trans rfl; have mg3_3 : w1.cell? ⟨g3, 3, none⟩ = some (.slice B E.length m) := (kC BK3.out 3).trans rfl) | (go_at_call 16; refine (majordomolaw07_shown.calls 0 true _ rfl (UtfOk.of_below HU.out HB.out)).mono ?_; rintro e w1 ⟨rfl, hb⟩; have n1 := As.mk (HB.out.trans (hb.mono HB.out.size)); clear HB; have HB := n1; clear n1; have n3 := As.mk (kB BK3.out hb); clear BK3 mg3_0 mg3_1 mg3_2 mg3_3; have BK3 := n3; clear n3; clear hb; have mg3_0 : w1.cell? ⟨g3, 0, none⟩ = some (.int .i64 v) := (kC BK3.out 0).trans rfl; have mg3_1 : w1.cell? ⟨g3, 1, none⟩ = some (.string n) := (kC BK3.out 1).trans rfl; have mg3_2 : w1.cell? ⟨g3, 2, none⟩ = some (.slice A R.length c) := (kC BK3.out 2).trans rfl; have mg3_3 : w1.cell? ⟨g3, 3, none⟩ = some (.slice B E.length m) := (kC BK3.out 3).trans rfl) | (go_at_call 21; refine (catalog_Check.calls k1 v n A c R B m E 0 _ (Kd.C_below HR.out HB.out) HCR.out (Kd.C_below HE.out HB.out) HCE.out H1.out (UtfOk.of_below HU.out HB.out)).mono ?_; rintro e w1 ⟨rfl, hb⟩; have n1 := As.mk (HB.out.trans (hb.mono HB.out.size)); clear HB; have HB := n1; clear n1; have n3 := As.mk (kB BK3.out hb); clear BK3 mg3_0 mg3_1 mg3_2 mg3_3; have BK3 := n3; clear n3; clear hb; have mg3_0 : w1.cell? ⟨g3, 0, none⟩ = some (.int .i64 v) := (kC BK3.out 0).trans rfl; have mg3_1 : w1.cell? ⟨g3, 1, none⟩ = some (.string n) := (kC BK3.out 1).trans rfl; have mg3_2 : w1.cell? ⟨g3, 2, none⟩ = some (.slice A R.length c) := (kC BK3.out 2).trans rfl; have mg3_3 : w1.cell? ⟨g3, 3, none⟩ = some (.slice B E.length m) := (kC BK3.out 3).trans rfl))
  go_cut [1] (fun v1 wc => ∃ x2 : Int, v1 = .int .i64 x2 ∧ As (0 ≤ x2 ∧ x2 ≤ 9223372036854775807) ∧ As (wc.heap[g3]? = some (.cells #[.int .i64 v, .string n, .slice A R.length c, .slice B E.length m] 37 (0, 0))) ∧ As (Below w.heap.size w wc))
  case first =>
    have hx := HI.out
    rcases Int.lt_or_le i 0 with hlt | hge
    · have e1 : decide (i < 0) = true := decide_eq_true hlt
      go_wp2
      go_meet
      case rel => exact ⟨_, rfl, ⟨by first | (unfold wrap64; omega) | omega⟩, BK3, HB⟩
    · have e1 : decide (i < 0) = false := decide_eq_false (by omega)
      go_wp2
      go_meet
      case rel => exact ⟨_, rfl, ⟨by omega⟩, BK3, HB⟩
  case rest =>
  clear HI BK3 HB mg3_0 mg3_1 mg3_2 mg3_3
  obtain ⟨i2, rfl, HI, BK3, HB⟩ := hcut
  have mg3_0 : wc.cell? ⟨g3, 0, none⟩ = some (.int .i64 v) := (kC BK3.out 0).trans rfl; have mg3_1 : wc.cell? ⟨g3, 1, none⟩ = some (.string n) := (kC BK3.out 1).trans rfl; have mg3_2 : wc.cell? ⟨g3, 2, none⟩ = some (.slice A R.length c) := (kC BK3.out 2).trans rfl; have mg3_3 : wc.cell? ⟨g3, 3, none⟩ = some (.slice B E.length m) := (kC BK3.out 3).trans rfl
  go_upto_if 27 with fail
  go_cut [2] (fun v2 wc => ∃ x2 : Int, v2 = .int .i64 x2 ∧ As (0 ≤ x2 ∧ x2 ≤ 9223372036854775807) ∧ As (wc.heap[g3]? = some (.cells #[.int .i64 v, .string n, .slice A R.length c, .slice B E.length m] 37 (0, 0))) ∧ As (Below w.heap.size w wc))
  case first =>
    have hx := HK.out
    rcases Int.lt_or_le k 0 with hlt | hge
    · have e1 : decide (k < 0) = true := decide_eq_true hlt
      go_wp2
      go_meet
      case rel => exact ⟨_, rfl, ⟨by first | (unfold wrap64; omega) | omega⟩, BK3, HB⟩
    · have e1 : decide (k < 0) = false := decide_eq_false (by omega)
      go_wp2
      go_meet
      case rel => exact ⟨_, rfl, ⟨by omega⟩, BK3, HB⟩
  case rest =>
  clear HK BK3 HB mg3_0 mg3_1 mg3_2 mg3_3
  obtain ⟨k2, rfl, HK, BK3, HB⟩ := hcut
  have mg3_0 : wc.cell? ⟨g3, 0, none⟩ = some (.int .i64 v) := (kC BK3.out 0).trans rfl; have mg3_1 : wc.cell? ⟨g3, 1, none⟩ = some (.string n) := (kC BK3.out 1).trans rfl; have mg3_2 : wc.cell? ⟨g3, 2, none⟩ = some (.slice A R.length c) := (kC BK3.out 2).trans rfl; have mg3_3 : wc.cell? ⟨g3, 3, none⟩ = some (.slice B E.length m) := (kC BK3.out 3).trans rfl
  go_upto_region 10 with (first | (go_at_call 17; refine (majordomolaw07_lent.calls kl v n A c R B m E v n R E _ (Kd.C_below HR.out HB.out) HCR.out (Kd.C_below HE.out HB.out) HCE.out HL.out).mono ?_; rintro e w1 ⟨va, ve, rfl, hs, hv, hb⟩; obtain ⟨Aa, ca, ea⟩ := Kd.S_slice hs; subst ea; obtain ⟨Ae, ce, ee⟩ := Kd.R_slice hv; subst ee; have HS := As.mk (Kd.S_lower hs HB.out.size); have HV := As.mk (Kd.R_lower hv HB.out.size); clear hs hv; have n1 := As.mk (HB.out.trans (hb.mono HB.out.size)); clear HB; have HB := n1; clear n1; have n3 := As.mk (kB BK3.out hb); clear BK3 mg3_0 mg3_1 mg3_2 mg3_3; have BK3 := n3; clear n3; clear hb; have mg3_0 : w1.cell? ⟨g3, 0, none⟩ = some (.int .i64 v) := (kC BK3.out 0).trans rfl; have mg3_1 : w1.cell? ⟨g3, 1, none⟩ = some (.string n) := (kC BK3.out 1).trans rfl; have mg3_2 : w1.cell? ⟨g3, 2, none⟩ = some (.slice A R.length c) := (kC BK3.out 2).trans rfl; have mg3_3 : w1.cell? ⟨g3, 3, none⟩ = some (.slice B E.length m) := (kC BK3.out 3).trans rfl) | ((with_reducible refine gate_dst (N := 8) rfl ?_); refine box_event ?hg (N := 8) ?hd (cs := #[.int .i64 0, .string (⟨#[]⟩ : ByteArray), .slice none 0 0, .slice none 0 0]) (t := 37) ?hr ?_; (case hd => rfl); (case hg => rfl); (case hr => first | (go_simp; done) | (go_simp; rfl)); intro g8 hg w1 hbox hb; have GEg8 := As.mk ((by rw [hg]; exact HB.out.size) : w.heap.size ≤ g8); have NEg8 := As.mk ((by rw [hg]; exact Nat.ne_of_lt (blk_lt (w := _) BK3.out)) : g3 ≠ g8); have ns := As.mk (Kd.S_below HS.out hb); have ne := As.mk (Kd.R_below HV.out hb); clear HS HV; have HS := ns; have HV := ne; clear ns ne; have n1 := As.mk (HB.out.trans (hb.mono HB.out.size)); clear HB; have HB := n1; clear n1; have n3 := As.mk (kB BK3.out hb); clear BK3 mg3_0 mg3_1 mg3_2 mg3_3; have BK3 := n3; clear n3; have BKg8 := As.mk hbox; clear hb hbox hg; have mg3_0 : w1.cell? ⟨g3, 0, none⟩ = some (.int .i64 v) := (kC BK3.out 0).trans rfl; have mg3_1 : w1.cell? ⟨g3, 1, none⟩ = some (.string n) := (kC BK3.out 1).trans rfl; have mg3_2 : w1.cell? ⟨g3, 2, none⟩ = some (.slice A R.length c) := (kC BK3.out 2).trans rfl; have mg3_3 : w1.cell? ⟨g3, 3, none⟩ = some (.slice B E.length m) := (kC BK3.out 3).trans rfl; have mg8_0 : w1.cell? ⟨g8, 0, none⟩ = some (.int .i64 0) := (kC BKg8.out 0).trans rfl; have fg8_0 := kF BKg8.out 0; have mg8_1 : w1.cell? ⟨g8, 1, none⟩ = some (.string (⟨#[]⟩ : ByteArray)) := (kC BKg8.out 1).trans rfl; have fg8_1 := kF BKg8.out 1; have mg8_2 : w1.cell? ⟨g8, 2, none⟩ = some (.slice none 0 0) := (kC BKg8.out 2).trans rfl; have fg8_2 := kF BKg8.out 2; have mg8_3 : w1.cell? ⟨g8, 3, none⟩ = some (.slice none 0 0) := (kC BKg8.out 3).trans rfl; have fg8_3 := kF BKg8.out 3) | ((with_reducible refine gate_store (t := 37) (p := 8) rfl ?_); refine store_event (t := 37) (p := 8) (v := ?vo8) (w1 := ?wo8) ?hg ?ho ?hn ?hr ?_; (case ho => rfl); (case hg => rfl); (case hn => rfl); (case hr => first | (go_simp; done) | (go_simp; rfl)); intro w2 hw; have n0 := As.mk ((by rw [hw]; exact set4_own BKg8.out _ _ _ _) : w2.heap[g8]? = some (.cells #[.int .i64 v, .string n, .slice Aa R.length ca, .slice Ae E.length ce] 37 (0, 0))); have n3 := As.mk ((by rw [hw]; exact set4_far BK3.out NEg8.out _ _ _ _) : w2.heap[g3]? = some (.cells #[.int .i64 v, .string n, .slice A R.length c, .slice B E.length m] 37 (0, 0))); have n1 := As.mk ((by rw [hw]; exact bS (bS (bS (bS HB.out GEg8.out) GEg8.out) GEg8.out) GEg8.out) : Below w.heap.size w w2); have ns := As.mk ((by rw [hw]; exact set4_S HS.out BKg8.out (by decide) _ _ _ _) : Kd.S k24 24 w2 w.heap.size (fun _ => True) (.slice Aa R.length ca) R); have ne := As.mk ((by rw [hw]; exact set4_R HV.out BKg8.out (by decide) _ _ _ _) : Kd.R k50 50 w2 w.heap.size (fun _ => True) (.slice Ae E.length ce) E); clear BKg8 BK3 HB HS HV mg3_0 mg3_1 mg3_2 mg3_3 mg8_0 fg8_0 mg8_1 fg8_1 mg8_2 fg8_2 mg8_3 fg8_3; have BKg8 := n0; have BK3 := n3; have HB := n1; have HS := ns; have HV := ne; clear n0 n1 n3 ns ne hw; have mg3_0 : w2.cell? ⟨g3, 0, none⟩ = some (.int .i64 v) := (kC BK3.out 0).trans rfl; have mg3_1 : w2.cell? ⟨g3, 1, none⟩ = some (.string n) := (kC BK3.out 1).trans rfl; have mg3_2 : w2.cell? ⟨g3, 2, none⟩ = some (.slice A R.length c) := (kC BK3.out 2).trans rfl; have mg3_3 : w2.cell? ⟨g3, 3, none⟩ = some (.slice B E.length m) := (kC BK3.out 3).trans rfl; have mg8_0 : w2.cell? ⟨g8, 0, none⟩ = some (.int .i64 v) := (kC BKg8.out 0).trans rfl; have mg8_1 : w2.cell? ⟨g8, 1, none⟩ = some (.string n) := (kC BKg8.out 1).trans rfl; have mg8_2 : w2.cell? ⟨g8, 2, none⟩ = some (.slice Aa R.length ca) := (kC BKg8.out 2).trans rfl; have mg8_3 : w2.cell? ⟨g8, 3, none⟩ = some (.slice Ae E.length ce) := (kC BKg8.out 3).trans rfl))
  go_cut [46] (fun v46 wc => ∃ b : Bool, v46 = .bool b ∧ As (b = true → ∃ p q : Nat, p < R.length ∧ q < R.length ∧ p ≠ q ∧ i2 % (R.length : Int) = (p : Int) ∧ k2 % (R.length : Int) = (q : Int)) ∧ As (wc.heap[g3]? = some (.cells #[.int .i64 v, .string n, .slice A R.length c, .slice B E.length m] 37 (0, 0))) ∧ As (wc.heap[g8]? = some (.cells #[.int .i64 v, .string n, .slice Aa R.length ca, .slice Ae E.length ce] 37 (0, 0))) ∧ As (Below w.heap.size w wc) ∧ As (Kd.S k24 24 wc w.heap.size (fun _ => True) (.slice Aa R.length ca) R) ∧ As (Kd.R k50 50 wc w.heap.size (fun _ => True) (.slice Ae E.length ce) E))
  case first =>
    have hi2 := HI.out
    have hk2 := HK.out
    by_cases hn : 1 < R.length
    rotate_left
    · have e1 : decide ((R.length : Int) > 1) = false := decide_eq_false (by omega)
      have e2 : decide (1 < (R.length : Int)) = false := decide_eq_false (by omega)
      go_quiet (fail)
      go_wp2
      go_meet
      case rel => exact ⟨false, rfl, ⟨fun h => by cases h⟩, ⟨kN BK3.out _⟩, ⟨kN BKg8.out _⟩, ⟨bN HB.out _⟩, ⟨Kd.S_drewN HS.out _⟩, ⟨Kd.R_drewN HV.out _⟩⟩
    have e1 : (1 : Int) < (R.length : Int) := by omega
    have e3 : (R.length : Int) > 1 := by omega
    have e0 : ¬ (R.length : Int) = 0 := by omega
    have hp0 : 0 ≤ i2 % (R.length : Int) ∧ i2 % (R.length : Int) < (R.length : Int) := ⟨Int.emod_nonneg _ e0, Int.emod_lt_of_pos _ (by omega)⟩
    have hq0 : 0 ≤ k2 % (R.length : Int) ∧ k2 % (R.length : Int) < (R.length : Int) := ⟨Int.emod_nonneg _ e0, Int.emod_lt_of_pos _ (by omega)⟩
    by_cases hpq : i2 % (R.length : Int) = k2 % (R.length : Int)
    · have c1 : (i2 % (R.length : Int) != k2 % (R.length : Int)) = false := bne_eq_false_iff_eq.2 hpq
      have c2 : (i2 % (R.length : Int) == k2 % (R.length : Int)) = true := beq_iff_eq.2 hpq
      clear hpq
      go_quiet (fail)
      go_wp2
      go_meet
      case rel => exact ⟨false, rfl, ⟨fun h => by cases h⟩, ⟨kN BK3.out _⟩, ⟨kN BKg8.out _⟩, ⟨bN HB.out _⟩, ⟨Kd.S_drewN HS.out _⟩, ⟨Kd.R_drewN HV.out _⟩⟩
    · have c1 : (i2 % (R.length : Int) != k2 % (R.length : Int)) = true := bne_iff_ne.2 hpq
      have c2 : (i2 % (R.length : Int) == k2 % (R.length : Int)) = false := beq_eq_false_iff_ne.2 hpq
      have HPQ := As.mk hpq
      clear hpq
      go_quiet (fail)
      go_wp2
      go_meet
      case rel => exact ⟨true, rfl, ⟨fun _ => ⟨(i2 % (R.length : Int)).toNat, (k2 % (R.length : Int)).toNat, by omega, by omega, by have := HPQ.out; omega, by omega, by omega⟩⟩, ⟨kN BK3.out _⟩, ⟨kN BKg8.out _⟩, ⟨bN HB.out _⟩, ⟨Kd.S_drewN HS.out _⟩, ⟨Kd.R_drewN HV.out _⟩⟩
  case rest =>
  clear BKg8 BK3 HB HS HV mg3_0 mg3_1 mg3_2 mg3_3 mg8_0 mg8_1 mg8_2 mg8_3
  obtain ⟨b46, rfl, HBB, BK3, BKg8, HB, HS, HV⟩ := hcut
  have mg3_0 : wc.cell? ⟨g3, 0, none⟩ = some (.int .i64 v) := (kC BK3.out 0).trans rfl; have mg3_1 : wc.cell? ⟨g3, 1, none⟩ = some (.string n) := (kC BK3.out 1).trans rfl; have mg3_2 : wc.cell? ⟨g3, 2, none⟩ = some (.slice A R.length c) := (kC BK3.out 2).trans rfl; have mg3_3 : wc.cell? ⟨g3, 3, none⟩ = some (.slice B E.length m) := (kC BK3.out 3).trans rfl
  go_upto_if 46 with fail
  go_cut [] (fun wc => As (wc.heap[g3]? = some (.cells #[.int .i64 v, .string n, .slice A R.length c, .slice B E.length m] 37 (0, 0))) ∧ As (Below w.heap.size w wc))
  case first =>
    cases b46 with
    | false =>
      go_wp2
      go_meet
      case rel => exact ⟨BK3, HB⟩
    | true =>
      obtain ⟨p, q, hp, hq, hpq, ep, eq⟩ := HBB.out rfl
      have hi2 := HI.out
      have hk2 := HK.out
      have e0 : ¬ (R.length : Int) = 0 := by omega
      have l1 : (0 : Int) ≤ (p : Int) := by omega
      have l2 : (p : Int) < (R.length : Int) := by omega
      have l3 : (0 : Int) ≤ (q : Int) := by omega
      have l4 : (q : Int) < (R.length : Int) := by omega
      obtain ⟨ga, ca2, eva, hbase, hlt8, curA, hcurA⟩ := Kd.S_form HS.out (by omega)
      injection eva with eva1 _ eva3
      subst eva1 eva3
      have HX := (Kd.S_reads' HS.out).2.2
      obtain ⟨adp, Ap, cp, eap, hx0, hx1, hx2, hlp, hip⟩ := at_T24 HX (p : Int) l1 l2
      obtain ⟨adq, Aq, cq, eaq, hy0, hy1, hy2, hlq, hiq⟩ := at_T24 HX (q : Int) l3 l4
      cases eap
      cases eaq
      simp only [Int.toNat_natCast, add_at, Nat.zero_add] at hx0 hx1 hx2 hy0 hy1 hy2
      have fp0 := kF hcurA (p * 3)
      have fp1 := kF hcurA (p * 3 + 1)
      have fp2 := kF hcurA (p * 3 + 2)
      have fq0 := kF hcurA (q * 3)
      have fq1 := kF hcurA (q * 3 + 1)
      have fq2 := kF hcurA (q * 3 + 2)
      clear hlp hip hlq hiq HX
      have mg8_0 : wc.cell? ⟨g8, 0, none⟩ = some (.int .i64 v) := (kC BKg8.out 0).trans rfl; have mg8_1 : wc.cell? ⟨g8, 1, none⟩ = some (.string n) := (kC BKg8.out 1).trans rfl; have mg8_2 : wc.cell? ⟨g8, 2, none⟩ = some (.slice (some ⟨ga, 0, none⟩) R.length ca) := (kC BKg8.out 2).trans rfl; have mg8_3 : wc.cell? ⟨g8, 3, none⟩ = some (.slice Ae E.length ce) := (kC BKg8.out 3).trans rfl
      have ng1 : g8 ≠ ga := blk_ne BKg8.out hcurA (by decide)
      have ng2 : ga ≠ g8 := fun e => ng1 e.symm
      have fa0 : ¬ p * 3 = q * 3 := by omega
      have fb0 : ¬ q * 3 = p * 3 := by omega
      have fa1 : ¬ p * 3 = q * 3 + 1 := by omega
      have fb1 : ¬ q * 3 + 1 = p * 3 := by omega
      have fa2 : ¬ p * 3 = q * 3 + 2 := by omega
      have fb2 : ¬ q * 3 + 2 = p * 3 := by omega
      have fa3 : ¬ p * 3 + 1 = q * 3 := by omega
      have fb3 : ¬ q * 3 = p * 3 + 1 := by omega
      have fa4 : ¬ p * 3 + 1 = q * 3 + 1 := by omega
      have fb4 : ¬ q * 3 + 1 = p * 3 + 1 := by omega
      have fa5 : ¬ p * 3 + 1 = q * 3 + 2 := by omega
      have fb5 : ¬ q * 3 + 2 = p * 3 + 1 := by omega
      have fa6 : ¬ p * 3 + 2 = q * 3 := by omega
      have fb6 : ¬ q * 3 = p * 3 + 2 := by omega
      have fa7 : ¬ p * 3 + 2 = q * 3 + 1 := by omega
      have fb7 : ¬ q * 3 + 1 = p * 3 + 2 := by omega
      have fa8 : ¬ p * 3 + 2 = q * 3 + 2 := by omega
      have fb8 : ¬ q * 3 + 2 = p * 3 + 2 := by omega
      go_wp2
      have hC := swap_C3 (d := k24) rfl z24 (Kd.S_R HS.out) p q hp hq hpq hx0 hx1 hx2 hy0 hy1 hy2
      obtain ⟨W6, hW6⟩ : ∃ W6, set6 wc ga (p * 3) (q * 3) (.string (rd_T24 R (q : Int)).f0) (.string (rd_T24 R (q : Int)).f1) (.slice Aq (rd_T24 R (q : Int)).f2.length cq) (.string (rd_T24 R (p : Int)).f0) (.string (rd_T24 R (p : Int)).f1) (.slice Ap (rd_T24 R (p : Int)).f2.length cp) = W6 := ⟨_, rfl⟩
      rw [hW6] at hC
      have b8 : W6.heap[g8]? = some (.cells #[.int .i64 v, .string n, .slice (some ⟨ga, 0, none⟩) R.length ca, .slice Ae E.length ce] 37 (0, 0)) := by rw [← hW6]; exact set6_far BKg8.out ng1
      have b3 : W6.heap[g3]? = some (.cells #[.int .i64 v, .string n, .slice A R.length c, .slice B E.length m] 37 (0, 0)) := by rw [← hW6]; exact set6_far BK3.out (blk_ne BK3.out hcurA (by decide))
      have bB : Below w.heap.size w W6 := by rw [← hW6]; exact set6_below HB.out hbase
      have hO := Kd.R_reads' (by rw [← hW6]; exact set6_R HV.out hcurA (by decide) : Kd.R k50 50 W6 w.heap.size (fun _ => True) (.slice Ae E.length ce) E)
      have hl1 := (Kd.S_reads' HS.out).2.1
      obtain ⟨k3, e3, hk3, he3⟩ := SR.out p q hp hq hpq
      have c3 : (e3 == 0) = false := beq_eq_false_iff_ne.2 he3
      go_region
      unfold set6 at hW6
      rw [hW6]
      have HC := As.mk (Kd.C_drew hC)
      have HO := As.mk (Kd.C_drew hO.2.2)
      have B8 := As.mk (kD b8)
      have B3 := As.mk (kD b3)
      have HB6 := As.mk (bD bB)
      have HO2 := As.mk hO.2.1
      have HL1 := As.mk hl1
      have K3_ := As.mk hk3
      clear hW6 hC hO b8 b3 bB hl1 hk3 HS HV BK3 BKg8 HB hx0 hx1 hx2 hy0 hy1 hy2 hcurA fp0 fq0 fp1 fq1 fp2 fq2 mg3_0 mg3_1 mg3_2 mg3_3 mg8_0 mg8_1 mg8_2 mg8_3
      generalize W6.drew = W7 at HC HO B8 B3 HB6 ⊢
      have mg8_0 : W7.cell? ⟨g8, 0, none⟩ = some (.int .i64 v) := (kC B8.out 0).trans rfl; have mg8_1 : W7.cell? ⟨g8, 1, none⟩ = some (.string n) := (kC B8.out 1).trans rfl; have mg8_2 : W7.cell? ⟨g8, 2, none⟩ = some (.slice (some ⟨ga, 0, none⟩) R.length ca) := (kC B8.out 2).trans rfl; have mg8_3 : W7.cell? ⟨g8, 3, none⟩ = some (.slice Ae E.length ce) := (kC B8.out 3).trans rfl
      go_wp2_with (first | (go_at_call 21; refine (check_R K3_.out (some ⟨ga, 0, none⟩) ca Ae ce _ HC.out HL1.out HO.out HO2.out (UtfOk.of_below HU.out HB6.out)).mono ?_; rintro e w1 ⟨rfl, hb⟩; have n1 := As.mk (HB6.out.trans (hb.mono HB6.out.size)); have n3 := As.mk (kB B3.out hb); clear HB6 B3; have HB6 := n1; have B3 := n3; clear n1 n3 hb))
      go_meet
      case rel => exact ⟨B3, HB6⟩
  case rest =>
  clear BK3 HB HS HV BKg8 HBB mg3_0 mg3_1 mg3_2 mg3_3
  obtain ⟨BK3, HB⟩ := hcut
  have mg3_0 : wc.cell? ⟨g3, 0, none⟩ = some (.int .i64 v) := (kC BK3.out 0).trans rfl; have mg3_1 : wc.cell? ⟨g3, 1, none⟩ = some (.string n) := (kC BK3.out 1).trans rfl; have mg3_2 : wc.cell? ⟨g3, 2, none⟩ = some (.slice A R.length c) := (kC BK3.out 2).trans rfl; have mg3_3 : wc.cell? ⟨g3, 3, none⟩ = some (.slice B E.length m) := (kC BK3.out 3).trans rfl
  go_upto_region 16 with (first | (go_at_call 17; refine (majordomolaw07_lent.calls kl v n A c R B m E v n R E _ (Kd.C_below HR.out HB.out) HCR.out (Kd.C_below HE.out HB.out) HCE.out HL.out).mono ?_; rintro e w1 ⟨va, ve, rfl, hs, hv, hb⟩; obtain ⟨Aa, ca, ea⟩ := Kd.S_slice hs; subst ea; obtain ⟨Ae, ce, ee⟩ := Kd.R_slice hv; subst ee; have HS := As.mk (Kd.S_lower hs HB.out.size); have HV := As.mk (Kd.R_lower hv HB.out.size); clear hs hv; have n1 := As.mk (HB.out.trans (hb.mono HB.out.size)); clear HB; have HB := n1; clear n1; have n3 := As.mk (kB BK3.out hb); clear BK3 mg3_0 mg3_1 mg3_2 mg3_3; have BK3 := n3; clear n3; clear hb; have mg3_0 : w1.cell? ⟨g3, 0, none⟩ = some (.int .i64 v) := (kC BK3.out 0).trans rfl; have mg3_1 : w1.cell? ⟨g3, 1, none⟩ = some (.string n) := (kC BK3.out 1).trans rfl; have mg3_2 : w1.cell? ⟨g3, 2, none⟩ = some (.slice A R.length c) := (kC BK3.out 2).trans rfl; have mg3_3 : w1.cell? ⟨g3, 3, none⟩ = some (.slice B E.length m) := (kC BK3.out 3).trans rfl) | ((with_reducible refine gate_dst (N := 10) rfl ?_); refine box_event ?hg (N := 10) ?hd (cs := #[.int .i64 0, .string (⟨#[]⟩ : ByteArray), .slice none 0 0, .slice none 0 0]) (t := 37) ?hr ?_; (case hd => rfl); (case hg => rfl); (case hr => first | (go_simp; done) | (go_simp; rfl)); intro g10 hg w1 hbox hb; have GEg10 := As.mk ((by rw [hg]; exact HB.out.size) : w.heap.size ≤ g10); have NEg10 := As.mk ((by rw [hg]; exact Nat.ne_of_lt (blk_lt (w := _) BK3.out)) : g3 ≠ g10); have ns := As.mk (Kd.S_below HS.out hb); have ne := As.mk (Kd.R_below HV.out hb); clear HS HV; have HS := ns; have HV := ne; clear ns ne; have n1 := As.mk (HB.out.trans (hb.mono HB.out.size)); clear HB; have HB := n1; clear n1; have n3 := As.mk (kB BK3.out hb); clear BK3 mg3_0 mg3_1 mg3_2 mg3_3; have BK3 := n3; clear n3; have BKg10 := As.mk hbox; clear hb hbox hg; have mg3_0 : w1.cell? ⟨g3, 0, none⟩ = some (.int .i64 v) := (kC BK3.out 0).trans rfl; have mg3_1 : w1.cell? ⟨g3, 1, none⟩ = some (.string n) := (kC BK3.out 1).trans rfl; have mg3_2 : w1.cell? ⟨g3, 2, none⟩ = some (.slice A R.length c) := (kC BK3.out 2).trans rfl; have mg3_3 : w1.cell? ⟨g3, 3, none⟩ = some (.slice B E.length m) := (kC BK3.out 3).trans rfl; have mg10_0 : w1.cell? ⟨g10, 0, none⟩ = some (.int .i64 0) := (kC BKg10.out 0).trans rfl; have fg10_0 := kF BKg10.out 0; have mg10_1 : w1.cell? ⟨g10, 1, none⟩ = some (.string (⟨#[]⟩ : ByteArray)) := (kC BKg10.out 1).trans rfl; have fg10_1 := kF BKg10.out 1; have mg10_2 : w1.cell? ⟨g10, 2, none⟩ = some (.slice none 0 0) := (kC BKg10.out 2).trans rfl; have fg10_2 := kF BKg10.out 2; have mg10_3 : w1.cell? ⟨g10, 3, none⟩ = some (.slice none 0 0) := (kC BKg10.out 3).trans rfl; have fg10_3 := kF BKg10.out 3) | ((with_reducible refine gate_store (t := 37) (p := 10) rfl ?_); refine store_event (t := 37) (p := 10) (v := ?vo10) (w1 := ?wo10) ?hg ?ho ?hn ?hr ?_; (case ho => rfl); (case hg => rfl); (case hn => rfl); (case hr => first | (go_simp; done) | (go_simp; rfl)); intro w2 hw; have n0 := As.mk ((by rw [hw]; exact set4_own BKg10.out _ _ _ _) : w2.heap[g10]? = some (.cells #[.int .i64 v, .string n, .slice Aa R.length ca, .slice Ae E.length ce] 37 (0, 0))); have n3 := As.mk ((by rw [hw]; exact set4_far BK3.out NEg10.out _ _ _ _) : w2.heap[g3]? = some (.cells #[.int .i64 v, .string n, .slice A R.length c, .slice B E.length m] 37 (0, 0))); have n1 := As.mk ((by rw [hw]; exact bS (bS (bS (bS HB.out GEg10.out) GEg10.out) GEg10.out) GEg10.out) : Below w.heap.size w w2); have ns := As.mk ((by rw [hw]; exact set4_S HS.out BKg10.out (by decide) _ _ _ _) : Kd.S k24 24 w2 w.heap.size (fun _ => True) (.slice Aa R.length ca) R); have ne := As.mk ((by rw [hw]; exact set4_R HV.out BKg10.out (by decide) _ _ _ _) : Kd.R k50 50 w2 w.heap.size (fun _ => True) (.slice Ae E.length ce) E); clear BKg10 BK3 HB HS HV mg3_0 mg3_1 mg3_2 mg3_3 mg10_0 fg10_0 mg10_1 fg10_1 mg10_2 fg10_2 mg10_3 fg10_3; have BKg10 := n0; have BK3 := n3; have HB := n1; have HS := ns; have HV := ne; clear n0 n1 n3 ns ne hw; have mg3_0 : w2.cell? ⟨g3, 0, none⟩ = some (.int .i64 v) := (kC BK3.out 0).trans rfl; have mg3_1 : w2.cell? ⟨g3, 1, none⟩ = some (.string n) := (kC BK3.out 1).trans rfl; have mg3_2 : w2.cell? ⟨g3, 2, none⟩ = some (.slice A R.length c) := (kC BK3.out 2).trans rfl; have mg3_3 : w2.cell? ⟨g3, 3, none⟩ = some (.slice B E.length m) := (kC BK3.out 3).trans rfl; have mg10_0 : w2.cell? ⟨g10, 0, none⟩ = some (.int .i64 v) := (kC BKg10.out 0).trans rfl; have mg10_1 : w2.cell? ⟨g10, 1, none⟩ = some (.string n) := (kC BKg10.out 1).trans rfl; have mg10_2 : w2.cell? ⟨g10, 2, none⟩ = some (.slice Aa R.length ca) := (kC BKg10.out 2).trans rfl; have mg10_3 : w2.cell? ⟨g10, 3, none⟩ = some (.slice Ae E.length ce) := (kC BKg10.out 3).trans rfl))
  go_cut [91] (fun v91 wc => ∃ b : Bool, v91 = .bool b ∧ As (b = true → ∃ p q : Nat, p < E.length ∧ q < E.length ∧ p ≠ q ∧ i2 % (E.length : Int) = (p : Int) ∧ k2 % (E.length : Int) = (q : Int)) ∧ As (wc.heap[g3]? = some (.cells #[.int .i64 v, .string n, .slice A R.length c, .slice B E.length m] 37 (0, 0))) ∧ As (wc.heap[g10]? = some (.cells #[.int .i64 v, .string n, .slice Aa R.length ca, .slice Ae E.length ce] 37 (0, 0))) ∧ As (Below w.heap.size w wc) ∧ As (Kd.S k24 24 wc w.heap.size (fun _ => True) (.slice Aa R.length ca) R) ∧ As (Kd.R k50 50 wc w.heap.size (fun _ => True) (.slice Ae E.length ce) E))
  case first =>
    have hi2 := HI.out
    have hk2 := HK.out
    by_cases hn : 1 < E.length
    rotate_left
    · have e1 : decide ((E.length : Int) > 1) = false := decide_eq_false (by omega)
      have e2 : decide (1 < (E.length : Int)) = false := decide_eq_false (by omega)
      go_quiet (fail)
      go_wp2
      go_meet
      case rel => exact ⟨false, rfl, ⟨fun h => by cases h⟩, ⟨kN BK3.out _⟩, ⟨kN BKg10.out _⟩, ⟨bN HB.out _⟩, ⟨Kd.S_drewN HS.out _⟩, ⟨Kd.R_drewN HV.out _⟩⟩
    have e1 : (1 : Int) < (E.length : Int) := by omega
    have e3 : (E.length : Int) > 1 := by omega
    have e0 : ¬ (E.length : Int) = 0 := by omega
    have hp0 : 0 ≤ i2 % (E.length : Int) ∧ i2 % (E.length : Int) < (E.length : Int) := ⟨Int.emod_nonneg _ e0, Int.emod_lt_of_pos _ (by omega)⟩
    have hq0 : 0 ≤ k2 % (E.length : Int) ∧ k2 % (E.length : Int) < (E.length : Int) := ⟨Int.emod_nonneg _ e0, Int.emod_lt_of_pos _ (by omega)⟩
    by_cases hpq : i2 % (E.length : Int) = k2 % (E.length : Int)
    · have c1 : (i2 % (E.length : Int) != k2 % (E.length : Int)) = false := bne_eq_false_iff_eq.2 hpq
      have c2 : (i2 % (E.length : Int) == k2 % (E.length : Int)) = true := beq_iff_eq.2 hpq
      clear hpq
      go_quiet (fail)
      go_wp2
      go_meet
      case rel => exact ⟨false, rfl, ⟨fun h => by cases h⟩, ⟨kN BK3.out _⟩, ⟨kN BKg10.out _⟩, ⟨bN HB.out _⟩, ⟨Kd.S_drewN HS.out _⟩, ⟨Kd.R_drewN HV.out _⟩⟩
    · have c1 : (i2 % (E.length : Int) != k2 % (E.length : Int)) = true := bne_iff_ne.2 hpq
      have c2 : (i2 % (E.length : Int) == k2 % (E.length : Int)) = false := beq_eq_false_iff_ne.2 hpq
      have HPQ := As.mk hpq
      clear hpq
      go_quiet (fail)
      go_wp2
      go_meet
      case rel => exact ⟨true, rfl, ⟨fun _ => ⟨(i2 % (E.length : Int)).toNat, (k2 % (E.length : Int)).toNat, by omega, by omega, by have := HPQ.out; omega, by omega, by omega⟩⟩, ⟨kN BK3.out _⟩, ⟨kN BKg10.out _⟩, ⟨bN HB.out _⟩, ⟨Kd.S_drewN HS.out _⟩, ⟨Kd.R_drewN HV.out _⟩⟩
  case rest =>
  clear BKg10 BK3 HB HS HV mg3_0 mg3_1 mg3_2 mg3_3 mg10_0 mg10_1 mg10_2 mg10_3
  obtain ⟨b91, rfl, HBB, BK3, BKg10, HB, HS, HV⟩ := hcut
  have mg3_0 : wc.cell? ⟨g3, 0, none⟩ = some (.int .i64 v) := (kC BK3.out 0).trans rfl; have mg3_1 : wc.cell? ⟨g3, 1, none⟩ = some (.string n) := (kC BK3.out 1).trans rfl; have mg3_2 : wc.cell? ⟨g3, 2, none⟩ = some (.slice A R.length c) := (kC BK3.out 2).trans rfl; have mg3_3 : wc.cell? ⟨g3, 3, none⟩ = some (.slice B E.length m) := (kC BK3.out 3).trans rfl
  go_upto_if 91 with fail
  go_cut [] (fun wc => As (wc.heap[g3]? = some (.cells #[.int .i64 v, .string n, .slice A R.length c, .slice B E.length m] 37 (0, 0))) ∧ As (Below w.heap.size w wc))
  case first =>
    cases b91 with
    | false =>
      go_wp2
      go_meet
      case rel => exact ⟨BK3, HB⟩
    | true =>
      obtain ⟨p, q, hp, hq, hpq, ep, eq⟩ := HBB.out rfl
      have hi2 := HI.out
      have hk2 := HK.out
      have e0 : ¬ (E.length : Int) = 0 := by omega
      have l1 : (0 : Int) ≤ (p : Int) := by omega
      have l2 : (p : Int) < (E.length : Int) := by omega
      have l3 : (0 : Int) ≤ (q : Int) := by omega
      have l4 : (q : Int) < (E.length : Int) := by omega
      obtain ⟨ga, ca2, eva, hbase, hlt8, curA, hcurA⟩ := Kd.R_form HV.out (by omega)
      injection eva with eva1 _ eva3
      subst eva1 eva3
      have HX := (Kd.R_reads' HV.out).2.2
      obtain ⟨adp, eap, hx0, hx1, hx2⟩ := at_T50 HX (p : Int) l1 l2
      obtain ⟨adq, eaq, hy0, hy1, hy2⟩ := at_T50 HX (q : Int) l3 l4
      cases eap
      cases eaq
      simp only [Int.toNat_natCast, add_at, Nat.zero_add] at hx0 hx1 hx2 hy0 hy1 hy2
      have fp0 := kF hcurA (p * 3)
      have fp1 := kF hcurA (p * 3 + 1)
      have fp2 := kF hcurA (p * 3 + 2)
      have fq0 := kF hcurA (q * 3)
      have fq1 := kF hcurA (q * 3 + 1)
      have fq2 := kF hcurA (q * 3 + 2)
      clear HX
      have mg10_0 : wc.cell? ⟨g10, 0, none⟩ = some (.int .i64 v) := (kC BKg10.out 0).trans rfl; have mg10_1 : wc.cell? ⟨g10, 1, none⟩ = some (.string n) := (kC BKg10.out 1).trans rfl; have mg10_2 : wc.cell? ⟨g10, 2, none⟩ = some (.slice Aa R.length ca) := (kC BKg10.out 2).trans rfl; have mg10_3 : wc.cell? ⟨g10, 3, none⟩ = some (.slice (some ⟨ga, 0, none⟩) E.length ce) := (kC BKg10.out 3).trans rfl
      have ng1 : g10 ≠ ga := blk_ne BKg10.out hcurA (by decide)
      have ng2 : ga ≠ g10 := fun e => ng1 e.symm
      have fa0 : ¬ p * 3 = q * 3 := by omega
      have fb0 : ¬ q * 3 = p * 3 := by omega
      have fa1 : ¬ p * 3 = q * 3 + 1 := by omega
      have fb1 : ¬ q * 3 + 1 = p * 3 := by omega
      have fa2 : ¬ p * 3 = q * 3 + 2 := by omega
      have fb2 : ¬ q * 3 + 2 = p * 3 := by omega
      have fa3 : ¬ p * 3 + 1 = q * 3 := by omega
      have fb3 : ¬ q * 3 = p * 3 + 1 := by omega
      have fa4 : ¬ p * 3 + 1 = q * 3 + 1 := by omega
      have fb4 : ¬ q * 3 + 1 = p * 3 + 1 := by omega
      have fa5 : ¬ p * 3 + 1 = q * 3 + 2 := by omega
      have fb5 : ¬ q * 3 + 2 = p * 3 + 1 := by omega
      have fa6 : ¬ p * 3 + 2 = q * 3 := by omega
      have fb6 : ¬ q * 3 = p * 3 + 2 := by omega
      have fa7 : ¬ p * 3 + 2 = q * 3 + 1 := by omega
      have fb7 : ¬ q * 3 + 1 = p * 3 + 2 := by omega
      have fa8 : ¬ p * 3 + 2 = q * 3 + 2 := by omega
      have fb8 : ¬ q * 3 + 2 = p * 3 + 2 := by omega
      go_wp2
      have hC := swap_C3 (d := k50) rfl z50 (HV.out) p q hp hq hpq hx0 hx1 hx2 hy0 hy1 hy2
      obtain ⟨W6, hW6⟩ : ∃ W6, set6 wc ga (p * 3) (q * 3) (.int .i64 (rd_T50 E (q : Int)).f0) (.int .i64 (rd_T50 E (q : Int)).f1) (.bool (rd_T50 E (q : Int)).f2) (.int .i64 (rd_T50 E (p : Int)).f0) (.int .i64 (rd_T50 E (p : Int)).f1) (.bool (rd_T50 E (p : Int)).f2) = W6 := ⟨_, rfl⟩
      rw [hW6] at hC
      have b8 : W6.heap[g10]? = some (.cells #[.int .i64 v, .string n, .slice Aa R.length ca, .slice (some ⟨ga, 0, none⟩) E.length ce] 37 (0, 0)) := by rw [← hW6]; exact set6_far BKg10.out ng1
      have b3 : W6.heap[g3]? = some (.cells #[.int .i64 v, .string n, .slice A R.length c, .slice B E.length m] 37 (0, 0)) := by rw [← hW6]; exact set6_far BK3.out (blk_ne BK3.out hcurA (by decide))
      have bB : Below w.heap.size w W6 := by rw [← hW6]; exact set6_below HB.out hbase
      have hO := Kd.R_reads' (by rw [← hW6]; exact set6_R (Kd.S_R HS.out) hcurA (by decide) : Kd.R k24 24 W6 w.heap.size (fun _ => True) (.slice Aa R.length ca) R)
      have hl1 := (Kd.R_reads' HV.out).2.1
      obtain ⟨k3, hk3⟩ := SE.out p q hp hq hpq
      go_region
      unfold set6 at hW6
      rw [hW6]
      have HC := As.mk (Kd.C_drew hC)
      have HO := As.mk (Kd.C_drew hO.2.2)
      have B8 := As.mk (kD b8)
      have B3 := As.mk (kD b3)
      have HB6 := As.mk (bD bB)
      have HO2 := As.mk hO.2.1
      have HL1 := As.mk hl1
      have K3_ := As.mk hk3
      clear hW6 hC hO b8 b3 bB hl1 hk3 HS HV BK3 BKg10 HB hx0 hx1 hx2 hy0 hy1 hy2 hcurA fp0 fq0 fp1 fq1 fp2 fq2 mg3_0 mg3_1 mg3_2 mg3_3 mg10_0 mg10_1 mg10_2 mg10_3
      generalize W6.drew = W7 at HC HO B8 B3 HB6 ⊢
      have mg10_0 : W7.cell? ⟨g10, 0, none⟩ = some (.int .i64 v) := (kC B8.out 0).trans rfl; have mg10_1 : W7.cell? ⟨g10, 1, none⟩ = some (.string n) := (kC B8.out 1).trans rfl; have mg10_2 : W7.cell? ⟨g10, 2, none⟩ = some (.slice Aa R.length ca) := (kC B8.out 2).trans rfl; have mg10_3 : W7.cell? ⟨g10, 3, none⟩ = some (.slice (some ⟨ga, 0, none⟩) E.length ce) := (kC B8.out 3).trans rfl
      go_wp2_with (first | (go_at_call 21; refine (check_E K3_.out Aa ca (some ⟨ga, 0, none⟩) ce _ HO.out HO2.out HC.out HL1.out (UtfOk.of_below HU.out HB6.out)).mono ?_; rintro e w1 ⟨rfl, hb⟩; have n1 := As.mk (HB6.out.trans (hb.mono HB6.out.size)); have n3 := As.mk (kB B3.out hb); clear HB6 B3; have HB6 := n1; have B3 := n3; clear n1 n3 hb))
      go_meet
      case rel => exact ⟨B3, HB6⟩
  case rest =>
  obtain ⟨BK3, HB⟩ := hcut
  go_wp2
  go_ret
  exact ⟨rfl, HB.out⟩
end Go.Proofs.YtkgafkoopefghaaGreatDoor.PA
end
