/- A part of this law; its conditions stand in the last text. -/
import Derived.Test.YtkgafkoopefghaaGreatDoorCc35
import Derived.Test.YtkgafkoopefghaaGreatDoorCc40
import Derived.Test.YtkgafkoopefghaaGreatDoorCc30
import Derived.Test.YtkgafkoopefghaaGreatDoorCc25
import Derived.Test.YtkgafkoopefghaaGreatDoorCc6
import Derived.Test.YtkgafkoopefghaaGreatDoorCc9
import Derived.Test.YtkgafkoopefghaaGreatDoorCc32
section
set_option linter.unusedVariables false
set_option linter.unusedSimpArgs false
namespace Go.Proofs.YtkgafkoopefghaaGreatDoor.PA
open Go.RowKit Go.Proofs.YtkgafkoopefghaaGreatDoor.Hk Go.Proofs.YtkgafkoopefghaaGreatDoorW.PrintWords
theorem check_groups (s : ByteArray) (hs : s.size < 2147483648) : tables_Check.f (⟨#[103, 114, 111, 117, 112, 115]⟩ : ByteArray) s [(⟨#[]⟩ : ByteArray)] = some (if keyB s = true then 0 else 51) := by
  unfold tables_Check.f
  rw [if_pos ⟨by decide, by simp only [fitB, decide_eq_true_iff]; omega, by decide, by decide⟩, check_key]
theorem enc_zero : catalog_Encode.f 1 0 (⟨#[]⟩ : ByteArray) [] [] = some ([], 70) := by
  unfold catalog_Encode.f catalog_Check.f
  rw [check_groups _ (by decide), show keyB (⟨#[]⟩ : ByteArray) = false from by decide +kernel]
  simp only [Option.bind_some]
  rw [if_neg (by decide), if_neg (by decide), show ((if (false : Bool) = true then (0 : Int) else 51) != 0) = true from by decide, catalog_Check.j0, if_pos rfl]
  rfl
def catalog_Decode.f (l0 : List Int) : Option (Int × ByteArray × (List (S24)) × (List (S50)) × Int) := if l0 = [] then some (0, (⟨#[]⟩ : ByteArray), ([] : List (S24)), ([] : List (S50)), 70) else none
set_option maxRecDepth 100000 in
set_option maxHeartbeats 4000000 in
theorem catalog_Decode.calls (A0 : Option Addr) (c0 : Nat) (l0 : List Int) (r1 : Int) (r2 : ByteArray) (r3 : List (S24)) (r4 : List (S50)) (r5 : Int) (w : World) (hr0 : Kd.C (Kd.int .u8) w A0 l0.length l0) (hc0 : l0.length ≤ c0) (h : catalog_Decode.f l0 = some (r1, r2, r3, r4, r5)) (hU : UtfOk w) :
    Calls Tryz.prog 23 #[.slice A0 l0.length c0] w fun e w' => ∃ v2_ v3_ : Value, e = .returned (.tuple #[.agg #[.int .i64 r1, .string r2, v2_, v3_], .int .i64 r5]) ∧ Kd.S k24 24 w' w.heap.size (fun _ => True) v2_ r3 ∧ Kd.R k50 50 w' w.heap.size (fun _ => True) v3_ r4 ∧ Below w.heap.size w w' := by
  unfold catalog_Decode.f at h
  by_cases c : l0 = []
  rotate_left
  · rw [if_neg c] at h; cases h
  rw [if_pos c] at h
  subst c
  simp only [Option.some.injEq, Prod.mk.injEq] at h
  obtain ⟨rfl, rfl, rfl, rfl, rfl⟩ := h
  clear hr0 hc0
  have HU := As.mk hU
  clear hU
  have hu37 := Tryz.underlying37
  have HB := As.mk (Below.refl w.heap.size w)
  go_enter Tryz.func23, Tryz.ntmps23
  go_wp2_with (first | ((with_reducible refine gate_dst (N := 2) rfl ?_); refine box_event ?hg (N := 2) ?hd (cs := #[.int .i64 0, .string (⟨#[]⟩ : ByteArray), .slice none 0 0, .slice none 0 0]) (t := 37) ?hr ?_; (case hd => rfl); (case hg => rfl); (case hr => first | (go_simp; done) | (go_simp; rfl)); intro g2 hg w1 hbox hb; have GE2 := As.mk ((by rw [hg]; exact HB.out.size) : w.heap.size ≤ g2); have n1 := As.mk (HB.out.trans (hb.mono HB.out.size)); clear HB; have HB := n1; clear n1; have BK2 := As.mk hbox; clear hb hbox hg; have mg2_0 : w1.cell? ⟨g2, 0, none⟩ = some (.int .i64 0) := (kC BK2.out 0).trans rfl; have fg2_0 := kF BK2.out 0; have mg2_1 : w1.cell? ⟨g2, 1, none⟩ = some (.string (⟨#[]⟩ : ByteArray)) := (kC BK2.out 1).trans rfl; have fg2_1 := kF BK2.out 1; have mg2_2 : w1.cell? ⟨g2, 2, none⟩ = some (.slice none 0 0) := (kC BK2.out 2).trans rfl; have fg2_2 := kF BK2.out 2; have mg2_3 : w1.cell? ⟨g2, 3, none⟩ = some (.slice none 0 0) := (kC BK2.out 3).trans rfl; have fg2_3 := kF BK2.out 3) | (go_at_call 46; refine (read_short _ _ _).mono ?_; rintro e w1 ⟨rfl, hb⟩; have n1 := As.mk (HB.out.trans (hb.mono HB.out.size)); have n2 := As.mk (kB BK2.out hb); clear HB BK2 mg2_0 fg2_0 mg2_1 fg2_1 mg2_2 fg2_2 mg2_3 fg2_3; have HB := n1; have BK2 := n2; clear n1 n2 hb; have mg2_0 : w1.cell? ⟨g2, 0, none⟩ = some (.int .i64 0) := (kC BK2.out 0).trans rfl; have fg2_0 := kF BK2.out 0; have mg2_1 : w1.cell? ⟨g2, 1, none⟩ = some (.string (⟨#[]⟩ : ByteArray)) := (kC BK2.out 1).trans rfl; have fg2_1 := kF BK2.out 1; have mg2_2 : w1.cell? ⟨g2, 2, none⟩ = some (.slice none 0 0) := (kC BK2.out 2).trans rfl; have fg2_2 := kF BK2.out 2; have mg2_3 : w1.cell? ⟨g2, 3, none⟩ = some (.slice none 0 0) := (kC BK2.out 3).trans rfl; have fg2_3 := kF BK2.out 3) | ((with_reducible refine gate_dst (N := 4) rfl ?_); refine box_event ?hg (N := 4) ?hd (cs := #[.int .i64 0, .string (⟨#[]⟩ : ByteArray), .slice none 0 0, .slice none 0 0]) (t := 37) ?hr ?_; (case hd => rfl); (case hg => rfl); (case hr => first | (go_simp; done) | (go_simp; rfl)); intro g4 hg w1 hbox hb; have GE4 := As.mk ((by rw [hg]; exact HB.out.size) : w.heap.size ≤ g4); have n1 := As.mk (HB.out.trans (hb.mono HB.out.size)); have n2 := As.mk (kB BK2.out hb); have NE := As.mk ((by rw [hg]; exact Nat.ne_of_lt (blk_lt (w := _) BK2.out)) : g2 ≠ g4); clear HB BK2 mg2_0 fg2_0 mg2_1 fg2_1 mg2_2 fg2_2 mg2_3 fg2_3; have HB := n1; have BK2 := n2; clear n1 n2; have BK4 := As.mk hbox; clear hb hbox hg; have mg2_0 : w1.cell? ⟨g2, 0, none⟩ = some (.int .i64 0) := (kC BK2.out 0).trans rfl; have fg2_0 := kF BK2.out 0; have mg2_1 : w1.cell? ⟨g2, 1, none⟩ = some (.string (⟨#[]⟩ : ByteArray)) := (kC BK2.out 1).trans rfl; have fg2_1 := kF BK2.out 1; have mg2_2 : w1.cell? ⟨g2, 2, none⟩ = some (.slice none 0 0) := (kC BK2.out 2).trans rfl; have fg2_2 := kF BK2.out 2; have mg2_3 : w1.cell? ⟨g2, 3, none⟩ = some (.slice none 0 0) := (kC BK2.out 3).trans rfl; have fg2_3 := kF BK2.out 3; have mg4_0 : w1.cell? ⟨g4, 0, none⟩ = some (.int .i64 0) := (kC BK4.out 0).trans rfl; have fg4_0 := kF BK4.out 0; have mg4_1 : w1.cell? ⟨g4, 1, none⟩ = some (.string (⟨#[]⟩ : ByteArray)) := (kC BK4.out 1).trans rfl; have fg4_1 := kF BK4.out 1; have mg4_2 : w1.cell? ⟨g4, 2, none⟩ = some (.slice none 0 0) := (kC BK4.out 2).trans rfl; have fg4_2 := kF BK4.out 2; have mg4_3 : w1.cell? ⟨g4, 3, none⟩ = some (.slice none 0 0) := (kC BK4.out 3).trans rfl; have fg4_3 := kF BK4.out 3) | ((with_reducible refine gate_store (t := 37) (p := 4) rfl ?_); refine store_event (t := 37) (p := 4) (v := ?vo4) (w1 := ?wo4) ?hg ?ho ?hn ?hr ?_; (case ho => rfl); (case hg => rfl); (case hn => rfl); (case hr => first | (go_simp; done) | (go_simp; rfl)); intro w2 hw; have n0 := As.mk ((by rw [hw]; exact kP (cs := #[.int .i64 0, .string (⟨#[]⟩ : ByteArray), .slice none 0 0, .slice none 0 0]) (kP (cs := #[.int .i64 0, .string (⟨#[]⟩ : ByteArray), .slice none 0 0, .slice none 0 0]) (kP (cs := #[.int .i64 0, .string (⟨#[]⟩ : ByteArray), .slice none 0 0, .slice none 0 0]) (kP (cs := #[.int .i64 0, .string (⟨#[]⟩ : ByteArray), .slice none 0 0, .slice none 0 0]) BK4.out 0 _ rfl) 1 _ rfl) 2 _ rfl) 3 _ rfl) : w2.heap[g4]? = some (.cells #[.int .i64 0, .string (⟨#[]⟩ : ByteArray), .slice none 0 0, .slice none 0 0] 37 (0, 0))); have n1 := As.mk ((by rw [hw]; exact bS (bS (bS (bS HB.out GE4.out) GE4.out) GE4.out) GE4.out) : Below w.heap.size w w2); have n2 := As.mk ((by rw [hw]; exact kR (p := ⟨g4, 3, none⟩) (kR (p := ⟨g4, 2, none⟩) (kR (p := ⟨g4, 1, none⟩) (kR (p := ⟨g4, 0, none⟩) BK2.out NE.out _) NE.out _) NE.out _) NE.out _) : w2.heap[g2]? = some (.cells #[.int .i64 0, .string (⟨#[]⟩ : ByteArray), .slice none 0 0, .slice none 0 0] 37 (0, 0))); clear HB BK4 BK2 mg4_0 fg4_0 mg4_1 fg4_1 mg4_2 fg4_2 mg4_3 fg4_3 mg2_0 fg2_0 mg2_1 fg2_1 mg2_2 fg2_2 mg2_3 fg2_3; have HB := n1; have BK4 := n0; have BK2 := n2; clear n2; clear n0 n1 hw; have mg4_0 : w2.cell? ⟨g4, 0, none⟩ = some (.int .i64 0) := (kC BK4.out 0).trans rfl; have fg4_0 := kF BK4.out 0; have mg4_1 : w2.cell? ⟨g4, 1, none⟩ = some (.string (⟨#[]⟩ : ByteArray)) := (kC BK4.out 1).trans rfl; have fg4_1 := kF BK4.out 1; have mg4_2 : w2.cell? ⟨g4, 2, none⟩ = some (.slice none 0 0) := (kC BK4.out 2).trans rfl; have fg4_2 := kF BK4.out 2; have mg4_3 : w2.cell? ⟨g4, 3, none⟩ = some (.slice none 0 0) := (kC BK4.out 3).trans rfl; have fg4_3 := kF BK4.out 3; have mg2_0 : w2.cell? ⟨g2, 0, none⟩ = some (.int .i64 0) := (kC BK2.out 0).trans rfl; have fg2_0 := kF BK2.out 0; have mg2_1 : w2.cell? ⟨g2, 1, none⟩ = some (.string (⟨#[]⟩ : ByteArray)) := (kC BK2.out 1).trans rfl; have fg2_1 := kF BK2.out 1; have mg2_2 : w2.cell? ⟨g2, 2, none⟩ = some (.slice none 0 0) := (kC BK2.out 2).trans rfl; have fg2_2 := kF BK2.out 2; have mg2_3 : w2.cell? ⟨g2, 3, none⟩ = some (.slice none 0 0) := (kC BK2.out 3).trans rfl; have fg2_3 := kF BK2.out 3) | (go_at_call 18; refine (catalog_Encode.calls 1 0 (⟨#[]⟩ : ByteArray) none 0 [] none 0 [] [] 70 _ (Kd.C_nil _ _) (Nat.le_refl _) (Kd.C_nil _ _) (Nat.le_refl _) enc_zero (UtfOk.of_below HU.out HB.out)).mono ?_; rintro e w1 ⟨v1, rfl, hr, hb⟩; have n1 := As.mk (HB.out.trans (hb.mono HB.out.size)); have n2 := As.mk (kB BK2.out hb); clear HB BK2 mg2_0 fg2_0 mg2_1 fg2_1 mg2_2 fg2_2 mg2_3 fg2_3; have HB := n1; have BK2 := n2; clear n1 n2 hb hr; have mg2_0 : w1.cell? ⟨g2, 0, none⟩ = some (.int .i64 0) := (kC BK2.out 0).trans rfl; have fg2_0 := kF BK2.out 0; have mg2_1 : w1.cell? ⟨g2, 1, none⟩ = some (.string (⟨#[]⟩ : ByteArray)) := (kC BK2.out 1).trans rfl; have fg2_1 := kF BK2.out 1; have mg2_2 : w1.cell? ⟨g2, 2, none⟩ = some (.slice none 0 0) := (kC BK2.out 2).trans rfl; have fg2_2 := kF BK2.out 2; have mg2_3 : w1.cell? ⟨g2, 3, none⟩ = some (.slice none 0 0) := (kC BK2.out 3).trans rfl; have fg2_3 := kF BK2.out 3) | ((with_reducible refine gate_store (t := 37) (p := 2) rfl ?_); refine store_event (t := 37) (p := 2) (v := ?vo2) (w1 := ?wo2) ?hg ?ho ?hn ?hr ?_; (case ho => rfl); (case hg => rfl); (case hn => rfl); (case hr => first | (go_simp; done) | (go_simp; rfl)); intro w2 hw; have n0 := As.mk ((by rw [hw]; exact kP (cs := #[.int .i64 0, .string (⟨#[]⟩ : ByteArray), .slice none 0 0, .slice none 0 0]) (kP (cs := #[.int .i64 0, .string (⟨#[]⟩ : ByteArray), .slice none 0 0, .slice none 0 0]) (kP (cs := #[.int .i64 0, .string (⟨#[]⟩ : ByteArray), .slice none 0 0, .slice none 0 0]) (kP (cs := #[.int .i64 0, .string (⟨#[]⟩ : ByteArray), .slice none 0 0, .slice none 0 0]) BK2.out 0 _ rfl) 1 _ rfl) 2 _ rfl) 3 _ rfl) : w2.heap[g2]? = some (.cells #[.int .i64 0, .string (⟨#[]⟩ : ByteArray), .slice none 0 0, .slice none 0 0] 37 (0, 0))); have n1 := As.mk ((by rw [hw]; exact bS (bS (bS (bS HB.out GE2.out) GE2.out) GE2.out) GE2.out) : Below w.heap.size w w2); clear HB BK2  mg2_0 fg2_0 mg2_1 fg2_1 mg2_2 fg2_2 mg2_3 fg2_3; have HB := n1; have BK2 := n0; clear n0 n1 hw; have mg2_0 : w2.cell? ⟨g2, 0, none⟩ = some (.int .i64 0) := (kC BK2.out 0).trans rfl; have fg2_0 := kF BK2.out 0; have mg2_1 : w2.cell? ⟨g2, 1, none⟩ = some (.string (⟨#[]⟩ : ByteArray)) := (kC BK2.out 1).trans rfl; have fg2_1 := kF BK2.out 1; have mg2_2 : w2.cell? ⟨g2, 2, none⟩ = some (.slice none 0 0) := (kC BK2.out 2).trans rfl; have fg2_2 := kF BK2.out 2; have mg2_3 : w2.cell? ⟨g2, 3, none⟩ = some (.slice none 0 0) := (kC BK2.out 3).trans rfl; have fg2_3 := kF BK2.out 3))
  refine bodyPost_ret (results_ct rfl _ _ g2 37 #[.int .i64 0, .string (⟨#[]⟩ : ByteArray), .slice none 0 0, .slice none 0 0] (0, 0) _ rfl BK2.out Tryz.underlying37 rfl (by kernel_rfl)) rfl ?_
  refine ⟨.slice none 0 0, .slice none 0 0, ?_, Kd.S_nil _ _ _ _ _, Kd.R_nil _ _ _ _ _, HB.out⟩
  rfl
end Go.Proofs.YtkgafkoopefghaaGreatDoor.PA
end
section
namespace Go.Proofs.YtkgafkoopefghaaGreatDoor.PA
open Go.RowKit Go.Proofs.YtkgafkoopefghaaGreatDoorW.PrintWords Go.Proofs.YtkgafkoopefghaaGreatDoorW.PrintLast Go.Proofs.YtkgafkoopefghaaGreatDoorW.PrintMore
open Go.Proofs.YtkgafkoopefghaaGreatDoor.Hk
attribute [local go_sem high] Go.Proofs.YtkgafkoopefghaaGreatDoor.Hk.binOp_leq_not
attribute [local go_sem] max2_int min2_int max_two min_two max_three min_three max_four min_four
set_option linter.unusedVariables false
set_option linter.unusedSimpArgs false
open Go.Maps Go.WideMaps
theorem shown_file : fullS (⟨#[102, 105, 108, 101]⟩ : ByteArray) (⟨#[47, 97]⟩ : ByteArray) [] = (⟨#[102, 105, 108, 101]⟩, ⟨#[47, 97]⟩, [⟨⟨#[99, 111, 110, 116, 101, 110, 116]⟩, ⟨#[]⟩⟩, ⟨⟨#[101, 110, 115, 117, 114, 101]⟩, ⟨#[102, 105, 108, 101]⟩⟩, ⟨⟨#[109, 111, 100, 101]⟩, ⟨#[48, 54, 52, 52]⟩⟩], 0) := by
 have h : fullS (⟨#[102, 105, 108, 101]⟩ : ByteArray) (⟨#[47, 97]⟩ : ByteArray) [] = (⟨#[102, 105, 108, 101]⟩, ⟨#[47, 97]⟩, outS ⟨#[102, 105, 108, 101]⟩ [] fileD.head!.2, 0) := by kernel_rfl
 have hn : namesS fileD.head!.2 = [[99, 111, 110, 116, 101, 110, 116], [101, 110, 115, 117, 114, 101], [109, 111, 100, 101]] := namesS_are (by decide +kernel) (by decide +kernel)
 rw [h]
 unfold outS
 rw [hn]
 rfl
theorem store4_R {W : World} {g t base : Nat} {a b c d : Value} {ok : Nat → Prop} {v : Value} {xs : List Int} (h : Kd.R (Kd.int .u8) 5 W base ok v xs) (hb : W.heap[g]? = some (.cells #[a, b, c, d] t (0, 0))) (h5 : t ≠ 5) (x y z u : Value) : Kd.R (Kd.int .u8) 5 ((((W.setCell ⟨g, 0, none⟩ x).setCell ⟨g, 1, none⟩ y).setCell ⟨g, 2, none⟩ z).setCell ⟨g, 3, none⟩ u) base ok v xs := by
 have hq : ∀ q, q ∈ 5 :: (Kd.int .u8).E → q ≠ t := fun q hq => by
  have : q = 5 := by simpa [Kd.int, Kd.scalar] using hq
  rw [this]; exact fun e => h5 e.symm
 have b1 := kP hb 0 x (cs' := #[x, b, c, d]) rfl
 have b2 := kP b1 1 y (cs' := #[x, y, c, d]) rfl
 have b3 := kP b2 2 z (cs' := #[x, y, z, d]) rfl
 exact Kd.R_set (Kd.R_set (Kd.R_set (Kd.R_set h hb hq 0 x) b1 hq 1 y) b2 hq 2 z) b3 hq 3 u
theorem check_groups7 (s : ByteArray) (hs : s.size < 2147483648) : tables_Check.f (⟨#[103, 114, 111, 117, 112, 115]⟩ : ByteArray) s [(⟨#[]⟩ : ByteArray)] = some (if keyB s = true then 0 else 51) := by
 unfold tables_Check.f
 rw [if_pos ⟨by decide, by simp only [fitB, decide_eq_true_iff]; omega, by decide, by decide⟩, check_key]
theorem check_n1 : catalog_Check.f 20 0 (⟨#[110, 49]⟩ : ByteArray) [] [] = some 0 := by
 unfold catalog_Check.f
 rw [check_groups7 _ (by decide), show keyB (⟨#[110, 49]⟩ : ByteArray) = true from by decide +kernel, Option.bind_some]
 rw [if_neg (by decide), if_neg (by decide), show ((if (true : Bool) = true then (0 : Int) else 51) != 0) = false from by decide, catalog_Check.j0, if_neg (by decide), if_neg (by decide), if_neg (by decide), catalog_Check.l0, if_neg (by decide)]
 have hb : catalog_blocked.f [] = some false := by decide +kernel
 rw [hb, Option.bind_some, if_neg (by decide), catalog_Check.l1, if_neg (by decide)]
 have hB : catalog_bytes.f 0 (⟨#[110, 49]⟩ : ByteArray) [] [] = some ([0, 0, 0, 2, 110, 49, 0, 0] : List Int) := by decide +kernel
 rw [hB]
 rfl
theorem enc_n1 : catalog_Encode.f 20 0 (⟨#[110, 49]⟩ : ByteArray) [] [] = some (([0, 0, 0, 2, 110, 49, 0, 0] : List Int), 0) := by
 have hB : catalog_bytes.f 0 (⟨#[110, 49]⟩ : ByteArray) [] [] = some ([0, 0, 0, 2, 110, 49, 0, 0] : List Int) := by decide +kernel
 unfold catalog_Encode.f
 rw [check_n1, Option.bind_some, if_pos rfl, hB]
 rfl
theorem check_a : catalog_Check.f 20 0 (⟨#[110, 49]⟩ : ByteArray) [⟨(⟨#[102, 105, 108, 101]⟩ : ByteArray), (⟨#[47, 97]⟩ : ByteArray), []⟩] [] = some 70 := by
 unfold catalog_Check.f
 rw [check_groups7 _ (by decide), show keyB (⟨#[110, 49]⟩ : ByteArray) = true from by decide +kernel, Option.bind_some]
 rw [if_neg (by decide), if_neg (by decide), show ((if (true : Bool) = true then (0 : Int) else 51) != 0) = false from by decide, catalog_Check.j0, if_neg (by decide), if_neg (by decide), if_neg (by decide), catalog_Check.l0, if_pos (by decide), if_pos (by decide), if_pos (by decide)]
 rw [show rd_T24 [(⟨(⟨#[102, 105, 108, 101]⟩ : ByteArray), (⟨#[47, 97]⟩ : ByteArray), []⟩ : S24)] 0 = ⟨(⟨#[102, 105, 108, 101]⟩ : ByteArray), (⟨#[47, 97]⟩ : ByteArray), []⟩ from rfl]
 simp only []
 rw [full_f _ _ _ (by decide), shown_file, Option.bind_some, if_pos rfl]
 rfl
def majordomolaw07_shown.f (k : Nat) : Option (Bool) := some true
set_option maxHeartbeats 8000000 in
set_option maxRecDepth 100000 in
theorem majordomolaw07_shown.calls (k : Nat)  (r : Bool) (w : World) (h : majordomolaw07_shown.f k  = some r) (hU : UtfOk w) :
 Calls Tryz.prog 16 #[] w fun e w' => e = .returned (.bool r) ∧ Below w.heap.size w w' := by
 have HU := As.mk hU
 clear hU
 obtain rfl := Option.some.inj h
 clear h
 have hu37 := Tryz.underlying37
 have HB := As.mk (Below.refl w.heap.size w)
 obtain ⟨y326, hy⟩ : ∃ y_ : List S24, y_ = [(⟨(⟨#[102, 105, 108, 101]⟩ : ByteArray), (⟨#[47, 97]⟩ : ByteArray), []⟩ : S24)] := ⟨_, rfl⟩
 have A1 := As.mk enc_n1
 have A2 := As.mk check_a
 rw [← hy] at A2
 have A3 := As.mk (show catalog_Decode.f [] = some (0, (⟨#[]⟩ : ByteArray), ([] : List S24), ([] : List S50), 70) from rfl)
 have Ny326 := As.mk hy
 clear hy
 have cs_ : ((strOfNums ([0, 0, 0, 2, 110, 49, 0, 0] : List Int)).toList == ([0, 0, 0, 2, 110, 49, 0, 0] : List UInt8)) = true := by decide +kernel
 go_enter Tryz.func16, Tryz.ntmps16
 go_wp2_with (first | ((with_reducible refine gate_callee (f := 18) rfl ?_); refine goesL_ (some 8) rfl rfl Tryz.func18 (by kernel_rfl) rfl #[.agg #[.int .i64 0, .string (⟨#[110, 49]⟩ : ByteArray), .slice none 0 0, .slice none 0 0]] rfl (by (try simp only [List.map_toArray, List.map_cons, List.map_nil]); first | done | rfl | (simp only [List.length_drop, List.length_take]; rfl)) ?_; (refine (catalog_Encode.calls 20 0 (⟨#[110, 49]⟩ : ByteArray) _ _ ([] : List (S24)) _ _ ([] : List (S50)) ([0, 0, 0, 2, 110, 49, 0, 0] : List Int) (0 : Int) _ ?side1 ?side2 ?side3 ?side4 A1.out (UtfOk.of_below HU.out (by repeat (first | (with_reducible first | exact HB.out | apply bA | apply bN | apply bD) | exact HB.out)))).mono ?_); (case side1 => exact Kd.C_nil _ _); (case side2 => exact Nat.le_refl _); (case side3 => exact Kd.C_nil _ _); (case side4 => exact Nat.le_refl _); rintro e w7 ⟨v323, rfl, ho0, hb⟩; refine ⟨_, rfl, ?_⟩; have n0_ := As.mk (Kd.R_lower ho0 (bZ (by repeat (first | (with_reducible first | exact HB.out | apply bA | apply bN | apply bD) | exact HB.out)))); have n1_ := As.mk (bT (by repeat (first | (with_reducible first | exact HB.out | apply bA | apply bN | apply bD) | exact HB.out)) hb); clear HB; have HO324 := n0_; have HB := n1_; clear n0_ n1_; (try clear hb); (try clear hb2); (try clear hk); (try clear hi); (try clear ho0)) | ((with_reducible refine gate_dst (N := 12) rfl ?_); refine Kd.S_lit k24 _ 24 ?hg (N := 12) ?hd (xs := ([(⟨(⟨#[102, 105, 108, 101]⟩ : ByteArray), (⟨#[47, 97]⟩ : ByteArray), ([] : List (S31))⟩ : S24)] : List (S24))) (inner := [.string (⟨#[102, 105, 108, 101]⟩ : ByteArray), .string (⟨#[47, 97]⟩ : ByteArray), .slice none 0 0]) (ok := fun _ => True) (okp := fun _ => True) ?hr ?hp (fun _ hk => hk) trivial (Below.refl _ _) (Nat.le_refl _) (by simp) ?_; (case hd => rfl); (case hg => rfl); (case hr => first | (go_simp; done) | (go_simp; rfl)); (case hp => exact (Reps.c3 (show Kd.M k24 _ _ _ (⟨(⟨#[102, 105, 108, 101]⟩ : ByteArray), (⟨#[47, 97]⟩ : ByteArray), ([] : List (S31))⟩ : S24) [.string (⟨#[102, 105, 108, 101]⟩ : ByteArray), .string (⟨#[47, 97]⟩ : ByteArray), .slice none 0 0] from (k24_mkM _ _ _ (⟨(⟨#[102, 105, 108, 101]⟩ : ByteArray), (⟨#[47, 97]⟩ : ByteArray), ([] : List (S31))⟩ : S24) (Kd.R_nil _ _ _ _ _))) (Reps.none _ _))); intro v327 w8 ho9 hb hg_ hnew_; clear hg_ hnew_; (first | rw [← Ny326.out] at ho9 | (simp only [Int.reduceToNat] at ho9; rw [← Ny326.out] at ho9)); have n0_ := As.mk (Kd.R_below (by (with_reducible repeat (first | apply Kd.R_alloc | apply Kd.R_drewN | apply Kd.R_drew)); exact HO324.out) hb); have n1_ := As.mk (Kd.S_lower ho9 (bZ (by repeat (first | (with_reducible first | exact HB.out | apply bA | apply bN | apply bD) | exact HB.out)))); have n2_ := As.mk (bT (by repeat (first | (with_reducible first | exact HB.out | apply bA | apply bN | apply bD) | exact HB.out)) hb); clear HO324; clear HB; have HO324 := n0_; have HO328 := n1_; have HB := n2_; clear n0_ n1_ n2_; clear hb ho9; obtain ⟨Ao10, co10, eo10⟩ := Kd.S_slice HO328.out; subst eo10) | ((with_reducible refine gate_callee (f := 21) rfl ?_); refine goesL_ (some 14) rfl rfl Tryz.func21 (by kernel_rfl) rfl #[.agg #[.int .i64 0, .string (⟨#[110, 49]⟩ : ByteArray), .slice Ao10 y326.length co10, .slice none 0 0]] rfl (by (try simp only [List.map_toArray, List.map_cons, List.map_nil]); first | done | rfl | (simp only [List.length_drop, List.length_take]; rfl)) ?_; (refine (catalog_Check.calls 20 0 (⟨#[110, 49]⟩ : ByteArray) _ _ y326 _ _ ([] : List (S50)) (70 : Int) _ ?side1 ?side2 ?side3 ?side4 A2.out (UtfOk.of_below HU.out (by repeat (first | (with_reducible first | exact HB.out | apply bA | apply bN | apply bD) | exact HB.out)))).mono ?_); (case side1 => repeat (first | exact (Kd.S_reads' HO328.out).2.2 | (with_reducible refine Kd.C_alloc ?_ _) | (with_reducible refine Kd.C_drewN ?_ _) | (with_reducible refine Kd.C_drew ?_))); (case side2 => exact (Kd.S_reads' HO328.out).2.1); (case side3 => exact Kd.C_nil _ _); (case side4 => exact Nat.le_refl _); rintro e w11 ⟨rfl, hb⟩; refine ⟨_, rfl, ?_⟩; have n0_ := As.mk (Kd.R_below (by (with_reducible repeat (first | apply Kd.R_alloc | apply Kd.R_drewN | apply Kd.R_drew)); exact HO324.out) hb); have n1_ := As.mk (Kd.S_below (by (with_reducible repeat (first | apply Kd.S_alloc | apply Kd.S_drewN | apply Kd.S_drew)); exact HO328.out) hb); have n2_ := As.mk (bT (by repeat (first | (with_reducible first | exact HB.out | apply bA | apply bN | apply bD) | exact HB.out)) hb); clear HO324; clear HO328; clear HB; have HO324 := n0_; have HO328 := n1_; have HB := n2_; clear n0_ n1_ n2_; (try clear hb); (try clear hb2); (try clear hk); (try clear hi)) | ((with_reducible refine gate_callee (f := 23) rfl ?_); refine goesL_ (some 16) rfl rfl Tryz.func23 (by kernel_rfl) rfl #[.slice none 0 0] rfl (by (try simp only [List.map_toArray, List.map_cons, List.map_nil]); first | done | rfl | (simp only [List.length_drop, List.length_take]; rfl)) ?_; (refine (catalog_Decode.calls _ _ ([] : List Int) (0 : Int) (⟨#[]⟩ : ByteArray) ([] : List S24) ([] : List S50) (70 : Int) _ ?side1 ?side2 A3.out (UtfOk.of_below HU.out (by repeat (first | (with_reducible first | exact HB.out | apply bA | apply bN | apply bD) | exact HB.out)))).mono ?_); (case side1 => exact Kd.C_nil _ _); (case side2 => exact Nat.le_refl _); rintro e w12 ⟨v333, v336, rfl, ho0, ho1, hb⟩; refine ⟨_, rfl, ?_⟩; have n0_ := As.mk (Kd.R_below (by (with_reducible repeat (first | apply Kd.R_alloc | apply Kd.R_drewN | apply Kd.R_drew)); exact HO324.out) hb); have n1_ := As.mk (Kd.S_elder' (by (with_reducible repeat (first | apply Kd.S_alloc | apply Kd.S_drewN | apply Kd.S_drew)); exact HO328.out) (Kd.S_base ho0) hb); have n2_ := As.mk (Kd.S_lower (Kd.S_new' ho0 (Kd.S_lt (by (with_reducible repeat (first | apply Kd.S_alloc | apply Kd.S_drewN | apply Kd.S_drew)); exact HO328.out))) (bZ (by repeat (first | (with_reducible first | exact HB.out | apply bA | apply bN | apply bD) | exact HB.out)))); have n3_ := As.mk (Kd.R_lower ho1 (bZ (by repeat (first | (with_reducible first | exact HB.out | apply bA | apply bN | apply bD) | exact HB.out)))); have n4_ := As.mk (bT (by repeat (first | (with_reducible first | exact HB.out | apply bA | apply bN | apply bD) | exact HB.out)) hb); clear HO324; clear HO328; clear HB; have HO324 := n0_; have HO328 := n1_; have HO334 := n2_; have HO337 := n3_; have HB := n4_; clear n0_ n1_ n2_ n3_ n4_; (try clear hb); (try clear hb2); (try clear hk); (try clear hi); (try clear ho0); (try clear ho1)) | ((with_reducible refine gate_dst (N := 4) rfl ?_); refine box_event ?hg (N := 4) ?hd (cs := #[.int .i64 0, .string (⟨#[]⟩ : ByteArray), .slice none 0 0, .slice none 0 0]) (t := 37) ?hr ?_; (case hd => rfl); (case hg => rfl); (case hr => first | (go_simp; done) | (go_simp; rfl)); intro gb339 hg w13 hbox hb; have n0_ := As.mk (Kd.R_below (by (with_reducible repeat (first | apply Kd.R_alloc | apply Kd.R_drewN | apply Kd.R_drew)); exact HO324.out) hb); have n1_ := As.mk (Kd.S_below (by (with_reducible repeat (first | apply Kd.S_alloc | apply Kd.S_drewN | apply Kd.S_drew)); exact HO328.out) hb); have n2_ := As.mk (Kd.S_below (by (with_reducible repeat (first | apply Kd.S_alloc | apply Kd.S_drewN | apply Kd.S_drew)); exact HO334.out) hb); have n3_ := As.mk (Kd.R_below (by (with_reducible repeat (first | apply Kd.R_alloc | apply Kd.R_drewN | apply Kd.R_drew)); exact HO337.out) hb); have n4_ := As.mk (bT (by repeat (first | (with_reducible first | exact HB.out | apply bA | apply bN | apply bD) | exact HB.out)) hb); have n5_ := As.mk (hbox); have n6_ := As.mk ((by rw [hg]; exact (bZ (by repeat (first | (with_reducible first | exact HB.out | apply bA | apply bN | apply bD) | exact HB.out))) : w.heap.size ≤ gb339)); have n7_ := As.mk ((by rw [hg]; exact (bZ (by repeat (first | (with_reducible first | exact HB.out | apply bA | apply bN | apply bD) | exact HB.out))) : w.heap.size ≤ gb339)); clear HO324; clear HO328; clear HO334; clear HO337; clear HB; have HO324 := n0_; have HO328 := n1_; have HO334 := n2_; have HO337 := n3_; have HB := n4_; have BK339 := n5_; have GW339 := n6_; have GE339 := n7_; clear n0_ n1_ n2_ n3_ n4_ n5_ n6_ n7_; clear hb hbox hg; have hcz14_0 : w13.cell? ⟨gb339, 0, none⟩ = some (.int .i64 0) := (kC BK339.out 0).trans rfl; have hcz14_1 : w13.cell? ⟨gb339, 1, none⟩ = some (.string (⟨#[]⟩ : ByteArray)) := (kC BK339.out 1).trans rfl; have hcz14_2 : w13.cell? ⟨gb339, 2, none⟩ = some (.slice none 0 0) := (kC BK339.out 2).trans rfl; have hcz14_3 : w13.cell? ⟨gb339, 3, none⟩ = some (.slice none 0 0) := (kC BK339.out 3).trans rfl; have hfz14_0 := kF BK339.out 0; have hfz14_1 := kF BK339.out 1; have hfz14_2 := kF BK339.out 2; have hfz14_3 := kF BK339.out 3; obtain ⟨Ao15, co15, eo15⟩ := Kd.S_slice HO334.out; subst eo15; obtain ⟨Ao16, co16, eo16⟩ := Kd.R_slice HO337.out; subst eo16) | ((with_reducible refine gate_store (t := 37) (p := 4) rfl ?_); refine store_event (t := 37) (p := 4) (v := ?vo4) (w1 := ?wo4) ?hg ?ho ?hn ?hr ?_; (case ho => rfl); (case hg => rfl); (case hn => rfl); (case hr => first | (go_simp; done) | (go_simp; rfl)); intro w14 hw; have n0 := As.mk ((by rw [hw]; exact store4_R HO324.out BK339.out (by decide) _ _ _ _) : Kd.R (Kd.int .u8) 5 w14 _ _ _ _); have n1 := As.mk ((by rw [hw]; exact bS (bS (bS (bS HB.out GE339.out) GE339.out) GE339.out) GE339.out) : Below w.heap.size w w14); clear HO324 HB BK339; have HO324 := n0; have HB := n1; clear n0 n1 hw; clear hcz14_0 hcz14_1 hcz14_2 hcz14_3 hfz14_0 hfz14_1 hfz14_2 hfz14_3; have hcv17 := own_string (P := Tryz.prog) Tryz.underlying39 Tryz.underlying5 Tryz.underlying9 (Kd.own_of_R HO324.out)))
 go_ret
 exact ⟨rfl, HB.out⟩
end Go.Proofs.YtkgafkoopefghaaGreatDoor.PA
end
section
set_option linter.unusedVariables false
set_option linter.unusedSimpArgs false
namespace Go.Proofs.YtkgafkoopefghaaGreatDoor.PA
open Go.RowKit Go.Maps Go.WideMaps Go.Proofs.YtkgafkoopefghaaGreatDoor.Hk Go.Proofs.YtkgafkoopefghaaGreatDoorW.PrintWords Go.Proofs.YtkgafkoopefghaaGreatDoorW.PrintLast
theorem cuts_mod (m n : Nat) (h : 0 < n) : ∃ k : Nat, (m : Int) % (n : Int) = k ∧ Int.tmod (m : Int) (n : Int) = k ∧ k < n :=
  ⟨m % n, by omega, by rw [Int.tmod_eq_emod_of_nonneg (by omega)]; omega, Nat.mod_lt _ h⟩
theorem cuts_len {v : Int} {n : ByteArray} {R : List S24} {E : List S50} (h : (encC v n R E).2 = 0) : checkC v n R E = 0 ∧ (encC v n R E).1 = bytesC v n R E ∧ 0 < (encC v n R E).1.length ∧ (encC v n R E).1.length < 100000 := by
  unfold encC at h ⊢
  by_cases c : checkC v n R E = 0
  · rw [if_pos c]
    have h8 := (checkC_zero c).2.2.2.2.2.2.2
    have h9 := bytesC_len (v := v) (node := n) (R := R) (E := E)
    exact ⟨c, rfl, by show 0 < (bytesC v n R E).length; omega, by show (bytesC v n R E).length < 100000; omega⟩
  · rw [if_neg c] at h; exact absurd h c
set_option maxRecDepth 100000 in
set_option maxHeartbeats 8000000 in
theorem cuts_calls (k : Nat) (a0 : Int) (a1 : ByteArray) (A2 : Option Addr) (c2 : Nat) (l2 : List S24) (A3 : Option Addr) (c3 : Nat) (l3 : List S50) (at0 : Int) (Ay : Option Addr) (cy : Nat) (ys : List Int) (w : World)
    (hr2 : Kd.C k24 w A2 l2.length l2) (hc2 : l2.length ≤ c2) (hr3 : Kd.C k50 w A3 l3.length l3) (hc3 : l3.length ≤ c3) (hry : Kd.C (Kd.int .u8) w Ay ys.length ys) (hk : catalog_Encode.f k a0 a1 l2 l3 = some (encC a0 a1 l2 l3))
    (hat : -9223372036854775808 ≤ at0 ∧ at0 ≤ 9223372036854775807) (hly : ys.length < 2147000000) (hiy : inB ys) (hU : UtfOk w) :
    Calls Tryz.prog 7 #[.agg #[.int .i64 a0, .string a1, .slice A2 l2.length c2, .slice A3 l3.length c3], .int .i64 at0, .slice Ay ys.length cy] w fun e w' => e = .returned (.bool true) ∧ Below w.heap.size w w' := by
  have HR2 := As.mk hr2
  have HR3 := As.mk hr3
  have HC2 := As.mk hc2
  have HC3 := As.mk hc3
  have HRY := As.mk hry
  have HK := As.mk hk
  have HLY := As.mk hly
  have HIY := As.mk hiy
  have HU := As.mk hU
  have HAT := As.mk hat
  clear hr2 hc2 hr3 hc3 hry hk hly hiy hU hat
  have hu37 := Tryz.underlying37
  have HB := As.mk (Below.refl w.heap.size w)
  go_enter Tryz.func7, Tryz.ntmps7
  go_upto_region 3 with (first | ((with_reducible refine gate_dst (N := 3) rfl ?_); refine box_event ?hg (N := 3) ?hd (cs := #[.int .i64 a0, .string a1, .slice A2 l2.length c2, .slice A3 l3.length c3]) (t := 37) ?hr ?_; (case hd => rfl); (case hg => rfl); (case hr => first | (go_simp; done) | (go_simp; rfl)); intro g3 hg w1 hbox hb; have GE3 := As.mk ((by rw [hg]; exact HB.out.size) : w.heap.size ≤ g3); have n1 := As.mk (bT HB.out hb); clear HB; have HB := n1; clear n1; have BK3 := As.mk hbox; clear hb hbox hg; have mg3_0 : w1.cell? ⟨g3, 0, none⟩ = some (.int .i64 a0) := (kC BK3.out 0).trans rfl; have fg3_0 := kF BK3.out 0; have mg3_1 : w1.cell? ⟨g3, 1, none⟩ = some (.string a1) := (kC BK3.out 1).trans rfl; have fg3_1 := kF BK3.out 1; have mg3_2 : w1.cell? ⟨g3, 2, none⟩ = some (.slice A2 l2.length c2) := (kC BK3.out 2).trans rfl; have fg3_2 := kF BK3.out 2; have mg3_3 : w1.cell? ⟨g3, 3, none⟩ = some (.slice A3 l3.length c3) := (kC BK3.out 3).trans rfl; have fg3_3 := kF BK3.out 3) | (go_at_call 16; refine (majordomolaw07_shown.calls 0 true _ rfl (UtfOk.of_below HU.out HB.out)).mono ?_; rintro e w1 ⟨rfl, hb⟩; have n1 := As.mk (bT HB.out hb); have n2 := As.mk (kB BK3.out hb); clear HB BK3; clear mg3_0 fg3_0 mg3_1 fg3_1 mg3_2 fg3_2 mg3_3 fg3_3; have HB := n1; have BK3 := n2; clear n1 n2 hb; have mg3_0 : w1.cell? ⟨g3, 0, none⟩ = some (.int .i64 a0) := (kC BK3.out 0).trans rfl; have fg3_0 := kF BK3.out 0; have mg3_1 : w1.cell? ⟨g3, 1, none⟩ = some (.string a1) := (kC BK3.out 1).trans rfl; have fg3_1 := kF BK3.out 1; have mg3_2 : w1.cell? ⟨g3, 2, none⟩ = some (.slice A2 l2.length c2) := (kC BK3.out 2).trans rfl; have fg3_2 := kF BK3.out 2; have mg3_3 : w1.cell? ⟨g3, 3, none⟩ = some (.slice A3 l3.length c3) := (kC BK3.out 3).trans rfl; have fg3_3 := kF BK3.out 3) | (go_at_call 18; refine (catalog_Encode.calls k a0 a1 A2 c2 l2 A3 c3 l3 (encC a0 a1 l2 l3).1 (encC a0 a1 l2 l3).2 _ (Kd.C_below HR2.out HB.out) HC2.out (Kd.C_below HR3.out HB.out) HC3.out HK.out (UtfOk.of_below HU.out HB.out)).mono ?_; rintro e w3 ⟨v1, rfl, hr1, hb⟩; have HQ := As.mk (Kd.R_lower hr1 (bZ HB.out)); have n1 := As.mk (bT HB.out hb); clear HB BK3 hr1 hb; clear mg3_0 fg3_0 mg3_1 fg3_1 mg3_2 fg3_2 mg3_3 fg3_3; have HB := n1; clear n1))
  obtain ⟨Ab, cb, eb⟩ := Kd.R_slice HQ.out
  subst eb
  obtain ⟨r2, hr2⟩ : ∃ q, (encC a0 a1 l2 l3).2 = q := ⟨_, rfl⟩
  obtain ⟨bs, hbs⟩ : ∃ q, (encC a0 a1 l2 l3).1 = q := ⟨_, rfl⟩
  have HLL := As.mk (show r2 = 0 → checkC a0 a1 l2 l3 = 0 ∧ bs = bytesC a0 a1 l2 l3 ∧ 0 < bs.length ∧ bs.length < 100000 from fun h => by rw [← hbs]; exact cuts_len (hr2.trans h))
  have HIB := As.mk (show inB bs by rw [← hbs]; exact encC_inB _ _ _ _)
  have nq := As.mk HQ.out
  rw [hbs] at nq
  clear HQ
  have HQ := nq
  clear nq
  rw [hr2]
  try rw [hbs]
  clear hr2 hbs HR2 HR3 HC2 HC3 HK
  by_cases hz : r2 = 0
  rotate_left
  · have d1 : (r2 == 0) = false := by simpa using hz
    have d2 : (r2 != 0) = true := by simpa using hz
    clear hz
    go_wp2
    go_ret
    exact ⟨rfl, HB.out⟩
  subst hz
  obtain ⟨hc0, hbs, hb0, hb1⟩ := HLL.out rfl
  have HBS := As.mk hbs
  have HC0 := As.mk hc0
  have HLB := As.mk hb1
  have HB0 := As.mk hb0
  clear hc0 hbs hb1 hb0 HLL
  go_upto_if 28 with fail
  go_cut [1] (fun v1 wc => ∃ m : Nat, v1 = .int .i64 m ∧ As (m ≤ 9223372036854775807) ∧ As (Kd.R (Kd.int .u8) 5 wc w.heap.size (fun _ => True) (.slice Ab bs.length cb) bs) ∧ As (Below w.heap.size w wc))
  case first =>
    by_cases hneg : at0 < 0
    · have d1 : decide (at0 < 0) = true := decide_eq_true hneg
      obtain ⟨m, hm⟩ : ∃ m : Nat, -(at0 + 1) = (m : Int) := ⟨(-(at0 + 1)).toNat, by omega⟩
      have hw1 : wrap64 (at0 + 1) = at0 + 1 := by have := HAT.out; unfold wrap64; omega
      have hw2 : wrap64 (-(at0 + 1)) = (m : Int) := by have := HAT.out; unfold wrap64; omega
      have HM := As.mk (show m ≤ 9223372036854775807 by have := HAT.out; omega)
      clear hneg hm
      (first | rw [d1] | (simp only [i64_w, i32_w]; rw [d1]) | skip)
      go_wp2
      go_meet
      case rel => exact ⟨m, by first | rfl | (rw [hw1, hw2]; done) | (simp only [i64_w, hw1, hw2]; done), HM, HQ, HB⟩
    · have d1 : decide (at0 < 0) = false := decide_eq_false hneg
      obtain ⟨m, rfl⟩ : ∃ m : Nat, at0 = (m : Int) := ⟨at0.toNat, by omega⟩
      have HM := As.mk (show m ≤ 9223372036854775807 by have := HAT.out; omega)
      clear hneg
      (first | rw [d1] | (simp only [i64_w, i32_w]; rw [d1]) | skip)
      go_wp2
      go_meet
      case rel => exact ⟨m, rfl, HM, HQ, HB⟩
  case rest =>
    clear HQ HB
    obtain ⟨m, rfl, HM, HQ, HB⟩ := hcut
    obtain ⟨k1, hk1, hk2, hk3⟩ := cuts_mod m bs.length HB0.out
    obtain ⟨i0, hi, hzz⟩ := Option.map_eq_some_iff.1 info5
    simp only [Prod.mk.injEq] at hzz
    have hroom := (Kd.R_reads' HQ.out).2.1
    obtain ⟨t1, t2, t3⟩ := print_take_of (P := Tryz.prog) (Value.int .u8) (0 : Int) 39 5 .i64 Tryz.underlying39 hi hzz.2.1 Ab cb bs (k1 : Int) (by omega) (by omega) hroom
    obtain ⟨y, hy⟩ : ∃ y, y = bs.take ((k1 : Int)).toNat := ⟨_, rfl⟩
    rw [← hy] at t1 t2 t3
    have HY := As.mk (show ReadsInt _ .u8 Ab y.length y from t2 _ (own_reads' (Kd.own_of_R HQ.out)))
    have HYC := As.mk t3
    have HYL := As.mk (show y.length < 2147483648 by have := HLB.out; rw [hy, List.length_take]; omega)
    have HYI := As.mk (show ∀ x, x ∈ y → 0 ≤ x ∧ x < 256 from fun x hx => HIB.out x (by rw [hy] at hx; exact List.mem_of_mem_take hx))
    have HYN := As.mk (show ¬ isCat y from fun hc => by
      have h1 := cut_none HC0.out (n := k1) (by rw [← HBS.out]; exact hk3)
      rw [hy, Int.toNat_natCast, HBS.out] at hc
      rw [decE_yes hc] at h1
      cases h1)
    obtain ⟨z, hze⟩ : ∃ z, z = bs ++ ys := ⟨_, rfl⟩
    have HZL := As.mk (show z.length < 2147483648 by have := HLB.out; have := HLY.out; rw [hze, List.length_append]; omega)
    have HZI := As.mk (show ∀ x, x ∈ z → 0 ≤ x ∧ x < 256 by rw [hze]; exact inB_app HIB.out HIY.out)
    have HZE := As.mk hze
    clear hze
    have h0 : ¬ (bs.length : Int) = 0 := by have := HB0.out; omega
    have hbl : (bs.length : Int) ≤ 9223372036854775807 := by have := HLB.out; omega
    have hyl : (ys.length : Int) ≤ 9223372036854775807 := by have := HLY.out; omega
    have hm1 : (m : Int) ≤ 9223372036854775807 := by have := HM.out; omega
    clear hi hzz hroom t2 t3 hy hk3
    go_upto_region 9 with (first | (go_at_call 23; refine (dec_calls Ab cb y _ (HY.out) HYC.out HYL.out HYI.out (UtfOk.of_below HU.out HB.out)).mono ?_; rintro e w4 ⟨d0, d1, D2, dn2, dc2, D3, dn3, dc3, e5, rfl, h5, hb⟩; obtain rfl : e5 = 70 := h5.elim id (fun h => absurd h.2 HYN.out); have n1 := As.mk (bT HB.out hb); have n2 := As.mk (Kd.R_below HQ.out hb); clear HB HQ hb h5; have HB := n1; have HQ := n2; clear n1 n2) | ((with_reducible refine gate_dst (N := 10) rfl ?_); refine box_event ?hg (N := 10) ?hd (cs := #[.int .i64 0, .string (⟨#[]⟩ : ByteArray), .slice none 0 0, .slice none 0 0]) (t := 37) ?hr ?_; (case hd => rfl); (case hg => rfl); (case hr => first | (go_simp; done) | (go_simp; rfl)); intro g10 hg w1 hbox hb; have GE10 := As.mk ((by rw [hg]; exact HB.out.size) : w.heap.size ≤ g10); have n1 := As.mk (bT HB.out hb); have qHQ := As.mk (Kd.R_below HQ.out hb); clear HB; have HB := n1; clear n1; have BK10 := As.mk hbox; clear HQ; have HQ := qHQ; clear qHQ; clear hb hbox hg; have mg10_0 : w1.cell? ⟨g10, 0, none⟩ = some (.int .i64 0) := (kC BK10.out 0).trans rfl; have fg10_0 := kF BK10.out 0; have mg10_1 : w1.cell? ⟨g10, 1, none⟩ = some (.string (⟨#[]⟩ : ByteArray)) := (kC BK10.out 1).trans rfl; have fg10_1 := kF BK10.out 1; have mg10_2 : w1.cell? ⟨g10, 2, none⟩ = some (.slice none 0 0) := (kC BK10.out 2).trans rfl; have fg10_2 := kF BK10.out 2; have mg10_3 : w1.cell? ⟨g10, 3, none⟩ = some (.slice none 0 0) := (kC BK10.out 3).trans rfl; have fg10_3 := kF BK10.out 3) | ((with_reducible refine gate_store (t := 37) (p := 10) rfl ?_); refine store_event (t := 37) (p := 10) (v := ?vo10) (w1 := ?wo10) ?hg ?ho ?hn ?hr ?_; (case ho => rfl); (case hg => rfl); (case hn => rfl); (case hr => first | (go_simp; done) | (go_simp; rfl)); intro w2 hw; have n0 := As.mk ((by rw [hw]; exact kP (cs := #[.int .i64 d0, .string d1, .slice D2 dn2 dc2, .slice none 0 0]) (kP (cs := #[.int .i64 d0, .string d1, .slice none 0 0, .slice none 0 0]) (kP (cs := #[.int .i64 d0, .string (⟨#[]⟩ : ByteArray), .slice none 0 0, .slice none 0 0]) (kP (cs := #[.int .i64 0, .string (⟨#[]⟩ : ByteArray), .slice none 0 0, .slice none 0 0]) (BK10.out) 0 _ rfl) 1 _ rfl) 2 _ rfl) 3 _ rfl) : w2.heap[g10]? = some (.cells #[.int .i64 d0, .string d1, .slice D2 dn2 dc2, .slice D3 dn3 dc3] 37 (0, 0))); have n1 := As.mk ((by rw [hw]; exact bS (bS (bS (bS HB.out GE10.out) GE10.out) GE10.out) GE10.out) : Below w.heap.size w w2); have qHQ := As.mk ((by rw [hw]; exact store4_R HQ.out BK10.out (by decide) _ _ _ _) : Kd.R (Kd.int .u8) 5 w2 _ _ _ _); clear HB BK10; clear mg10_0 fg10_0 mg10_1 fg10_1 mg10_2 fg10_2 mg10_3 fg10_3; have HB := n1; have BK10 := n0; clear HQ; have HQ := qHQ; clear qHQ; clear n0 n1 hw; have mg10_0 : w2.cell? ⟨g10, 0, none⟩ = some (.int .i64 d0) := (kC BK10.out 0).trans rfl; have fg10_0 := kF BK10.out 0; have mg10_1 : w2.cell? ⟨g10, 1, none⟩ = some (.string d1) := (kC BK10.out 1).trans rfl; have fg10_1 := kF BK10.out 1; have mg10_2 : w2.cell? ⟨g10, 2, none⟩ = some (.slice D2 dn2 dc2) := (kC BK10.out 2).trans rfl; have fg10_2 := kF BK10.out 2; have mg10_3 : w2.cell? ⟨g10, 3, none⟩ = some (.slice D3 dn3 dc3) := (kC BK10.out 3).trans rfl; have fg10_3 := kF BK10.out 3) | ((with_reducible refine gate_dst (N := 43) rfl ?_); refine Kd.R_lit (Kd.int .u8) _ 5 ?hg (N := 43) ?hd (xs := ([] : List Int)) (inner := []) (ok := fun _ => True) (okp := fun _ => True) ?hr ?hp (fun _ hk => hk) trivial (Below.refl _ _) (Nat.le_refl _) (by simp) ?_; (case hd => rfl); (case hg => rfl); (case hr => first | (go_simp; done) | (go_simp; rfl)); (case hp => exact (Reps.none _ _)); intro v6 w5 ho hb hg_ hnew_; clear hg_ hnew_; have n1 := As.mk (bT HB.out hb); have n2 := As.mk (Kd.R_reads' (Kd.R_below HQ.out hb)).2.2; have n3 := As.mk (Kd.R_lower ho (bZ HB.out)); clear HB HQ hb ho; have HB := n1; have HQC := n2; have H6 := n3; clear n1 n2 n3) | ((with_reducible refine gate_builtin (b := .append) (xs := #[.tmp 43, .tmp 44]) rfl ?_); at_builtin; refine Kd.R_append_rows (Kd.int .u8) (w0 := w) w.heap.size rfl (.tmp 43) (.tmp 44) 39 5 (.int .u8 0) 1 rfl Tryz.underlying39 info5 rfl (by decide) (by omega) v6 [] bs _ _ _ (fun _ => True) (fun _ => False) rfl rfl H6.out HQC.out (fun _ _ h => h) (fun _ h => h.elim) (fun _ _ => trivial) HB.out (bZ HB.out) (by have := HLB.out; simp only [List.length_nil]; omega) ?_; intro v7 w6 ho hb hg hat; have n1 := As.mk hb; have n2 := As.mk (show Kd.R (Kd.int .u8) 5 w6 w.heap.size (fun _ => True) v7 bs from ho); clear HB H6 HQC hb ho hg hat; have HB := n1; have H7 := n2; clear n1 n2) | ((with_reducible refine gate_builtin (b := .append) (xs := #[.tmp 45, .tmp 46]) rfl ?_); at_builtin; refine Kd.R_append_rows (Kd.int .u8) (w0 := w) w.heap.size rfl (.tmp 45) (.tmp 46) 39 5 (.int .u8 0) 1 rfl Tryz.underlying39 info5 rfl (by decide) (by omega) v7 bs ys _ _ _ (fun _ => True) (fun _ => False) rfl rfl H7.out (Kd.C_below HRY.out HB.out) (fun _ _ h => h) (fun _ h => h.elim) (fun _ _ => trivial) HB.out (bZ HB.out) (by have := HLB.out; have := HLY.out; omega) ?_; intro v8 w7 ho hb hg hat; rw [← HZE.out] at ho; obtain ⟨A8, c8, e8⟩ := Kd.R_slice ho; subst e8; have n1 := As.mk hb; have n2 := As.mk (Kd.R_reads' ho).2.1; have n3 := As.mk (own_reads' (Kd.own_of_R ho)); clear HB H7 hb ho hg hat; have HB := n1; have HC8 := n2; have H8 := n3; clear n1 n2 n3) | (go_at_call 23; refine (dec_calls A8 c8 z _ (H8.out) HC8.out HZL.out HZI.out (UtfOk.of_below HU.out HB.out)).mono ?_; rintro e w4 ⟨d0, d1, D2, dn2, dc2, D3, dn3, dc3, e5, rfl, h5, hb⟩; have n1 := As.mk (bT HB.out hb); have H55 := As.mk h5; clear HB hb h5; have HB := n1; clear n1) | ((with_reducible refine gate_dst (N := 12) rfl ?_); refine box_event ?hg (N := 12) ?hd (cs := #[.int .i64 0, .string (⟨#[]⟩ : ByteArray), .slice none 0 0, .slice none 0 0]) (t := 37) ?hr ?_; (case hd => rfl); (case hg => rfl); (case hr => first | (go_simp; done) | (go_simp; rfl)); intro g12 hg w1 hbox hb; have GE12 := As.mk ((by rw [hg]; exact HB.out.size) : w.heap.size ≤ g12); have n1 := As.mk (bT HB.out hb); clear HB; have HB := n1; clear n1; have BK12 := As.mk hbox; clear hb hbox hg; have mg12_0 : w1.cell? ⟨g12, 0, none⟩ = some (.int .i64 0) := (kC BK12.out 0).trans rfl; have fg12_0 := kF BK12.out 0; have mg12_1 : w1.cell? ⟨g12, 1, none⟩ = some (.string (⟨#[]⟩ : ByteArray)) := (kC BK12.out 1).trans rfl; have fg12_1 := kF BK12.out 1; have mg12_2 : w1.cell? ⟨g12, 2, none⟩ = some (.slice none 0 0) := (kC BK12.out 2).trans rfl; have fg12_2 := kF BK12.out 2; have mg12_3 : w1.cell? ⟨g12, 3, none⟩ = some (.slice none 0 0) := (kC BK12.out 3).trans rfl; have fg12_3 := kF BK12.out 3) | ((with_reducible refine gate_store (t := 37) (p := 12) rfl ?_); refine store_event (t := 37) (p := 12) (v := ?vo12) (w1 := ?wo12) ?hg ?ho ?hn ?hr ?_; (case ho => rfl); (case hg => rfl); (case hn => rfl); (case hr => first | (go_simp; done) | (go_simp; rfl)); intro w2 hw; have n0 := As.mk ((by rw [hw]; exact kP (cs := #[.int .i64 d0, .string d1, .slice D2 dn2 dc2, .slice none 0 0]) (kP (cs := #[.int .i64 d0, .string d1, .slice none 0 0, .slice none 0 0]) (kP (cs := #[.int .i64 d0, .string (⟨#[]⟩ : ByteArray), .slice none 0 0, .slice none 0 0]) (kP (cs := #[.int .i64 0, .string (⟨#[]⟩ : ByteArray), .slice none 0 0, .slice none 0 0]) (BK12.out) 0 _ rfl) 1 _ rfl) 2 _ rfl) 3 _ rfl) : w2.heap[g12]? = some (.cells #[.int .i64 d0, .string d1, .slice D2 dn2 dc2, .slice D3 dn3 dc3] 37 (0, 0))); have n1 := As.mk ((by rw [hw]; exact bS (bS (bS (bS HB.out GE12.out) GE12.out) GE12.out) GE12.out) : Below w.heap.size w w2); clear HB BK12; clear mg12_0 fg12_0 mg12_1 fg12_1 mg12_2 fg12_2 mg12_3 fg12_3; have HB := n1; have BK12 := n0; clear n0 n1 hw; have mg12_0 : w2.cell? ⟨g12, 0, none⟩ = some (.int .i64 d0) := (kC BK12.out 0).trans rfl; have fg12_0 := kF BK12.out 0; have mg12_1 : w2.cell? ⟨g12, 1, none⟩ = some (.string d1) := (kC BK12.out 1).trans rfl; have fg12_1 := kF BK12.out 1; have mg12_2 : w2.cell? ⟨g12, 2, none⟩ = some (.slice D2 dn2 dc2) := (kC BK12.out 2).trans rfl; have fg12_2 := kF BK12.out 2; have mg12_3 : w2.cell? ⟨g12, 3, none⟩ = some (.slice D3 dn3 dc3) := (kC BK12.out 3).trans rfl; have fg12_3 := kF BK12.out 3))
    have hor := H55.out
    clear H55
    by_cases h70 : e5 = 70
    · subst h70
      go_wp2
      go_ret
      exact ⟨rfl, HB.out⟩
    · have d1 : (e5 == 70) = false := by simpa using h70
      have hn : ys = [] := by
        refine Classical.byContradiction fun hne => ?_
        rcases hor with h | h
        · exact h70 h
        · have h1 := behind_none HC0.out hne
          rw [← HBS.out, ← HZE.out, decE_yes h.2] at h1
          cases h1
      subst hn
      clear hor h70
      go_wp2
      go_ret
      exact ⟨rfl, HB.out⟩
end Go.Proofs.YtkgafkoopefghaaGreatDoor.PA
end
