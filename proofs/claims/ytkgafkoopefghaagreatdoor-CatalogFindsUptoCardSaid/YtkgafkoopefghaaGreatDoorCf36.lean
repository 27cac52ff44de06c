/- A part of this law; its conditions stand in the last text. -/
import Derived.Test.YtkgafkoopefghaaGreatDoorCf35
import Derived.Test.YtkgafkoopefghaaGreatDoorCf34
import Derived.Test.YtkgafkoopefghaaGreatDoorCf29
import Derived.Test.YtkgafkoopefghaaGreatDoorCf25
import Derived.Test.YtkgafkoopefghaaGreatDoorCf6
import Derived.Test.YtkgafkoopefghaaGreatDoorCf9
import Derived.Test.YtkgafkoopefghaaGreatDoorCf31
import Derived.Test.YtkgafkoopefghaaGreatDoorCf30
import Derived.Test.YtkgafkoopefghaaGreatDoorCf32
section
set_option linter.unusedVariables false
set_option linter.unusedSimpArgs false
namespace Go.Proofs.YtkgafkoopefghaaGreatDoor.PA
open Go.RowKit Go.Proofs.YtkgafkoopefghaaGreatDoor.Hk Go.Proofs.YtkgafkoopefghaaGreatDoorW.PrintWords
theorem check_groups (s : ByteArray) (hs : s.size < 2147483648) : tables_Check.f (⟨#[103, 114, 111, 117, 112, 115]⟩ : ByteArray) s [(⟨#[]⟩ : ByteArray)] = some (if keyB s = true then 0 else 51) := by
  unfold tables_Check.f
  rw [if_pos ⟨by decide, by simp only [fitB, decide_eq_true_iff]; omega, by decide, by decide⟩, check_key]
theorem enc_zero : catalog_Encode.f 1 0 (⟨#[]⟩ : ByteArray) [] [] = some ([], 70) := by
  unfold catalog_Encode.f catalog_Check.f
  rw [check_groups _ (by decide), show keyB (⟨#[]⟩ : ByteArray) = false from by decide +kernel]
  simp only [Option.bind_some]
  rw [if_neg (by decide), if_neg (by decide), show ((if (false : Bool) = true then (0 : Int) else 51) != 0) = true from by decide, catalog_Check.j0, if_pos rfl]
  rfl
def catalog_Decode.f (l0 : List Int) : Option (Int × ByteArray × (List (S24)) × (List (S50)) × Int) := if l0 = [] then some (0, (⟨#[]⟩ : ByteArray), ([] : List (S24)), ([] : List (S50)), 70) else none
set_option maxRecDepth 100000 in
set_option maxHeartbeats 4000000 in
theorem catalog_Decode.calls (A0 : Option Addr) (c0 : Nat) (l0 : List Int) (r1 : Int) (r2 : ByteArray) (r3 : List (S24)) (r4 : List (S50)) (r5 : Int) (w : World) (hr0 : Kd.C (Kd.int .u8) w A0 l0.length l0) (hc0 : l0.length ≤ c0) (h : catalog_Decode.f l0 = some (r1, r2, r3, r4, r5)) (hU : UtfOk w) :
    Calls Tryz.prog 23 #[.slice A0 l0.length c0] w fun e w' => ∃ v2_ v3_ : Value, e = .returned (.tuple #[.agg #[.int .i64 r1, .string r2, v2_, v3_], .int .i64 r5]) ∧ Kd.S k24 24 w' w.heap.size (fun _ => True) v2_ r3 ∧ Kd.R k50 50 w' w.heap.size (fun _ => True) v3_ r4 ∧ Below w.heap.size w w' := by
  unfold catalog_Decode.f at h
  by_cases c : l0 = []
  rotate_left
  · rw [if_neg c] at h; cases h
  rw [if_pos c] at h
  subst c
  simp only [Option.some.injEq, Prod.mk.injEq] at h
  obtain ⟨rfl, rfl, rfl, rfl, rfl⟩ := h
  clear hr0 hc0
  have HU := As.mk hU
  clear hU
  have hu37 := Tryz.underlying37
  have HB := As.mk (Below.refl w.heap.size w)
  go_enter Tryz.func23, Tryz.ntmps23
  go_wp2_with (first | ((with_reducible refine gate_dst (N := 2) rfl ?_); refine box_event ?hg (N := 2) ?hd (cs := #[.int .i64 0, .string (⟨#[]⟩ : ByteArray), .slice none 0 0, .slice none 0 0]) (t := 37) ?hr ?_; (case hd => rfl); (case hg => rfl); (case hr => first | (go_simp; done) | (go_simp; rfl)); intro g2 hg w1 hbox hb; have GE2 := As.mk ((by rw [hg]; exact HB.out.size) : w.heap.size ≤ g2); have n1 := As.mk (HB.out.trans (hb.mono HB.out.size)); clear HB; have HB := n1; clear n1; have BK2 := As.mk hbox; clear hb hbox hg; have mg2_0 : w1.cell? ⟨g2, 0, none⟩ = some (.int .i64 0) := (kC BK2.out 0).trans rfl; have fg2_0 := kF BK2.out 0; have mg2_1 : w1.cell? ⟨g2, 1, none⟩ = some (.string (⟨#[]⟩ : ByteArray)) := (kC BK2.out 1).trans rfl; have fg2_1 := kF BK2.out 1; have mg2_2 : w1.cell? ⟨g2, 2, none⟩ = some (.slice none 0 0) := (kC BK2.out 2).trans rfl; have fg2_2 := kF BK2.out 2; have mg2_3 : w1.cell? ⟨g2, 3, none⟩ = some (.slice none 0 0) := (kC BK2.out 3).trans rfl; have fg2_3 := kF BK2.out 3) | (go_at_call 46; refine (read_short _ _ _).mono ?_; rintro e w1 ⟨rfl, hb⟩; have n1 := As.mk (HB.out.trans (hb.mono HB.out.size)); have n2 := As.mk (kB BK2.out hb); clear HB BK2 mg2_0 fg2_0 mg2_1 fg2_1 mg2_2 fg2_2 mg2_3 fg2_3; have HB := n1; have BK2 := n2; clear n1 n2 hb; have mg2_0 : w1.cell? ⟨g2, 0, none⟩ = some (.int .i64 0) := (kC BK2.out 0).trans rfl; have fg2_0 := kF BK2.out 0; have mg2_1 : w1.cell? ⟨g2, 1, none⟩ = some (.string (⟨#[]⟩ : ByteArray)) := (kC BK2.out 1).trans rfl; have fg2_1 := kF BK2.out 1; have mg2_2 : w1.cell? ⟨g2, 2, none⟩ = some (.slice none 0 0) := (kC BK2.out 2).trans rfl; have fg2_2 := kF BK2.out 2; have mg2_3 : w1.cell? ⟨g2, 3, none⟩ = some (.slice none 0 0) := (kC BK2.out 3).trans rfl; have fg2_3 := kF BK2.out 3) | ((with_reducible refine gate_dst (N := 4) rfl ?_); refine box_event ?hg (N := 4) ?hd (cs := #[.int .i64 0, .string (⟨#[]⟩ : ByteArray), .slice none 0 0, .slice none 0 0]) (t := 37) ?hr ?_; (case hd => rfl); (case hg => rfl); (case hr => first | (go_simp; done) | (go_simp; rfl)); intro g4 hg w1 hbox hb; have GE4 := As.mk ((by rw [hg]; exact HB.out.size) : w.heap.size ≤ g4); have n1 := As.mk (HB.out.trans (hb.mono HB.out.size)); have n2 := As.mk (kB BK2.out hb); have NE := As.mk ((by rw [hg]; exact Nat.ne_of_lt (blk_lt (w := _) BK2.out)) : g2 ≠ g4); clear HB BK2 mg2_0 fg2_0 mg2_1 fg2_1 mg2_2 fg2_2 mg2_3 fg2_3; have HB := n1; have BK2 := n2; clear n1 n2; have BK4 := As.mk hbox; clear hb hbox hg; have mg2_0 : w1.cell? ⟨g2, 0, none⟩ = some (.int .i64 0) := (kC BK2.out 0).trans rfl; have fg2_0 := kF BK2.out 0; have mg2_1 : w1.cell? ⟨g2, 1, none⟩ = some (.string (⟨#[]⟩ : ByteArray)) := (kC BK2.out 1).trans rfl; have fg2_1 := kF BK2.out 1; have mg2_2 : w1.cell? ⟨g2, 2, none⟩ = some (.slice none 0 0) := (kC BK2.out 2).trans rfl; have fg2_2 := kF BK2.out 2; have mg2_3 : w1.cell? ⟨g2, 3, none⟩ = some (.slice none 0 0) := (kC BK2.out 3).trans rfl; have fg2_3 := kF BK2.out 3; have mg4_0 : w1.cell? ⟨g4, 0, none⟩ = some (.int .i64 0) := (kC BK4.out 0).trans rfl; have fg4_0 := kF BK4.out 0; have mg4_1 : w1.cell? ⟨g4, 1, none⟩ = some (.string (⟨#[]⟩ : ByteArray)) := (kC BK4.out 1).trans rfl; have fg4_1 := kF BK4.out 1; have mg4_2 : w1.cell? ⟨g4, 2, none⟩ = some (.slice none 0 0) := (kC BK4.out 2).trans rfl; have fg4_2 := kF BK4.out 2; have mg4_3 : w1.cell? ⟨g4, 3, none⟩ = some (.slice none 0 0) := (kC BK4.out 3).trans rfl; have fg4_3 := kF BK4.out 3) | ((with_reducible refine gate_store (t := 37) (p := 4) rfl ?_); refine store_event (t := 37) (p := 4) (v := ?vo4) (w1 := ?wo4) ?hg ?ho ?hn ?hr ?_; (case ho => rfl); (case hg => rfl); (case hn => rfl); (case hr => first | (go_simp; done) | (go_simp; rfl)); intro w2 hw; have n0 := As.mk ((by rw [hw]; exact kP (cs := #[.int .i64 0, .string (⟨#[]⟩ : ByteArray), .slice none 0 0, .slice none 0 0]) (kP (cs := #[.int .i64 0, .string (⟨#[]⟩ : ByteArray), .slice none 0 0, .slice none 0 0]) (kP (cs := #[.int .i64 0, .string (⟨#[]⟩ : ByteArray), .slice none 0 0, .slice none 0 0]) (kP (cs := #[.int .i64 0, .string (⟨#[]⟩ : ByteArray), .slice none 0 0, .slice none 0 0]) BK4.out 0 _ rfl) 1 _ rfl) 2 _ rfl) 3 _ rfl) : w2.heap[g4]? = some (.cells #[.int .i64 0, .string (⟨#[]⟩ : ByteArray), .slice none 0 0, .slice none 0 0] 37 (0, 0))); have n1 := As.mk ((by rw [hw]; exact bS (bS (bS (bS HB.out GE4.out) GE4.out) GE4.out) GE4.out) : Below w.heap.size w w2); have n2 := As.mk ((by rw [hw]; exact kR (p := ⟨g4, 3, none⟩) (kR (p := ⟨g4, 2, none⟩) (kR (p := ⟨g4, 1, none⟩) (kR (p := ⟨g4, 0, none⟩) BK2.out NE.out _) NE.out _) NE.out _) NE.out _) : w2.heap[g2]? = some (.cells #[.int .i64 0, .string (⟨#[]⟩ : ByteArray), .slice none 0 0, .slice none 0 0] 37 (0, 0))); clear HB BK4 BK2 mg4_0 fg4_0 mg4_1 fg4_1 mg4_2 fg4_2 mg4_3 fg4_3 mg2_0 fg2_0 mg2_1 fg2_1 mg2_2 fg2_2 mg2_3 fg2_3; have HB := n1; have BK4 := n0; have BK2 := n2; clear n2; clear n0 n1 hw; have mg4_0 : w2.cell? ⟨g4, 0, none⟩ = some (.int .i64 0) := (kC BK4.out 0).trans rfl; have fg4_0 := kF BK4.out 0; have mg4_1 : w2.cell? ⟨g4, 1, none⟩ = some (.string (⟨#[]⟩ : ByteArray)) := (kC BK4.out 1).trans rfl; have fg4_1 := kF BK4.out 1; have mg4_2 : w2.cell? ⟨g4, 2, none⟩ = some (.slice none 0 0) := (kC BK4.out 2).trans rfl; have fg4_2 := kF BK4.out 2; have mg4_3 : w2.cell? ⟨g4, 3, none⟩ = some (.slice none 0 0) := (kC BK4.out 3).trans rfl; have fg4_3 := kF BK4.out 3; have mg2_0 : w2.cell? ⟨g2, 0, none⟩ = some (.int .i64 0) := (kC BK2.out 0).trans rfl; have fg2_0 := kF BK2.out 0; have mg2_1 : w2.cell? ⟨g2, 1, none⟩ = some (.string (⟨#[]⟩ : ByteArray)) := (kC BK2.out 1).trans rfl; have fg2_1 := kF BK2.out 1; have mg2_2 : w2.cell? ⟨g2, 2, none⟩ = some (.slice none 0 0) := (kC BK2.out 2).trans rfl; have fg2_2 := kF BK2.out 2; have mg2_3 : w2.cell? ⟨g2, 3, none⟩ = some (.slice none 0 0) := (kC BK2.out 3).trans rfl; have fg2_3 := kF BK2.out 3) | (go_at_call 18; refine (catalog_Encode.calls 1 0 (⟨#[]⟩ : ByteArray) none 0 [] none 0 [] [] 70 _ (Kd.C_nil _ _) (Nat.le_refl _) (Kd.C_nil _ _) (Nat.le_refl _) enc_zero (UtfOk.of_below HU.out HB.out)).mono ?_; rintro e w1 ⟨v1, rfl, hr, hb⟩; have n1 := As.mk (HB.out.trans (hb.mono HB.out.size)); have n2 := As.mk (kB BK2.out hb); clear HB BK2 mg2_0 fg2_0 mg2_1 fg2_1 mg2_2 fg2_2 mg2_3 fg2_3; have HB := n1; have BK2 := n2; clear n1 n2 hb hr; have mg2_0 : w1.cell? ⟨g2, 0, none⟩ = some (.int .i64 0) := (kC BK2.out 0).trans rfl; have fg2_0 := kF BK2.out 0; have mg2_1 : w1.cell? ⟨g2, 1, none⟩ = some (.string (⟨#[]⟩ : ByteArray)) := (kC BK2.out 1).trans rfl; have fg2_1 := kF BK2.out 1; have mg2_2 : w1.cell? ⟨g2, 2, none⟩ = some (.slice none 0 0) := (kC BK2.out 2).trans rfl; have fg2_2 := kF BK2.out 2; have mg2_3 : w1.cell? ⟨g2, 3, none⟩ = some (.slice none 0 0) := (kC BK2.out 3).trans rfl; have fg2_3 := kF BK2.out 3) | ((with_reducible refine gate_store (t := 37) (p := 2) rfl ?_); refine store_event (t := 37) (p := 2) (v := ?vo2) (w1 := ?wo2) ?hg ?ho ?hn ?hr ?_; (case ho => rfl); (case hg => rfl); (case hn => rfl); (case hr => first | (go_simp; done) | (go_simp; rfl)); intro w2 hw; have n0 := As.mk ((by rw [hw]; exact kP (cs := #[.int .i64 0, .string (⟨#[]⟩ : ByteArray), .slice none 0 0, .slice none 0 0]) (kP (cs := #[.int .i64 0, .string (⟨#[]⟩ : ByteArray), .slice none 0 0, .slice none 0 0]) (kP (cs := #[.int .i64 0, .string (⟨#[]⟩ : ByteArray), .slice none 0 0, .slice none 0 0]) (kP (cs := #[.int .i64 0, .string (⟨#[]⟩ : ByteArray), .slice none 0 0, .slice none 0 0]) BK2.out 0 _ rfl) 1 _ rfl) 2 _ rfl) 3 _ rfl) : w2.heap[g2]? = some (.cells #[.int .i64 0, .string (⟨#[]⟩ : ByteArray), .slice none 0 0, .slice none 0 0] 37 (0, 0))); have n1 := As.mk ((by rw [hw]; exact bS (bS (bS (bS HB.out GE2.out) GE2.out) GE2.out) GE2.out) : Below w.heap.size w w2); clear HB BK2  mg2_0 fg2_0 mg2_1 fg2_1 mg2_2 fg2_2 mg2_3 fg2_3; have HB := n1; have BK2 := n0; clear n0 n1 hw; have mg2_0 : w2.cell? ⟨g2, 0, none⟩ = some (.int .i64 0) := (kC BK2.out 0).trans rfl; have fg2_0 := kF BK2.out 0; have mg2_1 : w2.cell? ⟨g2, 1, none⟩ = some (.string (⟨#[]⟩ : ByteArray)) := (kC BK2.out 1).trans rfl; have fg2_1 := kF BK2.out 1; have mg2_2 : w2.cell? ⟨g2, 2, none⟩ = some (.slice none 0 0) := (kC BK2.out 2).trans rfl; have fg2_2 := kF BK2.out 2; have mg2_3 : w2.cell? ⟨g2, 3, none⟩ = some (.slice none 0 0) := (kC BK2.out 3).trans rfl; have fg2_3 := kF BK2.out 3))
  refine bodyPost_ret (results_ct rfl _ _ g2 37 #[.int .i64 0, .string (⟨#[]⟩ : ByteArray), .slice none 0 0, .slice none 0 0] (0, 0) _ rfl BK2.out Tryz.underlying37 rfl (by kernel_rfl)) rfl ?_
  refine ⟨.slice none 0 0, .slice none 0 0, ?_, Kd.S_nil _ _ _ _ _, Kd.R_nil _ _ _ _ _, HB.out⟩
  rfl
end Go.Proofs.YtkgafkoopefghaaGreatDoor.PA
end
section
namespace Go.Proofs.YtkgafkoopefghaaGreatDoor.PA
open Go.RowKit Go.Proofs.YtkgafkoopefghaaGreatDoorW.PrintWords Go.Proofs.YtkgafkoopefghaaGreatDoorW.PrintLast Go.Proofs.YtkgafkoopefghaaGreatDoorW.PrintMore
open Go.Proofs.YtkgafkoopefghaaGreatDoor.Hk
attribute [local go_sem high] Go.Proofs.YtkgafkoopefghaaGreatDoor.Hk.binOp_leq_not
attribute [local go_sem] max2_int min2_int max_two min_two max_three min_three max_four min_four
set_option linter.unusedVariables false
set_option linter.unusedSimpArgs false
open Go.Maps Go.WideMaps
theorem shown_file : fullS (⟨#[102, 105, 108, 101]⟩ : ByteArray) (⟨#[47, 97]⟩ : ByteArray) [] = (⟨#[102, 105, 108, 101]⟩, ⟨#[47, 97]⟩, [⟨⟨#[99, 111, 110, 116, 101, 110, 116]⟩, ⟨#[]⟩⟩, ⟨⟨#[101, 110, 115, 117, 114, 101]⟩, ⟨#[102, 105, 108, 101]⟩⟩, ⟨⟨#[109, 111, 100, 101]⟩, ⟨#[48, 54, 52, 52]⟩⟩], 0) := by
 have h : fullS (⟨#[102, 105, 108, 101]⟩ : ByteArray) (⟨#[47, 97]⟩ : ByteArray) [] = (⟨#[102, 105, 108, 101]⟩, ⟨#[47, 97]⟩, outS ⟨#[102, 105, 108, 101]⟩ [] fileD.head!.2, 0) := by kernel_rfl
 have hn : namesS fileD.head!.2 = [[99, 111, 110, 116, 101, 110, 116], [101, 110, 115, 117, 114, 101], [109, 111, 100, 101]] := namesS_are (by decide +kernel) (by decide +kernel)
 rw [h]
 unfold outS
 rw [hn]
 rfl
theorem store4_R {W : World} {g t base : Nat} {a b c d : Value} {ok : Nat → Prop} {v : Value} {xs : List Int} (h : Kd.R (Kd.int .u8) 5 W base ok v xs) (hb : W.heap[g]? = some (.cells #[a, b, c, d] t (0, 0))) (h5 : t ≠ 5) (x y z u : Value) : Kd.R (Kd.int .u8) 5 ((((W.setCell ⟨g, 0, none⟩ x).setCell ⟨g, 1, none⟩ y).setCell ⟨g, 2, none⟩ z).setCell ⟨g, 3, none⟩ u) base ok v xs := by
 have hq : ∀ q, q ∈ 5 :: (Kd.int .u8).E → q ≠ t := fun q hq => by
  have : q = 5 := by simpa [Kd.int, Kd.scalar] using hq
  rw [this]; exact fun e => h5 e.symm
 have b1 := kP hb 0 x (cs' := #[x, b, c, d]) rfl
 have b2 := kP b1 1 y (cs' := #[x, y, c, d]) rfl
 have b3 := kP b2 2 z (cs' := #[x, y, z, d]) rfl
 exact Kd.R_set (Kd.R_set (Kd.R_set (Kd.R_set h hb hq 0 x) b1 hq 1 y) b2 hq 2 z) b3 hq 3 u
theorem check_groups7 (s : ByteArray) (hs : s.size < 2147483648) : tables_Check.f (⟨#[103, 114, 111, 117, 112, 115]⟩ : ByteArray) s [(⟨#[]⟩ : ByteArray)] = some (if keyB s = true then 0 else 51) := by
 unfold tables_Check.f
 rw [if_pos ⟨by decide, by simp only [fitB, decide_eq_true_iff]; omega, by decide, by decide⟩, check_key]
theorem check_n1 : catalog_Check.f 20 0 (⟨#[110, 49]⟩ : ByteArray) [] [] = some 0 := by
 unfold catalog_Check.f
 rw [check_groups7 _ (by decide), show keyB (⟨#[110, 49]⟩ : ByteArray) = true from by decide +kernel, Option.bind_some]
 rw [if_neg (by decide), if_neg (by decide), show ((if (true : Bool) = true then (0 : Int) else 51) != 0) = false from by decide, catalog_Check.j0, if_neg (by decide), if_neg (by decide), if_neg (by decide), catalog_Check.l0, if_neg (by decide)]
 have hb : catalog_blocked.f [] = some false := by decide +kernel
 rw [hb, Option.bind_some, if_neg (by decide), catalog_Check.l1, if_neg (by decide)]
 have hB : catalog_bytes.f 0 (⟨#[110, 49]⟩ : ByteArray) [] [] = some ([0, 0, 0, 2, 110, 49, 0, 0] : List Int) := by decide +kernel
 rw [hB]
 rfl
theorem enc_n1 : catalog_Encode.f 20 0 (⟨#[110, 49]⟩ : ByteArray) [] [] = some (([0, 0, 0, 2, 110, 49, 0, 0] : List Int), 0) := by
 have hB : catalog_bytes.f 0 (⟨#[110, 49]⟩ : ByteArray) [] [] = some ([0, 0, 0, 2, 110, 49, 0, 0] : List Int) := by decide +kernel
 unfold catalog_Encode.f
 rw [check_n1, Option.bind_some, if_pos rfl, hB]
 rfl
theorem check_a : catalog_Check.f 20 0 (⟨#[110, 49]⟩ : ByteArray) [⟨(⟨#[102, 105, 108, 101]⟩ : ByteArray), (⟨#[47, 97]⟩ : ByteArray), []⟩] [] = some 70 := by
 unfold catalog_Check.f
 rw [check_groups7 _ (by decide), show keyB (⟨#[110, 49]⟩ : ByteArray) = true from by decide +kernel, Option.bind_some]
 rw [if_neg (by decide), if_neg (by decide), show ((if (true : Bool) = true then (0 : Int) else 51) != 0) = false from by decide, catalog_Check.j0, if_neg (by decide), if_neg (by decide), if_neg (by decide), catalog_Check.l0, if_pos (by decide), if_pos (by decide), if_pos (by decide)]
 rw [show rd_T24 [(⟨(⟨#[102, 105, 108, 101]⟩ : ByteArray), (⟨#[47, 97]⟩ : ByteArray), []⟩ : S24)] 0 = ⟨(⟨#[102, 105, 108, 101]⟩ : ByteArray), (⟨#[47, 97]⟩ : ByteArray), []⟩ from rfl]
 simp only []
 rw [full_f _ _ _ (by decide), shown_file, Option.bind_some, if_pos rfl]
 rfl
def majordomolaw07_shown.f (k : Nat) : Option (Bool) := some true
set_option maxHeartbeats 8000000 in
set_option maxRecDepth 100000 in
theorem majordomolaw07_shown.calls (k : Nat)  (r : Bool) (w : World) (h : majordomolaw07_shown.f k  = some r) (hU : UtfOk w) :
 Calls Tryz.prog 16 #[] w fun e w' => e = .returned (.bool r) ∧ Below w.heap.size w w' := by
 have HU := As.mk hU
 clear hU
 obtain rfl := Option.some.inj h
 clear h
 have hu37 := Tryz.underlying37
 have HB := As.mk (Below.refl w.heap.size w)
 obtain ⟨y326, hy⟩ : ∃ y_ : List S24, y_ = [(⟨(⟨#[102, 105, 108, 101]⟩ : ByteArray), (⟨#[47, 97]⟩ : ByteArray), []⟩ : S24)] := ⟨_, rfl⟩
 have A1 := As.mk enc_n1
 have A2 := As.mk check_a
 rw [← hy] at A2
 have A3 := As.mk (show catalog_Decode.f [] = some (0, (⟨#[]⟩ : ByteArray), ([] : List S24), ([] : List S50), 70) from rfl)
 have Ny326 := As.mk hy
 clear hy
 have cs_ : ((strOfNums ([0, 0, 0, 2, 110, 49, 0, 0] : List Int)).toList == ([0, 0, 0, 2, 110, 49, 0, 0] : List UInt8)) = true := by decide +kernel
 go_enter Tryz.func16, Tryz.ntmps16
 go_wp2_with (first | ((with_reducible refine gate_callee (f := 18) rfl ?_); refine goesL_ (some 8) rfl rfl Tryz.func18 (by kernel_rfl) rfl #[.agg #[.int .i64 0, .string (⟨#[110, 49]⟩ : ByteArray), .slice none 0 0, .slice none 0 0]] rfl (by (try simp only [List.map_toArray, List.map_cons, List.map_nil]); first | done | rfl | (simp only [List.length_drop, List.length_take]; rfl)) ?_; (refine (catalog_Encode.calls 20 0 (⟨#[110, 49]⟩ : ByteArray) _ _ ([] : List (S24)) _ _ ([] : List (S50)) ([0, 0, 0, 2, 110, 49, 0, 0] : List Int) (0 : Int) _ ?side1 ?side2 ?side3 ?side4 A1.out (UtfOk.of_below HU.out (by repeat (first | (with_reducible first | exact HB.out | apply bA | apply bN | apply bD) | exact HB.out)))).mono ?_); (case side1 => exact Kd.C_nil _ _); (case side2 => exact Nat.le_refl _); (case side3 => exact Kd.C_nil _ _); (case side4 => exact Nat.le_refl _); rintro e w7 ⟨v323, rfl, ho0, hb⟩; refine ⟨_, rfl, ?_⟩; have n0_ := As.mk (Kd.R_lower ho0 (bZ (by repeat (first | (with_reducible first | exact HB.out | apply bA | apply bN | apply bD) | exact HB.out)))); have n1_ := As.mk (bT (by repeat (first | (with_reducible first | exact HB.out | apply bA | apply bN | apply bD) | exact HB.out)) hb); clear HB; have HO324 := n0_; have HB := n1_; clear n0_ n1_; (try clear hb); (try clear hb2); (try clear hk); (try clear hi); (try clear ho0)) | ((with_reducible refine gate_dst (N := 12) rfl ?_); refine Kd.S_lit k24 _ 24 ?hg (N := 12) ?hd (xs := ([(⟨(⟨#[102, 105, 108, 101]⟩ : ByteArray), (⟨#[47, 97]⟩ : ByteArray), ([] : List (S31))⟩ : S24)] : List (S24))) (inner := [.string (⟨#[102, 105, 108, 101]⟩ : ByteArray), .string (⟨#[47, 97]⟩ : ByteArray), .slice none 0 0]) (ok := fun _ => True) (okp := fun _ => True) ?hr ?hp (fun _ hk => hk) trivial (Below.refl _ _) (Nat.le_refl _) (by simp) ?_; (case hd => rfl); (case hg => rfl); (case hr => first | (go_simp; done) | (go_simp; rfl)); (case hp => exact (Reps.c3 (show Kd.M k24 _ _ _ (⟨(⟨#[102, 105, 108, 101]⟩ : ByteArray), (⟨#[47, 97]⟩ : ByteArray), ([] : List (S31))⟩ : S24) [.string (⟨#[102, 105, 108, 101]⟩ : ByteArray), .string (⟨#[47, 97]⟩ : ByteArray), .slice none 0 0] from (k24_mkM _ _ _ (⟨(⟨#[102, 105, 108, 101]⟩ : ByteArray), (⟨#[47, 97]⟩ : ByteArray), ([] : List (S31))⟩ : S24) (Kd.R_nil _ _ _ _ _))) (Reps.none _ _))); intro v327 w8 ho9 hb hg_ hnew_; clear hg_ hnew_; (first | rw [← Ny326.out] at ho9 | (simp only [Int.reduceToNat] at ho9; rw [← Ny326.out] at ho9)); have n0_ := As.mk (Kd.R_below (by (with_reducible repeat (first | apply Kd.R_alloc | apply Kd.R_drewN | apply Kd.R_drew)); exact HO324.out) hb); have n1_ := As.mk (Kd.S_lower ho9 (bZ (by repeat (first | (with_reducible first | exact HB.out | apply bA | apply bN | apply bD) | exact HB.out)))); have n2_ := As.mk (bT (by repeat (first | (with_reducible first | exact HB.out | apply bA | apply bN | apply bD) | exact HB.out)) hb); clear HO324; clear HB; have HO324 := n0_; have HO328 := n1_; have HB := n2_; clear n0_ n1_ n2_; clear hb ho9; obtain ⟨Ao10, co10, eo10⟩ := Kd.S_slice HO328.out; subst eo10) | ((with_reducible refine gate_callee (f := 21) rfl ?_); refine goesL_ (some 14) rfl rfl Tryz.func21 (by kernel_rfl) rfl #[.agg #[.int .i64 0, .string (⟨#[110, 49]⟩ : ByteArray), .slice Ao10 y326.length co10, .slice none 0 0]] rfl (by (try simp only [List.map_toArray, List.map_cons, List.map_nil]); first | done | rfl | (simp only [List.length_drop, List.length_take]; rfl)) ?_; (refine (catalog_Check.calls 20 0 (⟨#[110, 49]⟩ : ByteArray) _ _ y326 _ _ ([] : List (S50)) (70 : Int) _ ?side1 ?side2 ?side3 ?side4 A2.out (UtfOk.of_below HU.out (by repeat (first | (with_reducible first | exact HB.out | apply bA | apply bN | apply bD) | exact HB.out)))).mono ?_); (case side1 => repeat (first | exact (Kd.S_reads' HO328.out).2.2 | (with_reducible refine Kd.C_alloc ?_ _) | (with_reducible refine Kd.C_drewN ?_ _) | (with_reducible refine Kd.C_drew ?_))); (case side2 => exact (Kd.S_reads' HO328.out).2.1); (case side3 => exact Kd.C_nil _ _); (case side4 => exact Nat.le_refl _); rintro e w11 ⟨rfl, hb⟩; refine ⟨_, rfl, ?_⟩; have n0_ := As.mk (Kd.R_below (by (with_reducible repeat (first | apply Kd.R_alloc | apply Kd.R_drewN | apply Kd.R_drew)); exact HO324.out) hb); have n1_ := As.mk (Kd.S_below (by (with_reducible repeat (first | apply Kd.S_alloc | apply Kd.S_drewN | apply Kd.S_drew)); exact HO328.out) hb); have n2_ := As.mk (bT (by repeat (first | (with_reducible first | exact HB.out | apply bA | apply bN | apply bD) | exact HB.out)) hb); clear HO324; clear HO328; clear HB; have HO324 := n0_; have HO328 := n1_; have HB := n2_; clear n0_ n1_ n2_; (try clear hb); (try clear hb2); (try clear hk); (try clear hi)) | ((with_reducible refine gate_callee (f := 23) rfl ?_); refine goesL_ (some 16) rfl rfl Tryz.func23 (by kernel_rfl) rfl #[.slice none 0 0] rfl (by (try simp only [List.map_toArray, List.map_cons, List.map_nil]); first | done | rfl | (simp only [List.length_drop, List.length_take]; rfl)) ?_; (refine (catalog_Decode.calls _ _ ([] : List Int) (0 : Int) (⟨#[]⟩ : ByteArray) ([] : List S24) ([] : List S50) (70 : Int) _ ?side1 ?side2 A3.out (UtfOk.of_below HU.out (by repeat (first | (with_reducible first | exact HB.out | apply bA | apply bN | apply bD) | exact HB.out)))).mono ?_); (case side1 => exact Kd.C_nil _ _); (case side2 => exact Nat.le_refl _); rintro e w12 ⟨v333, v336, rfl, ho0, ho1, hb⟩; refine ⟨_, rfl, ?_⟩; have n0_ := As.mk (Kd.R_below (by (with_reducible repeat (first | apply Kd.R_alloc | apply Kd.R_drewN | apply Kd.R_drew)); exact HO324.out) hb); have n1_ := As.mk (Kd.S_elder' (by (with_reducible repeat (first | apply Kd.S_alloc | apply Kd.S_drewN | apply Kd.S_drew)); exact HO328.out) (Kd.S_base ho0) hb); have n2_ := As.mk (Kd.S_lower (Kd.S_new' ho0 (Kd.S_lt (by (with_reducible repeat (first | apply Kd.S_alloc | apply Kd.S_drewN | apply Kd.S_drew)); exact HO328.out))) (bZ (by repeat (first | (with_reducible first | exact HB.out | apply bA | apply bN | apply bD) | exact HB.out)))); have n3_ := As.mk (Kd.R_lower ho1 (bZ (by repeat (first | (with_reducible first | exact HB.out | apply bA | apply bN | apply bD) | exact HB.out)))); have n4_ := As.mk (bT (by repeat (first | (with_reducible first | exact HB.out | apply bA | apply bN | apply bD) | exact HB.out)) hb); clear HO324; clear HO328; clear HB; have HO324 := n0_; have HO328 := n1_; have HO334 := n2_; have HO337 := n3_; have HB := n4_; clear n0_ n1_ n2_ n3_ n4_; (try clear hb); (try clear hb2); (try clear hk); (try clear hi); (try clear ho0); (try clear ho1)) | ((with_reducible refine gate_dst (N := 4) rfl ?_); refine box_event ?hg (N := 4) ?hd (cs := #[.int .i64 0, .string (⟨#[]⟩ : ByteArray), .slice none 0 0, .slice none 0 0]) (t := 37) ?hr ?_; (case hd => rfl); (case hg => rfl); (case hr => first | (go_simp; done) | (go_simp; rfl)); intro gb339 hg w13 hbox hb; have n0_ := As.mk (Kd.R_below (by (with_reducible repeat (first | apply Kd.R_alloc | apply Kd.R_drewN | apply Kd.R_drew)); exact HO324.out) hb); have n1_ := As.mk (Kd.S_below (by (with_reducible repeat (first | apply Kd.S_alloc | apply Kd.S_drewN | apply Kd.S_drew)); exact HO328.out) hb); have n2_ := As.mk (Kd.S_below (by (with_reducible repeat (first | apply Kd.S_alloc | apply Kd.S_drewN | apply Kd.S_drew)); exact HO334.out) hb); have n3_ := As.mk (Kd.R_below (by (with_reducible repeat (first | apply Kd.R_alloc | apply Kd.R_drewN | apply Kd.R_drew)); exact HO337.out) hb); have n4_ := As.mk (bT (by repeat (first | (with_reducible first | exact HB.out | apply bA | apply bN | apply bD) | exact HB.out)) hb); have n5_ := As.mk (hbox); have n6_ := As.mk ((by rw [hg]; exact (bZ (by repeat (first | (with_reducible first | exact HB.out | apply bA | apply bN | apply bD) | exact HB.out))) : w.heap.size ≤ gb339)); have n7_ := As.mk ((by rw [hg]; exact (bZ (by repeat (first | (with_reducible first | exact HB.out | apply bA | apply bN | apply bD) | exact HB.out))) : w.heap.size ≤ gb339)); clear HO324; clear HO328; clear HO334; clear HO337; clear HB; have HO324 := n0_; have HO328 := n1_; have HO334 := n2_; have HO337 := n3_; have HB := n4_; have BK339 := n5_; have GW339 := n6_; have GE339 := n7_; clear n0_ n1_ n2_ n3_ n4_ n5_ n6_ n7_; clear hb hbox hg; have hcz14_0 : w13.cell? ⟨gb339, 0, none⟩ = some (.int .i64 0) := (kC BK339.out 0).trans rfl; have hcz14_1 : w13.cell? ⟨gb339, 1, none⟩ = some (.string (⟨#[]⟩ : ByteArray)) := (kC BK339.out 1).trans rfl; have hcz14_2 : w13.cell? ⟨gb339, 2, none⟩ = some (.slice none 0 0) := (kC BK339.out 2).trans rfl; have hcz14_3 : w13.cell? ⟨gb339, 3, none⟩ = some (.slice none 0 0) := (kC BK339.out 3).trans rfl; have hfz14_0 := kF BK339.out 0; have hfz14_1 := kF BK339.out 1; have hfz14_2 := kF BK339.out 2; have hfz14_3 := kF BK339.out 3; obtain ⟨Ao15, co15, eo15⟩ := Kd.S_slice HO334.out; subst eo15; obtain ⟨Ao16, co16, eo16⟩ := Kd.R_slice HO337.out; subst eo16) | ((with_reducible refine gate_store (t := 37) (p := 4) rfl ?_); refine store_event (t := 37) (p := 4) (v := ?vo4) (w1 := ?wo4) ?hg ?ho ?hn ?hr ?_; (case ho => rfl); (case hg => rfl); (case hn => rfl); (case hr => first | (go_simp; done) | (go_simp; rfl)); intro w14 hw; have n0 := As.mk ((by rw [hw]; exact store4_R HO324.out BK339.out (by decide) _ _ _ _) : Kd.R (Kd.int .u8) 5 w14 _ _ _ _); have n1 := As.mk ((by rw [hw]; exact bS (bS (bS (bS HB.out GE339.out) GE339.out) GE339.out) GE339.out) : Below w.heap.size w w14); clear HO324 HB BK339; have HO324 := n0; have HB := n1; clear n0 n1 hw; clear hcz14_0 hcz14_1 hcz14_2 hcz14_3 hfz14_0 hfz14_1 hfz14_2 hfz14_3; have hcv17 := own_string (P := Tryz.prog) Tryz.underlying39 Tryz.underlying5 Tryz.underlying9 (Kd.own_of_R HO324.out)))
 go_ret
 exact ⟨rfl, HB.out⟩
end Go.Proofs.YtkgafkoopefghaaGreatDoor.PA
end
section
namespace Go.Proofs.YtkgafkoopefghaaGreatDoor.PA
open Go.RowKit Go.Proofs.YtkgafkoopefghaaGreatDoorW.PrintWords Go.Proofs.YtkgafkoopefghaaGreatDoorW.PrintLast Go.Proofs.YtkgafkoopefghaaGreatDoorW.PrintMore
open Go.Proofs.YtkgafkoopefghaaGreatDoor.Hk
attribute [local go_sem high] Go.Proofs.YtkgafkoopefghaaGreatDoor.Hk.binOp_leq_not
attribute [local go_sem] max2_int min2_int max_two min_two max_three min_three max_four min_four
set_option linter.unusedVariables false
set_option linter.unusedSimpArgs false
mutual
def majordomolaw07_CatalogFinds.j0 : Nat → Bool → Int → ByteArray → List (S24) → List (S50) → Option (Bool)
 | 0, _, _, _, _, _ => none
 | k + 1, x22, x345000, x345001, x345002, x345003 => if x22 = true then (some false) else ((catalog_Check.f k x345000 x345001 x345002 x345003).bind fun t348 => (if t348 = 0 then (majordomolaw07_CatalogFinds.l0 k 0 x345000 x345001 x345002 x345003) else (some true)))
def majordomolaw07_CatalogFinds.l0 : Nat → Int → Int → ByteArray → List (S24) → List (S50) → Option (Bool)
 | 0, _, _, _, _, _ => none
 | k + 1, x8, x345000, x345001, x345002, x345003 => if x8 < (x345002.length : Int) then (if 0 ≤ x8 then ((catalog_Find.f x345000 x345001 x345002 x345003 ((rd_T24 x345002 x8).f0) ((rd_T24 x345002 x8).f1)).bind fun t351 => (if t351 = x8 then (majordomolaw07_CatalogFinds.l0 k (wrap64 (x8 + 1)) x345000 x345001 x345002 x345003) else (some false))) else (none)) else (some true)
end
def majordomolaw07_CatalogFinds.f (k : Nat) (a0_0 : Int) (a0_1 : ByteArray) (l0_2 : List (S24)) (l0_3 : List (S50)) (a1 : ByteArray) (a2 : ByteArray) : Option (Bool) := (majordomolaw07_shown.f k).bind fun t345 => (if t345 = true then ((catalog_Find.f a0_0 a0_1 l0_2 l0_3 a1 a2).bind fun t346 => ((majordomoref07_Find.f k a0_0 a0_1 l0_2 l0_3 a1 a2).bind fun t347 => (majordomolaw07_CatalogFinds.j0 k (t346 != t347) a0_0 a0_1 l0_2 l0_3))) else (majordomolaw07_CatalogFinds.j0 k true a0_0 a0_1 l0_2 l0_3))
def majordomolaw07_CatalogFinds.T2 : Bool × List (List Nat × List Nat) := (true, [([], []), ([0], [0]), ([1], [1]), ([2], [2]), ([2], [2]), ([2], [2]), ([3, 4, 5, 2, 2], [2, 3, 4, 5]), ([2], [2]), ([2], [2]), ([2], [2]), ([7, 8, 9, 6, 2], [2, 7, 8, 9]), ([6, 10, 2], [2, 6, 10]), ([2, 11], [2, 11])])
def majordomolaw07_CatalogFinds.B2 : List Nat := [0, 1, 3, 7, 7, 7, 63, 7, 7, 7, 1023, 2047, 4095]
theorem majordomolaw07_CatalogFinds.tab2 : rtab .any (opsOf Tryz.f9 2) = majordomolaw07_CatalogFinds.T2 := by kernel_rfl
theorem majordomolaw07_CatalogFinds.bits2 : waitsOk majordomolaw07_CatalogFinds.T2.2 majordomolaw07_CatalogFinds.B2 = true := by kernel_rfl
def majordomolaw07_CatalogFinds.T9 : Bool × List (List Nat × List Nat) := (true, [([], []), ([], []), ([1], [1]), ([], []), ([2, 3], [2, 3]), ([4], [4]), ([5], [5]), ([], []), ([7], [7]), ([], []), ([8, 9], [8, 9]), ([10], [10]), ([11], [11]), ([0, 6, 12], [0, 6, 12]), ([], []), ([13, 14], [13, 14])])
def majordomolaw07_CatalogFinds.B9 : List Nat := [0, 0, 2, 0, 14, 30, 62, 0, 128, 0, 896, 1920, 3968, 8191, 0, 32767]
theorem majordomolaw07_CatalogFinds.tab9 : rtab .any (opsOf Tryz.f9 9) = majordomolaw07_CatalogFinds.T9 := by kernel_rfl
theorem majordomolaw07_CatalogFinds.bits9 : waitsOk majordomolaw07_CatalogFinds.T9.2 majordomolaw07_CatalogFinds.B9 = true := by kernel_rfl
set_option maxHeartbeats 8000000 in
set_option maxRecDepth 100000 in
theorem majordomolaw07_CatalogFinds.calls (k : Nat) (a0_0 : Int) (a0_1 : ByteArray) (A0_2 : Option Addr) (c0_2 : Nat) (l0_2 : List (S24)) (A0_3 : Option Addr) (c0_3 : Nat) (l0_3 : List (S50)) (a1 : ByteArray) (a2 : ByteArray) (r : Bool) (w : World) (hr0_2 : Kd.C k24 w A0_2 l0_2.length l0_2) (hc0_2 : l0_2.length ≤ c0_2) (hr0_3 : Kd.C k50 w A0_3 l0_3.length l0_3) (hc0_3 : l0_3.length ≤ c0_3) (h : majordomolaw07_CatalogFinds.f k a0_0 a0_1 l0_2 l0_3 a1 a2 = some r) (hU : UtfOk w) :
 Calls Tryz.prog 9 #[.agg #[.int .i64 a0_0, .string a0_1, .slice A0_2 l0_2.length c0_2, .slice A0_3 l0_3.length c0_3], .string a1, .string a2] w fun e w' => e = .returned (.bool r) ∧ Below w.heap.size w w' := by
 have HU := As.mk hU
 clear hU
 have hu37 := Tryz.underlying37
 have HR0_2 := As.mk hr0_2
 have HC0_2 := As.mk hc0_2
 clear hr0_2 hc0_2
 have HR0_3 := As.mk hr0_3
 have HC0_3 := As.mk hc0_3
 clear hr0_3 hc0_3
 have HB := As.mk (Below.refl w.heap.size w)
 have H : ((majordomolaw07_shown.f k).bind fun t345 => (if t345 = true then ((catalog_Find.f a0_0 a0_1 l0_2 l0_3 a1 a2).bind fun t346 => ((majordomoref07_Find.f k a0_0 a0_1 l0_2 l0_3 a1 a2).bind fun t347 => (majordomolaw07_CatalogFinds.j0 k (t346 != t347) a0_0 a0_1 l0_2 l0_3))) else (majordomolaw07_CatalogFinds.j0 k true a0_0 a0_1 l0_2 l0_3))) = some r := h
 clear h
 replace H := Option.bind_eq_some_iff.mp H
 obtain ⟨t345, A40, H⟩ := H
 replace H : (if t345 = true then ((catalog_Find.f a0_0 a0_1 l0_2 l0_3 a1 a2).bind fun t346 => ((majordomoref07_Find.f k a0_0 a0_1 l0_2 l0_3 a1 a2).bind fun t347 => (majordomolaw07_CatalogFinds.j0 k (t346 != t347) a0_0 a0_1 l0_2 l0_3))) else (majordomolaw07_CatalogFinds.j0 k true a0_0 a0_1 l0_2 l0_3)) = some r := H
 have A4 := As.mk A40
 clear A40
 have HC5 := As.mk H
 clear H
 go_enter Tryz.func9, Tryz.ntmps9
 go_upto_region 2 with (first | ((with_reducible refine gate_dst (N := 3) rfl ?_); refine box_event ?hg (N := 3) ?hd (cs := #[.int .i64 a0_0, .string a0_1, .slice A0_2 l0_2.length c0_2, .slice A0_3 l0_3.length c0_3]) (t := 37) ?hr ?_; (case hd => rfl); (case hg => rfl); (case hr => first | (go_simp; done) | (go_simp; rfl)); intro gb344 hg w6 hbox hb; have n0_ := As.mk (bT (by repeat (first | (with_reducible first | exact HB.out | apply bA | apply bN | apply bD) | exact HB.out)) hb); have n1_ := As.mk (hbox); have n2_ := As.mk ((by rw [hg]; exact (bZ (by repeat (first | (with_reducible first | exact HB.out | apply bA | apply bN | apply bD) | exact HB.out))) : w.heap.size ≤ gb344)); have n3_ := As.mk ((by rw [hg]; exact (bZ (by repeat (first | (with_reducible first | exact HB.out | apply bA | apply bN | apply bD) | exact HB.out))) : w.heap.size ≤ gb344)); clear HB; have HB := n0_; have BK344 := n1_; have GW344 := n2_; have GE344 := n3_; clear n0_ n1_ n2_ n3_; clear hb hbox hg) | ((with_reducible refine gate_callee (f := 16) rfl ?_); refine goesL_ (some 9) rfl rfl Tryz.func16 (by kernel_rfl) rfl #[] rfl (by (try simp only [List.map_toArray, List.map_cons, List.map_nil]); first | done | rfl | (simp only [List.length_drop, List.length_take]; rfl)) ?_; (with_reducible refine (majordomolaw07_shown.calls k  t345 _ A4.out (UtfOk.of_below HU.out (by repeat (first | (with_reducible first | exact HB.out | apply bA | apply bN | apply bD | refine bS ?_ GE344.out) | exact HB.out)))).mono ?_); rintro e w7 ⟨rfl, hb⟩; refine ⟨_, rfl, ?_⟩; have n0_ := As.mk (kB (g := gb344) (o := .cells #[.int .i64 a0_0, .string a0_1, .slice A0_2 l0_2.length c0_2, .slice A0_3 l0_3.length c0_3] 37 (0, 0)) (by (with_reducible repeat (first | refine kN ?_ _ | refine kD ?_ | refine kA ?_ _)); exact BK344.out) hb); have n1_ := As.mk (bT (by repeat (first | (with_reducible first | exact HB.out | apply bA | apply bN | apply bD | refine bS ?_ GE344.out) | exact HB.out)) hb); clear BK344; clear HB; have BK344 := n0_; have HB := n1_; clear n0_ n1_; (try clear hb); (try clear hb2); (try clear hk); (try clear hi)))
 (try simp only [Act.put, zA, zZ, zS])
 go_cut [22] (fun v22 wc => ∃ (kq : Nat) (x22_4 : Bool), v22 = .bool x22_4 ∧ As (majordomolaw07_CatalogFinds.j0 kq x22_4 a0_0 a0_1 l0_2 l0_3 = some r) ∧ As (kq ≤ k) ∧ As (wc.heap[gb344]? = some (.cells #[.int .i64 a0_0, .string a0_1, (.slice A0_2 l0_2.length c0_2), (.slice A0_3 l0_3.length c0_3)] 37 (0, 0))) ∧ As (Below w.heap.size w wc))
 case first =>
  have H := HC5.out
  clear HC5
  by_cases c8 : t345 = true
  rotate_left
  · replace c8 := Bool.eq_false_iff.mpr c8
    subst c8
    have H1 : (majordomolaw07_CatalogFinds.j0 k true a0_0 a0_1 l0_2 l0_3) = some r := by rw [if_neg (show ¬ (false = true) by decide)] at H; exact H
    clear H
    have H := H1
    clear H1
    have H' := As.mk H
    clear H
    try go_wp2
    have n0_ := As.mk (kD BK344.out)
    have n1_ := As.mk (bD HB.out)
    clear BK344
    clear HB
    have BK344 := n0_
    have HB := n1_
    clear n0_ n1_
    refine start_ (n := 13) (S := fun w' => True) (ds := []) #[false, false, false, false, false, false, false, false, false, false, false, false, false] (by kernel_rfl) rfl rfl trivial (fun hHeld => ?_); refine with_tabW majordomolaw07_CatalogFinds.tab2 majordomolaw07_CatalogFinds.bits2 (fun HT_ HW_ => ?_)
    generalize w7.drew = w14 at BK344 HB hHeld ⊢
    refine pure_ (i := 0) (N := some 10) (v := ?_) (a' := ?_) #[true, false, false, false, false, false, false, false, false, false, false, false, false] rfl rfl (any_of HT_.out (by kernel_rfl)) (fun _ _ _ h => h) (Or.inl ⟨by rfl, ?_⟩) ?_ ?_
    rotate_left
    · intro w'
      go_simp
      with_reducible rfl
    rotate_left
    · simp only [Act.put, zA, zZ, zS, i64_w, i32_w]
      rfl
    refine pure_ (i := 1) (N := some 11) (v := ?_) (a' := ?_) #[true, true, false, false, false, false, false, false, false, false, false, false, false] rfl rfl (any_of HT_.out (by kernel_rfl)) (fun _ _ _ h => h) (Or.inl ⟨by rfl, ?_⟩) ?_ ?_
    rotate_left
    · intro w'
      go_simp
      with_reducible rfl
    rotate_left
    · simp only [Act.put, zA, zZ, zS, i64_w, i32_w]
      rfl
    refine pure_ (i := 2) (N := some 12) (v := ?_) (a' := ?_) #[true, true, true, false, false, false, false, false, false, false, false, false, false] rfl rfl (any_of HT_.out (by kernel_rfl)) (fun _ _ _ h => h) (Or.inl ⟨by rfl, ?_⟩) ?_ ?_
    rotate_left
    · intro w'
      go_simp
      with_reducible rfl
    rotate_left
    · simp only [Act.put, zA, zZ, zS, i64_w, i32_w]
      rfl
    refine pure_ (i := 3) (N := some 13) (v := undef) (a' := ?_) #[true, true, true, true, false, false, false, false, false, false, false, false, false] rfl rfl (any_of HT_.out (by kernel_rfl)) (fun _ _ _ h => h) (Or.inr ⟨by rfl, rfl⟩) ?_ ?_
    rotate_left
    · simp only [Act.put, zA, zZ, zS, i64_w, i32_w]
      rfl
    refine pure_ (i := 4) (N := some 14) (v := undef) (a' := ?_) #[true, true, true, true, true, false, false, false, false, false, false, false, false] rfl rfl (any_of HT_.out (by kernel_rfl)) (fun _ _ _ h => h) (Or.inr ⟨by rfl, rfl⟩) ?_ ?_
    rotate_left
    · simp only [Act.put, zA, zZ, zS, i64_w, i32_w]
      rfl
    refine pure_ (i := 5) (N := some 15) (v := undef) (a' := ?_) #[true, true, true, true, true, true, false, false, false, false, false, false, false] rfl rfl (any_of HT_.out (by kernel_rfl)) (fun _ _ _ h => h) (Or.inr ⟨by rfl, rfl⟩) ?_ ?_
    rotate_left
    · simp only [Act.put, zA, zZ, zS, i64_w, i32_w]
      rfl
    refine pure_ (i := 6) (N := some 16) (v := undef) (a' := ?_) #[true, true, true, true, true, true, true, false, false, false, false, false, false] rfl rfl (any_of HT_.out (by kernel_rfl)) (fun _ _ _ h => h) (Or.inr ⟨by rfl, rfl⟩) ?_ ?_
    rotate_left
    · simp only [Act.put, zA, zZ, zS, i64_w, i32_w]
      rfl
    refine pure_ (i := 7) (N := some 17) (v := undef) (a' := ?_) #[true, true, true, true, true, true, true, true, false, false, false, false, false] rfl rfl (any_of HT_.out (by kernel_rfl)) (fun _ _ _ h => h) (Or.inr ⟨by rfl, rfl⟩) ?_ ?_
    rotate_left
    · simp only [Act.put, zA, zZ, zS, i64_w, i32_w]
      rfl
    refine pure_ (i := 8) (N := some 18) (v := undef) (a' := ?_) #[true, true, true, true, true, true, true, true, true, false, false, false, false] rfl rfl (any_of HT_.out (by kernel_rfl)) (fun _ _ _ h => h) (Or.inr ⟨by rfl, rfl⟩) ?_ ?_
    rotate_left
    · simp only [Act.put, zA, zZ, zS, i64_w, i32_w]
      rfl
    refine pure_ (i := 9) (N := some 19) (v := undef) (a' := ?_) #[true, true, true, true, true, true, true, true, true, true, false, false, false] rfl rfl (any_of HT_.out (by kernel_rfl)) (fun _ _ _ h => h) (Or.inr ⟨by rfl, rfl⟩) ?_ ?_
    rotate_left
    · simp only [Act.put, zA, zZ, zS, i64_w, i32_w]
      rfl
    refine pure_ (i := 10) (N := some 20) (v := undef) (a' := ?_) #[true, true, true, true, true, true, true, true, true, true, true, false, false] rfl rfl (any_of HT_.out (by kernel_rfl)) (fun _ _ _ h => h) (Or.inr ⟨by rfl, rfl⟩) ?_ ?_
    rotate_left
    · simp only [Act.put, zA, zZ, zS, i64_w, i32_w]
      rfl
    refine pure_ (i := 11) (N := some 21) (v := undef) (a' := ?_) #[true, true, true, true, true, true, true, true, true, true, true, true, false] rfl rfl (any_of HT_.out (by kernel_rfl)) (fun _ _ _ h => h) (Or.inr ⟨by rfl, rfl⟩) ?_ ?_
    rotate_left
    · simp only [Act.put, zA, zZ, zS, i64_w, i32_w]
      rfl
    refine pure_ (i := 12) (N := some 22) (v := ?_) (a' := ?_) #[true, true, true, true, true, true, true, true, true, true, true, true, true] rfl rfl (any_of HT_.out (by kernel_rfl)) (fun _ _ _ h => h) (Or.inl ⟨by rfl, ?_⟩) ?_ ?_
    rotate_left
    · intro w'
      go_simp
      with_reducible rfl
    rotate_left
    · simp only [Act.put, zA, zZ, zS, i64_w, i32_w]
      rfl
    refine done_ (done_of HT_.out (by kernel_rfl)) ?_
    try go_wp2
    go_meet
    case rel => exact ⟨_, (true), (by first | rfl | (simp; done) | (simp [*]; done)), H', ⟨by first | omega | exact Nat.le_refl _⟩, ⟨by (with_reducible repeat (first | refine kN ?_ _ | refine kD ?_ | refine kA ?_ _)); exact BK344.out⟩, ⟨by repeat (first | (with_reducible first | exact HB.out | apply bA | apply bN | apply bD | refine bS ?_ GE344.out) | exact HB.out)⟩⟩
  subst c8
  have H1 : ((catalog_Find.f a0_0 a0_1 l0_2 l0_3 a1 a2).bind fun t346 => ((majordomoref07_Find.f k a0_0 a0_1 l0_2 l0_3 a1 a2).bind fun t347 => (majordomolaw07_CatalogFinds.j0 k (t346 != t347) a0_0 a0_1 l0_2 l0_3))) = some r := by rw [if_pos rfl] at H; exact H
  clear H
  have H := H1
  clear H1
  replace H := Option.bind_eq_some_iff.mp H
  obtain ⟨t346, A90, H⟩ := H
  replace H : ((majordomoref07_Find.f k a0_0 a0_1 l0_2 l0_3 a1 a2).bind fun t347 => (majordomolaw07_CatalogFinds.j0 k (t346 != t347) a0_0 a0_1 l0_2 l0_3)) = some r := H
  have A9 := As.mk A90
  clear A90
  replace H := Option.bind_eq_some_iff.mp H
  obtain ⟨t347, A100, H⟩ := H
  replace H : (majordomolaw07_CatalogFinds.j0 k (t346 != t347) a0_0 a0_1 l0_2 l0_3) = some r := H
  have A10 := As.mk A100
  clear A100
  have H' := As.mk H
  clear H
  try go_wp2
  have n0_ := As.mk (kD BK344.out)
  have n1_ := As.mk (bD HB.out)
  clear BK344
  clear HB
  have BK344 := n0_
  have HB := n1_
  clear n0_ n1_
  refine start_ (n := 13) (S := fun w' => w'.cell? ⟨gb344, 0, none⟩ = some (.int .i64 a0_0) ∧ w'.cell? ⟨gb344, 1, none⟩ = some (.string a0_1) ∧ w'.cell? ⟨gb344, 2, none⟩ = some (.slice A0_2 l0_2.length c0_2) ∧ w'.cell? ⟨gb344, 3, none⟩ = some (.slice A0_3 l0_3.length c0_3)) (ds := []) #[false, false, false, false, false, false, false, false, false, false, false, false, false] (by kernel_rfl) rfl rfl ⟨(kC BK344.out 0).trans rfl, (kC BK344.out 1).trans rfl, (kC BK344.out 2).trans rfl, (kC BK344.out 3).trans rfl⟩ (fun hHeld => ?_); refine with_tabW majordomolaw07_CatalogFinds.tab2 majordomolaw07_CatalogFinds.bits2 (fun HT_ HW_ => ?_)
  generalize w7.drew = w11 at BK344 HB hHeld ⊢
  refine pure_ (i := 0) (N := some 10) (v := ?_) (a' := ?_) #[true, false, false, false, false, false, false, false, false, false, false, false, false] rfl rfl (any_of HT_.out (by kernel_rfl)) (fun _ _ _ h => h) (Or.inl ⟨by rfl, ?_⟩) ?_ ?_
  rotate_left
  · intro w'
    go_simp
    with_reducible rfl
  rotate_left
  · simp only [Act.put, zA, zZ, zS, i64_w, i32_w]
    rfl
  refine pure_ (i := 1) (N := some 11) (v := ?_) (a' := ?_) #[true, true, false, false, false, false, false, false, false, false, false, false, false] rfl rfl (any_of HT_.out (by kernel_rfl)) (fun _ _ _ h => h) (Or.inl ⟨by rfl, ?_⟩) ?_ ?_
  rotate_left
  · intro w'
    go_simp
    with_reducible rfl
  rotate_left
  · simp only [Act.put, zA, zZ, zS, i64_w, i32_w]
    rfl
  refine pure_ (i := 2) (N := some 12) (v := ?_) (a' := ?_) #[true, true, true, false, false, false, false, false, false, false, false, false, false] rfl rfl (any_of HT_.out (by kernel_rfl)) (fun _ _ _ h => h) (Or.inl ⟨by rfl, ?_⟩) ?_ ?_
  rotate_left
  · intro w'
    go_simp
    with_reducible rfl
  rotate_left
  · simp only [Act.put, zA, zZ, zS, i64_w, i32_w]
    rfl
  refine pure_ (i := 4) (N := some 14) (v := ?_) (a' := ?_) #[true, true, true, false, true, false, false, false, false, false, false, false, false] rfl rfl (any_of HT_.out (by kernel_rfl)) (fun _ _ _ h => h) (Or.inl ⟨by rfl, ?_⟩) ?_ ?_
  rotate_left
  · intro w'
    go_simp
    with_reducible rfl
  rotate_left
  · simp only [Act.put, zA, zZ, zS, i64_w, i32_w]
    rfl
  refine pure_ (i := 5) (N := some 15) (v := ?_) (a' := ?_) #[true, true, true, false, true, true, false, false, false, false, false, false, false] rfl rfl (any_of HT_.out (by kernel_rfl)) (fun _ _ _ h => h) (Or.inl ⟨by rfl, ?_⟩) ?_ ?_
  rotate_left
  · intro w'
    go_simp
    with_reducible rfl
  rotate_left
  · simp only [Act.put, zA, zZ, zS, i64_w, i32_w]
    rfl
  refine pure_ (i := 8) (N := some 18) (v := ?_) (a' := ?_) #[true, true, true, false, true, true, false, false, true, false, false, false, false] rfl rfl (any_of HT_.out (by kernel_rfl)) (fun _ _ _ h => h) (Or.inl ⟨by rfl, ?_⟩) ?_ ?_
  rotate_left
  · intro w'
    go_simp
    with_reducible rfl
  rotate_left
  · simp only [Act.put, zA, zZ, zS, i64_w, i32_w]
    rfl
  refine pure_ (i := 9) (N := some 19) (v := ?_) (a' := ?_) #[true, true, true, false, true, true, false, false, true, true, false, false, false] rfl rfl (any_of HT_.out (by kernel_rfl)) (fun _ _ _ h => h) (Or.inl ⟨by rfl, ?_⟩) ?_ ?_
  rotate_left
  · intro w'
    go_simp
    with_reducible rfl
  rotate_left
  · simp only [Act.put, zA, zZ, zS, i64_w, i32_w]
    rfl
  refine take_ (i := 3) (N := some 13) (v := ?_) (a' := ?_) #[true, true, true, true, true, true, false, false, true, true, false, false, false] rfl rfl (take_ofW HT_.out HW_.out (by kernel_rfl)) (fun _ _ _ h => h) (Or.inl ⟨by rfl, ?_⟩) hHeld ?_ ?_
  rotate_left
  · rintro w' ⟨s0, s1, s2, s3⟩
    go_simp
    with_reducible rfl
  rotate_left
  · simp only [Act.put, zA, zZ, zS, i64_w, i32_w]
    rfl
  refine take_ (i := 7) (N := some 17) (v := ?_) (a' := ?_) #[true, true, true, true, true, true, false, true, true, true, false, false, false] rfl rfl (take_ofW HT_.out HW_.out (by kernel_rfl)) (fun _ _ _ h => h) (Or.inl ⟨by rfl, ?_⟩) hHeld ?_ ?_
  rotate_left
  · rintro w' ⟨s0, s1, s2, s3⟩
    go_simp
    with_reducible rfl
  rotate_left
  · simp only [Act.put, zA, zZ, zS, i64_w, i32_w]
    rfl
  refine one_ (i := 6) (N := some 16) #[true, true, true, true, true, true, true, true, true, true, false, false, false] rfl rfl (one_of HT_.out (by kernel_rfl)) (by decide) (fun K hK => ?_)
  refine goes_ Tryz.func25 (by kernel_rfl) rfl #[.agg #[.int .i64 a0_0, .string a0_1, .slice A0_2 l0_2.length c0_2, .slice A0_3 l0_3.length c0_3], .string a1, .string a2] (by rfl) rfl rfl (by (try simp only [List.map_toArray, List.map_cons, List.map_nil]); first | done | rfl | (simp only [List.length_drop, List.length_take]; rfl)) ?_
  with_reducible refine (catalog_Find.calls a0_0 a0_1 _ _ l0_2 _ _ l0_3 a1 a2 t346 _ ?side1 ?side2 ?side3 ?side4 A9.out).mono ?_
  (case side1 => repeat (first | exact (Kd.C_below HR0_2.out HB.out) | (with_reducible refine Kd.C_alloc ?_ _) | (with_reducible refine Kd.C_drewN ?_ _) | (with_reducible refine Kd.C_drew ?_)))
  (case side2 => exact HC0_2.out)
  (case side3 => repeat (first | exact (Kd.C_below HR0_3.out HB.out) | (with_reducible refine Kd.C_alloc ?_ _) | (with_reducible refine Kd.C_drewN ?_ _) | (with_reducible refine Kd.C_drew ?_)))
  (case side4 => exact HC0_3.out)
  rintro e w12 ⟨rfl, hb⟩
  refine ⟨_, rfl, ?_⟩
  have n0_ := As.mk (kB (g := gb344) (o := .cells #[.int .i64 a0_0, .string a0_1, .slice A0_2 l0_2.length c0_2, .slice A0_3 l0_3.length c0_3] 37 (0, 0)) (by (with_reducible repeat (first | refine kN ?_ _ | refine kD ?_ | refine kA ?_ _)); exact BK344.out) hb)
  have n1_ := As.mk (bT (by repeat (first | (with_reducible first | exact HB.out | apply bA | apply bN | apply bD | refine bS ?_ GE344.out) | exact HB.out)) hb)
  clear BK344
  clear HB
  have BK344 := n0_
  have HB := n1_
  clear n0_ n1_
  (try clear hb)
  (try clear hb2)
  (try clear hk)
  (try clear hi)
  refine hK.out _ _ ⟨(kC BK344.out 0).trans rfl, (kC BK344.out 1).trans rfl, (kC BK344.out 2).trans rfl, (kC BK344.out 3).trans rfl⟩ (fun hHeld => ?_)
  clear hK K
  refine norm_ (a' := ?_) ?_ ?_
  rotate_left
  · show Act.put _ (some 16) _ = _
    simp only [Act.put, zA, zZ, zS, i64_w, i32_w]
    rfl
  refine one_ (i := 10) (N := some 20) #[true, true, true, true, true, true, true, true, true, true, true, false, false] rfl rfl (one_of HT_.out (by kernel_rfl)) (by decide) (fun K hK => ?_)
  refine goes_ Tryz.func26 (by kernel_rfl) rfl #[.agg #[.int .i64 a0_0, .string a0_1, .slice A0_2 l0_2.length c0_2, .slice A0_3 l0_3.length c0_3], .string a1, .string a2] (by rfl) rfl rfl (by (try simp only [List.map_toArray, List.map_cons, List.map_nil]); first | done | rfl | (simp only [List.length_drop, List.length_take]; rfl)) ?_
  with_reducible refine (majordomoref07_Find.calls k a0_0 a0_1 _ _ l0_2 _ _ l0_3 a1 a2 t347 _ ?side1 ?side2 ?side3 ?side4 A10.out).mono ?_
  (case side1 => repeat (first | exact (Kd.C_below HR0_2.out HB.out) | (with_reducible refine Kd.C_alloc ?_ _) | (with_reducible refine Kd.C_drewN ?_ _) | (with_reducible refine Kd.C_drew ?_)))
  (case side2 => exact HC0_2.out)
  (case side3 => repeat (first | exact (Kd.C_below HR0_3.out HB.out) | (with_reducible refine Kd.C_alloc ?_ _) | (with_reducible refine Kd.C_drewN ?_ _) | (with_reducible refine Kd.C_drew ?_)))
  (case side4 => exact HC0_3.out)
  rintro e w13 ⟨rfl, hb⟩
  refine ⟨_, rfl, ?_⟩
  have n0_ := As.mk (kB (g := gb344) (o := .cells #[.int .i64 a0_0, .string a0_1, .slice A0_2 l0_2.length c0_2, .slice A0_3 l0_3.length c0_3] 37 (0, 0)) (by (with_reducible repeat (first | refine kN ?_ _ | refine kD ?_ | refine kA ?_ _)); exact BK344.out) hb)
  have n1_ := As.mk (bT (by repeat (first | (with_reducible first | exact HB.out | apply bA | apply bN | apply bD | refine bS ?_ GE344.out) | exact HB.out)) hb)
  clear BK344
  clear HB
  have BK344 := n0_
  have HB := n1_
  clear n0_ n1_
  (try clear hb)
  (try clear hb2)
  (try clear hk)
  (try clear hi)
  refine hK.out _ _ ⟨(kC BK344.out 0).trans rfl, (kC BK344.out 1).trans rfl, (kC BK344.out 2).trans rfl, (kC BK344.out 3).trans rfl⟩ (fun hHeld => ?_)
  clear hK K
  refine norm_ (a' := ?_) ?_ ?_
  rotate_left
  · show Act.put _ (some 20) _ = _
    simp only [Act.put, zA, zZ, zS, i64_w, i32_w]
    rfl
  refine pure_ (i := 11) (N := some 21) (v := ?_) (a' := ?_) #[true, true, true, true, true, true, true, true, true, true, true, true, false] rfl rfl (any_of HT_.out (by kernel_rfl)) (fun _ _ _ h => h) (Or.inl ⟨by rfl, ?_⟩) ?_ ?_
  rotate_left
  · intro w'
    go_simp
    with_reducible rfl
  rotate_left
  · simp only [Act.put, zA, zZ, zS, i64_w, i32_w]
    rfl
  refine pure_ (i := 12) (N := some 22) (v := ?_) (a' := ?_) #[true, true, true, true, true, true, true, true, true, true, true, true, true] rfl rfl (any_of HT_.out (by kernel_rfl)) (fun _ _ _ h => h) (Or.inl ⟨by rfl, ?_⟩) ?_ ?_
  rotate_left
  · intro w'
    go_simp
    with_reducible rfl
  rotate_left
  · simp only [Act.put, zA, zZ, zS, i64_w, i32_w]
    rfl
  refine done_ (done_of HT_.out (by kernel_rfl)) ?_
  try go_wp2
  go_meet
  case rel => exact ⟨_, ((t346 != t347)), (by first | rfl | (simp; done) | (simp [*]; done)), H', ⟨by first | omega | exact Nat.le_refl _⟩, ⟨by (with_reducible repeat (first | refine kN ?_ _ | refine kD ?_ | refine kA ?_ _)); exact BK344.out⟩, ⟨by repeat (first | (with_reducible first | exact HB.out | apply bA | apply bN | apply bD | refine bS ?_ GE344.out) | exact HB.out)⟩⟩
 case rest =>
  clear HC5
  try clear c1
  try clear c2
  try clear p2
  try clear c8
  try clear c9
  obtain ⟨kq, x22_4, rfl, HA, HJ4, BK344, HB⟩ := hcut
  cases kq with
  | zero => exact absurd HA.out (by simp [majordomolaw07_CatalogFinds.j0])
  | succ kj4 =>
   have H := HA.out
   clear HA
   simp only [majordomolaw07_CatalogFinds.j0] at H
   by_cases c15 : x22_4 = true
   · subst c15
     have H1 : (some false) = some r := by rw [if_pos rfl] at H; exact H
     clear H
     have H := H1
     clear H1
     obtain rfl := Option.some.inj H
     go_wp2
     go_ret
     exact ⟨by first | rfl | (simp [errW_none, errW_some] <;> rfl) | (simp [*, errW_none, errW_some] <;> rfl), by repeat (first | (with_reducible first | exact HB.out | apply bA | apply bN | apply bD | refine bS ?_ GE344.out) | exact HB.out)⟩
   replace c15 := Bool.eq_false_iff.mpr c15
   subst c15
   have H1 : ((catalog_Check.f kj4 a0_0 a0_1 l0_2 l0_3).bind fun t348 => (if t348 = 0 then (majordomolaw07_CatalogFinds.l0 kj4 0 a0_0 a0_1 l0_2 l0_3) else (some true))) = some r := by rw [if_neg (show ¬ (false = true) by decide)] at H; exact H
   clear H
   have H := H1
   clear H1
   replace H := Option.bind_eq_some_iff.mp H
   obtain ⟨t348, A160, H⟩ := H
   replace H : (if t348 = 0 then (majordomolaw07_CatalogFinds.l0 kj4 0 a0_0 a0_1 l0_2 l0_3) else (some true)) = some r := H
   have A16 := As.mk A160
   clear A160
   by_cases c17 : t348 = 0
   rotate_left
   · rw [if_neg c17] at H
     have c17b0 : (t348 == 0) = false := beq_eq_false_iff_ne.mpr c17
     have c17b1 : (t348 != 0) = true := bne_iff_ne.mpr c17
     obtain rfl := Option.some.inj H
     have hcz31_0 : wc.cell? ⟨gb344, 0, none⟩ = some (.int .i64 a0_0) := (kC BK344.out 0).trans rfl
     have hcz31_1 : wc.cell? ⟨gb344, 1, none⟩ = some (.string a0_1) := (kC BK344.out 1).trans rfl
     have hcz31_2 : wc.cell? ⟨gb344, 2, none⟩ = some (.slice A0_2 l0_2.length c0_2) := (kC BK344.out 2).trans rfl
     have hcz31_3 : wc.cell? ⟨gb344, 3, none⟩ = some (.slice A0_3 l0_3.length c0_3) := (kC BK344.out 3).trans rfl
     have hfz31_0 := kF BK344.out 0
     have hfz31_1 := kF BK344.out 1
     have hfz31_2 := kF BK344.out 2
     have hfz31_3 := kF BK344.out 3
     go_wp2_with (first | ((with_reducible refine gate_callee (f := 21) rfl ?_); refine goesL_ (some 24) rfl rfl Tryz.func21 (by kernel_rfl) rfl #[.agg #[.int .i64 a0_0, .string a0_1, .slice A0_2 l0_2.length c0_2, .slice A0_3 l0_3.length c0_3]] rfl (by (try simp only [List.map_toArray, List.map_cons, List.map_nil]); first | done | rfl | (simp only [List.length_drop, List.length_take]; rfl)) ?_; (with_reducible refine (catalog_Check.calls kj4 a0_0 a0_1 _ _ l0_2 _ _ l0_3 t348 _ ?side1 ?side2 ?side3 ?side4 A16.out (UtfOk.of_below HU.out (by repeat (first | (with_reducible first | exact HB.out | apply bA | apply bN | apply bD | refine bS ?_ GE344.out) | exact HB.out)))).mono ?_); (case side1 => repeat (first | exact (Kd.C_below HR0_2.out HB.out) | (with_reducible refine Kd.C_alloc ?_ _) | (with_reducible refine Kd.C_drewN ?_ _) | (with_reducible refine Kd.C_drew ?_))); (case side2 => exact HC0_2.out); (case side3 => repeat (first | exact (Kd.C_below HR0_3.out HB.out) | (with_reducible refine Kd.C_alloc ?_ _) | (with_reducible refine Kd.C_drewN ?_ _) | (with_reducible refine Kd.C_drew ?_))); (case side4 => exact HC0_3.out); rintro e w32 ⟨rfl, hb⟩; refine ⟨_, rfl, ?_⟩; have n0_ := As.mk (kB (g := gb344) (o := .cells #[.int .i64 a0_0, .string a0_1, .slice A0_2 l0_2.length c0_2, .slice A0_3 l0_3.length c0_3] 37 (0, 0)) (by (with_reducible repeat (first | refine kN ?_ _ | refine kD ?_ | refine kA ?_ _)); exact BK344.out) hb); have n1_ := As.mk (bT (by repeat (first | (with_reducible first | exact HB.out | apply bA | apply bN | apply bD | refine bS ?_ GE344.out) | exact HB.out)) hb); clear BK344; clear HB; have BK344 := n0_; have HB := n1_; clear n0_ n1_; (try clear hb); (try clear hb2); (try clear hk); (try clear hi)))
     go_ret
     exact ⟨by first | rfl | (simp [errW_none, errW_some] <;> rfl) | (simp [*, errW_none, errW_some] <;> rfl), by repeat (first | (with_reducible first | exact HB.out | apply bA | apply bN | apply bD | refine bS ?_ GE344.out) | exact HB.out)⟩
   rw [if_pos c17] at H
   have c17b0 : (t348 == 0) = true := beq_iff_eq.mpr c17
   have c17b1 : (t348 != 0) = false := bne_eq_false_iff_eq.mpr c17
   clear c17
   have H' := As.mk H
   clear H
   have hcz18_0 : wc.cell? ⟨gb344, 0, none⟩ = some (.int .i64 a0_0) := (kC BK344.out 0).trans rfl
   have hcz18_1 : wc.cell? ⟨gb344, 1, none⟩ = some (.string a0_1) := (kC BK344.out 1).trans rfl
   have hcz18_2 : wc.cell? ⟨gb344, 2, none⟩ = some (.slice A0_2 l0_2.length c0_2) := (kC BK344.out 2).trans rfl
   have hcz18_3 : wc.cell? ⟨gb344, 3, none⟩ = some (.slice A0_3 l0_3.length c0_3) := (kC BK344.out 3).trans rfl
   have hfz18_0 := kF BK344.out 0
   have hfz18_1 := kF BK344.out 1
   have hfz18_2 := kF BK344.out 2
   have hfz18_3 := kF BK344.out 3
   go_wp2_with (first | ((with_reducible refine gate_callee (f := 21) rfl ?_); refine goesL_ (some 24) rfl rfl Tryz.func21 (by kernel_rfl) rfl #[.agg #[.int .i64 a0_0, .string a0_1, .slice A0_2 l0_2.length c0_2, .slice A0_3 l0_3.length c0_3]] rfl (by (try simp only [List.map_toArray, List.map_cons, List.map_nil]); first | done | rfl | (simp only [List.length_drop, List.length_take]; rfl)) ?_; (with_reducible refine (catalog_Check.calls kj4 a0_0 a0_1 _ _ l0_2 _ _ l0_3 t348 _ ?side1 ?side2 ?side3 ?side4 A16.out (UtfOk.of_below HU.out (by repeat (first | (with_reducible first | exact HB.out | apply bA | apply bN | apply bD | refine bS ?_ GE344.out) | exact HB.out)))).mono ?_); (case side1 => repeat (first | exact (Kd.C_below HR0_2.out HB.out) | (with_reducible refine Kd.C_alloc ?_ _) | (with_reducible refine Kd.C_drewN ?_ _) | (with_reducible refine Kd.C_drew ?_))); (case side2 => exact HC0_2.out); (case side3 => repeat (first | exact (Kd.C_below HR0_3.out HB.out) | (with_reducible refine Kd.C_alloc ?_ _) | (with_reducible refine Kd.C_drewN ?_ _) | (with_reducible refine Kd.C_drew ?_))); (case side4 => exact HC0_3.out); rintro e w19 ⟨rfl, hb⟩; refine ⟨_, rfl, ?_⟩; have n0_ := As.mk (kB (g := gb344) (o := .cells #[.int .i64 a0_0, .string a0_1, .slice A0_2 l0_2.length c0_2, .slice A0_3 l0_3.length c0_3] 37 (0, 0)) (by (with_reducible repeat (first | refine kN ?_ _ | refine kD ?_ | refine kA ?_ _)); exact BK344.out) hb); have n1_ := As.mk (bT (by repeat (first | (with_reducible first | exact HB.out | apply bA | apply bN | apply bD | refine bS ?_ GE344.out) | exact HB.out)) hb); clear BK344; clear HB; have BK344 := n0_; have HB := n1_; clear n0_ n1_; (try clear hb); (try clear hb2); (try clear hk); (try clear hi)))
   go_loopg [8] kj4 (fun kq v8 w' => ∃ (x8_2 : Int), v8 = .int .i64 x8_2 ∧ As (majordomolaw07_CatalogFinds.l0 kq x8_2 a0_0 a0_1 l0_2 l0_3 = some r) ∧ As (kq ≤ kj4) ∧ As (w'.heap[gb344]? = some (.cells #[.int .i64 a0_0, .string a0_1, (.slice A0_2 l0_2.length c0_2), (.slice A0_3 l0_3.length c0_3)] 37 (0, 0))) ∧ As (Below w.heap.size w w'))
   case atStart => exact ⟨(0), (by first | rfl | (simp; done) | (simp [*]; done)), H', ⟨Nat.le_refl _⟩, ⟨by (with_reducible repeat (first | refine kN ?_ _ | refine kD ?_ | refine kA ?_ _)); exact BK344.out⟩, ⟨by repeat (first | (with_reducible first | exact HB.out | apply bA | apply bN | apply bD | refine bS ?_ GE344.out) | exact HB.out)⟩⟩
   case round =>
    clear H'
    try clear c1
    try clear c2
    try clear p2
    try clear c8
    try clear c9
    try clear c15
    try clear c16
    try clear c17
    try clear c17b0
    try clear c17b1
    try clear hcz18_0
    try clear hcz18_1
    try clear hcz18_2
    try clear hcz18_3
    try clear hfz18_0
    try clear hfz18_1
    try clear hfz18_2
    try clear hfz18_3
    try clear p2
    obtain ⟨x8_2, rfl, HA, HK2, BK344, HB⟩ := hrel
    cases gk with
    | zero => exact absurd HA.out (by simp [majordomolaw07_CatalogFinds.l0])
    | succ k2 =>
     have H := HA.out
     clear HA
     simp only [majordomolaw07_CatalogFinds.l0] at H
     by_cases c20 : x8_2 < (l0_2.length : Int)
     rotate_left
     · rw [if_neg c20] at H
       have c20b0 : decide (x8_2 < (l0_2.length : Int)) = false := decide_eq_false c20
       clear c20
       obtain rfl := Option.some.inj H
       have hcz30_0 : wr.cell? ⟨gb344, 0, none⟩ = some (.int .i64 a0_0) := (kC BK344.out 0).trans rfl
       have hcz30_1 : wr.cell? ⟨gb344, 1, none⟩ = some (.string a0_1) := (kC BK344.out 1).trans rfl
       have hcz30_2 : wr.cell? ⟨gb344, 2, none⟩ = some (.slice A0_2 l0_2.length c0_2) := (kC BK344.out 2).trans rfl
       have hcz30_3 : wr.cell? ⟨gb344, 3, none⟩ = some (.slice A0_3 l0_3.length c0_3) := (kC BK344.out 3).trans rfl
       have hfz30_0 := kF BK344.out 0
       have hfz30_1 := kF BK344.out 1
       have hfz30_2 := kF BK344.out 2
       have hfz30_3 := kF BK344.out 3
       go_wp2
       go_ret
       exact ⟨by first | rfl | (simp [errW_none, errW_some] <;> rfl) | (simp [*, errW_none, errW_some] <;> rfl), by repeat (first | (with_reducible first | exact HB.out | apply bA | apply bN | apply bD | refine bS ?_ GE344.out) | exact HB.out)⟩
     rw [if_pos c20] at H
     have c20b0 : decide (x8_2 < (l0_2.length : Int)) = true := decide_eq_true c20
     clear c20
     by_cases c21 : 0 ≤ x8_2
     rotate_left
     · rw [if_neg c21] at H
       exact absurd H (by simp)
     rw [if_pos c21] at H
     have c21b0 : decide (0 ≤ x8_2) = true := decide_eq_true c21
     clear c21
     replace H := Option.bind_eq_some_iff.mp H
     obtain ⟨t351, A220, H⟩ := H
     replace H : (if t351 = x8_2 then (majordomolaw07_CatalogFinds.l0 k2 (wrap64 (x8_2 + 1)) a0_0 a0_1 l0_2 l0_3) else (some false)) = some r := H
     have A22 := As.mk A220
     clear A220
     by_cases c23 : t351 = x8_2
     rotate_left
     · rw [if_neg c23] at H
       have c23b0 : (t351 == x8_2) = false := beq_eq_false_iff_ne.mpr c23
       have c23b1 : (t351 != x8_2) = true := bne_iff_ne.mpr c23
       obtain rfl := Option.some.inj H
       have hcz27_0 : wr.cell? ⟨gb344, 0, none⟩ = some (.int .i64 a0_0) := (kC BK344.out 0).trans rfl
       have hcz27_1 : wr.cell? ⟨gb344, 1, none⟩ = some (.string a0_1) := (kC BK344.out 1).trans rfl
       have hcz27_2 : wr.cell? ⟨gb344, 2, none⟩ = some (.slice A0_2 l0_2.length c0_2) := (kC BK344.out 2).trans rfl
       have hcz27_3 : wr.cell? ⟨gb344, 3, none⟩ = some (.slice A0_3 l0_3.length c0_3) := (kC BK344.out 3).trans rfl
       have hfz27_0 := kF BK344.out 0
       have hfz27_1 := kF BK344.out 1
       have hfz27_2 := kF BK344.out 2
       have hfz27_3 := kF BK344.out 3
       try go_wp2
       have n0_ := As.mk (kD BK344.out)
       have n1_ := As.mk (bD HB.out)
       clear BK344
       clear HB
       have BK344 := n0_
       have HB := n1_
       clear n0_ n1_
       have p349 : 0 ≤ (x8_2 : Int) := of_decide_eq_true (by first | (with_reducible assumption) | assumption)
       have q349 : x8_2 < (l0_2.length : Int) := of_decide_eq_true (by first | (with_reducible assumption) | assumption)
       obtain ⟨ad349, A349_2, c349_2, e349, hx349_0, hx349_1, hx349_2, hl349_2, hi349_2⟩ := at_T24 HR0_2.out x8_2 p349 q349
       have hw349_2 := hx349_2
       have hw349_1 := hx349_1
       have hw349_0 := hx349_0
       cases e349
       replace hx349_0 := (HB.out.cell (World.block_lt_of_cell? w _ hx349_0)).trans hx349_0
       replace hx349_1 := (HB.out.cell (World.block_lt_of_cell? w _ hx349_1)).trans hx349_1
       replace hx349_2 := (HB.out.cell (World.block_lt_of_cell? w _ hx349_2)).trans hx349_2
       have HR349_2 := As.mk hi349_2
       have HC349_2 := As.mk hl349_2
       clear hi349_2 hl349_2
       replace p349 := eq_true p349
       replace q349 := eq_true q349
       have p350 : 0 ≤ (x8_2 : Int) := of_decide_eq_true (by first | (with_reducible assumption) | assumption)
       have q350 : x8_2 < (l0_2.length : Int) := of_decide_eq_true (by first | (with_reducible assumption) | assumption)
       obtain ⟨ad350, A350_2, c350_2, e350, hx350_0, hx350_1, hx350_2, hl350_2, hi350_2⟩ := at_T24 HR0_2.out x8_2 p350 q350
       have hw350_2 := hx350_2
       have hw350_1 := hx350_1
       have hw350_0 := hx350_0
       obtain rfl : ad349 = ad350 := (by injection e350)
       replace hx350_0 := (HB.out.cell (World.block_lt_of_cell? w _ hx350_0)).trans hx350_0
       replace hx350_1 := (HB.out.cell (World.block_lt_of_cell? w _ hx350_1)).trans hx350_1
       replace hx350_2 := (HB.out.cell (World.block_lt_of_cell? w _ hx350_2)).trans hx350_2
       have HR350_2 := As.mk hi350_2
       have HC350_2 := As.mk hl350_2
       clear hi350_2 hl350_2
       replace p350 := eq_true p350
       replace q350 := eq_true q350
       have ea_ := Option.some.inj (hx349_2.symm.trans hx350_2)
       injection ea_ with ea_ en_ ec_
       subst ea_
       subst ec_
       clear en_
       refine start_ (n := 16) (S := fun w' => w'.cell? ⟨gb344, 0, none⟩ = some (.int .i64 a0_0) ∧ w'.cell? ⟨gb344, 1, none⟩ = some (.string a0_1) ∧ w'.cell? ⟨gb344, 2, none⟩ = some (.slice (some ad349) l0_2.length c0_2) ∧ w'.cell? ⟨gb344, 3, none⟩ = some (.slice A0_3 l0_3.length c0_3) ∧ w'.cell? (ad349.add ((x8_2).toNat * 3)) = some (.string ((rd_T24 l0_2 x8_2).f0)) ∧ w'.cell? ⟨(ad349.add ((x8_2).toNat * 3)).block, (ad349.add ((x8_2).toNat * 3)).off + 1, none⟩ = some (.string ((rd_T24 l0_2 x8_2).f1)) ∧ w'.cell? ⟨(ad349.add ((x8_2).toNat * 3)).block, (ad349.add ((x8_2).toNat * 3)).off + 2, none⟩ = some (.slice A349_2 ((rd_T24 l0_2 x8_2).f2).length c349_2) ∧ w'.cell? (ad349.add ((x8_2).toNat * 3)) = some (.string ((rd_T24 l0_2 x8_2).f0)) ∧ w'.cell? ⟨(ad349.add ((x8_2).toNat * 3)).block, (ad349.add ((x8_2).toNat * 3)).off + 1, none⟩ = some (.string ((rd_T24 l0_2 x8_2).f1)) ∧ w'.cell? ⟨(ad349.add ((x8_2).toNat * 3)).block, (ad349.add ((x8_2).toNat * 3)).off + 2, none⟩ = some (.slice A349_2 ((rd_T24 l0_2 x8_2).f2).length c349_2)) (ds := []) #[false, false, false, false, false, false, false, false, false, false, false, false, false, false, false, false] (by kernel_rfl) rfl rfl ⟨(kC BK344.out 0).trans rfl, (kC BK344.out 1).trans rfl, (kC BK344.out 2).trans rfl, (kC BK344.out 3).trans rfl, ((HB.out.cell (World.block_lt_of_cell? w _ hw349_0)).trans hw349_0), ((HB.out.cell (World.block_lt_of_cell? w _ hw349_1)).trans hw349_1), ((HB.out.cell (World.block_lt_of_cell? w _ hw349_2)).trans hw349_2), ((HB.out.cell (World.block_lt_of_cell? w _ hw350_0)).trans hw350_0), ((HB.out.cell (World.block_lt_of_cell? w _ hw350_1)).trans hw350_1), ((HB.out.cell (World.block_lt_of_cell? w _ hw350_2)).trans hw350_2)⟩ (fun hHeld => ?_); refine with_tabW majordomolaw07_CatalogFinds.tab9 majordomolaw07_CatalogFinds.bits9 (fun HT_ HW_ => ?_)
       generalize wr.drew = w28 at BK344 HB HR349_2 HR350_2 hx349_0 hx349_1 hx349_2 hx350_0 hx350_1 hx350_2 hHeld ⊢
       refine pure_ (i := 1) (N := some 34) (v := ?_) (a' := ?_) #[false, true, false, false, false, false, false, false, false, false, false, false, false, false, false, false] rfl rfl (any_of HT_.out (by kernel_rfl)) (fun _ _ _ h => h) (Or.inl ⟨by rfl, ?_⟩) ?_ ?_
       rotate_left
       · intro w'
         go_simp
         with_reducible rfl
       rotate_left
       · simp only [Act.put, zA, zZ, zS, i64_w, i32_w]
         rfl
       refine pure_ (i := 3) (N := some 36) (v := ?_) (a' := ?_) #[false, true, false, true, false, false, false, false, false, false, false, false, false, false, false, false] rfl rfl (any_of HT_.out (by kernel_rfl)) (fun _ _ _ h => h) (Or.inl ⟨by rfl, ?_⟩) ?_ ?_
       rotate_left
       · intro w'
         go_simp
         with_reducible rfl
       rotate_left
       · simp only [Act.put, zA, zZ, zS, i64_w, i32_w]
         rfl
       refine pure_ (i := 7) (N := some 40) (v := ?_) (a' := ?_) #[false, true, false, true, false, false, false, true, false, false, false, false, false, false, false, false] rfl rfl (any_of HT_.out (by kernel_rfl)) (fun _ _ _ h => h) (Or.inl ⟨by rfl, ?_⟩) ?_ ?_
       rotate_left
       · intro w'
         go_simp
         with_reducible rfl
       rotate_left
       · simp only [Act.put, zA, zZ, zS, i64_w, i32_w]
         rfl
       refine pure_ (i := 9) (N := some 42) (v := ?_) (a' := ?_) #[false, true, false, true, false, false, false, true, false, true, false, false, false, false, false, false] rfl rfl (any_of HT_.out (by kernel_rfl)) (fun _ _ _ h => h) (Or.inl ⟨by rfl, ?_⟩) ?_ ?_
       rotate_left
       · intro w'
         go_simp
         with_reducible rfl
       rotate_left
       · simp only [Act.put, zA, zZ, zS, i64_w, i32_w]
         rfl
       refine pure_ (i := 14) (N := some 47) (v := ?_) (a' := ?_) #[false, true, false, true, false, false, false, true, false, true, false, false, false, false, true, false] rfl rfl (any_of HT_.out (by kernel_rfl)) (fun _ _ _ h => h) (Or.inl ⟨by rfl, ?_⟩) ?_ ?_
       rotate_left
       · intro w'
         go_simp
         with_reducible rfl
       rotate_left
       · simp only [Act.put, zA, zZ, zS, i64_w, i32_w]
         rfl
       refine take_ (i := 0) (N := some 33) (v := ?_) (a' := ?_) #[true, true, false, true, false, false, false, true, false, true, false, false, false, false, true, false] rfl rfl (take_ofW HT_.out HW_.out (by kernel_rfl)) (fun _ _ _ h => h) (Or.inl ⟨by rfl, ?_⟩) hHeld ?_ ?_
       rotate_left
       · rintro w' ⟨s0, s1, s2, s3, s4, s5, s6, s7, s8, s9⟩
         go_simp
         with_reducible rfl
       rotate_left
       · simp only [Act.put, zA, zZ, zS, i64_w, i32_w]
         rfl
       refine take_ (i := 2) (N := some 35) (v := ?_) (a' := ?_) #[true, true, true, true, false, false, false, true, false, true, false, false, false, false, true, false] rfl rfl (take_ofW HT_.out HW_.out (by kernel_rfl)) (fun _ _ _ h => h) (Or.inl ⟨by rfl, ?_⟩) hHeld ?_ ?_
       rotate_left
       · rintro w' ⟨s0, s1, s2, s3, s4, s5, s6, s7, s8, s9⟩
         go_simp
         with_reducible rfl
       rotate_left
       · simp only [Act.put, zA, zZ, zS, i64_w, i32_w]
         rfl
       refine pure_ (i := 4) (N := some 37) (v := ?_) (a' := ?_) #[true, true, true, true, true, false, false, true, false, true, false, false, false, false, true, false] rfl rfl (any_of HT_.out (by kernel_rfl)) (fun _ _ _ h => h) (Or.inl ⟨by rfl, ?_⟩) ?_ ?_
       rotate_left
       · intro w'
         go_simp
         with_reducible rfl
       rotate_left
       · simp only [Act.put, zA, zZ, zS, i64_w, i32_w]
         rfl
       refine pure_ (i := 5) (N := some 38) (v := ?_) (a' := ?_) #[true, true, true, true, true, true, false, true, false, true, false, false, false, false, true, false] rfl rfl (any_of HT_.out (by kernel_rfl)) (fun _ _ _ h => h) (Or.inl ⟨by rfl, ?_⟩) ?_ ?_
       rotate_left
       · intro w'
         go_simp
         with_reducible rfl
       rotate_left
       · simp only [Act.put, zA, zZ, zS, i64_w, i32_w]
         rfl
       refine take_ (i := 6) (N := some 39) (v := ?_) (a' := ?_) #[true, true, true, true, true, true, true, true, false, true, false, false, false, false, true, false] rfl rfl (take_ofW HT_.out HW_.out (by kernel_rfl)) (fun _ _ _ h => h) (Or.inl ⟨by rfl, ?_⟩) hHeld ?_ ?_
       rotate_left
       · rintro w' ⟨s0, s1, s2, s3, s4, s5, s6, s7, s8, s9⟩
         go_simp
         with_reducible rfl
       rotate_left
       · simp only [Act.put, zA, zZ, zS, i64_w, i32_w]
         rfl
       refine take_ (i := 8) (N := some 41) (v := ?_) (a' := ?_) #[true, true, true, true, true, true, true, true, true, true, false, false, false, false, true, false] rfl rfl (take_ofW HT_.out HW_.out (by kernel_rfl)) (fun _ _ _ h => h) (Or.inl ⟨by rfl, ?_⟩) hHeld ?_ ?_
       rotate_left
       · rintro w' ⟨s0, s1, s2, s3, s4, s5, s6, s7, s8, s9⟩
         go_simp
         with_reducible rfl
       rotate_left
       · simp only [Act.put, zA, zZ, zS, i64_w, i32_w]
         rfl
       refine pure_ (i := 10) (N := some 43) (v := ?_) (a' := ?_) #[true, true, true, true, true, true, true, true, true, true, true, false, false, false, true, false] rfl rfl (any_of HT_.out (by kernel_rfl)) (fun _ _ _ h => h) (Or.inl ⟨by rfl, ?_⟩) ?_ ?_
       rotate_left
       · intro w'
         go_simp
         with_reducible rfl
       rotate_left
       · simp only [Act.put, zA, zZ, zS, i64_w, i32_w]
         rfl
       refine pure_ (i := 11) (N := some 44) (v := ?_) (a' := ?_) #[true, true, true, true, true, true, true, true, true, true, true, true, false, false, true, false] rfl rfl (any_of HT_.out (by kernel_rfl)) (fun _ _ _ h => h) (Or.inl ⟨by rfl, ?_⟩) ?_ ?_
       rotate_left
       · intro w'
         go_simp
         with_reducible rfl
       rotate_left
       · simp only [Act.put, zA, zZ, zS, i64_w, i32_w]
         rfl
       refine take_ (i := 12) (N := some 45) (v := ?_) (a' := ?_) #[true, true, true, true, true, true, true, true, true, true, true, true, true, false, true, false] rfl rfl (take_ofW HT_.out HW_.out (by kernel_rfl)) (fun _ _ _ h => h) (Or.inl ⟨by rfl, ?_⟩) hHeld ?_ ?_
       rotate_left
       · rintro w' ⟨s0, s1, s2, s3, s4, s5, s6, s7, s8, s9⟩
         go_simp
         with_reducible rfl
       rotate_left
       · simp only [Act.put, zA, zZ, zS, i64_w, i32_w]
         rfl
       refine one_ (i := 13) (N := some 46) #[true, true, true, true, true, true, true, true, true, true, true, true, true, true, true, false] rfl rfl (one_of HT_.out (by kernel_rfl)) (by decide) (fun K hK => ?_)
       refine goes_ Tryz.func25 (by kernel_rfl) rfl #[.agg #[.int .i64 a0_0, .string a0_1, .slice (some ad349) l0_2.length c0_2, .slice A0_3 l0_3.length c0_3], .string ((rd_T24 l0_2 x8_2).f0), .string ((rd_T24 l0_2 x8_2).f1)] (by rfl) rfl rfl (by (try simp only [List.map_toArray, List.map_cons, List.map_nil]); first | done | rfl | (simp only [List.length_drop, List.length_take]; rfl)) ?_
       with_reducible refine (catalog_Find.calls a0_0 a0_1 _ _ l0_2 _ _ l0_3 ((rd_T24 l0_2 x8_2).f0) ((rd_T24 l0_2 x8_2).f1) t351 _ ?side1 ?side2 ?side3 ?side4 A22.out).mono ?_
       (case side1 => repeat (first | exact (Kd.C_below HR0_2.out HB.out) | (with_reducible refine Kd.C_alloc ?_ _) | (with_reducible refine Kd.C_drewN ?_ _) | (with_reducible refine Kd.C_drew ?_)))
       (case side2 => exact HC0_2.out)
       (case side3 => repeat (first | exact (Kd.C_below HR0_3.out HB.out) | (with_reducible refine Kd.C_alloc ?_ _) | (with_reducible refine Kd.C_drewN ?_ _) | (with_reducible refine Kd.C_drew ?_)))
       (case side4 => exact HC0_3.out)
       rintro e w29 ⟨rfl, hb⟩
       refine ⟨_, rfl, ?_⟩
       have n0_ := As.mk (kB (g := gb344) (o := .cells #[.int .i64 a0_0, .string a0_1, .slice (some ad349) l0_2.length c0_2, .slice A0_3 l0_3.length c0_3] 37 (0, 0)) (by (with_reducible repeat (first | refine kN ?_ _ | refine kD ?_ | refine kA ?_ _)); exact BK344.out) hb)
       have n1_ := As.mk (bT (by repeat (first | (with_reducible first | exact HB.out | apply bA | apply bN | apply bD | refine bS ?_ GE344.out) | exact HB.out)) hb)
       clear BK344
       clear HB
       have BK344 := n0_
       have HB := n1_
       clear n0_ n1_
       (try clear hb)
       (try clear hb2)
       (try clear hk)
       (try clear hi)
       refine hK.out _ _ ⟨(kC BK344.out 0).trans rfl, (kC BK344.out 1).trans rfl, (kC BK344.out 2).trans rfl, (kC BK344.out 3).trans rfl, ((HB.out.cell (World.block_lt_of_cell? w _ hw349_0)).trans hw349_0), ((HB.out.cell (World.block_lt_of_cell? w _ hw349_1)).trans hw349_1), ((HB.out.cell (World.block_lt_of_cell? w _ hw349_2)).trans hw349_2), ((HB.out.cell (World.block_lt_of_cell? w _ hw350_0)).trans hw350_0), ((HB.out.cell (World.block_lt_of_cell? w _ hw350_1)).trans hw350_1), ((HB.out.cell (World.block_lt_of_cell? w _ hw350_2)).trans hw350_2)⟩ (fun hHeld => ?_)
       clear hK K
       refine norm_ (a' := ?_) ?_ ?_
       rotate_left
       · show Act.put _ (some 46) _ = _
         simp only [Act.put, zA, zZ, zS, i64_w, i32_w]
         rfl
       refine pure_ (i := 15) (N := some 48) (v := ?_) (a' := ?_) #[true, true, true, true, true, true, true, true, true, true, true, true, true, true, true, true] rfl rfl (any_of HT_.out (by kernel_rfl)) (fun _ _ _ h => h) (Or.inl ⟨by rfl, ?_⟩) ?_ ?_
       rotate_left
       · intro w'
         go_simp
         with_reducible rfl
       rotate_left
       · simp only [Act.put, zA, zZ, zS, i64_w, i32_w]
         rfl
       refine done_ (done_of HT_.out (by kernel_rfl)) ?_
       try go_wp2
       go_ret
       exact ⟨by first | rfl | (simp [errW_none, errW_some] <;> rfl) | (simp [*, errW_none, errW_some] <;> rfl), by repeat (first | (with_reducible first | exact HB.out | apply bA | apply bN | apply bD | refine bS ?_ GE344.out) | exact HB.out)⟩
     rw [if_pos c23] at H
     have c23b0 : (t351 == x8_2) = true := beq_iff_eq.mpr c23
     have c23b1 : (t351 != x8_2) = false := bne_eq_false_iff_eq.mpr c23
     clear c23
     have H' := As.mk H
     clear H
     have hcz24_0 : wr.cell? ⟨gb344, 0, none⟩ = some (.int .i64 a0_0) := (kC BK344.out 0).trans rfl
     have hcz24_1 : wr.cell? ⟨gb344, 1, none⟩ = some (.string a0_1) := (kC BK344.out 1).trans rfl
     have hcz24_2 : wr.cell? ⟨gb344, 2, none⟩ = some (.slice A0_2 l0_2.length c0_2) := (kC BK344.out 2).trans rfl
     have hcz24_3 : wr.cell? ⟨gb344, 3, none⟩ = some (.slice A0_3 l0_3.length c0_3) := (kC BK344.out 3).trans rfl
     have hfz24_0 := kF BK344.out 0
     have hfz24_1 := kF BK344.out 1
     have hfz24_2 := kF BK344.out 2
     have hfz24_3 := kF BK344.out 3
     try go_wp2
     have n0_ := As.mk (kD BK344.out)
     have n1_ := As.mk (bD HB.out)
     clear BK344
     clear HB
     have BK344 := n0_
     have HB := n1_
     clear n0_ n1_
     have p349 : 0 ≤ (x8_2 : Int) := of_decide_eq_true (by first | (with_reducible assumption) | assumption)
     have q349 : x8_2 < (l0_2.length : Int) := of_decide_eq_true (by first | (with_reducible assumption) | assumption)
     obtain ⟨ad349, A349_2, c349_2, e349, hx349_0, hx349_1, hx349_2, hl349_2, hi349_2⟩ := at_T24 HR0_2.out x8_2 p349 q349
     have hw349_2 := hx349_2
     have hw349_1 := hx349_1
     have hw349_0 := hx349_0
     cases e349
     replace hx349_0 := (HB.out.cell (World.block_lt_of_cell? w _ hx349_0)).trans hx349_0
     replace hx349_1 := (HB.out.cell (World.block_lt_of_cell? w _ hx349_1)).trans hx349_1
     replace hx349_2 := (HB.out.cell (World.block_lt_of_cell? w _ hx349_2)).trans hx349_2
     have HR349_2 := As.mk hi349_2
     have HC349_2 := As.mk hl349_2
     clear hi349_2 hl349_2
     replace p349 := eq_true p349
     replace q349 := eq_true q349
     have p350 : 0 ≤ (x8_2 : Int) := of_decide_eq_true (by first | (with_reducible assumption) | assumption)
     have q350 : x8_2 < (l0_2.length : Int) := of_decide_eq_true (by first | (with_reducible assumption) | assumption)
     obtain ⟨ad350, A350_2, c350_2, e350, hx350_0, hx350_1, hx350_2, hl350_2, hi350_2⟩ := at_T24 HR0_2.out x8_2 p350 q350
     have hw350_2 := hx350_2
     have hw350_1 := hx350_1
     have hw350_0 := hx350_0
     obtain rfl : ad349 = ad350 := (by injection e350)
     replace hx350_0 := (HB.out.cell (World.block_lt_of_cell? w _ hx350_0)).trans hx350_0
     replace hx350_1 := (HB.out.cell (World.block_lt_of_cell? w _ hx350_1)).trans hx350_1
     replace hx350_2 := (HB.out.cell (World.block_lt_of_cell? w _ hx350_2)).trans hx350_2
     have HR350_2 := As.mk hi350_2
     have HC350_2 := As.mk hl350_2
     clear hi350_2 hl350_2
     replace p350 := eq_true p350
     replace q350 := eq_true q350
     have ea_ := Option.some.inj (hx349_2.symm.trans hx350_2)
     injection ea_ with ea_ en_ ec_
     subst ea_
     subst ec_
     clear en_
     refine start_ (n := 16) (S := fun w' => w'.cell? ⟨gb344, 0, none⟩ = some (.int .i64 a0_0) ∧ w'.cell? ⟨gb344, 1, none⟩ = some (.string a0_1) ∧ w'.cell? ⟨gb344, 2, none⟩ = some (.slice (some ad349) l0_2.length c0_2) ∧ w'.cell? ⟨gb344, 3, none⟩ = some (.slice A0_3 l0_3.length c0_3) ∧ w'.cell? (ad349.add ((x8_2).toNat * 3)) = some (.string ((rd_T24 l0_2 x8_2).f0)) ∧ w'.cell? ⟨(ad349.add ((x8_2).toNat * 3)).block, (ad349.add ((x8_2).toNat * 3)).off + 1, none⟩ = some (.string ((rd_T24 l0_2 x8_2).f1)) ∧ w'.cell? ⟨(ad349.add ((x8_2).toNat * 3)).block, (ad349.add ((x8_2).toNat * 3)).off + 2, none⟩ = some (.slice A349_2 ((rd_T24 l0_2 x8_2).f2).length c349_2) ∧ w'.cell? (ad349.add ((x8_2).toNat * 3)) = some (.string ((rd_T24 l0_2 x8_2).f0)) ∧ w'.cell? ⟨(ad349.add ((x8_2).toNat * 3)).block, (ad349.add ((x8_2).toNat * 3)).off + 1, none⟩ = some (.string ((rd_T24 l0_2 x8_2).f1)) ∧ w'.cell? ⟨(ad349.add ((x8_2).toNat * 3)).block, (ad349.add ((x8_2).toNat * 3)).off + 2, none⟩ = some (.slice A349_2 ((rd_T24 l0_2 x8_2).f2).length c349_2)) (ds := []) #[false, false, false, false, false, false, false, false, false, false, false, false, false, false, false, false] (by kernel_rfl) rfl rfl ⟨(kC BK344.out 0).trans rfl, (kC BK344.out 1).trans rfl, (kC BK344.out 2).trans rfl, (kC BK344.out 3).trans rfl, ((HB.out.cell (World.block_lt_of_cell? w _ hw349_0)).trans hw349_0), ((HB.out.cell (World.block_lt_of_cell? w _ hw349_1)).trans hw349_1), ((HB.out.cell (World.block_lt_of_cell? w _ hw349_2)).trans hw349_2), ((HB.out.cell (World.block_lt_of_cell? w _ hw350_0)).trans hw350_0), ((HB.out.cell (World.block_lt_of_cell? w _ hw350_1)).trans hw350_1), ((HB.out.cell (World.block_lt_of_cell? w _ hw350_2)).trans hw350_2)⟩ (fun hHeld => ?_); refine with_tabW majordomolaw07_CatalogFinds.tab9 majordomolaw07_CatalogFinds.bits9 (fun HT_ HW_ => ?_)
     generalize wr.drew = w25 at BK344 HB HR349_2 HR350_2 hx349_0 hx349_1 hx349_2 hx350_0 hx350_1 hx350_2 hHeld ⊢
     refine pure_ (i := 1) (N := some 34) (v := ?_) (a' := ?_) #[false, true, false, false, false, false, false, false, false, false, false, false, false, false, false, false] rfl rfl (any_of HT_.out (by kernel_rfl)) (fun _ _ _ h => h) (Or.inl ⟨by rfl, ?_⟩) ?_ ?_
     rotate_left
     · intro w'
       go_simp
       with_reducible rfl
     rotate_left
     · simp only [Act.put, zA, zZ, zS, i64_w, i32_w]
       rfl
     refine pure_ (i := 3) (N := some 36) (v := ?_) (a' := ?_) #[false, true, false, true, false, false, false, false, false, false, false, false, false, false, false, false] rfl rfl (any_of HT_.out (by kernel_rfl)) (fun _ _ _ h => h) (Or.inl ⟨by rfl, ?_⟩) ?_ ?_
     rotate_left
     · intro w'
       go_simp
       with_reducible rfl
     rotate_left
     · simp only [Act.put, zA, zZ, zS, i64_w, i32_w]
       rfl
     refine pure_ (i := 7) (N := some 40) (v := ?_) (a' := ?_) #[false, true, false, true, false, false, false, true, false, false, false, false, false, false, false, false] rfl rfl (any_of HT_.out (by kernel_rfl)) (fun _ _ _ h => h) (Or.inl ⟨by rfl, ?_⟩) ?_ ?_
     rotate_left
     · intro w'
       go_simp
       with_reducible rfl
     rotate_left
     · simp only [Act.put, zA, zZ, zS, i64_w, i32_w]
       rfl
     refine pure_ (i := 9) (N := some 42) (v := ?_) (a' := ?_) #[false, true, false, true, false, false, false, true, false, true, false, false, false, false, false, false] rfl rfl (any_of HT_.out (by kernel_rfl)) (fun _ _ _ h => h) (Or.inl ⟨by rfl, ?_⟩) ?_ ?_
     rotate_left
     · intro w'
       go_simp
       with_reducible rfl
     rotate_left
     · simp only [Act.put, zA, zZ, zS, i64_w, i32_w]
       rfl
     refine pure_ (i := 14) (N := some 47) (v := ?_) (a' := ?_) #[false, true, false, true, false, false, false, true, false, true, false, false, false, false, true, false] rfl rfl (any_of HT_.out (by kernel_rfl)) (fun _ _ _ h => h) (Or.inl ⟨by rfl, ?_⟩) ?_ ?_
     rotate_left
     · intro w'
       go_simp
       with_reducible rfl
     rotate_left
     · simp only [Act.put, zA, zZ, zS, i64_w, i32_w]
       rfl
     refine take_ (i := 0) (N := some 33) (v := ?_) (a' := ?_) #[true, true, false, true, false, false, false, true, false, true, false, false, false, false, true, false] rfl rfl (take_ofW HT_.out HW_.out (by kernel_rfl)) (fun _ _ _ h => h) (Or.inl ⟨by rfl, ?_⟩) hHeld ?_ ?_
     rotate_left
     · rintro w' ⟨s0, s1, s2, s3, s4, s5, s6, s7, s8, s9⟩
       go_simp
       with_reducible rfl
     rotate_left
     · simp only [Act.put, zA, zZ, zS, i64_w, i32_w]
       rfl
     refine take_ (i := 2) (N := some 35) (v := ?_) (a' := ?_) #[true, true, true, true, false, false, false, true, false, true, false, false, false, false, true, false] rfl rfl (take_ofW HT_.out HW_.out (by kernel_rfl)) (fun _ _ _ h => h) (Or.inl ⟨by rfl, ?_⟩) hHeld ?_ ?_
     rotate_left
     · rintro w' ⟨s0, s1, s2, s3, s4, s5, s6, s7, s8, s9⟩
       go_simp
       with_reducible rfl
     rotate_left
     · simp only [Act.put, zA, zZ, zS, i64_w, i32_w]
       rfl
     refine pure_ (i := 4) (N := some 37) (v := ?_) (a' := ?_) #[true, true, true, true, true, false, false, true, false, true, false, false, false, false, true, false] rfl rfl (any_of HT_.out (by kernel_rfl)) (fun _ _ _ h => h) (Or.inl ⟨by rfl, ?_⟩) ?_ ?_
     rotate_left
     · intro w'
       go_simp
       with_reducible rfl
     rotate_left
     · simp only [Act.put, zA, zZ, zS, i64_w, i32_w]
       rfl
     refine pure_ (i := 5) (N := some 38) (v := ?_) (a' := ?_) #[true, true, true, true, true, true, false, true, false, true, false, false, false, false, true, false] rfl rfl (any_of HT_.out (by kernel_rfl)) (fun _ _ _ h => h) (Or.inl ⟨by rfl, ?_⟩) ?_ ?_
     rotate_left
     · intro w'
       go_simp
       with_reducible rfl
     rotate_left
     · simp only [Act.put, zA, zZ, zS, i64_w, i32_w]
       rfl
     refine take_ (i := 6) (N := some 39) (v := ?_) (a' := ?_) #[true, true, true, true, true, true, true, true, false, true, false, false, false, false, true, false] rfl rfl (take_ofW HT_.out HW_.out (by kernel_rfl)) (fun _ _ _ h => h) (Or.inl ⟨by rfl, ?_⟩) hHeld ?_ ?_
     rotate_left
     · rintro w' ⟨s0, s1, s2, s3, s4, s5, s6, s7, s8, s9⟩
       go_simp
       with_reducible rfl
     rotate_left
     · simp only [Act.put, zA, zZ, zS, i64_w, i32_w]
       rfl
     refine take_ (i := 8) (N := some 41) (v := ?_) (a' := ?_) #[true, true, true, true, true, true, true, true, true, true, false, false, false, false, true, false] rfl rfl (take_ofW HT_.out HW_.out (by kernel_rfl)) (fun _ _ _ h => h) (Or.inl ⟨by rfl, ?_⟩) hHeld ?_ ?_
     rotate_left
     · rintro w' ⟨s0, s1, s2, s3, s4, s5, s6, s7, s8, s9⟩
       go_simp
       with_reducible rfl
     rotate_left
     · simp only [Act.put, zA, zZ, zS, i64_w, i32_w]
       rfl
     refine pure_ (i := 10) (N := some 43) (v := ?_) (a' := ?_) #[true, true, true, true, true, true, true, true, true, true, true, false, false, false, true, false] rfl rfl (any_of HT_.out (by kernel_rfl)) (fun _ _ _ h => h) (Or.inl ⟨by rfl, ?_⟩) ?_ ?_
     rotate_left
     · intro w'
       go_simp
       with_reducible rfl
     rotate_left
     · simp only [Act.put, zA, zZ, zS, i64_w, i32_w]
       rfl
     refine pure_ (i := 11) (N := some 44) (v := ?_) (a' := ?_) #[true, true, true, true, true, true, true, true, true, true, true, true, false, false, true, false] rfl rfl (any_of HT_.out (by kernel_rfl)) (fun _ _ _ h => h) (Or.inl ⟨by rfl, ?_⟩) ?_ ?_
     rotate_left
     · intro w'
       go_simp
       with_reducible rfl
     rotate_left
     · simp only [Act.put, zA, zZ, zS, i64_w, i32_w]
       rfl
     refine take_ (i := 12) (N := some 45) (v := ?_) (a' := ?_) #[true, true, true, true, true, true, true, true, true, true, true, true, true, false, true, false] rfl rfl (take_ofW HT_.out HW_.out (by kernel_rfl)) (fun _ _ _ h => h) (Or.inl ⟨by rfl, ?_⟩) hHeld ?_ ?_
     rotate_left
     · rintro w' ⟨s0, s1, s2, s3, s4, s5, s6, s7, s8, s9⟩
       go_simp
       with_reducible rfl
     rotate_left
     · simp only [Act.put, zA, zZ, zS, i64_w, i32_w]
       rfl
     refine one_ (i := 13) (N := some 46) #[true, true, true, true, true, true, true, true, true, true, true, true, true, true, true, false] rfl rfl (one_of HT_.out (by kernel_rfl)) (by decide) (fun K hK => ?_)
     refine goes_ Tryz.func25 (by kernel_rfl) rfl #[.agg #[.int .i64 a0_0, .string a0_1, .slice (some ad349) l0_2.length c0_2, .slice A0_3 l0_3.length c0_3], .string ((rd_T24 l0_2 x8_2).f0), .string ((rd_T24 l0_2 x8_2).f1)] (by rfl) rfl rfl (by (try simp only [List.map_toArray, List.map_cons, List.map_nil]); first | done | rfl | (simp only [List.length_drop, List.length_take]; rfl)) ?_
     with_reducible refine (catalog_Find.calls a0_0 a0_1 _ _ l0_2 _ _ l0_3 ((rd_T24 l0_2 x8_2).f0) ((rd_T24 l0_2 x8_2).f1) t351 _ ?side1 ?side2 ?side3 ?side4 A22.out).mono ?_
     (case side1 => repeat (first | exact (Kd.C_below HR0_2.out HB.out) | (with_reducible refine Kd.C_alloc ?_ _) | (with_reducible refine Kd.C_drewN ?_ _) | (with_reducible refine Kd.C_drew ?_)))
     (case side2 => exact HC0_2.out)
     (case side3 => repeat (first | exact (Kd.C_below HR0_3.out HB.out) | (with_reducible refine Kd.C_alloc ?_ _) | (with_reducible refine Kd.C_drewN ?_ _) | (with_reducible refine Kd.C_drew ?_)))
     (case side4 => exact HC0_3.out)
     rintro e w26 ⟨rfl, hb⟩
     refine ⟨_, rfl, ?_⟩
     have n0_ := As.mk (kB (g := gb344) (o := .cells #[.int .i64 a0_0, .string a0_1, .slice (some ad349) l0_2.length c0_2, .slice A0_3 l0_3.length c0_3] 37 (0, 0)) (by (with_reducible repeat (first | refine kN ?_ _ | refine kD ?_ | refine kA ?_ _)); exact BK344.out) hb)
     have n1_ := As.mk (bT (by repeat (first | (with_reducible first | exact HB.out | apply bA | apply bN | apply bD | refine bS ?_ GE344.out) | exact HB.out)) hb)
     clear BK344
     clear HB
     have BK344 := n0_
     have HB := n1_
     clear n0_ n1_
     (try clear hb)
     (try clear hb2)
     (try clear hk)
     (try clear hi)
     refine hK.out _ _ ⟨(kC BK344.out 0).trans rfl, (kC BK344.out 1).trans rfl, (kC BK344.out 2).trans rfl, (kC BK344.out 3).trans rfl, ((HB.out.cell (World.block_lt_of_cell? w _ hw349_0)).trans hw349_0), ((HB.out.cell (World.block_lt_of_cell? w _ hw349_1)).trans hw349_1), ((HB.out.cell (World.block_lt_of_cell? w _ hw349_2)).trans hw349_2), ((HB.out.cell (World.block_lt_of_cell? w _ hw350_0)).trans hw350_0), ((HB.out.cell (World.block_lt_of_cell? w _ hw350_1)).trans hw350_1), ((HB.out.cell (World.block_lt_of_cell? w _ hw350_2)).trans hw350_2)⟩ (fun hHeld => ?_)
     clear hK K
     refine norm_ (a' := ?_) ?_ ?_
     rotate_left
     · show Act.put _ (some 46) _ = _
       simp only [Act.put, zA, zZ, zS, i64_w, i32_w]
       rfl
     refine pure_ (i := 15) (N := some 48) (v := ?_) (a' := ?_) #[true, true, true, true, true, true, true, true, true, true, true, true, true, true, true, true] rfl rfl (any_of HT_.out (by kernel_rfl)) (fun _ _ _ h => h) (Or.inl ⟨by rfl, ?_⟩) ?_ ?_
     rotate_left
     · intro w'
       go_simp
       with_reducible rfl
     rotate_left
     · simp only [Act.put, zA, zZ, zS, i64_w, i32_w]
       rfl
     refine done_ (done_of HT_.out (by kernel_rfl)) ?_
     try go_wp2
     go_roundg k2
     case measure => have := HJ4.out; have := HK2.out; omega
     case rel => exact ⟨(wrap64 (x8_2 + 1)), (by first | rfl | (simp; done) | (simp [*]; done)), H', ⟨by have := HJ4.out; have := HK2.out; omega⟩, ⟨by (with_reducible repeat (first | refine kN ?_ _ | refine kD ?_ | refine kA ?_ _)); exact BK344.out⟩, ⟨by repeat (first | (with_reducible first | exact HB.out | apply bA | apply bN | apply bD | refine bS ?_ GE344.out) | exact HB.out)⟩⟩
end Go.Proofs.YtkgafkoopefghaaGreatDoor.PA
end
section
set_option linter.unusedVariables false
set_option linter.unusedSimpArgs false
namespace Go.Proofs.YtkgafkoopefghaaGreatDoor.PA
open Go.RowKit Go.Maps Go.WideMaps Go.Proofs.YtkgafkoopefghaaGreatDoor.Hk Go.Proofs.YtkgafkoopefghaaGreatDoorW.PrintWords
theorem less_iff (a b : S24) : lessS a b = true ↔ a.f0.toList < b.f0.toList ∨ (a.f0.toList = b.f0.toList ∧ a.f1.toList < b.f1.toList) := by
  unfold lessS
  by_cases c : a.f0.toList = b.f0.toList
  · rw [if_pos c, bytesLess_eq, decide_eq_true_iff]
    constructor
    · exact fun h => .inr ⟨c, h⟩
    · rintro (h | ⟨_, h⟩)
      · rw [c] at h; exact absurd h (List.lt_irrefl _)
      · exact h
  · rw [if_neg c, bytesLess_eq, decide_eq_true_iff]
    constructor
    · exact .inl
    · rintro (h | ⟨h, _⟩)
      · exact h
      · exact absurd h c
theorem less_trans {a b c : S24} (h : lessS a b = true) (k : lessS b c = true) : lessS a c = true := by
  rw [less_iff] at h k ⊢
  rcases h with h | ⟨h1, h2⟩
  · rcases k with k | ⟨k1, _⟩
    · exact .inl (List.lt_trans h k)
    · exact .inl (by rw [← k1]; exact h)
  · rcases k with k | ⟨k1, k2⟩
    · exact .inl (by rw [h1]; exact k)
    · exact .inr ⟨h1.trans k1, List.lt_trans h2 k2⟩
theorem less_rise {R : List S24} (h : ∀ j, j < R.length → stepC R j = none) : ∀ (d i : Nat), i + d + 1 < R.length → lessS (rd_T24 R (i : Int)) (rd_T24 R ((i + d + 1 : Nat) : Int)) = true
  | 0, i, hi => by have := (stepC_none (h (i + 1) hi)).2.2 (by omega); exact this
  | d + 1, i, hi => less_trans (less_rise h d i (by omega)) (by have := (stepC_none (h (i + (d + 1) + 1) hi)).2.2 (by omega); exact this)
theorem find_self {R : List S24} (h : ∀ j, j < R.length → stepC R j = none) {i : Nat} (hi : i < R.length) : idxS (findP (rd_T24 R (i : Int)).f0 (rd_T24 R (i : Int)).f1) R = (i : Int) := by
  refine idxS_some hi (by unfold findP; simp) (fun j hj => ?_)
  obtain ⟨d, rfl⟩ : ∃ d, i = j + d + 1 := ⟨i - j - 1, by omega⟩
  have hl := (less_iff _ _).1 (less_rise h d j hi)
  rw [Bool.eq_false_iff]
  intro he
  unfold findP at he
  simp only [Bool.and_eq_true, beq_iff_eq] at he
  rcases hl with hl | ⟨_, hl⟩
  · rw [he.1] at hl; exact List.lt_irrefl _ hl
  · rw [he.2] at hl; exact List.lt_irrefl _ hl
theorem reffind_ev {v : Int} {node : ByteArray} {R : List S24} {E : List S50} (a b : ByteArray) (hR : R.length < 2147483648) : ∀ (d i : Nat), i + d = R.length → (∀ j : Nat, j < i → findP a b (rd_T24 R (j : Int)) = false) → Ev (fun k => majordomoref07_Find.l0 k a b (i : Int) v node R E) (idxS (findP a b) R)
  | 0, i, hd, hn => by
    refine Ev.step (f := fun _ => some (-1)) (fun k => ?_) ?_
    · rw [majordomoref07_Find.l0, if_neg (by omega)]
    · rw [idxS_none (fun j hj => hn j (by omega))]
      exact Ev.now _
  | d + 1, i, hd, hn => by
    have hi : i < R.length := by omega
    refine Ev.step (f := fun k => (if ((rd_T24 R i).f0).toList = a.toList then (if ((rd_T24 R i).f1).toList = b.toList then (some (i : Int)) else (majordomoref07_Find.l0 k a b (wrap64 ((i : Int) + 1)) v node R E)) else (majordomoref07_Find.l0 k a b (wrap64 ((i : Int) + 1)) v node R E))) (fun k => ?_) ?_
    · rw [majordomoref07_Find.l0, if_pos (by omega), if_pos (by omega)]
    · rw [show wrap64 ((i : Int) + 1) = ((i + 1 : Nat) : Int) from by unfold wrap64; omega]
      have next : findP a b (rd_T24 R (i : Int)) = false → Ev (fun k => majordomoref07_Find.l0 k a b ((i + 1 : Nat) : Int) v node R E) (idxS (findP a b) R) := fun hf => reffind_ev a b hR d (i + 1) (by omega) (fun j hj => by
        by_cases e : j = i
        · subst e; exact hf
        · exact hn j (by omega))
      by_cases c0 : ((rd_T24 R i).f0).toList = a.toList
      rotate_left
      · simp only [if_neg c0]
        exact next (by unfold findP; rw [beq_eq_false_iff_ne.2 c0]; rfl)
      by_cases c1 : ((rd_T24 R i).f1).toList = b.toList
      rotate_left
      · simp only [if_pos c0, if_neg c1]
        exact next (by unfold findP; rw [beq_eq_false_iff_ne.2 c1, Bool.and_false])
      simp only [if_pos c0, if_pos c1]
      rw [idxS_some hi (by unfold findP; rw [beq_iff_eq.2 c0, beq_iff_eq.2 c1]; rfl) hn]
      exact Ev.now _
theorem finds_l0 {v : Int} {node : ByteArray} {R : List S24} {E : List S50} (hR : R.length < 2147483648) (h : ∀ j, j < R.length → stepC R j = none) : ∀ (d i : Nat), i + d = R.length → Ev (fun k => majordomolaw07_CatalogFinds.l0 k (i : Int) v node R E) true
  | 0, i, hd => by
    refine Ev.step (f := fun _ => some true) (fun k => ?_) (Ev.now _)
    rw [majordomolaw07_CatalogFinds.l0, if_neg (by omega)]
  | d + 1, i, hd => by
    have hi : i < R.length := by omega
    have hf : ∀ a b, catalog_Find.f v node R E a b = some (idxS (findP a b) R) := fun a b => by unfold catalog_Find.f; rw [if_pos (by omega)]
    refine Ev.step (f := fun k => majordomolaw07_CatalogFinds.l0 k ((i + 1 : Nat) : Int) v node R E) (fun k => ?_) (finds_l0 hR h d (i + 1) (by omega))
    rw [majordomolaw07_CatalogFinds.l0, if_pos (by omega), if_pos (by omega), hf, Option.bind_some, find_self h hi, if_pos rfl, show wrap64 ((i : Int) + 1) = ((i + 1 : Nat) : Int) from by unfold wrap64; omega]
theorem law_finds (v : Int) (node : ByteArray) (R : List S24) (E : List S50) (a b : ByteArray) (hfit : fitC v node R E = true) : ∃ k, majordomolaw07_CatalogFinds.f k v node R E a b = some true := by
  have hR := (fitC_out hfit).2.2.1
  have hf : catalog_Find.f v node R E a b = some (idxS (findP a b) R) := by unfold catalog_Find.f; rw [if_pos (by omega)]
  refine Ev.rounds ?_
  unfold majordomolaw07_CatalogFinds.f majordomolaw07_shown.f majordomoref07_Find.f
  rw [hf]
  simp only [Option.bind_some, if_true]
  refine Ev.bind (reffind_ev a b hR R.length 0 (by omega) (fun j hj => by omega)) ?_
  have e : (idxS (findP a b) R != idxS (findP a b) R) = false := by simp
  rw [e]
  refine Ev.step (f := fun k => (catalog_Check.f k v node R E).bind fun t362 => (if t362 = 0 then (majordomolaw07_CatalogFinds.l0 k 0 v node R E) else (some true))) (fun k => ?_) ?_
  · rw [majordomolaw07_CatalogFinds.j0, if_neg (by decide)]
  · refine Ev.bind (check_ev hfit) ?_
    by_cases c : checkC v node R E = 0
    · simp only [if_pos c]
      exact finds_l0 hR (checkC_zero c).2.2.2.2.2.1 R.length 0 (by omega)
    · simp only [if_neg c]
      exact Ev.now _
end Go.Proofs.YtkgafkoopefghaaGreatDoor.PA
end
