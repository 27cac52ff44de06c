/- The law ResourceEnsures (chapter 06): a resource that is absent, or a service, has no parameter but its ensure: true of every input whose reading is of bulk at most 1048576, and the input reads behind the call as it read before. Conditions: the statement's own bound, and its two tables of unicode/utf8 as the program's text lays them (tied by the card). -/
import Derived.Test.YtkgafkoopefghaaDoorRe26
import Derived.Deep.RegionHeld3
import Derived.WalkSmall
import Derived.Deep.QuietTactic
import Derived.BigQuiet
import Derived.Test.YtkgafkoopefghaaDoorRe5
section
set_option linter.unusedVariables false
set_option linter.unusedSimpArgs false
namespace Go.Proofs.YtkgafkoopefghaaDoor.PA
open Go.RowKit Go.Maps Go.WideMaps Go.Proofs.YtkgafkoopefghaaDoor.Hk Go.Proofs.YtkgafkoopefghaaDoorW.PrintWords Go.Proofs.YtkgafkoopefghaaDoorW.PrintLast
attribute [local go_sem] run_store_func run_store_nilFunc
set_option maxRecDepth 100000 in
set_option maxHeartbeats 16000000 in
theorem full_main_t (a0_0 a0_1 : ByteArray) (A0_2 : Option Addr) (c0_2 : Nat) (l0_2 : List (S34)) (w : World) (hU : UtfOk w) (hr0_2 : Kd.C k34 w A0_2 l0_2.length l0_2) (hc0_2 : l0_2.length ≤ c0_2) (hlen : l0_2.length < 2147483648) (first : ByteArray) (specs : List (ByteArray × List (ByteArray × RuleD))) (h : shapesD a0_0 = some (first, specs)) (hs : a0_1.size < 2147483648) (ht : titleS a0_0 a0_1 = true) (r1 : ByteArray) (hget : toldR (getS l0_2 ensB) = (r1, true)) (ens : ByteArray) (he : ens = r1) (hes : ens.size < 2147483648) (hfit : fitP l0_2 = true) (rs : List (ByteArray × RuleD)) (hn : findK specs ens = some rs) :
    Calls Tryd.prog 8 #[.agg #[.string a0_0, .string a0_1, .slice A0_2 l0_2.length c0_2]] w (fun e w' => (okP rs l0_2 = false ∧ Refused w 62 e w') ∨ (okP rs l0_2 = true ∧ ((lacks ens l0_2 rs = true ∧ Refused w 62 e w') ∨ (lacks ens l0_2 rs = false ∧ ∃ v2_ : Value, e = .returned (.tuple #[.agg #[.string a0_0, .string a0_1, v2_], .int .i64 0]) ∧ Kd.R k34 34 w' w.heap.size (fun _ => True) v2_ (outS ens l0_2 rs) ∧ Below w.heap.size w w')))) := by
  have hu24 := Tryd.underlying24
  have HS := Aside0.mk h
  have HU := Aside0.mk hU
  have HR := Aside0.mk hr0_2
  have HC := Aside0.mk hc0_2
  have HTY := Aside0.mk (tidy_shapes h).1
  have hf := title_f a0_0 a0_1 hs
  rw [ht] at hf
  have HTI := Aside0.mk (fun w hw => resource_title.calls a0_0 a0_1 true w hf hw)
  have hg := get_f a0_0 a0_1 ensB l0_2 (by omega)
  rw [hget] at hg
  have HG := Aside0.mk hg
  have HES := Aside0.mk hes
  have hq1 := eqlNil
  have hq2 := eqlSome
  have HB := Aside0.mk (Below.refl w.heap.size w)
  have HN := Aside0.mk hn
  have HTR := Aside0.mk (tidy_row (tidy_shapes h).1 hn)
  have HFIT := Aside0.mk hfit
  have hmm := @run_makeMap Tryd.prog
  have hu31 := Tryd.underlying34
  have hu68 := Tryd.underlying52
  have hu64 := Tryd.underlying48
  have hfd := field_told
  clear h hU hf ht hg hn hr0_2 hc0_2 hget hes hfit
  · obtain rfl : ens = r1 := he
    go_enter Tryd.func8, Tryd.ntmps8
    go_wp2_with (first | ((with_reducible refine gate_dst (N := 1) rfl ?_); refine box_event ?hg (N := 1) ?hd (cs := #[.string a0_0, .string a0_1, .slice A0_2 l0_2.length c0_2]) (t := 24) ?hr ?_; (case hd => rfl); (case hg => rfl); (case hr => first | (go_simp; done) | (go_simp; rfl)); intro g1 hg w1 hbox hb; have GEg1 := Aside0.mk ((by rw [hg]; exact (below_size (by repeat (first | (with_reducible first | exact HB.out | apply below_alloc | apply pw_below_drewN | apply below_drew1) | exact HB.out))) : w.heap.size ≤ g1)); have nB_ := Aside0.mk (below_step (by repeat (first | (with_reducible first | exact HB.out | apply below_alloc | apply pw_below_drewN | apply below_drew1) | exact HB.out)) hb); clear HB; have HB := nB_; clear nB_; have BKg1 := Aside0.mk hbox; clear hb hbox hg; have c1_g1_0 : w1.cell? ⟨g1, 0, none⟩ = some (.string a0_0) := (blk_cell BKg1.out 0).trans rfl; have f1_g1_0 := blk_frozen BKg1.out 0; have c1_g1_1 : w1.cell? ⟨g1, 1, none⟩ = some (.string a0_1) := (blk_cell BKg1.out 1).trans rfl; have f1_g1_1 := blk_frozen BKg1.out 1; have c1_g1_2 : w1.cell? ⟨g1, 2, none⟩ = some (.slice A0_2 l0_2.length c0_2) := (blk_cell BKg1.out 2).trans rfl; have f1_g1_2 := blk_frozen BKg1.out 2) | ((with_reducible refine gate_dst (N := 2) rfl ?_); refine box_event ?hg (N := 2) ?hd (cs := #[.string (⟨#[]⟩ : ByteArray), .string (⟨#[]⟩ : ByteArray), .slice none 0 0]) (t := 24) ?hr ?_; (case hd => rfl); (case hg => rfl); (case hr => first | (go_simp; done) | (go_simp; rfl)); intro g2 hg w2 hbox hb; have NEg1_g2 := Aside0.mk ((by rw [hg]; exact Nat.ne_of_lt (blk_lt (w := _) BKg1.out)) : g1 ≠ g2); have GEg2 := Aside0.mk ((by rw [hg]; exact (below_size (by repeat (first | (with_reducible first | exact HB.out | apply below_alloc | apply pw_below_drewN | apply below_drew1 | refine below_set ?_ GEg1.out) | exact HB.out))) : w.heap.size ≤ g2)); have ng1_ := Aside0.mk (blk_below (g := g1) (o := .cells #[.string a0_0, .string a0_1, .slice A0_2 l0_2.length c0_2] 24 (0, 0)) (by (with_reducible repeat (first | refine blk_drewN ?_ _ | refine blk_drew ?_ | refine blk_alloc ?_ _)); exact BKg1.out) hb); have nB_ := Aside0.mk (below_step (by repeat (first | (with_reducible first | exact HB.out | apply below_alloc | apply pw_below_drewN | apply below_drew1 | refine below_set ?_ GEg1.out) | exact HB.out)) hb); clear BKg1; have BKg1 := ng1_; clear ng1_; clear HB; have HB := nB_; clear nB_; have BKg2 := Aside0.mk hbox; clear hb hbox hg; have c2_g1_0 : w2.cell? ⟨g1, 0, none⟩ = some (.string a0_0) := (blk_cell BKg1.out 0).trans rfl; have f2_g1_0 := blk_frozen BKg1.out 0; have c2_g1_1 : w2.cell? ⟨g1, 1, none⟩ = some (.string a0_1) := (blk_cell BKg1.out 1).trans rfl; have f2_g1_1 := blk_frozen BKg1.out 1; have c2_g1_2 : w2.cell? ⟨g1, 2, none⟩ = some (.slice A0_2 l0_2.length c0_2) := (blk_cell BKg1.out 2).trans rfl; have f2_g1_2 := blk_frozen BKg1.out 2; have c2_g2_0 : w2.cell? ⟨g2, 0, none⟩ = some (.string (⟨#[]⟩ : ByteArray)) := (blk_cell BKg2.out 0).trans rfl; have f2_g2_0 := blk_frozen BKg2.out 0; have c2_g2_1 : w2.cell? ⟨g2, 1, none⟩ = some (.string (⟨#[]⟩ : ByteArray)) := (blk_cell BKg2.out 1).trans rfl; have f2_g2_1 := blk_frozen BKg2.out 1; have c2_g2_2 : w2.cell? ⟨g2, 2, none⟩ = some (.slice none 0 0) := (blk_cell BKg2.out 2).trans rfl; have f2_g2_2 := blk_frozen BKg2.out 2) | (go_at_call 17; refine (shapes_some HS.out _).mono ?_; rintro e w3 ⟨b, hi, rfl, hst⟩; have hb := hst.below; have ng1_ := Aside0.mk (blk_below (g := g1) (o := .cells #[.string a0_0, .string a0_1, .slice A0_2 l0_2.length c0_2] 24 (0, 0)) (by (with_reducible repeat (first | refine blk_drewN ?_ _ | refine blk_drew ?_ | refine blk_alloc ?_ _)); exact BKg1.out) hb); have ng2_ := Aside0.mk (blk_below (g := g2) (o := .cells #[.string (⟨#[]⟩ : ByteArray), .string (⟨#[]⟩ : ByteArray), .slice none 0 0] 24 (0, 0)) (by (with_reducible repeat (first | refine blk_drewN ?_ _ | refine blk_drew ?_ | refine blk_alloc ?_ _)); exact BKg2.out) hb); have nB_ := Aside0.mk (below_step (by repeat (first | (with_reducible first | exact HB.out | apply below_alloc | apply pw_below_drewN | apply below_drew1 | refine below_set ?_ GEg1.out | refine below_set ?_ GEg2.out) | exact HB.out)) hb); clear BKg1; have BKg1 := ng1_; clear ng1_; clear BKg2; have BKg2 := ng2_; clear ng2_; clear HB; have HB := nB_; clear nB_; have HST := Aside0.mk hst; clear hst; clear hb; have c3_g1_0 : w3.cell? ⟨g1, 0, none⟩ = some (.string a0_0) := (blk_cell BKg1.out 0).trans rfl; have f3_g1_0 := blk_frozen BKg1.out 0; have c3_g1_1 : w3.cell? ⟨g1, 1, none⟩ = some (.string a0_1) := (blk_cell BKg1.out 1).trans rfl; have f3_g1_1 := blk_frozen BKg1.out 1; have c3_g1_2 : w3.cell? ⟨g1, 2, none⟩ = some (.slice A0_2 l0_2.length c0_2) := (blk_cell BKg1.out 2).trans rfl; have f3_g1_2 := blk_frozen BKg1.out 2; have c3_g2_0 : w3.cell? ⟨g2, 0, none⟩ = some (.string (⟨#[]⟩ : ByteArray)) := (blk_cell BKg2.out 0).trans rfl; have f3_g2_0 := blk_frozen BKg2.out 0; have c3_g2_1 : w3.cell? ⟨g2, 1, none⟩ = some (.string (⟨#[]⟩ : ByteArray)) := (blk_cell BKg2.out 1).trans rfl; have f3_g2_1 := blk_frozen BKg2.out 1; have c3_g2_2 : w3.cell? ⟨g2, 2, none⟩ = some (.slice none 0 0) := (blk_cell BKg2.out 2).trans rfl; have f3_g2_2 := blk_frozen BKg2.out 2) | (go_at_call 18; refine (HTI.out _ (UtfOk.of_below HU.out ((by repeat (first | (with_reducible first | exact HB.out | apply below_alloc | apply pw_below_drewN | apply below_drew1 | refine below_set ?_ GEg1.out | refine below_set ?_ GEg2.out) | exact HB.out))))).mono ?_; rintro e w4 ⟨rfl, hb⟩; have ng1_ := Aside0.mk (blk_below (g := g1) (o := .cells #[.string a0_0, .string a0_1, .slice A0_2 l0_2.length c0_2] 24 (0, 0)) (by (with_reducible repeat (first | refine blk_drewN ?_ _ | refine blk_drew ?_ | refine blk_alloc ?_ _)); exact BKg1.out) hb); have ng2_ := Aside0.mk (blk_below (g := g2) (o := .cells #[.string (⟨#[]⟩ : ByteArray), .string (⟨#[]⟩ : ByteArray), .slice none 0 0] 24 (0, 0)) (by (with_reducible repeat (first | refine blk_drewN ?_ _ | refine blk_drew ?_ | refine blk_alloc ?_ _)); exact BKg2.out) hb); have nB_ := Aside0.mk (below_step (by repeat (first | (with_reducible first | exact HB.out | apply below_alloc | apply pw_below_drewN | apply below_drew1 | refine below_set ?_ GEg1.out | refine below_set ?_ GEg2.out) | exact HB.out)) hb); clear BKg1; have BKg1 := ng1_; clear ng1_; clear BKg2; have BKg2 := ng2_; clear ng2_; clear HB; have HB := nB_; clear nB_; have HST2 := Aside0.mk (St.later HST.out hb); clear HST; have HST := HST2; clear HST2; clear hb; have c4_g1_0 : w4.cell? ⟨g1, 0, none⟩ = some (.string a0_0) := (blk_cell BKg1.out 0).trans rfl; have f4_g1_0 := blk_frozen BKg1.out 0; have c4_g1_1 : w4.cell? ⟨g1, 1, none⟩ = some (.string a0_1) := (blk_cell BKg1.out 1).trans rfl; have f4_g1_1 := blk_frozen BKg1.out 1; have c4_g1_2 : w4.cell? ⟨g1, 2, none⟩ = some (.slice A0_2 l0_2.length c0_2) := (blk_cell BKg1.out 2).trans rfl; have f4_g1_2 := blk_frozen BKg1.out 2; have c4_g2_0 : w4.cell? ⟨g2, 0, none⟩ = some (.string (⟨#[]⟩ : ByteArray)) := (blk_cell BKg2.out 0).trans rfl; have f4_g2_0 := blk_frozen BKg2.out 0; have c4_g2_1 : w4.cell? ⟨g2, 1, none⟩ = some (.string (⟨#[]⟩ : ByteArray)) := (blk_cell BKg2.out 1).trans rfl; have f4_g2_1 := blk_frozen BKg2.out 1; have c4_g2_2 : w4.cell? ⟨g2, 2, none⟩ = some (.slice none 0 0) := (blk_cell BKg2.out 2).trans rfl; have f4_g2_2 := blk_frozen BKg2.out 2) | (go_at_call 11; refine (resource_Get.calls _ a0_0 a0_1 A0_2 c0_2 l0_2 _ _ _ _ (Kd.C_below HR.out (by repeat (first | (with_reducible first | exact HB.out | apply below_alloc | apply pw_below_drewN | apply below_drew1 | refine below_set ?_ GEg1.out | refine below_set ?_ GEg2.out) | exact HB.out))) HC.out HG.out).mono ?_; rintro e w5 ⟨rfl, hb⟩; have ng1_ := Aside0.mk (blk_below (g := g1) (o := .cells #[.string a0_0, .string a0_1, .slice A0_2 l0_2.length c0_2] 24 (0, 0)) (by (with_reducible repeat (first | refine blk_drewN ?_ _ | refine blk_drew ?_ | refine blk_alloc ?_ _)); exact BKg1.out) hb); have ng2_ := Aside0.mk (blk_below (g := g2) (o := .cells #[.string (⟨#[]⟩ : ByteArray), .string (⟨#[]⟩ : ByteArray), .slice none 0 0] 24 (0, 0)) (by (with_reducible repeat (first | refine blk_drewN ?_ _ | refine blk_drew ?_ | refine blk_alloc ?_ _)); exact BKg2.out) hb); have nB_ := Aside0.mk (below_step (by repeat (first | (with_reducible first | exact HB.out | apply below_alloc | apply pw_below_drewN | apply below_drew1 | refine below_set ?_ GEg1.out | refine below_set ?_ GEg2.out) | exact HB.out)) hb); clear BKg1; have BKg1 := ng1_; clear ng1_; clear BKg2; have BKg2 := ng2_; clear ng2_; clear HB; have HB := nB_; clear nB_; have HST2 := Aside0.mk (St.later HST.out hb); clear HST; have HST := HST2; clear HST2; clear hb; have c5_g1_0 : w5.cell? ⟨g1, 0, none⟩ = some (.string a0_0) := (blk_cell BKg1.out 0).trans rfl; have f5_g1_0 := blk_frozen BKg1.out 0; have c5_g1_1 : w5.cell? ⟨g1, 1, none⟩ = some (.string a0_1) := (blk_cell BKg1.out 1).trans rfl; have f5_g1_1 := blk_frozen BKg1.out 1; have c5_g1_2 : w5.cell? ⟨g1, 2, none⟩ = some (.slice A0_2 l0_2.length c0_2) := (blk_cell BKg1.out 2).trans rfl; have f5_g1_2 := blk_frozen BKg1.out 2; have c5_g2_0 : w5.cell? ⟨g2, 0, none⟩ = some (.string (⟨#[]⟩ : ByteArray)) := (blk_cell BKg2.out 0).trans rfl; have f5_g2_0 := blk_frozen BKg2.out 0; have c5_g2_1 : w5.cell? ⟨g2, 1, none⟩ = some (.string (⟨#[]⟩ : ByteArray)) := (blk_cell BKg2.out 1).trans rfl; have f5_g2_1 := blk_frozen BKg2.out 1; have c5_g2_2 : w5.cell? ⟨g2, 2, none⟩ = some (.slice none 0 0) := (blk_cell BKg2.out 2).trans rfl; have f5_g2_2 := blk_frozen BKg2.out 2) | ((with_reducible refine gate_look rfl ?_); refine look_row_some HST.out HTY.out rfl _ _ rfl rfl _ rfl HES.out HN.out ?_; intro bi ni li hin hn8 hka; have HIN := Aside0.mk hin; have HN8 := Aside0.mk hn8; have HKA := Aside0.mk hka; clear hin hn8 hka) | ((with_reducible refine gate_insert rfl ?_); refine wpList_insert_held _ rfl _ _ _ 49 rfl 9 48 Tryd.underlying9 Tryd.underlying49 w5.heap.size 0 (.map []) ?_ (World.ownsMap_made _ _ _ _) (by decide) ensB _ rfl rfl (by decide) ?_; (focus (first | rfl | (go_simp; done) | (simp; done))); intro W0 ho hg; have HL := Aside0.mk (LI.start (a0_0 := a0_0) (a0_1 := a0_1) (A0_2 := A0_2) (c0_2 := c0_2) (l0_2 := l0_2) HB.out BKg1.out BKg2.out GEg1.out GEg2.out HIN.out HN8.out ho hg); have HKR := Aside0.mk (start_kept hg HKA.out); clear ho hg HST HB BKg1 BKg2 HIN HKA; have cs1 := (blk_cell HL.out.k1 2).trans rfl))
    go_loopg [63] l0_2.length (fun kq v63 wr => ∃ i : Nat, v63 = .int .i64 i ∧ Aside0 (i + kq = l0_2.length) ∧ Aside0 (∀ j : Nat, j < i → stepOk rs l0_2 j = true) ∧ Aside0 (LI w W0 wr g1 g2 a0_0 a0_1 A0_2 c0_2 l0_2 bi ni li (w5.heap.size) (i + 1) (toldD ens (l0_2.take i))))
    case atStart => exact ⟨0, rfl, ⟨by omega⟩, ⟨fun j hj => by omega⟩, HL⟩
    case round =>
      obtain ⟨i, rfl, HK, HA, HL⟩ := hrel
      by_cases hlt : i < l0_2.length
      · have hlt' : (i : Int) < (l0_2.length : Int) := by omega
        obtain ⟨ad, ead, hx0, hx1⟩ := at_T34 (Kd.C_below HR.out HL.out.below) (i : Int) (by omega) hlt'
        cases ead
        simp only [Int.toNat_natCast] at hx0 hx1
        have hns := fit_at HFIT.out hlt
        have hsn := take_rd hlt
        obtain ⟨p, hp⟩ : ∃ p, rd_T34 l0_2 (i : Int) = p := ⟨_, rfl⟩
        rw [hp] at hx0 hx1 hns hsn
        have HP := Aside0.mk hp
        have HSN := Aside0.mk hsn
        clear hp hsn
        obtain ⟨nm, vl⟩ := p
        simp only [] at hx0 hx1 hns
        have HNS := Aside0.mk hns
        clear hns
        have cr2 := (blk_cell HL.out.k1 2).trans rfl
        cases be : (nm.toList == ([101, 110, 115, 117, 114, 101] : List UInt8)) with
        | true =>
          have be2 : (nm.toList != ([101, 110, 115, 117, 114, 101] : List UInt8)) = false := by rw [bne, be]; rfl
          have HE := Aside0.mk be
          have HF := Aside0.mk ((by rw [ens_eq be]; exact HTR.out.2.1) : findK rs nm = none)
          go_wp2_with (first | ((with_reducible refine gate_dst (N := 12) rfl ?_); refine box_event ?hg (N := 12) ?hd (cs := #[.string (⟨#[]⟩ : ByteArray), .string (⟨#[]⟩ : ByteArray)]) (t := 34) ?hr ?_; (case hd => rfl); (case hg => rfl); (case hr => first | (go_simp; done) | (go_simp; rfl)); intro gp hg w6 hbox hb; have GEgp := Aside0.mk ((by rw [hg]; exact HL.out.size) : W0.heap.size ≤ gp); have nL_ := Aside0.mk (LI.later HL.out hb); clear HL; have HL := nL_; clear nL_; have BKgp := Aside0.mk hbox; clear hb hbox hg; have c6_gp_0 : w6.cell? ⟨gp, 0, none⟩ = some (.string (⟨#[]⟩ : ByteArray)) := (blk_cell BKgp.out 0).trans rfl; have f6_gp_0 := blk_frozen BKgp.out 0; have c6_gp_1 : w6.cell? ⟨gp, 1, none⟩ = some (.string (⟨#[]⟩ : ByteArray)) := (blk_cell BKgp.out 1).trans rfl; have f6_gp_1 := blk_frozen BKgp.out 1) | ((with_reducible refine gate_store (t := 34) (p := 12) rfl ?_); refine store_event (t := 34) (p := 12) (v := ?vo7) (w1 := ?wo7) ?hg ?ho ?hn ?hr ?_; (case ho => rfl); (case hg => rfl); (case hn => rfl); (case hr => first | (go_simp; done) | (go_simp; rfl)); intro w7 hw; have ngp_ := Aside0.mk ((by rw [hw]; refine blk_put (cs := #[(.string nm), .string (⟨#[]⟩ : ByteArray)]) ?_ 1 _ rfl; refine blk_put (cs := #[.string (⟨#[]⟩ : ByteArray), .string (⟨#[]⟩ : ByteArray)]) ?_ 0 _ rfl; (with_reducible repeat (first | refine blk_drewN ?_ _ | refine blk_drew ?_ | refine blk_alloc ?_ _)); exact BKgp.out) : w7.heap[gp]? = some (.cells #[(.string nm), (.string vl)] 34 (0, 0))); have nL_ := Aside0.mk (LI.set (i := 1) (v := (.string vl)) (LI.set (i := 0) (v := (.string nm)) (HL.out) (BKgp.out) GEgp.out) (blk_put (cs' := #[(.string nm), .string (⟨#[]⟩ : ByteArray)]) (BKgp.out) 0 ((.string nm)) rfl) GEgp.out); rw [← hw] at nL_; clear BKgp; have BKgp := ngp_; clear ngp_; clear HL; have HL := nL_; clear nL_; clear hw; have c7_gp_0 : w7.cell? ⟨gp, 0, none⟩ = some ((.string nm)) := (blk_cell BKgp.out 0).trans rfl; have f7_gp_0 := blk_frozen BKgp.out 0; have c7_gp_1 : w7.cell? ⟨gp, 1, none⟩ = some ((.string vl)) := (blk_cell BKgp.out 1).trans rfl; have f7_gp_1 := blk_frozen BKgp.out 1) | ((with_reducible refine gate_look rfl ?_); refine look_rule_none HL.out.inner HKR.out HTR.out.1 rfl _ _ rfl rfl nm rfl HNS.out.1 HF.out ?_) | ((with_reducible refine gate_dst (N := 13) rfl ?_); refine box_event ?hg (N := 13) ?hd (cs := #[.string (⟨#[]⟩ : ByteArray), .bool false, .nilFunc]) (t := 52) ?hr ?_; (case hd => rfl); (case hg => rfl); (case hr => first | (go_simp; done) | (go_simp; rfl)); intro gx hg w8 hbox hb; have NEgp_gx := Aside0.mk ((by rw [hg]; exact Nat.ne_of_lt (blk_lt (w := _) BKgp.out)) : gp ≠ gx); have GEgx := Aside0.mk ((by rw [hg]; exact HL.out.size) : W0.heap.size ≤ gx); have ngp_ := Aside0.mk (blk_below (g := gp) (o := .cells #[(.string nm), (.string vl)] 34 (0, 0)) (by (with_reducible repeat (first | refine blk_drewN ?_ _ | refine blk_drew ?_ | refine blk_alloc ?_ _)); exact BKgp.out) hb); have nL_ := Aside0.mk (LI.later HL.out hb); clear BKgp; have BKgp := ngp_; clear ngp_; clear HL; have HL := nL_; clear nL_; have BKgx := Aside0.mk hbox; clear hb hbox hg; have c8_gp_0 : w8.cell? ⟨gp, 0, none⟩ = some ((.string nm)) := (blk_cell BKgp.out 0).trans rfl; have f8_gp_0 := blk_frozen BKgp.out 0; have c8_gp_1 : w8.cell? ⟨gp, 1, none⟩ = some ((.string vl)) := (blk_cell BKgp.out 1).trans rfl; have f8_gp_1 := blk_frozen BKgp.out 1; have c8_gx_0 : w8.cell? ⟨gx, 0, none⟩ = some (.string (⟨#[]⟩ : ByteArray)) := (blk_cell BKgx.out 0).trans rfl; have f8_gx_0 := blk_frozen BKgx.out 0; have c8_gx_1 : w8.cell? ⟨gx, 1, none⟩ = some (.bool false) := (blk_cell BKgx.out 1).trans rfl; have f8_gx_1 := blk_frozen BKgx.out 1; have c8_gx_2 : w8.cell? ⟨gx, 2, none⟩ = some (.nilFunc) := (blk_cell BKgx.out 2).trans rfl; have f8_gx_2 := blk_frozen BKgx.out 2) | ((with_reducible refine gate_store (t := 52) (p := 13) rfl ?_); refine store_event (t := 52) (p := 13) (v := ?vo9) (w1 := ?wo9) ?hg ?ho ?hn ?hr ?_; (case ho => rfl); (case hg => rfl); (case hn => rfl); (case hr => first | (go_simp; done) | (go_simp; rfl)); intro w9 hw; have ngp_ := Aside0.mk ((by rw [hw]; (repeat refine blk_far ?_ NEgp_gx.out _); (with_reducible repeat (first | refine blk_drewN ?_ _ | refine blk_drew ?_ | refine blk_alloc ?_ _)); exact BKgp.out) : w9.heap[gp]? = some (.cells #[(.string nm), (.string vl)] 34 (0, 0))); have ngx_ := Aside0.mk ((by rw [hw]; refine blk_put (cs := #[(.string (⟨#[]⟩ : ByteArray)), (.bool false), .nilFunc]) ?_ 2 _ rfl; refine blk_put (cs := #[(.string (⟨#[]⟩ : ByteArray)), .bool false, .nilFunc]) ?_ 1 _ rfl; refine blk_put (cs := #[.string (⟨#[]⟩ : ByteArray), .bool false, .nilFunc]) ?_ 0 _ rfl; (with_reducible repeat (first | refine blk_drewN ?_ _ | refine blk_drew ?_ | refine blk_alloc ?_ _)); exact BKgx.out) : w9.heap[gx]? = some (.cells #[(.string (⟨#[]⟩ : ByteArray)), (.bool false), .nilFunc] 52 (0, 0))); have nL_ := Aside0.mk (LI.set (i := 2) (v := .nilFunc) (LI.set (i := 1) (v := (.bool false)) (LI.set (i := 0) (v := (.string (⟨#[]⟩ : ByteArray))) (HL.out) (BKgx.out) GEgx.out) (blk_put (cs' := #[(.string (⟨#[]⟩ : ByteArray)), .bool false, .nilFunc]) (BKgx.out) 0 ((.string (⟨#[]⟩ : ByteArray))) rfl) GEgx.out) (blk_put (cs' := #[(.string (⟨#[]⟩ : ByteArray)), (.bool false), .nilFunc]) (blk_put (cs' := #[(.string (⟨#[]⟩ : ByteArray)), .bool false, .nilFunc]) (BKgx.out) 0 ((.string (⟨#[]⟩ : ByteArray))) rfl) 1 ((.bool false)) rfl) GEgx.out); rw [← hw] at nL_; clear BKgp; have BKgp := ngp_; clear ngp_; clear BKgx; have BKgx := ngx_; clear ngx_; clear HL; have HL := nL_; clear nL_; clear hw; have c9_gp_0 : w9.cell? ⟨gp, 0, none⟩ = some ((.string nm)) := (blk_cell BKgp.out 0).trans rfl; have f9_gp_0 := blk_frozen BKgp.out 0; have c9_gp_1 : w9.cell? ⟨gp, 1, none⟩ = some ((.string vl)) := (blk_cell BKgp.out 1).trans rfl; have f9_gp_1 := blk_frozen BKgp.out 1; have c9_gx_0 : w9.cell? ⟨gx, 0, none⟩ = some ((.string (⟨#[]⟩ : ByteArray))) := (blk_cell BKgx.out 0).trans rfl; have f9_gx_0 := blk_frozen BKgx.out 0; have c9_gx_1 : w9.cell? ⟨gx, 1, none⟩ = some ((.bool false)) := (blk_cell BKgx.out 1).trans rfl; have f9_gx_1 := blk_frozen BKgx.out 1; have c9_gx_2 : w9.cell? ⟨gx, 2, none⟩ = some (.nilFunc) := (blk_cell BKgx.out 2).trans rfl; have f9_gx_2 := blk_frozen BKgx.out 2))
          rcases Nat.eq_zero_or_pos i with hi0 | hi0
          · have hi1 : ¬ ((0 : Int) < (i : Int)) := by omega
            have hz := decide_eq_false hi1
            refine r17_A0 (fun W' => LI w W0 W' g1 g2 a0_0 a0_1 (some ad) c0_2 l0_2 bi ni li (w5.heap.size) (i + 1) (toldD ens (l0_2.take i)) ∧ W'.heap[gp]? = some (.cells #[.string nm, .string vl] 34 (0, 0)) ∧ W'.heap[gx]? = some (.cells #[(.string (⟨#[]⟩ : ByteArray)), (.bool false), .nilFunc] 52 (0, 0))) gp gx g1 i nm vl rfl rfl rfl rfl rfl rfl ⟨LI.later HL.out (below_drew1 (Below.refl _ _)), BKgp.out, BKgx.out⟩ (fun W h => (blk_cell h.2.1 0).trans rfl) be2 hz (fun wS hS => ?_)
            have HLs := Aside0.mk hS.1
            have cp0 := (blk_cell hS.2.1 0).trans (rfl : _ = some (Value.string nm))
            have cp1 := (blk_cell hS.2.1 1).trans (rfl : _ = some (Value.string vl))
            clear hS HL BKgp BKgx
            have zs0 : wS.cell? ⟨g2, 0, none⟩ = some (.string (⟨#[]⟩ : ByteArray)) := (blk_cell HLs.out.k2 0).trans rfl
            have ys0 := blk_frozen HLs.out.k2 0
            have zs1 : wS.cell? ⟨g2, 1, none⟩ = some (.string (⟨#[]⟩ : ByteArray)) := (blk_cell HLs.out.k2 1).trans rfl
            have ys1 := blk_frozen HLs.out.k2 1
            have zs2 : wS.cell? ⟨g2, 2, none⟩ = some (.slice none 0 0) := (blk_cell HLs.out.k2 2).trans rfl
            have ys2 := blk_frozen HLs.out.k2 2
            simp only [actE, d17, List.replicate_succ, List.replicate_zero, if_true, Act.put, List.setIfInBounds_toArray, List.set_cons_succ, List.set_cons_zero]
            go_wp2_with (first | ((with_reducible refine gate_update rfl ?_); refine wpList_update_held _ rfl _ _ _ 49 rfl 9 48 Tryd.underlying9 Tryd.underlying49 (w5.heap.size) (i + 1) (toldD ens (l0_2.take i)) rfl HLs.out.has (by have := HK.out; unfold maxLen; omega) nm _ rfl rfl (by have := HNS.out.1; unfold maxLen; omega) ?_; intro wU ho hg; have HL2 := Aside0.mk (LI.put HLs.out ho hg); clear ho hg))
            go_roundg (l0_2.length - (i + 1))
            case measure => have := HK.out; omega
            case rel =>
              refine ⟨i + 1, by go_num, ⟨by omega⟩, ⟨fun j hj => ?_⟩, ⟨by rw [HSN.out, toldD_snoc]; exact HL2.out⟩⟩
              by_cases ej : j = i
              · subst ej; exact (by subst hi0; exact step_first HP.out (known_ens HE.out))
              · exact HA.out j (by omega)
          · have hi1 : (0 : Int) < (i : Int) := by omega
            have hz := decide_eq_true hi1
            have hw1 : IntKind.i64.wrap ((i : Int) - 1) = (i : Int) - 1 := by rw [IntKind.wrap_i64]; omega
            have hv0 : (0 : Int) ≤ (i : Int) - 1 := by omega
            have hv1 : (i : Int) - 1 < (l0_2.length : Int) := by omega
            obtain ⟨pn, hpn⟩ : ∃ pn, (rd_T34 l0_2 ((i - 1 : Nat) : Int)).f0 = pn := ⟨_, rfl⟩
            have HPV := Aside0.mk hpn
            clear hpn
            cases hle : (Op.bytesLess nm.toList pn.toList || nm.toList == pn.toList) with
            | true =>
              have HLE := Aside0.mk hle
              refine r17_Ale (fun W' => LI w W0 W' g1 g2 a0_0 a0_1 (some ad) c0_2 l0_2 bi ni li (w5.heap.size) (i + 1) (toldD ens (l0_2.take i)) ∧ W'.heap[gp]? = some (.cells #[.string nm, .string vl] 34 (0, 0)) ∧ W'.heap[gx]? = some (.cells #[(.string (⟨#[]⟩ : ByteArray)), (.bool false), .nilFunc] 52 (0, 0))) gp gx g1 i nm vl rfl rfl rfl rfl rfl rfl ⟨LI.later HL.out (below_drew1 (Below.refl _ _)), BKgp.out, BKgx.out⟩ (fun W h => (blk_cell h.2.1 0).trans rfl) be2 hz l0_2 c0_2 ad pn hw1 hv0 hv1 (fun W h => (blk_cell h.1.k1 2).trans rfl) (fun W h => by rw [prev_cell HR.out h.1.below hi0 hlt, HPV.out]) hle (fun wS hS => ?_)
              have HLs := Aside0.mk hS.1
              have cp0 := (blk_cell hS.2.1 0).trans (rfl : _ = some (Value.string nm))
              have cp1 := (blk_cell hS.2.1 1).trans (rfl : _ = some (Value.string vl))
              clear hS HL BKgp BKgx
              have zs0 : wS.cell? ⟨g2, 0, none⟩ = some (.string (⟨#[]⟩ : ByteArray)) := (blk_cell HLs.out.k2 0).trans rfl
              have ys0 := blk_frozen HLs.out.k2 0
              have zs1 : wS.cell? ⟨g2, 1, none⟩ = some (.string (⟨#[]⟩ : ByteArray)) := (blk_cell HLs.out.k2 1).trans rfl
              have ys1 := blk_frozen HLs.out.k2 1
              have zs2 : wS.cell? ⟨g2, 2, none⟩ = some (.slice none 0 0) := (blk_cell HLs.out.k2 2).trans rfl
              have ys2 := blk_frozen HLs.out.k2 2
              simp only [actE, d17, List.replicate_succ, List.replicate_zero, if_true, Act.put, List.setIfInBounds_toArray, List.set_cons_succ, List.set_cons_zero]
              go_wp2
              refine bodyPost_ret (results_ct rfl _ _ g2 24 #[.string (⟨#[]⟩ : ByteArray), .string (⟨#[]⟩ : ByteArray), .slice none 0 0] (0, 0) _ rfl (by (with_reducible repeat (first | refine blk_drewN ?_ _ | refine blk_drew ?_ | refine blk_alloc ?_ _)); refine blk_put (cs := #[.string (⟨#[]⟩ : ByteArray), .string (⟨#[]⟩ : ByteArray), .slice none 0 0]) ?_ 2 _ rfl; refine blk_put (cs := #[.string (⟨#[]⟩ : ByteArray), .string (⟨#[]⟩ : ByteArray), .slice none 0 0]) ?_ 1 _ rfl; refine blk_put (cs := #[.string (⟨#[]⟩ : ByteArray), .string (⟨#[]⟩ : ByteArray), .slice none 0 0]) ?_ 0 _ rfl; (with_reducible repeat (first | refine blk_drewN ?_ _ | refine blk_drew ?_ | refine blk_alloc ?_ _)); exact HLs.out.k2) Tryd.underlying24 rfl (by kernel_rfl)) rfl ?_
              exact .inl ⟨okP_false hlt (step_order HP.out hi0 (by rw [HPV.out]; exact HLE.out)), rfl, (by repeat (first | exact HLs.out.below | refine below_set ?_ HLs.out.e2 | apply pw_below_drewN | apply below_drew1))⟩
            | false =>
              have HLE := Aside0.mk hle
              refine r17_Aok (fun W' => LI w W0 W' g1 g2 a0_0 a0_1 (some ad) c0_2 l0_2 bi ni li (w5.heap.size) (i + 1) (toldD ens (l0_2.take i)) ∧ W'.heap[gp]? = some (.cells #[.string nm, .string vl] 34 (0, 0)) ∧ W'.heap[gx]? = some (.cells #[(.string (⟨#[]⟩ : ByteArray)), (.bool false), .nilFunc] 52 (0, 0))) gp gx g1 i nm vl rfl rfl rfl rfl rfl rfl ⟨LI.later HL.out (below_drew1 (Below.refl _ _)), BKgp.out, BKgx.out⟩ (fun W h => (blk_cell h.2.1 0).trans rfl) be2 hz l0_2 c0_2 ad pn hw1 hv0 hv1 (fun W h => (blk_cell h.1.k1 2).trans rfl) (fun W h => by rw [prev_cell HR.out h.1.below hi0 hlt, HPV.out]) hle (fun wS hS => ?_)
              have HLs := Aside0.mk hS.1
              have cp0 := (blk_cell hS.2.1 0).trans (rfl : _ = some (Value.string nm))
              have cp1 := (blk_cell hS.2.1 1).trans (rfl : _ = some (Value.string vl))
              clear hS HL BKgp BKgx
              have zs0 : wS.cell? ⟨g2, 0, none⟩ = some (.string (⟨#[]⟩ : ByteArray)) := (blk_cell HLs.out.k2 0).trans rfl
              have ys0 := blk_frozen HLs.out.k2 0
              have zs1 : wS.cell? ⟨g2, 1, none⟩ = some (.string (⟨#[]⟩ : ByteArray)) := (blk_cell HLs.out.k2 1).trans rfl
              have ys1 := blk_frozen HLs.out.k2 1
              have zs2 : wS.cell? ⟨g2, 2, none⟩ = some (.slice none 0 0) := (blk_cell HLs.out.k2 2).trans rfl
              have ys2 := blk_frozen HLs.out.k2 2
              simp only [actE, d17, List.replicate_succ, List.replicate_zero, if_true, Act.put, List.setIfInBounds_toArray, List.set_cons_succ, List.set_cons_zero]
              go_wp2_with (first | ((with_reducible refine gate_update rfl ?_); refine wpList_update_held _ rfl _ _ _ 49 rfl 9 48 Tryd.underlying9 Tryd.underlying49 (w5.heap.size) (i + 1) (toldD ens (l0_2.take i)) rfl HLs.out.has (by have := HK.out; unfold maxLen; omega) nm _ rfl rfl (by have := HNS.out.1; unfold maxLen; omega) ?_; intro wU ho hg; have HL2 := Aside0.mk (LI.put HLs.out ho hg); clear ho hg))
              go_roundg (l0_2.length - (i + 1))
              case measure => have := HK.out; omega
              case rel =>
                refine ⟨i + 1, by go_num, ⟨by omega⟩, ⟨fun j hj => ?_⟩, ⟨by rw [HSN.out, toldD_snoc]; exact HL2.out⟩⟩
                by_cases ej : j = i
                · subst ej; exact step_next HP.out (known_ens HE.out) (by rw [HPV.out]; exact HLE.out)
                · exact HA.out j (by omega)
        | false =>
          have be2 : (nm.toList != ([101, 110, 115, 117, 114, 101] : List UInt8)) = true := by rw [bne, be]; rfl
          have HE := Aside0.mk be
          cases hf : findK rs nm with
          | none =>
            have HF := Aside0.mk hf
            clear hf
            go_wp2_with (first | ((with_reducible refine gate_dst (N := 12) rfl ?_); refine box_event ?hg (N := 12) ?hd (cs := #[.string (⟨#[]⟩ : ByteArray), .string (⟨#[]⟩ : ByteArray)]) (t := 34) ?hr ?_; (case hd => rfl); (case hg => rfl); (case hr => first | (go_simp; done) | (go_simp; rfl)); intro gp hg w10 hbox hb; have GEgp := Aside0.mk ((by rw [hg]; exact HL.out.size) : W0.heap.size ≤ gp); have nL_ := Aside0.mk (LI.later HL.out hb); clear HL; have HL := nL_; clear nL_; have BKgp := Aside0.mk hbox; clear hb hbox hg; have c10_gp_0 : w10.cell? ⟨gp, 0, none⟩ = some (.string (⟨#[]⟩ : ByteArray)) := (blk_cell BKgp.out 0).trans rfl; have f10_gp_0 := blk_frozen BKgp.out 0; have c10_gp_1 : w10.cell? ⟨gp, 1, none⟩ = some (.string (⟨#[]⟩ : ByteArray)) := (blk_cell BKgp.out 1).trans rfl; have f10_gp_1 := blk_frozen BKgp.out 1) | ((with_reducible refine gate_store (t := 34) (p := 12) rfl ?_); refine store_event (t := 34) (p := 12) (v := ?vo11) (w1 := ?wo11) ?hg ?ho ?hn ?hr ?_; (case ho => rfl); (case hg => rfl); (case hn => rfl); (case hr => first | (go_simp; done) | (go_simp; rfl)); intro w11 hw; have ngp_ := Aside0.mk ((by rw [hw]; refine blk_put (cs := #[(.string nm), .string (⟨#[]⟩ : ByteArray)]) ?_ 1 _ rfl; refine blk_put (cs := #[.string (⟨#[]⟩ : ByteArray), .string (⟨#[]⟩ : ByteArray)]) ?_ 0 _ rfl; (with_reducible repeat (first | refine blk_drewN ?_ _ | refine blk_drew ?_ | refine blk_alloc ?_ _)); exact BKgp.out) : w11.heap[gp]? = some (.cells #[(.string nm), (.string vl)] 34 (0, 0))); have nL_ := Aside0.mk (LI.set (i := 1) (v := (.string vl)) (LI.set (i := 0) (v := (.string nm)) (HL.out) (BKgp.out) GEgp.out) (blk_put (cs' := #[(.string nm), .string (⟨#[]⟩ : ByteArray)]) (BKgp.out) 0 ((.string nm)) rfl) GEgp.out); rw [← hw] at nL_; clear BKgp; have BKgp := ngp_; clear ngp_; clear HL; have HL := nL_; clear nL_; clear hw; have c11_gp_0 : w11.cell? ⟨gp, 0, none⟩ = some ((.string nm)) := (blk_cell BKgp.out 0).trans rfl; have f11_gp_0 := blk_frozen BKgp.out 0; have c11_gp_1 : w11.cell? ⟨gp, 1, none⟩ = some ((.string vl)) := (blk_cell BKgp.out 1).trans rfl; have f11_gp_1 := blk_frozen BKgp.out 1) | ((with_reducible refine gate_look rfl ?_); refine look_rule_none HL.out.inner HKR.out HTR.out.1 rfl _ _ rfl rfl nm rfl HNS.out.1 HF.out ?_) | ((with_reducible refine gate_dst (N := 13) rfl ?_); refine box_event ?hg (N := 13) ?hd (cs := #[.string (⟨#[]⟩ : ByteArray), .bool false, .nilFunc]) (t := 52) ?hr ?_; (case hd => rfl); (case hg => rfl); (case hr => first | (go_simp; done) | (go_simp; rfl)); intro gx hg w12 hbox hb; have NEgp_gx := Aside0.mk ((by rw [hg]; exact Nat.ne_of_lt (blk_lt (w := _) BKgp.out)) : gp ≠ gx); have GEgx := Aside0.mk ((by rw [hg]; exact HL.out.size) : W0.heap.size ≤ gx); have ngp_ := Aside0.mk (blk_below (g := gp) (o := .cells #[(.string nm), (.string vl)] 34 (0, 0)) (by (with_reducible repeat (first | refine blk_drewN ?_ _ | refine blk_drew ?_ | refine blk_alloc ?_ _)); exact BKgp.out) hb); have nL_ := Aside0.mk (LI.later HL.out hb); clear BKgp; have BKgp := ngp_; clear ngp_; clear HL; have HL := nL_; clear nL_; have BKgx := Aside0.mk hbox; clear hb hbox hg; have c12_gp_0 : w12.cell? ⟨gp, 0, none⟩ = some ((.string nm)) := (blk_cell BKgp.out 0).trans rfl; have f12_gp_0 := blk_frozen BKgp.out 0; have c12_gp_1 : w12.cell? ⟨gp, 1, none⟩ = some ((.string vl)) := (blk_cell BKgp.out 1).trans rfl; have f12_gp_1 := blk_frozen BKgp.out 1; have c12_gx_0 : w12.cell? ⟨gx, 0, none⟩ = some (.string (⟨#[]⟩ : ByteArray)) := (blk_cell BKgx.out 0).trans rfl; have f12_gx_0 := blk_frozen BKgx.out 0; have c12_gx_1 : w12.cell? ⟨gx, 1, none⟩ = some (.bool false) := (blk_cell BKgx.out 1).trans rfl; have f12_gx_1 := blk_frozen BKgx.out 1; have c12_gx_2 : w12.cell? ⟨gx, 2, none⟩ = some (.nilFunc) := (blk_cell BKgx.out 2).trans rfl; have f12_gx_2 := blk_frozen BKgx.out 2) | ((with_reducible refine gate_store (t := 52) (p := 13) rfl ?_); refine store_event (t := 52) (p := 13) (v := ?vo13) (w1 := ?wo13) ?hg ?ho ?hn ?hr ?_; (case ho => rfl); (case hg => rfl); (case hn => rfl); (case hr => first | (go_simp; done) | (go_simp; rfl)); intro w13 hw; have ngp_ := Aside0.mk ((by rw [hw]; (repeat refine blk_far ?_ NEgp_gx.out _); (with_reducible repeat (first | refine blk_drewN ?_ _ | refine blk_drew ?_ | refine blk_alloc ?_ _)); exact BKgp.out) : w13.heap[gp]? = some (.cells #[(.string nm), (.string vl)] 34 (0, 0))); have ngx_ := Aside0.mk ((by rw [hw]; refine blk_put (cs := #[(.string (⟨#[]⟩ : ByteArray)), (.bool false), .nilFunc]) ?_ 2 _ rfl; refine blk_put (cs := #[(.string (⟨#[]⟩ : ByteArray)), .bool false, .nilFunc]) ?_ 1 _ rfl; refine blk_put (cs := #[.string (⟨#[]⟩ : ByteArray), .bool false, .nilFunc]) ?_ 0 _ rfl; (with_reducible repeat (first | refine blk_drewN ?_ _ | refine blk_drew ?_ | refine blk_alloc ?_ _)); exact BKgx.out) : w13.heap[gx]? = some (.cells #[(.string (⟨#[]⟩ : ByteArray)), (.bool false), .nilFunc] 52 (0, 0))); have nL_ := Aside0.mk (LI.set (i := 2) (v := .nilFunc) (LI.set (i := 1) (v := (.bool false)) (LI.set (i := 0) (v := (.string (⟨#[]⟩ : ByteArray))) (HL.out) (BKgx.out) GEgx.out) (blk_put (cs' := #[(.string (⟨#[]⟩ : ByteArray)), .bool false, .nilFunc]) (BKgx.out) 0 ((.string (⟨#[]⟩ : ByteArray))) rfl) GEgx.out) (blk_put (cs' := #[(.string (⟨#[]⟩ : ByteArray)), (.bool false), .nilFunc]) (blk_put (cs' := #[(.string (⟨#[]⟩ : ByteArray)), .bool false, .nilFunc]) (BKgx.out) 0 ((.string (⟨#[]⟩ : ByteArray))) rfl) 1 ((.bool false)) rfl) GEgx.out); rw [← hw] at nL_; clear BKgp; have BKgp := ngp_; clear ngp_; clear BKgx; have BKgx := ngx_; clear ngx_; clear HL; have HL := nL_; clear nL_; clear hw; have c13_gp_0 : w13.cell? ⟨gp, 0, none⟩ = some ((.string nm)) := (blk_cell BKgp.out 0).trans rfl; have f13_gp_0 := blk_frozen BKgp.out 0; have c13_gp_1 : w13.cell? ⟨gp, 1, none⟩ = some ((.string vl)) := (blk_cell BKgp.out 1).trans rfl; have f13_gp_1 := blk_frozen BKgp.out 1; have c13_gx_0 : w13.cell? ⟨gx, 0, none⟩ = some ((.string (⟨#[]⟩ : ByteArray))) := (blk_cell BKgx.out 0).trans rfl; have f13_gx_0 := blk_frozen BKgx.out 0; have c13_gx_1 : w13.cell? ⟨gx, 1, none⟩ = some ((.bool false)) := (blk_cell BKgx.out 1).trans rfl; have f13_gx_1 := blk_frozen BKgx.out 1; have c13_gx_2 : w13.cell? ⟨gx, 2, none⟩ = some (.nilFunc) := (blk_cell BKgx.out 2).trans rfl; have f13_gx_2 := blk_frozen BKgx.out 2))
            refine r17_B (fun W' => LI w W0 W' g1 g2 a0_0 a0_1 (some ad) c0_2 l0_2 bi ni li (w5.heap.size) (i + 1) (toldD ens (l0_2.take i)) ∧ W'.heap[gp]? = some (.cells #[.string nm, .string vl] 34 (0, 0)) ∧ W'.heap[gx]? = some (.cells #[(.string (⟨#[]⟩ : ByteArray)), (.bool false), .nilFunc] 52 (0, 0))) gp gx g1 i nm vl rfl rfl rfl rfl rfl rfl ⟨LI.later HL.out (below_drew1 (Below.refl _ _)), BKgp.out, BKgx.out⟩ (fun W h => (blk_cell h.2.1 0).trans rfl) be2 (fun wS hS => ?_)
            have HLs := Aside0.mk hS.1
            have cp0 := (blk_cell hS.2.1 0).trans (rfl : _ = some (Value.string nm))
            have cp1 := (blk_cell hS.2.1 1).trans (rfl : _ = some (Value.string vl))
            clear hS HL BKgp BKgx
            have zs0 : wS.cell? ⟨g2, 0, none⟩ = some (.string (⟨#[]⟩ : ByteArray)) := (blk_cell HLs.out.k2 0).trans rfl
            have ys0 := blk_frozen HLs.out.k2 0
            have zs1 : wS.cell? ⟨g2, 1, none⟩ = some (.string (⟨#[]⟩ : ByteArray)) := (blk_cell HLs.out.k2 1).trans rfl
            have ys1 := blk_frozen HLs.out.k2 1
            have zs2 : wS.cell? ⟨g2, 2, none⟩ = some (.slice none 0 0) := (blk_cell HLs.out.k2 2).trans rfl
            have ys2 := blk_frozen HLs.out.k2 2
            simp only [actE, d17, List.replicate_succ, List.replicate_zero, if_true, Act.put, List.setIfInBounds_toArray, List.set_cons_succ, List.set_cons_zero]
            go_wp2
            refine bodyPost_ret (results_ct rfl _ _ g2 24 #[.string (⟨#[]⟩ : ByteArray), .string (⟨#[]⟩ : ByteArray), .slice none 0 0] (0, 0) _ rfl (by (with_reducible repeat (first | refine blk_drewN ?_ _ | refine blk_drew ?_ | refine blk_alloc ?_ _)); refine blk_put (cs := #[.string (⟨#[]⟩ : ByteArray), .string (⟨#[]⟩ : ByteArray), .slice none 0 0]) ?_ 2 _ rfl; refine blk_put (cs := #[.string (⟨#[]⟩ : ByteArray), .string (⟨#[]⟩ : ByteArray), .slice none 0 0]) ?_ 1 _ rfl; refine blk_put (cs := #[.string (⟨#[]⟩ : ByteArray), .string (⟨#[]⟩ : ByteArray), .slice none 0 0]) ?_ 0 _ rfl; (with_reducible repeat (first | refine blk_drewN ?_ _ | refine blk_drew ?_ | refine blk_alloc ?_ _)); exact HLs.out.k2) Tryd.underlying24 rfl (by kernel_rfl)) rfl ?_
            exact .inl ⟨okP_false hlt (step_unknown HP.out (known_none HE.out HF.out)), rfl, (by repeat (first | exact HLs.out.below | refine below_set ?_ HLs.out.e2 | apply pw_below_drewN | apply below_drew1))⟩
          | some q =>
            have HF := Aside0.mk hf
            clear hf
            cases hmy : q.may vl with
            | false =>
              have HM := Aside0.mk hmy
              clear hmy
              go_wp2_with (first | ((with_reducible refine gate_dst (N := 12) rfl ?_); refine box_event ?hg (N := 12) ?hd (cs := #[.string (⟨#[]⟩ : ByteArray), .string (⟨#[]⟩ : ByteArray)]) (t := 34) ?hr ?_; (case hd => rfl); (case hg => rfl); (case hr => first | (go_simp; done) | (go_simp; rfl)); intro gp hg w14 hbox hb; have GEgp := Aside0.mk ((by rw [hg]; exact HL.out.size) : W0.heap.size ≤ gp); have nL_ := Aside0.mk (LI.later HL.out hb); clear HL; have HL := nL_; clear nL_; have BKgp := Aside0.mk hbox; clear hb hbox hg; have c14_gp_0 : w14.cell? ⟨gp, 0, none⟩ = some (.string (⟨#[]⟩ : ByteArray)) := (blk_cell BKgp.out 0).trans rfl; have f14_gp_0 := blk_frozen BKgp.out 0; have c14_gp_1 : w14.cell? ⟨gp, 1, none⟩ = some (.string (⟨#[]⟩ : ByteArray)) := (blk_cell BKgp.out 1).trans rfl; have f14_gp_1 := blk_frozen BKgp.out 1) | ((with_reducible refine gate_store (t := 34) (p := 12) rfl ?_); refine store_event (t := 34) (p := 12) (v := ?vo15) (w1 := ?wo15) ?hg ?ho ?hn ?hr ?_; (case ho => rfl); (case hg => rfl); (case hn => rfl); (case hr => first | (go_simp; done) | (go_simp; rfl)); intro w15 hw; have ngp_ := Aside0.mk ((by rw [hw]; refine blk_put (cs := #[(.string nm), .string (⟨#[]⟩ : ByteArray)]) ?_ 1 _ rfl; refine blk_put (cs := #[.string (⟨#[]⟩ : ByteArray), .string (⟨#[]⟩ : ByteArray)]) ?_ 0 _ rfl; (with_reducible repeat (first | refine blk_drewN ?_ _ | refine blk_drew ?_ | refine blk_alloc ?_ _)); exact BKgp.out) : w15.heap[gp]? = some (.cells #[(.string nm), (.string vl)] 34 (0, 0))); have nL_ := Aside0.mk (LI.set (i := 1) (v := (.string vl)) (LI.set (i := 0) (v := (.string nm)) (HL.out) (BKgp.out) GEgp.out) (blk_put (cs' := #[(.string nm), .string (⟨#[]⟩ : ByteArray)]) (BKgp.out) 0 ((.string nm)) rfl) GEgp.out); rw [← hw] at nL_; clear BKgp; have BKgp := ngp_; clear ngp_; clear HL; have HL := nL_; clear nL_; clear hw; have c15_gp_0 : w15.cell? ⟨gp, 0, none⟩ = some ((.string nm)) := (blk_cell BKgp.out 0).trans rfl; have f15_gp_0 := blk_frozen BKgp.out 0; have c15_gp_1 : w15.cell? ⟨gp, 1, none⟩ = some ((.string vl)) := (blk_cell BKgp.out 1).trans rfl; have f15_gp_1 := blk_frozen BKgp.out 1) | ((with_reducible refine gate_look rfl ?_); refine look_rule_some HL.out.inner HKR.out HTR.out.1 rfl _ _ rfl rfl nm rfl HNS.out.1 q HF.out ?_; intro g lb cells eg hm hc; have hm2 := Aside0.mk hm; have hc2 := Aside0.mk hc; clear hm hc) | ((with_reducible refine gate_dst (N := 13) rfl ?_); refine box_event ?hg (N := 13) ?hd (cs := #[.string (⟨#[]⟩ : ByteArray), .bool false, .nilFunc]) (t := 52) ?hr ?_; (case hd => rfl); (case hg => rfl); (case hr => first | (go_simp; done) | (go_simp; rfl)); intro gx hg w16 hbox hb; have NEgp_gx := Aside0.mk ((by rw [hg]; exact Nat.ne_of_lt (blk_lt (w := _) BKgp.out)) : gp ≠ gx); have GEgx := Aside0.mk ((by rw [hg]; exact HL.out.size) : W0.heap.size ≤ gx); have ngp_ := Aside0.mk (blk_below (g := gp) (o := .cells #[(.string nm), (.string vl)] 34 (0, 0)) (by (with_reducible repeat (first | refine blk_drewN ?_ _ | refine blk_drew ?_ | refine blk_alloc ?_ _)); exact BKgp.out) hb); have nL_ := Aside0.mk (LI.later HL.out hb); clear BKgp; have BKgp := ngp_; clear ngp_; clear HL; have HL := nL_; clear nL_; have BKgx := Aside0.mk hbox; clear hb hbox hg; have c16_gp_0 : w16.cell? ⟨gp, 0, none⟩ = some ((.string nm)) := (blk_cell BKgp.out 0).trans rfl; have f16_gp_0 := blk_frozen BKgp.out 0; have c16_gp_1 : w16.cell? ⟨gp, 1, none⟩ = some ((.string vl)) := (blk_cell BKgp.out 1).trans rfl; have f16_gp_1 := blk_frozen BKgp.out 1; have c16_gx_0 : w16.cell? ⟨gx, 0, none⟩ = some (.string (⟨#[]⟩ : ByteArray)) := (blk_cell BKgx.out 0).trans rfl; have f16_gx_0 := blk_frozen BKgx.out 0; have c16_gx_1 : w16.cell? ⟨gx, 1, none⟩ = some (.bool false) := (blk_cell BKgx.out 1).trans rfl; have f16_gx_1 := blk_frozen BKgx.out 1; have c16_gx_2 : w16.cell? ⟨gx, 2, none⟩ = some (.nilFunc) := (blk_cell BKgx.out 2).trans rfl; have f16_gx_2 := blk_frozen BKgx.out 2) | ((with_reducible refine gate_store (t := 52) (p := 13) rfl ?_); refine store_event (t := 52) (p := 13) (v := ?vo17) (w1 := ?wo17) ?hg ?ho ?hn ?hr ?_; (case ho => rfl); (case hg => rfl); (case hn => rfl); (case hr => first | (go_simp; done) | (go_simp; rfl)); intro w17 hw; have ngp_ := Aside0.mk ((by rw [hw]; (repeat refine blk_far ?_ NEgp_gx.out _); (with_reducible repeat (first | refine blk_drewN ?_ _ | refine blk_drew ?_ | refine blk_alloc ?_ _)); exact BKgp.out) : w17.heap[gp]? = some (.cells #[(.string nm), (.string vl)] 34 (0, 0))); have ngx_ := Aside0.mk ((by rw [hw]; refine blk_put (cs := #[(.string q.dflt), (.bool q.must), .nilFunc]) ?_ 2 _ rfl; refine blk_put (cs := #[(.string q.dflt), .bool false, .nilFunc]) ?_ 1 _ rfl; refine blk_put (cs := #[.string (⟨#[]⟩ : ByteArray), .bool false, .nilFunc]) ?_ 0 _ rfl; (with_reducible repeat (first | refine blk_drewN ?_ _ | refine blk_drew ?_ | refine blk_alloc ?_ _)); exact BKgx.out) : w17.heap[gx]? = some (.cells #[(.string q.dflt), (.bool q.must), (.func (.func g) #[] lb)] 52 (0, 0))); have nL_ := Aside0.mk (LI.set (i := 2) (v := (.func (.func g) #[] lb)) (LI.set (i := 1) (v := (.bool q.must)) (LI.set (i := 0) (v := (.string q.dflt)) (HL.out) (BKgx.out) GEgx.out) (blk_put (cs' := #[(.string q.dflt), .bool false, .nilFunc]) (BKgx.out) 0 ((.string q.dflt)) rfl) GEgx.out) (blk_put (cs' := #[(.string q.dflt), (.bool q.must), .nilFunc]) (blk_put (cs' := #[(.string q.dflt), .bool false, .nilFunc]) (BKgx.out) 0 ((.string q.dflt)) rfl) 1 ((.bool q.must)) rfl) GEgx.out); rw [← hw] at nL_; clear BKgp; have BKgp := ngp_; clear ngp_; clear BKgx; have BKgx := ngx_; clear ngx_; clear HL; have HL := nL_; clear nL_; clear hw; have c17_gp_0 : w17.cell? ⟨gp, 0, none⟩ = some ((.string nm)) := (blk_cell BKgp.out 0).trans rfl; have f17_gp_0 := blk_frozen BKgp.out 0; have c17_gp_1 : w17.cell? ⟨gp, 1, none⟩ = some ((.string vl)) := (blk_cell BKgp.out 1).trans rfl; have f17_gp_1 := blk_frozen BKgp.out 1; have c17_gx_0 : w17.cell? ⟨gx, 0, none⟩ = some ((.string q.dflt)) := (blk_cell BKgx.out 0).trans rfl; have f17_gx_0 := blk_frozen BKgx.out 0; have c17_gx_1 : w17.cell? ⟨gx, 1, none⟩ = some ((.bool q.must)) := (blk_cell BKgx.out 1).trans rfl; have f17_gx_1 := blk_frozen BKgx.out 1; have c17_gx_2 : w17.cell? ⟨gx, 2, none⟩ = some ((.func (.func g) #[] lb)) := (blk_cell BKgx.out 2).trans rfl; have f17_gx_2 := blk_frozen BKgx.out 2))
              refine r17_C (fun W' => LI w W0 W' g1 g2 a0_0 a0_1 (some ad) c0_2 l0_2 bi ni li (w5.heap.size) (i + 1) (toldD ens (l0_2.take i)) ∧ W'.heap[gp]? = some (.cells #[.string nm, .string vl] 34 (0, 0)) ∧ W'.heap[gx]? = some (.cells #[(.string q.dflt), (.bool q.must), (.func (.func g) #[] lb)] 52 (0, 0))) gp gx g1 i nm vl rfl rfl rfl rfl rfl rfl ⟨LI.later HL.out (below_drew1 (Below.refl _ _)), BKgp.out, BKgx.out⟩ (fun W h => (blk_cell h.2.1 0).trans rfl) be2 g lb eg (fun W h => (blk_cell h.2.1 1).trans rfl) (fun W h => (blk_cell h.2.2 2).trans rfl) (fun W h => (call_may HU.out hm2.out hc2.out HNS.out.2 h.1.below h.1.kept).mono (fun e w' he => ⟨by rw [he.1, HM.out], LI.later h.1 he.2, blk_below h.2.1 he.2, blk_below h.2.2 he.2⟩)) (fun wS hS => ?_)
              have HLs := Aside0.mk hS.1
              have cp0 := (blk_cell hS.2.1 0).trans (rfl : _ = some (Value.string nm))
              have cp1 := (blk_cell hS.2.1 1).trans (rfl : _ = some (Value.string vl))
              clear hS HL BKgp BKgx
              have zs0 : wS.cell? ⟨g2, 0, none⟩ = some (.string (⟨#[]⟩ : ByteArray)) := (blk_cell HLs.out.k2 0).trans rfl
              have ys0 := blk_frozen HLs.out.k2 0
              have zs1 : wS.cell? ⟨g2, 1, none⟩ = some (.string (⟨#[]⟩ : ByteArray)) := (blk_cell HLs.out.k2 1).trans rfl
              have ys1 := blk_frozen HLs.out.k2 1
              have zs2 : wS.cell? ⟨g2, 2, none⟩ = some (.slice none 0 0) := (blk_cell HLs.out.k2 2).trans rfl
              have ys2 := blk_frozen HLs.out.k2 2
              simp only [actE, d17, List.replicate_succ, List.replicate_zero, if_true, Act.put, List.setIfInBounds_toArray, List.set_cons_succ, List.set_cons_zero]
              go_wp2
              refine bodyPost_ret (results_ct rfl _ _ g2 24 #[.string (⟨#[]⟩ : ByteArray), .string (⟨#[]⟩ : ByteArray), .slice none 0 0] (0, 0) _ rfl (by (with_reducible repeat (first | refine blk_drewN ?_ _ | refine blk_drew ?_ | refine blk_alloc ?_ _)); refine blk_put (cs := #[.string (⟨#[]⟩ : ByteArray), .string (⟨#[]⟩ : ByteArray), .slice none 0 0]) ?_ 2 _ rfl; refine blk_put (cs := #[.string (⟨#[]⟩ : ByteArray), .string (⟨#[]⟩ : ByteArray), .slice none 0 0]) ?_ 1 _ rfl; refine blk_put (cs := #[.string (⟨#[]⟩ : ByteArray), .string (⟨#[]⟩ : ByteArray), .slice none 0 0]) ?_ 0 _ rfl; (with_reducible repeat (first | refine blk_drewN ?_ _ | refine blk_drew ?_ | refine blk_alloc ?_ _)); exact HLs.out.k2) Tryd.underlying24 rfl (by kernel_rfl)) rfl ?_
              exact .inl ⟨okP_false hlt (step_unknown HP.out (known_may HE.out HF.out HM.out)), rfl, (by repeat (first | exact HLs.out.below | refine below_set ?_ HLs.out.e2 | apply pw_below_drewN | apply below_drew1))⟩
            | true =>
              have HM := Aside0.mk hmy
              clear hmy
              go_wp2_with (first | ((with_reducible refine gate_dst (N := 12) rfl ?_); refine box_event ?hg (N := 12) ?hd (cs := #[.string (⟨#[]⟩ : ByteArray), .string (⟨#[]⟩ : ByteArray)]) (t := 34) ?hr ?_; (case hd => rfl); (case hg => rfl); (case hr => first | (go_simp; done) | (go_simp; rfl)); intro gp hg w18 hbox hb; have GEgp := Aside0.mk ((by rw [hg]; exact HL.out.size) : W0.heap.size ≤ gp); have nL_ := Aside0.mk (LI.later HL.out hb); clear HL; have HL := nL_; clear nL_; have BKgp := Aside0.mk hbox; clear hb hbox hg; have c18_gp_0 : w18.cell? ⟨gp, 0, none⟩ = some (.string (⟨#[]⟩ : ByteArray)) := (blk_cell BKgp.out 0).trans rfl; have f18_gp_0 := blk_frozen BKgp.out 0; have c18_gp_1 : w18.cell? ⟨gp, 1, none⟩ = some (.string (⟨#[]⟩ : ByteArray)) := (blk_cell BKgp.out 1).trans rfl; have f18_gp_1 := blk_frozen BKgp.out 1) | ((with_reducible refine gate_store (t := 34) (p := 12) rfl ?_); refine store_event (t := 34) (p := 12) (v := ?vo19) (w1 := ?wo19) ?hg ?ho ?hn ?hr ?_; (case ho => rfl); (case hg => rfl); (case hn => rfl); (case hr => first | (go_simp; done) | (go_simp; rfl)); intro w19 hw; have ngp_ := Aside0.mk ((by rw [hw]; refine blk_put (cs := #[(.string nm), .string (⟨#[]⟩ : ByteArray)]) ?_ 1 _ rfl; refine blk_put (cs := #[.string (⟨#[]⟩ : ByteArray), .string (⟨#[]⟩ : ByteArray)]) ?_ 0 _ rfl; (with_reducible repeat (first | refine blk_drewN ?_ _ | refine blk_drew ?_ | refine blk_alloc ?_ _)); exact BKgp.out) : w19.heap[gp]? = some (.cells #[(.string nm), (.string vl)] 34 (0, 0))); have nL_ := Aside0.mk (LI.set (i := 1) (v := (.string vl)) (LI.set (i := 0) (v := (.string nm)) (HL.out) (BKgp.out) GEgp.out) (blk_put (cs' := #[(.string nm), .string (⟨#[]⟩ : ByteArray)]) (BKgp.out) 0 ((.string nm)) rfl) GEgp.out); rw [← hw] at nL_; clear BKgp; have BKgp := ngp_; clear ngp_; clear HL; have HL := nL_; clear nL_; clear hw; have c19_gp_0 : w19.cell? ⟨gp, 0, none⟩ = some ((.string nm)) := (blk_cell BKgp.out 0).trans rfl; have f19_gp_0 := blk_frozen BKgp.out 0; have c19_gp_1 : w19.cell? ⟨gp, 1, none⟩ = some ((.string vl)) := (blk_cell BKgp.out 1).trans rfl; have f19_gp_1 := blk_frozen BKgp.out 1) | ((with_reducible refine gate_look rfl ?_); refine look_rule_some HL.out.inner HKR.out HTR.out.1 rfl _ _ rfl rfl nm rfl HNS.out.1 q HF.out ?_; intro g lb cells eg hm hc; have hm2 := Aside0.mk hm; have hc2 := Aside0.mk hc; clear hm hc) | ((with_reducible refine gate_dst (N := 13) rfl ?_); refine box_event ?hg (N := 13) ?hd (cs := #[.string (⟨#[]⟩ : ByteArray), .bool false, .nilFunc]) (t := 52) ?hr ?_; (case hd => rfl); (case hg => rfl); (case hr => first | (go_simp; done) | (go_simp; rfl)); intro gx hg w20 hbox hb; have NEgp_gx := Aside0.mk ((by rw [hg]; exact Nat.ne_of_lt (blk_lt (w := _) BKgp.out)) : gp ≠ gx); have GEgx := Aside0.mk ((by rw [hg]; exact HL.out.size) : W0.heap.size ≤ gx); have ngp_ := Aside0.mk (blk_below (g := gp) (o := .cells #[(.string nm), (.string vl)] 34 (0, 0)) (by (with_reducible repeat (first | refine blk_drewN ?_ _ | refine blk_drew ?_ | refine blk_alloc ?_ _)); exact BKgp.out) hb); have nL_ := Aside0.mk (LI.later HL.out hb); clear BKgp; have BKgp := ngp_; clear ngp_; clear HL; have HL := nL_; clear nL_; have BKgx := Aside0.mk hbox; clear hb hbox hg; have c20_gp_0 : w20.cell? ⟨gp, 0, none⟩ = some ((.string nm)) := (blk_cell BKgp.out 0).trans rfl; have f20_gp_0 := blk_frozen BKgp.out 0; have c20_gp_1 : w20.cell? ⟨gp, 1, none⟩ = some ((.string vl)) := (blk_cell BKgp.out 1).trans rfl; have f20_gp_1 := blk_frozen BKgp.out 1; have c20_gx_0 : w20.cell? ⟨gx, 0, none⟩ = some (.string (⟨#[]⟩ : ByteArray)) := (blk_cell BKgx.out 0).trans rfl; have f20_gx_0 := blk_frozen BKgx.out 0; have c20_gx_1 : w20.cell? ⟨gx, 1, none⟩ = some (.bool false) := (blk_cell BKgx.out 1).trans rfl; have f20_gx_1 := blk_frozen BKgx.out 1; have c20_gx_2 : w20.cell? ⟨gx, 2, none⟩ = some (.nilFunc) := (blk_cell BKgx.out 2).trans rfl; have f20_gx_2 := blk_frozen BKgx.out 2) | ((with_reducible refine gate_store (t := 52) (p := 13) rfl ?_); refine store_event (t := 52) (p := 13) (v := ?vo21) (w1 := ?wo21) ?hg ?ho ?hn ?hr ?_; (case ho => rfl); (case hg => rfl); (case hn => rfl); (case hr => first | (go_simp; done) | (go_simp; rfl)); intro w21 hw; have ngp_ := Aside0.mk ((by rw [hw]; (repeat refine blk_far ?_ NEgp_gx.out _); (with_reducible repeat (first | refine blk_drewN ?_ _ | refine blk_drew ?_ | refine blk_alloc ?_ _)); exact BKgp.out) : w21.heap[gp]? = some (.cells #[(.string nm), (.string vl)] 34 (0, 0))); have ngx_ := Aside0.mk ((by rw [hw]; refine blk_put (cs := #[(.string q.dflt), (.bool q.must), .nilFunc]) ?_ 2 _ rfl; refine blk_put (cs := #[(.string q.dflt), .bool false, .nilFunc]) ?_ 1 _ rfl; refine blk_put (cs := #[.string (⟨#[]⟩ : ByteArray), .bool false, .nilFunc]) ?_ 0 _ rfl; (with_reducible repeat (first | refine blk_drewN ?_ _ | refine blk_drew ?_ | refine blk_alloc ?_ _)); exact BKgx.out) : w21.heap[gx]? = some (.cells #[(.string q.dflt), (.bool q.must), (.func (.func g) #[] lb)] 52 (0, 0))); have nL_ := Aside0.mk (LI.set (i := 2) (v := (.func (.func g) #[] lb)) (LI.set (i := 1) (v := (.bool q.must)) (LI.set (i := 0) (v := (.string q.dflt)) (HL.out) (BKgx.out) GEgx.out) (blk_put (cs' := #[(.string q.dflt), .bool false, .nilFunc]) (BKgx.out) 0 ((.string q.dflt)) rfl) GEgx.out) (blk_put (cs' := #[(.string q.dflt), (.bool q.must), .nilFunc]) (blk_put (cs' := #[(.string q.dflt), .bool false, .nilFunc]) (BKgx.out) 0 ((.string q.dflt)) rfl) 1 ((.bool q.must)) rfl) GEgx.out); rw [← hw] at nL_; clear BKgp; have BKgp := ngp_; clear ngp_; clear BKgx; have BKgx := ngx_; clear ngx_; clear HL; have HL := nL_; clear nL_; clear hw; have c21_gp_0 : w21.cell? ⟨gp, 0, none⟩ = some ((.string nm)) := (blk_cell BKgp.out 0).trans rfl; have f21_gp_0 := blk_frozen BKgp.out 0; have c21_gp_1 : w21.cell? ⟨gp, 1, none⟩ = some ((.string vl)) := (blk_cell BKgp.out 1).trans rfl; have f21_gp_1 := blk_frozen BKgp.out 1; have c21_gx_0 : w21.cell? ⟨gx, 0, none⟩ = some ((.string q.dflt)) := (blk_cell BKgx.out 0).trans rfl; have f21_gx_0 := blk_frozen BKgx.out 0; have c21_gx_1 : w21.cell? ⟨gx, 1, none⟩ = some ((.bool q.must)) := (blk_cell BKgx.out 1).trans rfl; have f21_gx_1 := blk_frozen BKgx.out 1; have c21_gx_2 : w21.cell? ⟨gx, 2, none⟩ = some ((.func (.func g) #[] lb)) := (blk_cell BKgx.out 2).trans rfl; have f21_gx_2 := blk_frozen BKgx.out 2))
              rcases Nat.eq_zero_or_pos i with hi0 | hi0
              · have hi1 : ¬ ((0 : Int) < (i : Int)) := by omega
                have hz := decide_eq_false hi1
                refine r17_D0 (fun W' => LI w W0 W' g1 g2 a0_0 a0_1 (some ad) c0_2 l0_2 bi ni li (w5.heap.size) (i + 1) (toldD ens (l0_2.take i)) ∧ W'.heap[gp]? = some (.cells #[.string nm, .string vl] 34 (0, 0)) ∧ W'.heap[gx]? = some (.cells #[(.string q.dflt), (.bool q.must), (.func (.func g) #[] lb)] 52 (0, 0))) gp gx g1 i nm vl rfl rfl rfl rfl rfl rfl ⟨LI.later HL.out (below_drew1 (Below.refl _ _)), BKgp.out, BKgx.out⟩ (fun W h => (blk_cell h.2.1 0).trans rfl) be2 g lb eg (fun W h => (blk_cell h.2.1 1).trans rfl) (fun W h => (blk_cell h.2.2 2).trans rfl) (fun W h => (call_may HU.out hm2.out hc2.out HNS.out.2 h.1.below h.1.kept).mono (fun e w' he => ⟨by rw [he.1, HM.out], LI.later h.1 he.2, blk_below h.2.1 he.2, blk_below h.2.2 he.2⟩)) hz (fun wS hS => ?_)
                have HLs := Aside0.mk hS.1
                have cp0 := (blk_cell hS.2.1 0).trans (rfl : _ = some (Value.string nm))
                have cp1 := (blk_cell hS.2.1 1).trans (rfl : _ = some (Value.string vl))
                clear hS HL BKgp BKgx
                have zs0 : wS.cell? ⟨g2, 0, none⟩ = some (.string (⟨#[]⟩ : ByteArray)) := (blk_cell HLs.out.k2 0).trans rfl
                have ys0 := blk_frozen HLs.out.k2 0
                have zs1 : wS.cell? ⟨g2, 1, none⟩ = some (.string (⟨#[]⟩ : ByteArray)) := (blk_cell HLs.out.k2 1).trans rfl
                have ys1 := blk_frozen HLs.out.k2 1
                have zs2 : wS.cell? ⟨g2, 2, none⟩ = some (.slice none 0 0) := (blk_cell HLs.out.k2 2).trans rfl
                have ys2 := blk_frozen HLs.out.k2 2
                simp only [actE, d17, List.replicate_succ, List.replicate_zero, if_true, Act.put, List.setIfInBounds_toArray, List.set_cons_succ, List.set_cons_zero]
                go_wp2_with (first | ((with_reducible refine gate_update rfl ?_); refine wpList_update_held _ rfl _ _ _ 49 rfl 9 48 Tryd.underlying9 Tryd.underlying49 (w5.heap.size) (i + 1) (toldD ens (l0_2.take i)) rfl HLs.out.has (by have := HK.out; unfold maxLen; omega) nm _ rfl rfl (by have := HNS.out.1; unfold maxLen; omega) ?_; intro wU ho hg; have HL2 := Aside0.mk (LI.put HLs.out ho hg); clear ho hg))
                go_roundg (l0_2.length - (i + 1))
                case measure => have := HK.out; omega
                case rel =>
                  refine ⟨i + 1, by go_num, ⟨by omega⟩, ⟨fun j hj => ?_⟩, ⟨by rw [HSN.out, toldD_snoc]; exact HL2.out⟩⟩
                  by_cases ej : j = i
                  · subst ej; exact (by subst hi0; exact step_first HP.out (known_rule HF.out HM.out))
                  · exact HA.out j (by omega)
              · have hi1 : (0 : Int) < (i : Int) := by omega
                have hz := decide_eq_true hi1
                have hw1 : IntKind.i64.wrap ((i : Int) - 1) = (i : Int) - 1 := by rw [IntKind.wrap_i64]; omega
                have hv0 : (0 : Int) ≤ (i : Int) - 1 := by omega
                have hv1 : (i : Int) - 1 < (l0_2.length : Int) := by omega
                obtain ⟨pn, hpn⟩ : ∃ pn, (rd_T34 l0_2 ((i - 1 : Nat) : Int)).f0 = pn := ⟨_, rfl⟩
                have HPV := Aside0.mk hpn
                clear hpn
                cases hle : (Op.bytesLess nm.toList pn.toList || nm.toList == pn.toList) with
                | true =>
                  have HLE := Aside0.mk hle
                  refine r17_Dle (fun W' => LI w W0 W' g1 g2 a0_0 a0_1 (some ad) c0_2 l0_2 bi ni li (w5.heap.size) (i + 1) (toldD ens (l0_2.take i)) ∧ W'.heap[gp]? = some (.cells #[.string nm, .string vl] 34 (0, 0)) ∧ W'.heap[gx]? = some (.cells #[(.string q.dflt), (.bool q.must), (.func (.func g) #[] lb)] 52 (0, 0))) gp gx g1 i nm vl rfl rfl rfl rfl rfl rfl ⟨LI.later HL.out (below_drew1 (Below.refl _ _)), BKgp.out, BKgx.out⟩ (fun W h => (blk_cell h.2.1 0).trans rfl) be2 g lb eg (fun W h => (blk_cell h.2.1 1).trans rfl) (fun W h => (blk_cell h.2.2 2).trans rfl) (fun W h => (call_may HU.out hm2.out hc2.out HNS.out.2 h.1.below h.1.kept).mono (fun e w' he => ⟨by rw [he.1, HM.out], LI.later h.1 he.2, blk_below h.2.1 he.2, blk_below h.2.2 he.2⟩)) hz l0_2 c0_2 ad pn hw1 hv0 hv1 (fun W h => (blk_cell h.1.k1 2).trans rfl) (fun W h => by rw [prev_cell HR.out h.1.below hi0 hlt, HPV.out]) hle (fun wS hS => ?_)
                  have HLs := Aside0.mk hS.1
                  have cp0 := (blk_cell hS.2.1 0).trans (rfl : _ = some (Value.string nm))
                  have cp1 := (blk_cell hS.2.1 1).trans (rfl : _ = some (Value.string vl))
                  clear hS HL BKgp BKgx
                  have zs0 : wS.cell? ⟨g2, 0, none⟩ = some (.string (⟨#[]⟩ : ByteArray)) := (blk_cell HLs.out.k2 0).trans rfl
                  have ys0 := blk_frozen HLs.out.k2 0
                  have zs1 : wS.cell? ⟨g2, 1, none⟩ = some (.string (⟨#[]⟩ : ByteArray)) := (blk_cell HLs.out.k2 1).trans rfl
                  have ys1 := blk_frozen HLs.out.k2 1
                  have zs2 : wS.cell? ⟨g2, 2, none⟩ = some (.slice none 0 0) := (blk_cell HLs.out.k2 2).trans rfl
                  have ys2 := blk_frozen HLs.out.k2 2
                  simp only [actE, d17, List.replicate_succ, List.replicate_zero, if_true, Act.put, List.setIfInBounds_toArray, List.set_cons_succ, List.set_cons_zero]
                  go_wp2
                  refine bodyPost_ret (results_ct rfl _ _ g2 24 #[.string (⟨#[]⟩ : ByteArray), .string (⟨#[]⟩ : ByteArray), .slice none 0 0] (0, 0) _ rfl (by (with_reducible repeat (first | refine blk_drewN ?_ _ | refine blk_drew ?_ | refine blk_alloc ?_ _)); refine blk_put (cs := #[.string (⟨#[]⟩ : ByteArray), .string (⟨#[]⟩ : ByteArray), .slice none 0 0]) ?_ 2 _ rfl; refine blk_put (cs := #[.string (⟨#[]⟩ : ByteArray), .string (⟨#[]⟩ : ByteArray), .slice none 0 0]) ?_ 1 _ rfl; refine blk_put (cs := #[.string (⟨#[]⟩ : ByteArray), .string (⟨#[]⟩ : ByteArray), .slice none 0 0]) ?_ 0 _ rfl; (with_reducible repeat (first | refine blk_drewN ?_ _ | refine blk_drew ?_ | refine blk_alloc ?_ _)); exact HLs.out.k2) Tryd.underlying24 rfl (by kernel_rfl)) rfl ?_
                  exact .inl ⟨okP_false hlt (step_order HP.out hi0 (by rw [HPV.out]; exact HLE.out)), rfl, (by repeat (first | exact HLs.out.below | refine below_set ?_ HLs.out.e2 | apply pw_below_drewN | apply below_drew1))⟩
                | false =>
                  have HLE := Aside0.mk hle
                  refine r17_Dok (fun W' => LI w W0 W' g1 g2 a0_0 a0_1 (some ad) c0_2 l0_2 bi ni li (w5.heap.size) (i + 1) (toldD ens (l0_2.take i)) ∧ W'.heap[gp]? = some (.cells #[.string nm, .string vl] 34 (0, 0)) ∧ W'.heap[gx]? = some (.cells #[(.string q.dflt), (.bool q.must), (.func (.func g) #[] lb)] 52 (0, 0))) gp gx g1 i nm vl rfl rfl rfl rfl rfl rfl ⟨LI.later HL.out (below_drew1 (Below.refl _ _)), BKgp.out, BKgx.out⟩ (fun W h => (blk_cell h.2.1 0).trans rfl) be2 g lb eg (fun W h => (blk_cell h.2.1 1).trans rfl) (fun W h => (blk_cell h.2.2 2).trans rfl) (fun W h => (call_may HU.out hm2.out hc2.out HNS.out.2 h.1.below h.1.kept).mono (fun e w' he => ⟨by rw [he.1, HM.out], LI.later h.1 he.2, blk_below h.2.1 he.2, blk_below h.2.2 he.2⟩)) hz l0_2 c0_2 ad pn hw1 hv0 hv1 (fun W h => (blk_cell h.1.k1 2).trans rfl) (fun W h => by rw [prev_cell HR.out h.1.below hi0 hlt, HPV.out]) hle (fun wS hS => ?_)
                  have HLs := Aside0.mk hS.1
                  have cp0 := (blk_cell hS.2.1 0).trans (rfl : _ = some (Value.string nm))
                  have cp1 := (blk_cell hS.2.1 1).trans (rfl : _ = some (Value.string vl))
                  clear hS HL BKgp BKgx
                  have zs0 : wS.cell? ⟨g2, 0, none⟩ = some (.string (⟨#[]⟩ : ByteArray)) := (blk_cell HLs.out.k2 0).trans rfl
                  have ys0 := blk_frozen HLs.out.k2 0
                  have zs1 : wS.cell? ⟨g2, 1, none⟩ = some (.string (⟨#[]⟩ : ByteArray)) := (blk_cell HLs.out.k2 1).trans rfl
                  have ys1 := blk_frozen HLs.out.k2 1
                  have zs2 : wS.cell? ⟨g2, 2, none⟩ = some (.slice none 0 0) := (blk_cell HLs.out.k2 2).trans rfl
                  have ys2 := blk_frozen HLs.out.k2 2
                  simp only [actE, d17, List.replicate_succ, List.replicate_zero, if_true, Act.put, List.setIfInBounds_toArray, List.set_cons_succ, List.set_cons_zero]
                  go_wp2_with (first | ((with_reducible refine gate_update rfl ?_); refine wpList_update_held _ rfl _ _ _ 49 rfl 9 48 Tryd.underlying9 Tryd.underlying49 (w5.heap.size) (i + 1) (toldD ens (l0_2.take i)) rfl HLs.out.has (by have := HK.out; unfold maxLen; omega) nm _ rfl rfl (by have := HNS.out.1; unfold maxLen; omega) ?_; intro wU ho hg; have HL2 := Aside0.mk (LI.put HLs.out ho hg); clear ho hg))
                  go_roundg (l0_2.length - (i + 1))
                  case measure => have := HK.out; omega
                  case rel =>
                    refine ⟨i + 1, by go_num, ⟨by omega⟩, ⟨fun j hj => ?_⟩, ⟨by rw [HSN.out, toldD_snoc]; exact HL2.out⟩⟩
                    by_cases ej : j = i
                    · subst ej; exact step_next HP.out (known_rule HF.out HM.out) (by rw [HPV.out]; exact HLE.out)
                    · exact HA.out j (by omega)
      · have hil : i = l0_2.length := by have := HK.out; omega
        have HOK := Aside0.mk (okP_true (rs := rs) (l := l0_2) (fun j hj => HA.out j (by omega)))
        have HL3 := Aside0.mk ((by have h := HL.out; rw [hil, List.take_length] at h; exact h) : LI w W0 wr g1 g2 a0_0 a0_1 A0_2 c0_2 l0_2 bi ni li (w5.heap.size) (l0_2.length + 1) (toldD ens l0_2))
        clear HL
        have HL := HL3
        clear HL3 HA hil
        have HS8 := Aside0.mk (own_size HL.out.inner)
        go_wp2_with (first | ((at_range); refine wpList_range_own _ rfl _ 45 rfl 9 52 (string_keyed Tryd.underlying9) Tryd.underlying45 heldR bi ni (putL li) rfl HL.out.inner ?_; intro wR hrg hgr hsr; have HRG := Aside0.mk hrg; have GER := Aside0.mk HL.out.size; have HL3 := Aside0.mk (LI.later HL.out (below_of_grown hgr)); clear HL hrg hgr hsr; have HL := HL3; clear HL3))
        go_frame
        go_loopg [3] (Maps.size (putL li)) (fun kq v3 wx => ∃ (left : Lit → Bool) (nD : Nat) (D : DataW Value), Aside0 (wx.ranges Tryd.prog 9 heldR bi wr.heap.size ni (putL li) left kq) ∧ Aside0 (LI w W0 wx g1 g2 a0_0 a0_1 A0_2 c0_2 l0_2 bi ni li (w5.heap.size) nD D) ∧ Aside0 (Inv2 ens l0_2 rs left D) ∧ Aside0 (nD + kq ≤ l0_2.length + 1 + Maps.size (putL li)))
        case atStart => exact ⟨_, _, _, HRG, HL, ⟨Inv2.start HKR.out HTR.out.1⟩, ⟨Nat.le_refl _⟩⟩
        case round =>
          clear HL HRG
          obtain ⟨left, nD, D, HRG, HL, HI, HNB⟩ := hrel
          go_wp2_with (first | ((at_next); refine next_rules HRG.out HKR.out HTR.out.1 rfl _ rfl rfl ?_ ?_))
          · intro hc0 hl0
            have HLK := Aside0.mk (lacks_false HI.out hl0 HTR.out.1)
            have HFH := Aside0.mk ((fun s => by rw [HI.out.has_, tAt_end hl0]) : ∀ s, Maps.has D (kS s) = (fullAt ens l0_2 rs s).isSome)
            have HFA := Aside0.mk ((fun s z => by rw [HI.out.at_, tAt_end hl0]; cases fullAt ens l0_2 rs s <;> rfl) : ∀ s z, D.atKey (kS s) z = (match fullAt ens l0_2 rs s with | some v => toldV v | none => z))
            have HND := Aside0.mk ((by have h1 := HNB.out; have h2 := HS8.out; have h3 := HL.out.ni8; omega) : nD ≤ 8796093022208)
            have HL8 := Aside0.mk ((by unfold namesB namesS; have := HTR.out.2.2.1; simp; omega) : (namesB rs).length ≤ 9)
            clear hl0 hc0 HRG HI
            have cg0 : wr.cell? ⟨g1, 0, none⟩ = some (.string a0_0) := (blk_cell HL.out.k1 0).trans rfl
            have cg1 : wr.cell? ⟨g1, 1, none⟩ = some (.string a0_1) := (blk_cell HL.out.k1 1).trans rfl
            go_wp2_with (first | ((with_reducible refine gate_dst (N := 19) rfl ?_); refine box_event ?hg (N := 19) ?hd (cs := #[.string (⟨#[]⟩ : ByteArray), .string (⟨#[]⟩ : ByteArray), .slice none 0 0]) (t := 24) ?hr ?_; (case hd => rfl); (case hg => rfl); (case hr => first | (go_simp; done) | (go_simp; rfl)); intro g3 hg w36 hbox hb; have GEg3 := Aside0.mk ((by rw [hg]; exact HL.out.size) : W0.heap.size ≤ g3); have nL_ := Aside0.mk (LI.later HL.out hb); clear HL; have HL := nL_; clear nL_; have BKg3 := Aside0.mk hbox; clear hb hbox hg; have c36_g3_0 : w36.cell? ⟨g3, 0, none⟩ = some (.string (⟨#[]⟩ : ByteArray)) := (blk_cell BKg3.out 0).trans rfl; have f36_g3_0 := blk_frozen BKg3.out 0; have c36_g3_1 : w36.cell? ⟨g3, 1, none⟩ = some (.string (⟨#[]⟩ : ByteArray)) := (blk_cell BKg3.out 1).trans rfl; have f36_g3_1 := blk_frozen BKg3.out 1; have c36_g3_2 : w36.cell? ⟨g3, 2, none⟩ = some (.slice none 0 0) := (blk_cell BKg3.out 2).trans rfl; have f36_g3_2 := blk_frozen BKg3.out 2) | ((with_reducible refine gate_store (t := 24) (p := 19) rfl ?_); refine store_event (t := 24) (p := 19) (v := ?vo37) (w1 := ?wo37) ?hg ?ho ?hn ?hr ?_; (case ho => rfl); (case hg => rfl); (case hn => rfl); (case hr => first | (go_simp; done) | (go_simp; rfl)); intro w37 hw; have ng3_ := Aside0.mk ((by rw [hw]; refine blk_put (cs := #[(.string a0_0), (.string a0_1), .slice none 0 0]) ?_ 2 _ rfl; refine blk_put (cs := #[(.string a0_0), .string (⟨#[]⟩ : ByteArray), .slice none 0 0]) ?_ 1 _ rfl; refine blk_put (cs := #[.string (⟨#[]⟩ : ByteArray), .string (⟨#[]⟩ : ByteArray), .slice none 0 0]) ?_ 0 _ rfl; (with_reducible repeat (first | refine blk_drewN ?_ _ | refine blk_drew ?_ | refine blk_alloc ?_ _)); exact BKg3.out) : w37.heap[g3]? = some (.cells #[(.string a0_0), (.string a0_1), (.slice none 0 0)] 24 (0, 0))); have nL_ := Aside0.mk (LI.set (i := 2) (v := (.slice none 0 0)) (LI.set (i := 1) (v := (.string a0_1)) (LI.set (i := 0) (v := (.string a0_0)) (HL.out) (BKg3.out) GEg3.out) (blk_put (cs' := #[(.string a0_0), .string (⟨#[]⟩ : ByteArray), .slice none 0 0]) (BKg3.out) 0 ((.string a0_0)) rfl) GEg3.out) (blk_put (cs' := #[(.string a0_0), (.string a0_1), .slice none 0 0]) (blk_put (cs' := #[(.string a0_0), .string (⟨#[]⟩ : ByteArray), .slice none 0 0]) (BKg3.out) 0 ((.string a0_0)) rfl) 1 ((.string a0_1)) rfl) GEg3.out); rw [← hw] at nL_; clear BKg3; have BKg3 := ng3_; clear ng3_; clear HL; have HL := nL_; clear nL_; clear hw; have c37_g3_0 : w37.cell? ⟨g3, 0, none⟩ = some ((.string a0_0)) := (blk_cell BKg3.out 0).trans rfl; have f37_g3_0 := blk_frozen BKg3.out 0; have c37_g3_1 : w37.cell? ⟨g3, 1, none⟩ = some ((.string a0_1)) := (blk_cell BKg3.out 1).trans rfl; have f37_g3_1 := blk_frozen BKg3.out 1; have c37_g3_2 : w37.cell? ⟨g3, 2, none⟩ = some ((.slice none 0 0)) := (blk_cell BKg3.out 2).trans rfl; have f37_g3_2 := blk_frozen BKg3.out 2) | (go_at_call 20; refine (keys_calls _ _).mono ?_; rintro e wK ⟨rfl, rfl⟩) | (go_at_call 19; refine (sorted_calls HL.out.has HND.out HFH.out HTR.out.1 HTR.out.2.1 HOK.out).mono ?_; rintro e wN ⟨A, cN, rfl, hRN, hbN⟩; have HL2 := Aside0.mk (LI.later (LI.later HL.out (below_alloc _ _)) hbN); have BK2 := Aside0.mk (blk_below (blk_alloc BKg3.out _) hbN); have HNM := Aside0.mk (Kd.R_lower (names_far hRN (by have h1 := blk_lt BKg3.out; simp; omega)) (by have h1 := HL.out.below.size; simp; omega) : Kd.R Kd.string 9 wN w.heap.size (fun k => k ≠ g3) (.slice A (namesB rs).length cN) (namesB rs)); have GE3 := Aside0.mk (Nat.le_trans HL.out.e0 GEg3.out : w.heap.size ≤ g3); have GEW := Aside0.mk (GEg3.out : W0.heap.size ≤ g3); clear HL BKg3 hRN hbN; have HL := HL2; have BKg3 := BK2; clear HL2 BK2))
            go_loopg [145] (namesB rs).length (fun kq v145 wy => ∃ (i3 : Nat) (v : Value), v145 = .int .i64 i3 ∧ Aside0 (i3 + kq = (namesB rs).length) ∧ Aside0 (Kd.R k34 34 wy g3 (fun k => k ≠ g3 ∧ some k ≠ (Value.slice A (namesB rs).length cN).ownBlock) v ((outS ens l0_2 rs).take i3)) ∧ Aside0 (Below g3 wN wy) ∧ Aside0 (Kd.R Kd.string 9 wy w.heap.size (fun k => k ≠ g3) (.slice A (namesB rs).length cN) (namesB rs)) ∧ Aside0 (wy.heap[g3]? = some (.cells #[.string a0_0, .string a0_1, v] 24 (0, 0))) ∧ Aside0 (LI w W0 wy g1 g2 a0_0 a0_1 A0_2 c0_2 l0_2 bi ni li (w5.heap.size) nD D))
            case atStart => exact ⟨0, .slice none 0 0, rfl, ⟨by omega⟩, ⟨Kd.R_nil _ _ _ _ _⟩, ⟨Below.refl _ _⟩, HNM, BKg3, HL⟩
            case round =>
              clear HL BKg3 HNM
              obtain ⟨i3, v, rfl, HK3, HV, HBG, HNM, BKg3, HL⟩ := hrel
              by_cases hl3 : i3 < (namesB rs).length
              · have hl3' : (i3 : Int) < ((namesB rs).length : Int) := by omega
                have hl9 : (namesB rs).length ≤ 9 := HL8.out
                obtain ⟨_, _, hCN⟩ := Kd.R_reads' HNM.out
                obtain ⟨ad3, ead3, hx3⟩ := Kd.at_string hCN (i3 : Int) (by omega) hl3'
                cases ead3
                simp only [Int.toNat_natCast] at hx3
                have hfu := name_full (ens := ens) (P := l0_2) (name_at hl3)
                have hns := name_size HTR.out.2.2.2 (name_at hl3)
                have HTK := Aside0.mk (outS_take (ens := ens) (P := l0_2) hl3)
                obtain ⟨n3, hn3⟩ : ∃ n3, rdOf ByteArray.empty (namesB rs) (i3 : Int) = n3 := ⟨_, rfl⟩
                have htk := HTK.out
                rw [hn3] at hx3 hfu hns htk
                obtain ⟨t3, ht3⟩ : ∃ t3, (fullAt ens l0_2 rs n3).getD ⟨#[]⟩ = t3 := ⟨_, rfl⟩
                rw [ht3] at hfu htk
                have HT3 := Aside0.mk ((fun z => by rw [HFA.out, hfu]) : ∀ z, D.atKey (kS n3) z = toldV t3)
                have HTS := Aside0.mk htk
                have HNS3 := Aside0.mk hns
                clear hfu hns htk hn3 ht3 HTK hCN
                have c30 : wr.cell? ⟨g3, 2, none⟩ = some v := (blk_cell BKg3.out 2).trans rfl
                have f30 := blk_frozen BKg3.out 2
                go_wp2_with (first | ((with_reducible refine gate_dst (N := 154) rfl ?_); refine look_one HL.out.has rfl _ _ rfl rfl n3 rfl HNS3.out HT3.out ?_) | ((with_reducible refine gate_dst (N := 158) rfl ?_); refine Kd.R_append k34 (w0 := wN) g3 (by rfl) (.tmp 150) (.tmp 157) 22 34 (.agg #[(.string ⟨#[]⟩), (.string ⟨#[]⟩)]) 32 rfl Tryd.underlying22 info34 rfl (by decide) (by omega) v _ (⟨n3, t3⟩ : S34) [.string n3, .string t3] _ (fun _ => False) rfl rfl (k34_mkM _ _ _ _) (fun _ hk => hk.elim) ?_ HV.out HBG.out (Nat.le_of_lt (blk_lt BKg3.out)) ?_ ?_; (focus (intro k hk; exact ⟨(by have := blk_lt BKg3.out; omega), (fun e => by have := Kd.R_lt HNM.out k e.symm; omega)⟩)); (focus (have h1 := HL8.out; have h2 := HK3.out; rw [List.length_take]; omega)); intro v1 w1 hv1 hb1 hg1 hat1; obtain ⟨A4, n4, c4, hv4⟩ : ∃ A n c, v1 = Value.slice A n c := (Kd.R_slice hv1).elim (fun A h => h.elim (fun c e => ⟨A, _, c, e⟩)); subst hv4; have HV2 := Aside0.mk hv1; have HBG2 := Aside0.mk hb1; have HNM2 := Aside0.mk (Kd.R_grown2 HNM.out rfl hg1 (fun k e => fun e2 => (HV.out.1 k e).2 e2)); have BK2 := Aside0.mk (blk_grown BKg3.out hg1 (fun e => (HV.out.1 g3 e.symm).1 rfl)); have HLA := Aside0.mk (LI.row HL.out HV.out (GEW.out) hg1); have c31 : w1.cell? ⟨g3, 2, none⟩ = some v := (blk_cell BK2.out 2).trans rfl; have f31 := blk_frozen BK2.out 2; clear hv1 hb1 hg1 hat1))
                go_roundg ((namesB rs).length - (i3 + 1))
                case measure => have := HK3.out; omega
                case rel => exact ⟨i3 + 1, _, by go_num, ⟨by omega⟩, ⟨by rw [HTS.out]; exact Kd.R_far (p := ⟨g3, 2, none⟩) HV2.out (fun k hk => hk.1) _⟩, ⟨HBG2.out.setCell (Nat.le_refl _) _⟩, ⟨Kd.R_far (p := ⟨g3, 2, none⟩) HNM2.out (fun k hk => hk) _⟩, ⟨blk_put BK2.out 2 _ rfl⟩, ⟨LI.set HLA.out BK2.out GEW.out⟩⟩
              · have hge3 : ¬ (i3 : Int) < ((namesB rs).length : Int) := by omega
                obtain ⟨A5, n5, c5, hv5⟩ : ∃ A n c, v = Value.slice A n c := (Kd.R_slice HV.out).elim (fun A h => h.elim (fun c e => ⟨A, _, c, e⟩))
                subst hv5
                have cz0 : wr.cell? ⟨g3, 0, none⟩ = some (.string a0_0) := (blk_cell BKg3.out 0).trans rfl
                have cz1 : wr.cell? ⟨g3, 1, none⟩ = some (.string a0_1) := (blk_cell BKg3.out 1).trans rfl
                have cz2 : wr.cell? ⟨g3, 2, none⟩ = some (.slice A5 n5 c5) := (blk_cell BKg3.out 2).trans rfl
                have cy0 : wr.cell? ⟨g2, 0, none⟩ = some (.string (⟨#[]⟩ : ByteArray)) := (blk_cell HL.out.k2 0).trans rfl
                have fy0 := blk_frozen HL.out.k2 0
                have cy1 : wr.cell? ⟨g2, 1, none⟩ = some (.string (⟨#[]⟩ : ByteArray)) := (blk_cell HL.out.k2 1).trans rfl
                have fy1 := blk_frozen HL.out.k2 1
                have cy2 : wr.cell? ⟨g2, 2, none⟩ = some (.slice none 0 0) := (blk_cell HL.out.k2 2).trans rfl
                have fy2 := blk_frozen HL.out.k2 2
                have HIL := Aside0.mk ((by rw [List.take_of_length_le (by rw [outS_length]; omega)]) : (outS ens l0_2 rs).take i3 = outS ens l0_2 rs)
                have HV5 := Aside0.mk ((by have h := HV.out; rw [HIL.out] at h; exact h) : Kd.R k34 34 wr g3 (fun k => k ≠ g3 ∧ some k ≠ (Value.slice A (namesB rs).length cN).ownBlock) (.slice A5 n5 c5) (outS ens l0_2 rs))
                go_wp2
                refine bodyPost_ret (results_ct rfl _ _ g2 24 #[.string a0_0, .string a0_1, (.slice A5 n5 c5)] (0, 0) _ rfl (by refine blk_put (cs := #[(.string a0_0), (.string a0_1), .slice none 0 0]) ?_ 2 _ rfl; refine blk_put (cs := #[(.string a0_0), .string (⟨#[]⟩ : ByteArray), .slice none 0 0]) ?_ 1 _ rfl; refine blk_put (cs := #[.string (⟨#[]⟩ : ByteArray), .string (⟨#[]⟩ : ByteArray), .slice none 0 0]) ?_ 0 _ rfl; exact HL.out.k2) Tryd.underlying24 rfl (by kernel_rfl)) rfl ?_
                exact .inr ⟨HOK.out, .inr ⟨HLK.out, _, rfl, final_R HV5.out (by have := HL.out.l2; have := GEW.out; omega) GE3.out, (by repeat (first | exact HL.out.below | refine below_set ?_ HL.out.e2))⟩⟩
          · intro x q g lb w2 cnt2 hlx hfq hxs hrg2 hlt2 hg2 hen
            have HL2 := Aside0.mk (LI.turn HL.out hg2 GER.out HRG.out.ne (rng_own HRG.out HL.out.has))
            have HRG2 := Aside0.mk hrg2
            have HLX := Aside0.mk hlx
            have HFQ := Aside0.mk hfq
            have HLT := Aside0.mk hlt2
            clear hrg2 hg2 HL HRG hlx hfq hlt2
            have HL := HL2
            have HRG := HRG2
            clear HL2 HRG2
            cases hta : tAt ens l0_2 rs left x with
            | some t =>
              have HTA := Aside0.mk hta
              clear hta
              go_wp2_with (first | ((with_reducible refine gate_dst (N := 16) rfl ?_); refine box_event ?hg (N := 16) ?hd (cs := #[.string (⟨#[]⟩ : ByteArray), .bool false, .nilFunc]) (t := 52) ?hr ?_; (case hd => rfl); (case hg => rfl); (case hr => first | (go_simp; done) | (go_simp; rfl)); intro gx hg w23 hbox hb; have GEgx := Aside0.mk ((by rw [hg]; exact HL.out.size) : W0.heap.size ≤ gx); have nG_ := Aside0.mk (rng_below HRG.out hb); have nL_ := Aside0.mk (LI.later HL.out hb); clear HL; have HL := nL_; clear nL_; clear HRG; have HRG := nG_; clear nG_; have BKgx := Aside0.mk hbox; clear hb hbox hg; have c23_gx_0 : w23.cell? ⟨gx, 0, none⟩ = some (.string (⟨#[]⟩ : ByteArray)) := (blk_cell BKgx.out 0).trans rfl; have f23_gx_0 := blk_frozen BKgx.out 0; have c23_gx_1 : w23.cell? ⟨gx, 1, none⟩ = some (.bool false) := (blk_cell BKgx.out 1).trans rfl; have f23_gx_1 := blk_frozen BKgx.out 1; have c23_gx_2 : w23.cell? ⟨gx, 2, none⟩ = some (.nilFunc) := (blk_cell BKgx.out 2).trans rfl; have f23_gx_2 := blk_frozen BKgx.out 2) | ((with_reducible refine gate_store (t := 52) (p := 16) rfl ?_); refine store_event (t := 52) (p := 16) (v := ?vo24) (w1 := ?wo24) ?hg ?ho ?hn ?hr ?_; (case ho => rfl); (case hg => rfl); (case hn => rfl); (case hr => first | (go_simp; done) | (go_simp; rfl)); intro w24 hw; have ngx_ := Aside0.mk ((by rw [hw]; refine blk_put (cs := #[(.string q.dflt), (.bool q.must), .nilFunc]) ?_ 2 _ rfl; refine blk_put (cs := #[(.string q.dflt), .bool false, .nilFunc]) ?_ 1 _ rfl; refine blk_put (cs := #[.string (⟨#[]⟩ : ByteArray), .bool false, .nilFunc]) ?_ 0 _ rfl; (with_reducible repeat (first | refine blk_drewN ?_ _ | refine blk_drew ?_ | refine blk_alloc ?_ _)); exact BKgx.out) : w24.heap[gx]? = some (.cells #[(.string q.dflt), (.bool q.must), (.func (.func g) #[] lb)] 52 (0, 0))); have nG_ := Aside0.mk (rng_set (i := 2) (v := (.func (.func g) #[] lb)) (rng_set (i := 1) (v := (.bool q.must)) (rng_set (i := 0) (v := (.string q.dflt)) (HRG.out) (BKgx.out)) (blk_put (cs' := #[(.string q.dflt), .bool false, .nilFunc]) (BKgx.out) 0 ((.string q.dflt)) rfl)) (blk_put (cs' := #[(.string q.dflt), (.bool q.must), .nilFunc]) (blk_put (cs' := #[(.string q.dflt), .bool false, .nilFunc]) (BKgx.out) 0 ((.string q.dflt)) rfl) 1 ((.bool q.must)) rfl)); rw [← hw] at nG_; have nL_ := Aside0.mk (LI.set (i := 2) (v := (.func (.func g) #[] lb)) (LI.set (i := 1) (v := (.bool q.must)) (LI.set (i := 0) (v := (.string q.dflt)) (HL.out) (BKgx.out) GEgx.out) (blk_put (cs' := #[(.string q.dflt), .bool false, .nilFunc]) (BKgx.out) 0 ((.string q.dflt)) rfl) GEgx.out) (blk_put (cs' := #[(.string q.dflt), (.bool q.must), .nilFunc]) (blk_put (cs' := #[(.string q.dflt), .bool false, .nilFunc]) (BKgx.out) 0 ((.string q.dflt)) rfl) 1 ((.bool q.must)) rfl) GEgx.out); rw [← hw] at nL_; clear BKgx; have BKgx := ngx_; clear ngx_; clear HL; have HL := nL_; clear nL_; clear HRG; have HRG := nG_; clear nG_; clear hw; have c24_gx_0 : w24.cell? ⟨gx, 0, none⟩ = some ((.string q.dflt)) := (blk_cell BKgx.out 0).trans rfl; have f24_gx_0 := blk_frozen BKgx.out 0; have c24_gx_1 : w24.cell? ⟨gx, 1, none⟩ = some ((.bool q.must)) := (blk_cell BKgx.out 1).trans rfl; have f24_gx_1 := blk_frozen BKgx.out 1; have c24_gx_2 : w24.cell? ⟨gx, 2, none⟩ = some ((.func (.func g) #[] lb)) := (blk_cell BKgx.out 2).trans rfl; have f24_gx_2 := blk_frozen BKgx.out 2) | ((with_reducible refine gate_look rfl ?_); refine look_told_some HI.out HL.out.has rfl _ _ rfl rfl x rfl hxs HTA.out ?_) | ((with_reducible refine gate_dst (N := 17) rfl ?_); refine box_event ?hg (N := 17) ?hd (cs := #[.string (⟨#[]⟩ : ByteArray)]) (t := 48) ?hr ?_; (case hd => rfl); (case hg => rfl); (case hr => first | (go_simp; done) | (go_simp; rfl)); intro gt hg w25 hbox hb; have NEgx_gt := Aside0.mk ((by rw [hg]; exact Nat.ne_of_lt (blk_lt (w := _) BKgx.out)) : gx ≠ gt); have GEgt := Aside0.mk ((by rw [hg]; exact HL.out.size) : W0.heap.size ≤ gt); have nG_ := Aside0.mk (rng_below HRG.out hb); have ngx_ := Aside0.mk (blk_below (g := gx) (o := .cells #[(.string q.dflt), (.bool q.must), (.func (.func g) #[] lb)] 52 (0, 0)) (by (with_reducible repeat (first | refine blk_drewN ?_ _ | refine blk_drew ?_ | refine blk_alloc ?_ _)); exact BKgx.out) hb); have nL_ := Aside0.mk (LI.later HL.out hb); clear BKgx; have BKgx := ngx_; clear ngx_; clear HL; have HL := nL_; clear nL_; clear HRG; have HRG := nG_; clear nG_; have BKgt := Aside0.mk hbox; clear hb hbox hg; have c25_gx_0 : w25.cell? ⟨gx, 0, none⟩ = some ((.string q.dflt)) := (blk_cell BKgx.out 0).trans rfl; have f25_gx_0 := blk_frozen BKgx.out 0; have c25_gx_1 : w25.cell? ⟨gx, 1, none⟩ = some ((.bool q.must)) := (blk_cell BKgx.out 1).trans rfl; have f25_gx_1 := blk_frozen BKgx.out 1; have c25_gx_2 : w25.cell? ⟨gx, 2, none⟩ = some ((.func (.func g) #[] lb)) := (blk_cell BKgx.out 2).trans rfl; have f25_gx_2 := blk_frozen BKgx.out 2; have c25_gt_0 : w25.cell? ⟨gt, 0, none⟩ = some (.string (⟨#[]⟩ : ByteArray)) := (blk_cell BKgt.out 0).trans rfl; have f25_gt_0 := blk_frozen BKgt.out 0) | ((with_reducible refine gate_store (t := 48) (p := 17) rfl ?_); refine store_event (t := 48) (p := 17) (v := ?vo26) (w1 := ?wo26) ?hg ?ho ?hn ?hr ?_; (case ho => rfl); (case hg => rfl); (case hn => rfl); (case hr => first | (go_simp; done) | (go_simp; rfl)); intro w26 hw; have ngx_ := Aside0.mk ((by rw [hw]; (repeat refine blk_far ?_ NEgx_gt.out _); (with_reducible repeat (first | refine blk_drewN ?_ _ | refine blk_drew ?_ | refine blk_alloc ?_ _)); exact BKgx.out) : w26.heap[gx]? = some (.cells #[(.string q.dflt), (.bool q.must), (.func (.func g) #[] lb)] 52 (0, 0))); have ngt_ := Aside0.mk ((by rw [hw]; refine blk_put (cs := #[.string (⟨#[]⟩ : ByteArray)]) ?_ 0 _ rfl; (with_reducible repeat (first | refine blk_drewN ?_ _ | refine blk_drew ?_ | refine blk_alloc ?_ _)); exact BKgt.out) : w26.heap[gt]? = some (.cells #[(.string t)] 48 (0, 0))); have nG_ := Aside0.mk (rng_set (i := 0) (v := (.string t)) (HRG.out) (BKgt.out)); rw [← hw] at nG_; have nL_ := Aside0.mk (LI.set (i := 0) (v := (.string t)) (HL.out) (BKgt.out) GEgt.out); rw [← hw] at nL_; clear BKgx; have BKgx := ngx_; clear ngx_; clear BKgt; have BKgt := ngt_; clear ngt_; clear HL; have HL := nL_; clear nL_; clear HRG; have HRG := nG_; clear nG_; clear hw; have c26_gx_0 : w26.cell? ⟨gx, 0, none⟩ = some ((.string q.dflt)) := (blk_cell BKgx.out 0).trans rfl; have f26_gx_0 := blk_frozen BKgx.out 0; have c26_gx_1 : w26.cell? ⟨gx, 1, none⟩ = some ((.bool q.must)) := (blk_cell BKgx.out 1).trans rfl; have f26_gx_1 := blk_frozen BKgx.out 1; have c26_gx_2 : w26.cell? ⟨gx, 2, none⟩ = some ((.func (.func g) #[] lb)) := (blk_cell BKgx.out 2).trans rfl; have f26_gx_2 := blk_frozen BKgx.out 2; have c26_gt_0 : w26.cell? ⟨gt, 0, none⟩ = some ((.string t)) := (blk_cell BKgt.out 0).trans rfl; have f26_gt_0 := blk_frozen BKgt.out 0))
              go_roundg cnt2
              case measure => exact HLT.out
              case rel => exact ⟨_, _, _, HRG, HL, ⟨Inv2.skip HI.out HLX.out (by rw [HTA.out]; rfl)⟩, ⟨by have h1 := HNB.out; have h2 := HLT.out; omega⟩⟩
            | none =>
              have HTA := Aside0.mk hta
              clear hta
              cases hmu : q.must with
              | true =>
                have HMU := Aside0.mk hmu
                rw [hmu] at hen
                clear hmu
                go_wp2_with (first | ((with_reducible refine gate_dst (N := 16) rfl ?_); refine box_event ?hg (N := 16) ?hd (cs := #[.string (⟨#[]⟩ : ByteArray), .bool false, .nilFunc]) (t := 52) ?hr ?_; (case hd => rfl); (case hg => rfl); (case hr => first | (go_simp; done) | (go_simp; rfl)); intro gx hg w27 hbox hb; have GEgx := Aside0.mk ((by rw [hg]; exact HL.out.size) : W0.heap.size ≤ gx); have nG_ := Aside0.mk (rng_below HRG.out hb); have nL_ := Aside0.mk (LI.later HL.out hb); clear HL; have HL := nL_; clear nL_; clear HRG; have HRG := nG_; clear nG_; have BKgx := Aside0.mk hbox; clear hb hbox hg; have c27_gx_0 : w27.cell? ⟨gx, 0, none⟩ = some (.string (⟨#[]⟩ : ByteArray)) := (blk_cell BKgx.out 0).trans rfl; have f27_gx_0 := blk_frozen BKgx.out 0; have c27_gx_1 : w27.cell? ⟨gx, 1, none⟩ = some (.bool false) := (blk_cell BKgx.out 1).trans rfl; have f27_gx_1 := blk_frozen BKgx.out 1; have c27_gx_2 : w27.cell? ⟨gx, 2, none⟩ = some (.nilFunc) := (blk_cell BKgx.out 2).trans rfl; have f27_gx_2 := blk_frozen BKgx.out 2) | ((with_reducible refine gate_store (t := 52) (p := 16) rfl ?_); refine store_event (t := 52) (p := 16) (v := ?vo28) (w1 := ?wo28) ?hg ?ho ?hn ?hr ?_; (case ho => rfl); (case hg => rfl); (case hn => rfl); (case hr => first | (go_simp; done) | (go_simp; rfl)); intro w28 hw; have ngx_ := Aside0.mk ((by rw [hw]; refine blk_put (cs := #[(.string q.dflt), (.bool true), .nilFunc]) ?_ 2 _ rfl; refine blk_put (cs := #[(.string q.dflt), .bool false, .nilFunc]) ?_ 1 _ rfl; refine blk_put (cs := #[.string (⟨#[]⟩ : ByteArray), .bool false, .nilFunc]) ?_ 0 _ rfl; (with_reducible repeat (first | refine blk_drewN ?_ _ | refine blk_drew ?_ | refine blk_alloc ?_ _)); exact BKgx.out) : w28.heap[gx]? = some (.cells #[(.string q.dflt), (.bool true), (.func (.func g) #[] lb)] 52 (0, 0))); have nG_ := Aside0.mk (rng_set (i := 2) (v := (.func (.func g) #[] lb)) (rng_set (i := 1) (v := (.bool true)) (rng_set (i := 0) (v := (.string q.dflt)) (HRG.out) (BKgx.out)) (blk_put (cs' := #[(.string q.dflt), .bool false, .nilFunc]) (BKgx.out) 0 ((.string q.dflt)) rfl)) (blk_put (cs' := #[(.string q.dflt), (.bool true), .nilFunc]) (blk_put (cs' := #[(.string q.dflt), .bool false, .nilFunc]) (BKgx.out) 0 ((.string q.dflt)) rfl) 1 ((.bool true)) rfl)); rw [← hw] at nG_; have nL_ := Aside0.mk (LI.set (i := 2) (v := (.func (.func g) #[] lb)) (LI.set (i := 1) (v := (.bool true)) (LI.set (i := 0) (v := (.string q.dflt)) (HL.out) (BKgx.out) GEgx.out) (blk_put (cs' := #[(.string q.dflt), .bool false, .nilFunc]) (BKgx.out) 0 ((.string q.dflt)) rfl) GEgx.out) (blk_put (cs' := #[(.string q.dflt), (.bool true), .nilFunc]) (blk_put (cs' := #[(.string q.dflt), .bool false, .nilFunc]) (BKgx.out) 0 ((.string q.dflt)) rfl) 1 ((.bool true)) rfl) GEgx.out); rw [← hw] at nL_; clear BKgx; have BKgx := ngx_; clear ngx_; clear HL; have HL := nL_; clear nL_; clear HRG; have HRG := nG_; clear nG_; clear hw; have c28_gx_0 : w28.cell? ⟨gx, 0, none⟩ = some ((.string q.dflt)) := (blk_cell BKgx.out 0).trans rfl; have f28_gx_0 := blk_frozen BKgx.out 0; have c28_gx_1 : w28.cell? ⟨gx, 1, none⟩ = some ((.bool true)) := (blk_cell BKgx.out 1).trans rfl; have f28_gx_1 := blk_frozen BKgx.out 1; have c28_gx_2 : w28.cell? ⟨gx, 2, none⟩ = some ((.func (.func g) #[] lb)) := (blk_cell BKgx.out 2).trans rfl; have f28_gx_2 := blk_frozen BKgx.out 2) | ((with_reducible refine gate_look rfl ?_); refine look_told_none HI.out HL.out.has rfl _ _ rfl rfl x rfl hxs HTA.out ?_) | ((with_reducible refine gate_dst (N := 17) rfl ?_); refine box_event ?hg (N := 17) ?hd (cs := #[.string (⟨#[]⟩ : ByteArray)]) (t := 48) ?hr ?_; (case hd => rfl); (case hg => rfl); (case hr => first | (go_simp; done) | (go_simp; rfl)); intro gt hg w29 hbox hb; have NEgx_gt := Aside0.mk ((by rw [hg]; exact Nat.ne_of_lt (blk_lt (w := _) BKgx.out)) : gx ≠ gt); have GEgt := Aside0.mk ((by rw [hg]; exact HL.out.size) : W0.heap.size ≤ gt); have nG_ := Aside0.mk (rng_below HRG.out hb); have ngx_ := Aside0.mk (blk_below (g := gx) (o := .cells #[(.string q.dflt), (.bool true), (.func (.func g) #[] lb)] 52 (0, 0)) (by (with_reducible repeat (first | refine blk_drewN ?_ _ | refine blk_drew ?_ | refine blk_alloc ?_ _)); exact BKgx.out) hb); have nL_ := Aside0.mk (LI.later HL.out hb); clear BKgx; have BKgx := ngx_; clear ngx_; clear HL; have HL := nL_; clear nL_; clear HRG; have HRG := nG_; clear nG_; have BKgt := Aside0.mk hbox; clear hb hbox hg; have c29_gx_0 : w29.cell? ⟨gx, 0, none⟩ = some ((.string q.dflt)) := (blk_cell BKgx.out 0).trans rfl; have f29_gx_0 := blk_frozen BKgx.out 0; have c29_gx_1 : w29.cell? ⟨gx, 1, none⟩ = some ((.bool true)) := (blk_cell BKgx.out 1).trans rfl; have f29_gx_1 := blk_frozen BKgx.out 1; have c29_gx_2 : w29.cell? ⟨gx, 2, none⟩ = some ((.func (.func g) #[] lb)) := (blk_cell BKgx.out 2).trans rfl; have f29_gx_2 := blk_frozen BKgx.out 2; have c29_gt_0 : w29.cell? ⟨gt, 0, none⟩ = some (.string (⟨#[]⟩ : ByteArray)) := (blk_cell BKgt.out 0).trans rfl; have f29_gt_0 := blk_frozen BKgt.out 0) | ((with_reducible refine gate_store (t := 48) (p := 17) rfl ?_); refine store_event (t := 48) (p := 17) (v := ?vo30) (w1 := ?wo30) ?hg ?ho ?hn ?hr ?_; (case ho => rfl); (case hg => rfl); (case hn => rfl); (case hr => first | (go_simp; done) | (go_simp; rfl)); intro w30 hw; have ngx_ := Aside0.mk ((by rw [hw]; (repeat refine blk_far ?_ NEgx_gt.out _); (with_reducible repeat (first | refine blk_drewN ?_ _ | refine blk_drew ?_ | refine blk_alloc ?_ _)); exact BKgx.out) : w30.heap[gx]? = some (.cells #[(.string q.dflt), (.bool true), (.func (.func g) #[] lb)] 52 (0, 0))); have ngt_ := Aside0.mk ((by rw [hw]; refine blk_put (cs := #[.string (⟨#[]⟩ : ByteArray)]) ?_ 0 _ rfl; (with_reducible repeat (first | refine blk_drewN ?_ _ | refine blk_drew ?_ | refine blk_alloc ?_ _)); exact BKgt.out) : w30.heap[gt]? = some (.cells #[(.string (⟨#[]⟩ : ByteArray))] 48 (0, 0))); have nG_ := Aside0.mk (rng_set (i := 0) (v := (.string (⟨#[]⟩ : ByteArray))) (HRG.out) (BKgt.out)); rw [← hw] at nG_; have nL_ := Aside0.mk (LI.set (i := 0) (v := (.string (⟨#[]⟩ : ByteArray))) (HL.out) (BKgt.out) GEgt.out); rw [← hw] at nL_; clear BKgx; have BKgx := ngx_; clear ngx_; clear BKgt; have BKgt := ngt_; clear ngt_; clear HL; have HL := nL_; clear nL_; clear HRG; have HRG := nG_; clear nG_; clear hw; have c30_gx_0 : w30.cell? ⟨gx, 0, none⟩ = some ((.string q.dflt)) := (blk_cell BKgx.out 0).trans rfl; have f30_gx_0 := blk_frozen BKgx.out 0; have c30_gx_1 : w30.cell? ⟨gx, 1, none⟩ = some ((.bool true)) := (blk_cell BKgx.out 1).trans rfl; have f30_gx_1 := blk_frozen BKgx.out 1; have c30_gx_2 : w30.cell? ⟨gx, 2, none⟩ = some ((.func (.func g) #[] lb)) := (blk_cell BKgx.out 2).trans rfl; have f30_gx_2 := blk_frozen BKgx.out 2; have c30_gt_0 : w30.cell? ⟨gt, 0, none⟩ = some ((.string (⟨#[]⟩ : ByteArray))) := (blk_cell BKgt.out 0).trans rfl; have f30_gt_0 := blk_frozen BKgt.out 0; have zt0 : w30.cell? ⟨g2, 0, none⟩ = some (.string (⟨#[]⟩ : ByteArray)) := (blk_cell HL.out.k2 0).trans rfl; have yt0 := blk_frozen HL.out.k2 0; have zt1 : w30.cell? ⟨g2, 1, none⟩ = some (.string (⟨#[]⟩ : ByteArray)) := (blk_cell HL.out.k2 1).trans rfl; have yt1 := blk_frozen HL.out.k2 1; have zt2 : w30.cell? ⟨g2, 2, none⟩ = some (.slice none 0 0) := (blk_cell HL.out.k2 2).trans rfl; have yt2 := blk_frozen HL.out.k2 2))
                refine bodyPost_ret (results_ct rfl _ _ g2 24 #[.string (⟨#[]⟩ : ByteArray), .string (⟨#[]⟩ : ByteArray), .slice none 0 0] (0, 0) _ rfl (by (with_reducible repeat (first | refine blk_drewN ?_ _ | refine blk_drew ?_ | refine blk_alloc ?_ _)); refine blk_put (cs := #[.string (⟨#[]⟩ : ByteArray), .string (⟨#[]⟩ : ByteArray), .slice none 0 0]) ?_ 2 _ rfl; refine blk_put (cs := #[.string (⟨#[]⟩ : ByteArray), .string (⟨#[]⟩ : ByteArray), .slice none 0 0]) ?_ 1 _ rfl; refine blk_put (cs := #[.string (⟨#[]⟩ : ByteArray), .string (⟨#[]⟩ : ByteArray), .slice none 0 0]) ?_ 0 _ rfl; (with_reducible repeat (first | refine blk_drewN ?_ _ | refine blk_drew ?_ | refine blk_alloc ?_ _)); exact HL.out.k2) Tryd.underlying24 rfl (by kernel_rfl)) rfl ?_
                exact .inr ⟨HOK.out, .inl ⟨lacks_true HFQ.out HMU.out (tAt_none (by rw [HTA.out]; rfl)), rfl, (by repeat (first | exact HL.out.below | refine below_set ?_ HL.out.e2))⟩⟩
              | false =>
                have HMU := Aside0.mk hmu
                rw [hmu] at hen
                clear hmu
                go_wp2_with (first | ((with_reducible refine gate_dst (N := 16) rfl ?_); refine box_event ?hg (N := 16) ?hd (cs := #[.string (⟨#[]⟩ : ByteArray), .bool false, .nilFunc]) (t := 52) ?hr ?_; (case hd => rfl); (case hg => rfl); (case hr => first | (go_simp; done) | (go_simp; rfl)); intro gx hg w31 hbox hb; have GEgx := Aside0.mk ((by rw [hg]; exact HL.out.size) : W0.heap.size ≤ gx); have nG_ := Aside0.mk (rng_below HRG.out hb); have nL_ := Aside0.mk (LI.later HL.out hb); clear HL; have HL := nL_; clear nL_; clear HRG; have HRG := nG_; clear nG_; have BKgx := Aside0.mk hbox; clear hb hbox hg; have c31_gx_0 : w31.cell? ⟨gx, 0, none⟩ = some (.string (⟨#[]⟩ : ByteArray)) := (blk_cell BKgx.out 0).trans rfl; have f31_gx_0 := blk_frozen BKgx.out 0; have c31_gx_1 : w31.cell? ⟨gx, 1, none⟩ = some (.bool false) := (blk_cell BKgx.out 1).trans rfl; have f31_gx_1 := blk_frozen BKgx.out 1; have c31_gx_2 : w31.cell? ⟨gx, 2, none⟩ = some (.nilFunc) := (blk_cell BKgx.out 2).trans rfl; have f31_gx_2 := blk_frozen BKgx.out 2) | ((with_reducible refine gate_store (t := 52) (p := 16) rfl ?_); refine store_event (t := 52) (p := 16) (v := ?vo32) (w1 := ?wo32) ?hg ?ho ?hn ?hr ?_; (case ho => rfl); (case hg => rfl); (case hn => rfl); (case hr => first | (go_simp; done) | (go_simp; rfl)); intro w32 hw; have ngx_ := Aside0.mk ((by rw [hw]; refine blk_put (cs := #[(.string q.dflt), (.bool false), .nilFunc]) ?_ 2 _ rfl; refine blk_put (cs := #[(.string q.dflt), .bool false, .nilFunc]) ?_ 1 _ rfl; refine blk_put (cs := #[.string (⟨#[]⟩ : ByteArray), .bool false, .nilFunc]) ?_ 0 _ rfl; (with_reducible repeat (first | refine blk_drewN ?_ _ | refine blk_drew ?_ | refine blk_alloc ?_ _)); exact BKgx.out) : w32.heap[gx]? = some (.cells #[(.string q.dflt), (.bool false), (.func (.func g) #[] lb)] 52 (0, 0))); have nG_ := Aside0.mk (rng_set (i := 2) (v := (.func (.func g) #[] lb)) (rng_set (i := 1) (v := (.bool false)) (rng_set (i := 0) (v := (.string q.dflt)) (HRG.out) (BKgx.out)) (blk_put (cs' := #[(.string q.dflt), .bool false, .nilFunc]) (BKgx.out) 0 ((.string q.dflt)) rfl)) (blk_put (cs' := #[(.string q.dflt), (.bool false), .nilFunc]) (blk_put (cs' := #[(.string q.dflt), .bool false, .nilFunc]) (BKgx.out) 0 ((.string q.dflt)) rfl) 1 ((.bool false)) rfl)); rw [← hw] at nG_; have nL_ := Aside0.mk (LI.set (i := 2) (v := (.func (.func g) #[] lb)) (LI.set (i := 1) (v := (.bool false)) (LI.set (i := 0) (v := (.string q.dflt)) (HL.out) (BKgx.out) GEgx.out) (blk_put (cs' := #[(.string q.dflt), .bool false, .nilFunc]) (BKgx.out) 0 ((.string q.dflt)) rfl) GEgx.out) (blk_put (cs' := #[(.string q.dflt), (.bool false), .nilFunc]) (blk_put (cs' := #[(.string q.dflt), .bool false, .nilFunc]) (BKgx.out) 0 ((.string q.dflt)) rfl) 1 ((.bool false)) rfl) GEgx.out); rw [← hw] at nL_; clear BKgx; have BKgx := ngx_; clear ngx_; clear HL; have HL := nL_; clear nL_; clear HRG; have HRG := nG_; clear nG_; clear hw; have c32_gx_0 : w32.cell? ⟨gx, 0, none⟩ = some ((.string q.dflt)) := (blk_cell BKgx.out 0).trans rfl; have f32_gx_0 := blk_frozen BKgx.out 0; have c32_gx_1 : w32.cell? ⟨gx, 1, none⟩ = some ((.bool false)) := (blk_cell BKgx.out 1).trans rfl; have f32_gx_1 := blk_frozen BKgx.out 1; have c32_gx_2 : w32.cell? ⟨gx, 2, none⟩ = some ((.func (.func g) #[] lb)) := (blk_cell BKgx.out 2).trans rfl; have f32_gx_2 := blk_frozen BKgx.out 2) | ((with_reducible refine gate_look rfl ?_); refine look_told_none HI.out HL.out.has rfl _ _ rfl rfl x rfl hxs HTA.out ?_) | ((with_reducible refine gate_dst (N := 17) rfl ?_); refine box_event ?hg (N := 17) ?hd (cs := #[.string (⟨#[]⟩ : ByteArray)]) (t := 48) ?hr ?_; (case hd => rfl); (case hg => rfl); (case hr => first | (go_simp; done) | (go_simp; rfl)); intro gt hg w33 hbox hb; have NEgx_gt := Aside0.mk ((by rw [hg]; exact Nat.ne_of_lt (blk_lt (w := _) BKgx.out)) : gx ≠ gt); have GEgt := Aside0.mk ((by rw [hg]; exact HL.out.size) : W0.heap.size ≤ gt); have nG_ := Aside0.mk (rng_below HRG.out hb); have ngx_ := Aside0.mk (blk_below (g := gx) (o := .cells #[(.string q.dflt), (.bool false), (.func (.func g) #[] lb)] 52 (0, 0)) (by (with_reducible repeat (first | refine blk_drewN ?_ _ | refine blk_drew ?_ | refine blk_alloc ?_ _)); exact BKgx.out) hb); have nL_ := Aside0.mk (LI.later HL.out hb); clear BKgx; have BKgx := ngx_; clear ngx_; clear HL; have HL := nL_; clear nL_; clear HRG; have HRG := nG_; clear nG_; have BKgt := Aside0.mk hbox; clear hb hbox hg; have c33_gx_0 : w33.cell? ⟨gx, 0, none⟩ = some ((.string q.dflt)) := (blk_cell BKgx.out 0).trans rfl; have f33_gx_0 := blk_frozen BKgx.out 0; have c33_gx_1 : w33.cell? ⟨gx, 1, none⟩ = some ((.bool false)) := (blk_cell BKgx.out 1).trans rfl; have f33_gx_1 := blk_frozen BKgx.out 1; have c33_gx_2 : w33.cell? ⟨gx, 2, none⟩ = some ((.func (.func g) #[] lb)) := (blk_cell BKgx.out 2).trans rfl; have f33_gx_2 := blk_frozen BKgx.out 2; have c33_gt_0 : w33.cell? ⟨gt, 0, none⟩ = some (.string (⟨#[]⟩ : ByteArray)) := (blk_cell BKgt.out 0).trans rfl; have f33_gt_0 := blk_frozen BKgt.out 0) | ((with_reducible refine gate_store (t := 48) (p := 17) rfl ?_); refine store_event (t := 48) (p := 17) (v := ?vo34) (w1 := ?wo34) ?hg ?ho ?hn ?hr ?_; (case ho => rfl); (case hg => rfl); (case hn => rfl); (case hr => first | (go_simp; done) | (go_simp; rfl)); intro w34 hw; have ngx_ := Aside0.mk ((by rw [hw]; (repeat refine blk_far ?_ NEgx_gt.out _); (with_reducible repeat (first | refine blk_drewN ?_ _ | refine blk_drew ?_ | refine blk_alloc ?_ _)); exact BKgx.out) : w34.heap[gx]? = some (.cells #[(.string q.dflt), (.bool false), (.func (.func g) #[] lb)] 52 (0, 0))); have ngt_ := Aside0.mk ((by rw [hw]; refine blk_put (cs := #[.string (⟨#[]⟩ : ByteArray)]) ?_ 0 _ rfl; (with_reducible repeat (first | refine blk_drewN ?_ _ | refine blk_drew ?_ | refine blk_alloc ?_ _)); exact BKgt.out) : w34.heap[gt]? = some (.cells #[(.string (⟨#[]⟩ : ByteArray))] 48 (0, 0))); have nG_ := Aside0.mk (rng_set (i := 0) (v := (.string (⟨#[]⟩ : ByteArray))) (HRG.out) (BKgt.out)); rw [← hw] at nG_; have nL_ := Aside0.mk (LI.set (i := 0) (v := (.string (⟨#[]⟩ : ByteArray))) (HL.out) (BKgt.out) GEgt.out); rw [← hw] at nL_; clear BKgx; have BKgx := ngx_; clear ngx_; clear BKgt; have BKgt := ngt_; clear ngt_; clear HL; have HL := nL_; clear nL_; clear HRG; have HRG := nG_; clear nG_; clear hw; have c34_gx_0 : w34.cell? ⟨gx, 0, none⟩ = some ((.string q.dflt)) := (blk_cell BKgx.out 0).trans rfl; have f34_gx_0 := blk_frozen BKgx.out 0; have c34_gx_1 : w34.cell? ⟨gx, 1, none⟩ = some ((.bool false)) := (blk_cell BKgx.out 1).trans rfl; have f34_gx_1 := blk_frozen BKgx.out 1; have c34_gx_2 : w34.cell? ⟨gx, 2, none⟩ = some ((.func (.func g) #[] lb)) := (blk_cell BKgx.out 2).trans rfl; have f34_gx_2 := blk_frozen BKgx.out 2; have c34_gt_0 : w34.cell? ⟨gt, 0, none⟩ = some ((.string (⟨#[]⟩ : ByteArray))) := (blk_cell BKgt.out 0).trans rfl; have f34_gt_0 := blk_frozen BKgt.out 0) | ((with_reducible refine gate_update rfl ?_); refine wpList_update_held _ rfl _ _ _ 49 rfl 9 48 Tryd.underlying9 Tryd.underlying49 (w5.heap.size) nD D rfl HL.out.has (by have h1 := HNB.out; have h2 := HS8.out; have h3 := HL.out.ni8; unfold maxLen; omega) x _ rfl rfl hxs ?_; intro wU ho hg; have HL2 := Aside0.mk (LI.put HL.out ho hg); have HRG2 := Aside0.mk (rng_put HRG.out HL.out.has hg HL.out.ne); clear ho hg))
                go_roundg cnt2
                case measure => exact HLT.out
                case rel => exact ⟨_, _, _, HRG2, HL2, ⟨Inv2.add HI.out HLX.out (by rw [HTA.out]; rfl) HFQ.out HMU.out⟩, ⟨by have h1 := HNB.out; have h2 := HLT.out; omega⟩⟩
end Go.Proofs.YtkgafkoopefghaaDoor.PA
end
section
set_option linter.unusedVariables false
set_option linter.unusedSimpArgs false
namespace Go.Proofs.YtkgafkoopefghaaDoor.PA
open Go.RowKit Go.Maps Go.WideMaps Go.Proofs.YtkgafkoopefghaaDoor.Hk Go.Proofs.YtkgafkoopefghaaDoorW.PrintWords Go.Proofs.YtkgafkoopefghaaDoorW.PrintLast
theorem getS_fit {n v : ByteArray} : ∀ {l : List S34}, fitP l = true → getS l n = some v → v.size < 2147483648
  | [], _, h => by cases h
  | p :: r, hf, h => by
    unfold fitP at hf
    simp only [List.all_cons, Bool.and_eq_true, decide_eq_true_eq] at hf
    unfold getS at h
    by_cases e : p.f0.toList = n.toList
    · rw [if_pos e] at h
      cases h
      exact hf.1.2
    · rw [if_neg e] at h
      exact getS_fit (l := r) (by unfold fitP; exact hf.2) h
def FullEnd (a b : ByteArray) (l : List S34) (n : Int) (w : World) (e : Ending) (w' : World) : Prop := ∃ v2_ : Value, e = .returned (.tuple #[.agg #[.string a, .string b, v2_], .int .i64 n]) ∧ Kd.R k34 34 w' w.heap.size (fun _ => True) v2_ l ∧ Below w.heap.size w w'
theorem refused_end {w : World} {n : Int} {e : Ending} {w' : World} (h : Refused w n e w') : FullEnd ⟨#[]⟩ ⟨#[]⟩ [] n w e w' := ⟨_, h.1, Kd.R_nil _ _ _ _ _, h.2⟩
theorem main_end {a b : ByteArray} {P : List S34} {ens : ByteArray} {rs : List (ByteArray × RuleD)} {w : World} {e : Ending} {w' : World}
    (h : (okP rs P = false ∧ Refused w 62 e w') ∨ (okP rs P = true ∧ ((lacks ens P rs = true ∧ Refused w 62 e w') ∨ (lacks ens P rs = false ∧ FullEnd a b (outS ens P rs) 0 w e w')))) :
    FullEnd (if okP rs P = true then (if lacks ens P rs = true then (⟨#[]⟩, ⟨#[]⟩, [], 62) else (a, b, outS ens P rs, (0 : Int))) else ((⟨#[]⟩ : ByteArray), (⟨#[]⟩ : ByteArray), ([] : List S34), (62 : Int))).1 (if okP rs P = true then (if lacks ens P rs = true then (⟨#[]⟩, ⟨#[]⟩, [], 62) else (a, b, outS ens P rs, (0 : Int))) else ((⟨#[]⟩ : ByteArray), (⟨#[]⟩ : ByteArray), ([] : List S34), (62 : Int))).2.1 (if okP rs P = true then (if lacks ens P rs = true then (⟨#[]⟩, ⟨#[]⟩, [], 62) else (a, b, outS ens P rs, (0 : Int))) else ((⟨#[]⟩ : ByteArray), (⟨#[]⟩ : ByteArray), ([] : List S34), (62 : Int))).2.2.1 (if okP rs P = true then (if lacks ens P rs = true then (⟨#[]⟩, ⟨#[]⟩, [], 62) else (a, b, outS ens P rs, (0 : Int))) else ((⟨#[]⟩ : ByteArray), (⟨#[]⟩ : ByteArray), ([] : List S34), (62 : Int))).2.2.2 w e w' := by
  rcases h with ⟨h1, h2⟩ | ⟨h1, ⟨h2, h3⟩ | ⟨h2, h3⟩⟩
  · rw [if_neg (by rw [h1]; simp)]; exact refused_end h2
  · rw [if_pos h1, if_pos h2]; exact refused_end h3
  · rw [if_pos h1, if_neg (by rw [h2]; simp)]; exact h3
theorem full_any (a0_0 a0_1 : ByteArray) (A0_2 : Option Addr) (c0_2 : Nat) (l0_2 : List (S34)) (w : World) (hU : UtfOk w) (hr0_2 : Kd.C k34 w A0_2 l0_2.length l0_2) (hc0_2 : l0_2.length ≤ c0_2) (hs : a0_1.size < 2147483648) (hlen : l0_2.length < 2147483648) (hfit : fitP l0_2 = true) :
    Calls Tryd.prog 8 #[.agg #[.string a0_0, .string a0_1, .slice A0_2 l0_2.length c0_2]] w (FullEnd (fullS a0_0 a0_1 l0_2).1 (fullS a0_0 a0_1 l0_2).2.1 (fullS a0_0 a0_1 l0_2).2.2.1 (fullS a0_0 a0_1 l0_2).2.2.2 w) := by
  unfold fullS
  cases hk : shapesD a0_0 with
  | none => exact (full_kind a0_0 a0_1 A0_2 c0_2 l0_2 w hk).mono fun e w' h => refused_end h
  | some q =>
    obtain ⟨first, specs⟩ := q
    have h1 := (tidy_shapes hk).2
    simp only []
    cases ht : titleS a0_0 a0_1 with
    | false =>
      rw [if_neg (by simp)]
      exact (full_title a0_0 a0_1 A0_2 c0_2 l0_2 w hU first specs hk hs ht).mono fun e w' h => refused_end h
    | true =>
      rw [if_pos rfl]
      obtain ⟨r, hg⟩ : ∃ r, getS l0_2 ensB = r := ⟨_, rfl⟩
      rw [hg]
      cases r with
      | none =>
        simp only [Option.getD_none]
        have hget : toldR (getS l0_2 ensB) = (⟨#[]⟩, false) := by rw [hg]; rfl
        cases hn : findK specs first with
        | none => exact (full_ensure a0_0 a0_1 A0_2 c0_2 l0_2 w hU hr0_2 hc0_2 hlen first specs hk hs ht _ _ hget first (by simp) h1 hn).mono fun e w' h => refused_end h
        | some rs => exact (full_main_f a0_0 a0_1 A0_2 c0_2 l0_2 w hU hr0_2 hc0_2 hlen first specs hk hs ht _ hget first rfl h1 hfit rs hn).mono fun e w' h => main_end h
      | some v =>
        simp only [Option.getD_some]
        have hget : toldR (getS l0_2 ensB) = (v, true) := by rw [hg]; rfl
        have h2 := getS_fit hfit hg
        cases hn : findK specs v with
        | none => exact (full_ensure a0_0 a0_1 A0_2 c0_2 l0_2 w hU hr0_2 hc0_2 hlen first specs hk hs ht _ _ hget v (by simp) h2 hn).mono fun e w' h => refused_end h
        | some rs => exact (full_main_t a0_0 a0_1 A0_2 c0_2 l0_2 w hU hr0_2 hc0_2 hlen first specs hk hs ht _ hget v rfl h2 hfit rs hn).mono fun e w' h => main_end h
theorem resource_Full.calls (a0_0 : ByteArray) (a0_1 : ByteArray) (A0_2 : Option Addr) (c0_2 : Nat) (l0_2 : List (S34)) (r1 : ByteArray) (r2 : ByteArray) (r3 : List (S34)) (r4 : Int) (w : World) (hr0_2 : Kd.C k34 w A0_2 l0_2.length l0_2) (hc0_2 : l0_2.length ≤ c0_2) (h : resource_Full.f a0_0 a0_1 l0_2 = some (r1, r2, r3, r4)) (hU : UtfOk w) :
    Calls Tryd.prog 8 #[.agg #[.string a0_0, .string a0_1, .slice A0_2 l0_2.length c0_2]] w fun e w' => ∃ v2_ : Value, e = .returned (.tuple #[.agg #[.string r1, .string r2, v2_], .int .i64 r4]) ∧ Kd.R k34 34 w' w.heap.size (fun _ => True) v2_ r3 ∧ Below w.heap.size w w' := by
  unfold resource_Full.f at h
  by_cases c : a0_0.size < 2147483648 ∧ a0_1.size < 2147483648 ∧ l0_2.length < 2147483648 ∧ fitP l0_2 = true
  · rw [if_pos c] at h
    have := full_any a0_0 a0_1 A0_2 c0_2 l0_2 w hU hr0_2 hc0_2 c.2.1 c.2.2.1 c.2.2.2
    have e := Option.some.inj h
    rw [e] at this
    exact this
  · rw [if_neg c] at h
    cases h
end Go.Proofs.YtkgafkoopefghaaDoor.PA
end
section
set_option linter.unusedVariables false
set_option linter.unusedSimpArgs false
namespace Go.Proofs.YtkgafkoopefghaaDoor.PA
open Go.RowKit Go.Maps Go.WideMaps Go.Proofs.YtkgafkoopefghaaDoor.Hk Go.Proofs.YtkgafkoopefghaaDoorW.PrintWords
theorem byt_inj {s t : ByteArray} (h : s.data.toList = t.data.toList) : s = t := ByteArray.ext (Array.ext' h)
theorem byt_iff {s t : ByteArray} : s.toList = t.data.toList ↔ s = t := by
  rw [toList_eq]
  exact ⟨byt_inj, fun h => by rw [h]⟩
def toB (l : List UInt8) : ByteArray := ⟨l.toArray⟩
theorem toB_data (s : ByteArray) : toB s.data.toList = s := by unfold toB; cases s; simp
theorem namesS_are {rs : List (ByteArray × RuleD)} {L : List (List UInt8)} (hp : (ensB.data.toList :: rs.map (·.1.data.toList)).Perm L) (hs : L.Pairwise (fun x y => leB x y = true)) : namesS rs = L := by
  unfold namesS
  refine List.Perm.eq_of_pairwise ?_ (List.pairwise_mergeSort ?_ ?_ _) hs ((List.mergeSort_perm _ _).trans hp)
  · intro a b _ _ h1 h2
    exact List.le_antisymm (of_decide_eq_true h1) (of_decide_eq_true h2)
  · intro a b c h1 h2
    exact decide_eq_true (List.le_trans (of_decide_eq_true h1) (of_decide_eq_true h2))
  · intro a b
    rcases List.le_total a b with h | h
    · simp [leB, h]
    · simp [leB, h]
theorem rd31 {l : List S34} {i : Nat} (hi : i < l.length) : rd_T34 l (i : Int) = l[i] := by unfold rd_T34; rw [Int.toNat_natCast, List.getD_eq_getElem?_getD, List.getElem?_eq_getElem hi]; rfl
theorem getS_cons (p : S34) (P : List S34) (s : ByteArray) : getS (p :: P) s = if p.f0.toList = s.toList then some p.f1 else getS P s := rfl
theorem getS_none {s : ByteArray} : ∀ {P : List S34}, s ∉ P.map (·.f0) → getS P s = none
  | [], _ => rfl
  | p :: P, h => by
    rw [List.map_cons, List.mem_cons, not_or] at h
    unfold getS
    rw [if_neg (fun e => h.1 (by rw [toList_eq, toList_eq] at e; exact (byt_inj e).symm))]
    exact getS_none h.2
theorem told_get (s : ByteArray) : ∀ (P : List S34) (o : Option ByteArray), (P.map (·.f0)).Nodup → P.foldl (fun o p => if s = p.f0 then some p.f1 else o) o = (match getS P s with | some v => some v | none => o)
  | [], o, _ => rfl
  | p :: P, o, h => by
    rw [List.map_cons, List.nodup_cons] at h
    rw [List.foldl_cons, told_get s P _ h.2, getS_cons]
    by_cases c : s = p.f0
    · subst c
      rw [if_pos rfl, if_pos rfl, getS_none h.1]
    · rw [if_neg c, if_neg (fun e => c (by rw [toList_eq, toList_eq] at e; exact (byt_inj e).symm))]
theorem told_none (s : ByteArray) (hs : s ≠ ensB) (ens : ByteArray) (P : List S34) : (toldAt ens P s).isNone = (getS P s).isNone := by
  have h : ∀ (P : List S34) (o : Option ByteArray), (P.foldl (fun o p => if s = p.f0 then some p.f1 else o) o).isNone = (o.isNone && (getS P s).isNone) := by
    intro P
    induction P with
    | nil => intro o; simp [getS]
    | cons p P ih =>
      intro o
      rw [List.foldl_cons, ih, getS_cons]
      by_cases c : s = p.f0
      · subst c
        rw [if_pos rfl, if_pos rfl]; simp
      · rw [if_neg c, if_neg (fun e => c (by rw [toList_eq, toList_eq] at e; exact (byt_inj e).symm))]
  unfold toldAt
  rw [h, if_neg hs]
  rfl
theorem okP_lt {rs : List (ByteArray × RuleD)} {P : List S34} (h : okP rs P = true) {i : Nat} (h0 : 0 < i) (hi : i < P.length) : P[i - 1].f0.data.toList < P[i].f0.data.toList := by
  have h1 := List.all_eq_true.1 h i (List.mem_range.2 hi)
  unfold stepOk at h1
  rw [rd31 hi, rd31 (by omega), decide_eq_false (by omega), Bool.false_or, Bool.and_eq_true] at h1
  have h2 := h1.2
  unfold leS at h2
  rw [less_or_eq, Bool.not_not, bytesLess_eq, toList_eq, toList_eq] at h2
  exact of_decide_eq_true h2
theorem okP_rise {rs : List (ByteArray × RuleD)} {P : List S34} (h : okP rs P = true) : ∀ (d i : Nat) (hi : i + d + 1 < P.length), P[i].f0.data.toList < P[i + d + 1].f0.data.toList
  | 0, i, hi => okP_lt h (i := i + 1) (by omega) hi
  | d + 1, i, hi => List.lt_trans (okP_rise h d i (by omega)) (okP_lt h (i := i + (d + 1) + 1) (by omega) hi)
theorem okP_nodup {rs : List (ByteArray × RuleD)} {P : List S34} (h : okP rs P = true) : (P.map (·.f0)).Nodup := by
  unfold List.Nodup
  rw [List.pairwise_iff_getElem]
  intro i j hi hj hij e
  rw [List.length_map] at hi hj
  rw [List.getElem_map, List.getElem_map] at e
  obtain ⟨d, rfl⟩ : ∃ d, j = i + d + 1 := ⟨j - i - 1, by omega⟩
  have := okP_rise h d i hj
  rw [e] at this
  exact List.lt_irrefl _ this
def ensR (first : ByteArray) (P : List S34) : ByteArray := (getS P ensB).getD first
theorem fullS_no {kind a : ByteArray} {P : List S34} (h : (fullS kind a P).2.2.2 ≠ 0) : fullS kind a P = (⟨#[]⟩, ⟨#[]⟩, [], (fullS kind a P).2.2.2) := by
  have hr : ∀ first, (getS P ensB).getD first = ensR first P := fun _ => rfl
  unfold fullS at h ⊢
  cases hs : shapesD kind with
  | none => rfl
  | some q =>
    obtain ⟨first, specs⟩ := q
    rw [hs] at h
    simp only [hr] at h ⊢
    by_cases ht : titleS kind a = true
    · rw [if_pos ht] at h ⊢
      cases hf : findK specs (ensR first P) with
      | none => rfl
      | some rs =>
        rw [hf] at h
        simp only [] at h ⊢
        by_cases c : okP rs P = true
        · rw [if_pos c] at h ⊢
          by_cases c2 : lacks (ensR first P) P rs = true
          · rw [if_pos c2]
          · rw [if_neg c2] at h; exact (h rfl).elim
        · rw [if_neg c]
    · rw [if_neg ht]
theorem full_f (a b : ByteArray) (l : List S34) (h : a.size < 2147483648 ∧ b.size < 2147483648 ∧ l.length < 2147483648 ∧ fitP l = true) : resource_Full.f a b l = some (fullS a b l) := by
  unfold resource_Full.f
  rw [if_pos h]
theorem fullS_iff {kind a first ens : ByteArray} {specs : List (ByteArray × List (ByteArray × RuleD))} {rs : List (ByteArray × RuleD)} {P : List S34} (h1 : shapesD kind = some (first, specs)) (h2 : titleS kind a = true) (h3 : ensR first P = ens) (h4 : findK specs ens = some rs) :
    fullS kind a P = if okP rs P = true then (if lacks ens P rs = true then (⟨#[]⟩, ⟨#[]⟩, [], 62) else (kind, a, outS ens P rs, 0)) else (⟨#[]⟩, ⟨#[]⟩, [], 62) := by
  have hr : (getS P ensB).getD first = ens := h3
  unfold fullS
  rw [h1]
  simp only [hr]
  rw [if_pos h2, h4]
theorem fullS_none {kind a first ens : ByteArray} {specs : List (ByteArray × List (ByteArray × RuleD))} {P : List S34} (h1 : shapesD kind = some (first, specs)) (h2 : titleS kind a = true) (h3 : ensR first P = ens) (h4 : findK specs ens = none) :
    fullS kind a P = (⟨#[]⟩, ⟨#[]⟩, [], 62) := by
  have hr : (getS P ensB).getD first = ens := h3
  unfold fullS
  rw [h1]
  simp only [hr]
  rw [if_pos h2, h4]
theorem fullS_all {kind a : ByteArray} {P : List S34} (h : (fullS kind a P).2.2.2 = 0) : ∃ first specs rs, shapesD kind = some (first, specs) ∧ titleS kind a = true ∧ findK specs (ensR first P) = some rs ∧ okP rs P = true ∧ lacks (ensR first P) P rs = false ∧ fullS kind a P = (kind, a, outS (ensR first P) P rs, 0) := by
  cases hs : shapesD kind with
  | none => unfold fullS at h; rw [hs] at h; cases h
  | some q =>
    obtain ⟨first, specs⟩ := q
    by_cases ht : titleS kind a = true
    · cases hf : findK specs (ensR first P) with
      | none => rw [fullS_none hs ht rfl hf] at h; cases h
      | some rs =>
        rw [fullS_iff hs ht rfl hf] at h ⊢
        by_cases c : okP rs P = true
        · rw [if_pos c] at h ⊢
          by_cases c2 : lacks (ensR first P) P rs = true
          · rw [if_pos c2] at h; cases h
          · rw [if_neg c2]
            exact ⟨first, specs, rs, rfl, ht, hf, c, Bool.eq_false_iff.2 c2, rfl⟩
        · rw [if_neg c] at h; cases h
    · unfold fullS at h
      rw [hs] at h
      simp only [] at h
      rw [if_neg ht] at h
      cases h
/-- Whatever it is refused for, nothing comes. -/
theorem fullS_bare {kind a : ByteArray} {P : List S34} (h : (fullS kind a P).2.2.2 ≠ 0) : (fullS kind a P).2.2.1 = [] := by rw [fullS_no h]
theorem okP_iff {rs : List (ByteArray × RuleD)} {P : List S34} : okP rs P = true ↔ (∀ p, p ∈ P → knownS rs p = true) ∧ (P.map (·.f0.data.toList)).Pairwise (· < ·) := by
  constructor
  · intro h
    refine ⟨fun p hp => ?_, ?_⟩
    · obtain ⟨i, hi, rfl⟩ := List.mem_iff_getElem.1 hp
      have h1 := List.all_eq_true.1 h i (List.mem_range.2 hi)
      unfold stepOk at h1
      rw [rd31 hi, Bool.and_eq_true] at h1
      exact h1.1
    · rw [List.pairwise_iff_getElem]
      intro i j hi hj hij
      rw [List.length_map] at hi hj
      rw [List.getElem_map, List.getElem_map]
      obtain ⟨d, rfl⟩ : ∃ d, j = i + d + 1 := ⟨j - i - 1, by omega⟩
      exact okP_rise h d i hj
  · rintro ⟨h1, h2⟩
    refine List.all_eq_true.2 fun i hi => ?_
    have hi := List.mem_range.1 hi
    unfold stepOk
    rw [rd31 hi, h1 _ (List.getElem_mem hi), Bool.true_and]
    by_cases c : i = 0
    · rw [decide_eq_true c, Bool.true_or]
    · rw [decide_eq_false c, Bool.false_or, rd31 (show i - 1 < P.length by omega)]
      rw [List.pairwise_iff_getElem] at h2
      have h3 := h2 (i - 1) i (by rw [List.length_map]; omega) (by rw [List.length_map]; exact hi) (by omega)
      rw [List.getElem_map, List.getElem_map] at h3
      unfold leS
      rw [less_or_eq, Bool.not_not, bytesLess_eq, toList_eq, toList_eq]
      exact decide_eq_true h3
def dfltB (rs : List (ByteArray × RuleD)) : Bool := rs.all fun x => x.2.must || x.2.may x.2.dflt
theorem dflt_shapes {kind first : ByteArray} {specs : List (ByteArray × List (ByteArray × RuleD))} (h : shapesD kind = some (first, specs)) : specs.all (fun x => dfltB x.2) = true := by
  unfold shapesD at h
  repeat' split at h
  all_goals (first | (cases h; kernel_rfl) | cases h)
theorem dflt_ok {kind first ens : ByteArray} {specs : List (ByteArray × List (ByteArray × RuleD))} {rs : List (ByteArray × RuleD)} (h : shapesD kind = some (first, specs)) (hf : findK specs ens = some rs) {s : ByteArray} {q : RuleD} (hq : findK rs s = some q) (hm : q.must = false) : q.may q.dflt = true := by
  have h1 := List.all_eq_true.1 (dflt_shapes h) _ (findK_mem hf)
  have h2 := List.all_eq_true.1 h1 _ (findK_mem hq)
  simp only [hm, Bool.false_or] at h2
  exact h2
theorem namesS_mem {rs : List (ByteArray × RuleD)} {x : List UInt8} : x ∈ namesS rs ↔ x = ensB.data.toList ∨ ∃ y, y ∈ rs ∧ y.1.data.toList = x := by
  unfold namesS
  rw [List.mem_mergeSort, List.mem_cons, List.mem_map]
theorem getS_map (g : ByteArray → ByteArray) (s : ByteArray) : ∀ L : List (List UInt8), getS (L.map fun n => (⟨⟨n.toArray⟩, g ⟨n.toArray⟩⟩ : S34)) s = if s.data.toList ∈ L then some (g s) else none
  | [] => rfl
  | n :: L => by
    rw [List.map_cons, getS_cons]
    by_cases c : s.data.toList = n
    · subst c
      have e : (⟨s.data.toList.toArray⟩ : ByteArray) = s := toB_data s
      rw [e, if_pos rfl, if_pos (List.mem_cons_self)]
    · have hne : ¬ (⟨n.toArray⟩ : ByteArray).toList = s.toList := by
        rw [toList_eq, toList_eq]
        exact fun h => c h.symm
      simp only [if_neg hne]
      rw [getS_map g s L]
      by_cases d : s.data.toList ∈ L
      · rw [if_pos d, if_pos (List.mem_cons_of_mem _ d)]
      · rw [if_neg d, if_neg (fun h => (List.mem_cons.1 h).elim c d)]
theorem getS_out (ens : ByteArray) (P : List S34) (rs : List (ByteArray × RuleD)) (s : ByteArray) : getS (outS ens P rs) s = if s.data.toList ∈ namesS rs then some ((fullAt ens P rs s).getD ⟨#[]⟩) else none := getS_map (fun s => (fullAt ens P rs s).getD ⟨#[]⟩) s _
theorem fullAt_eq {ens : ByteArray} {P : List S34} {rs : List (ByteArray × RuleD)} (hok : okP rs P = true) (s : ByteArray) : fullAt ens P rs s = match getS P s with | some v => some v | none => if s = ensB then some ens else (findK rs s).map (·.dflt) := by
  unfold fullAt toldAt
  rw [told_get _ _ _ (okP_nodup hok)]
  cases getS P s with
  | some v => rfl
  | none =>
    by_cases c : s = ensB
    · rw [if_pos c]; simp [c]
    · rw [if_neg c]; simp [c]
theorem getS_mem {s v : ByteArray} : ∀ {P : List S34}, getS P s = some v → (⟨s, v⟩ : S34) ∈ P
  | [], h => by cases h
  | p :: P, h => by
    rw [getS_cons] at h
    by_cases c : p.f0.toList = s.toList
    · rw [if_pos c] at h
      cases h
      rw [toList_eq, toList_eq] at c
      have := byt_inj c
      subst this
      exact .head _
    · rw [if_neg c] at h
      exact .tail _ (getS_mem h)
theorem known_at {rs : List (ByteArray × RuleD)} {s v : ByteArray} (hs : s ≠ ensB) {q : RuleD} (hq : findK rs s = some q) : knownS rs ⟨s, v⟩ = q.may v := by
  unfold knownS
  have : (s.toList == ([101, 110, 115, 117, 114, 101] : List UInt8)) = false := by
    rw [beq_eq_false_iff_ne]
    exact fun h => hs ((byt_iff (t := ensB)).1 h)
  rw [this, hq, Bool.false_or]
end Go.Proofs.YtkgafkoopefghaaDoor.PA
end
