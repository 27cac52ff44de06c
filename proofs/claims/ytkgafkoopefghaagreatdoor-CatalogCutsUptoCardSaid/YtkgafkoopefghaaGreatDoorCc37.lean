/- A part of this law; its conditions stand in the last text. -/
import Derived.Test.YtkgafkoopefghaaGreatDoorCc35
import Derived.Test.YtkgafkoopefghaaGreatDoorCc25
import Derived.Test.YtkgafkoopefghaaGreatDoorCc36
section
set_option linter.unusedVariables false
set_option linter.unusedSimpArgs false
namespace Go.Proofs.YtkgafkoopefghaaGreatDoor.PA
open Go.RowKit Go.Proofs.YtkgafkoopefghaaGreatDoor.Hk Go.Proofs.YtkgafkoopefghaaGreatDoorW.PrintWords Go.Proofs.YtkgafkoopefghaaGreatDoorW.PrintLast
def ReadR (w0 : World) (e : Ending) (w' : World) : Prop := ∃ v n A2 c2 R A3 c3 E b, e = .returned (.tuple #[.agg #[.int .i64 v, .string n, .slice A2 R.length c2, .slice A3 E.length c3], .bool b]) ∧ R.length ≤ c2 ∧ Kd.C k24 w' A2 R.length R ∧ E.length ≤ c3 ∧ Kd.C k50 w' A3 E.length E ∧ fitQ R E ∧ (0 ≤ v ∧ v < 65536) ∧ n.size < 65536 ∧ Below w0.heap.size w0 w'
set_option maxRecDepth 100000 in
set_option maxHeartbeats 2000000 in
theorem catch_none (p : Addr) (w : World) :
    CallsD Tryz.prog 84 #[.pointer (some p)] .returning w fun e u' w' => e = .returned (.tuple #[]) ∧ u' = .returning ∧ w' = w := by
  refine callsD_of_wpS Tryz.func84 rfl fun c₀ cs hu => ?_
  apply wpS_seq
  apply wpS_region
  simp [wpOpsS, go_sem, recoverD, hu, Tryz.ntmps84, Exit.thenS]
  refine wpS_of_wp ?_
  go_wp2
  cases c₀
  simp_all [bodyPostS, results, Tryz.results84]
theorem CZ.below {w0 W W' : World} {g2 g3 : Nat} (h : CZ w0 W g2 g3) (hb : Below W.heap.size W W') : CZ w0 W' g2 g3 := by
  obtain ⟨v, n, vR, vE, R, E, h1, h3, h4, h5⟩ := h
  exact ⟨v, n, vR, vE, R, E, h1.mv (t := 0) (Mv.below hb) (bT h1.1 hb) (by decide) (by decide), Kd.R_below h3 hb, Kd.R_below h4 hb, h5⟩
theorem CZ.okay {w0 W : World} {g2 g3 : Nat} (h : CZ w0 W g2 g3) (b : Bool) : CZ w0 (W.setCell ⟨g3, 0, none⟩ (.bool b)) g2 g3 := by
  obtain ⟨v, n, vR, vE, R, E, ⟨c1, c2, c3, c4, ⟨b0, c5⟩, c6, c7⟩, h3, h4, h5⟩ := h
  have m : Mv W (W.setCell ⟨g3, 0, none⟩ (.bool b)) 4 := Mv.set c5 _
  exact ⟨v, n, vR, vE, R, E, ⟨bS c1 c3, c2, c3, m.blk c4 (by decide), ⟨b, kP c5 0 (.bool b) (cs' := #[.bool b]) rfl⟩, c6, c7⟩, m.R h3 (by decide), m.R h4 (by decide), h5⟩
set_option maxRecDepth 100000 in
set_option maxHeartbeats 2000000 in
theorem read_results (w0 W : World) (tmps : Array Value) (g2 g3 : Nat) (e2 : tmps.getD 2 undef = .pointer (some ⟨g2, 0, none⟩)) (e3 : tmps.getD 3 undef = .pointer (some ⟨g3, 0, none⟩)) (h : CZ w0 W g2 g3) :
    ∃ v, (results Tryz.f46 tmps).run Tryz.prog W = .ok v W ∧ ReadR w0 (.returned v) W := by
  obtain ⟨v, n, vR, vE, R, E, ⟨c1, c2, c3, c4, ⟨b, c5⟩, c6, c7⟩, h3, h4, h5⟩ := h
  obtain ⟨A2, p2, e4, l2, hC2⟩ := Kd.R_reads h3
  obtain ⟨A3, p3, e5, l3, hC3⟩ := Kd.R_reads h4
  subst e4 e5
  have m0 : W.cell? ⟨g2, 0, none⟩ = some (.int .i64 v) := (kC c4 0).trans rfl
  have m1 : W.cell? ⟨g2, 1, none⟩ = some (.string n) := (kC c4 1).trans rfl
  have m2 : W.cell? ⟨g2, 2, none⟩ = some (.slice A2 R.length p2) := (kC c4 2).trans rfl
  have m3 : W.cell? ⟨g2, 3, none⟩ = some (.slice A3 E.length p3) := (kC c4 3).trans rfl
  have m4 : W.cell? ⟨g3, 0, none⟩ = some (.bool b) := (kC c5 0).trans rfl
  have hu37 := Tryz.underlying37
  refine ⟨_, ?_, v, n, A2, p2, R, A3, p3, E, b, rfl, l2, hC2, l3, hC3, h5, c6, c7, c1⟩
  clear c4 c5 h3 h4 hC2 hC3
  rw [Array.getD_eq_getD_getElem?] at e2 e3
  simp [results, Tryz.results46, go_sem, e2, e3, m0, m1, m2, m3, m4]
def ReadQ (w0 : World) (ex : Exit) (a : Act) (W : World) : Prop := ∃ g2 g3, a.tmps.getD 2 undef = .pointer (some ⟨g2, 0, none⟩) ∧ a.tmps.getD 3 undef = .pointer (some ⟨g3, 0, none⟩) ∧ a.defers = [{ target := .fn (.func 84) #[.pointer (some ⟨g3, 0, none⟩)], args := #[] }] ∧ (ex = .ret ∨ ex = .panic [{ v := shortV, recovered := false }]) ∧ CZ w0 W g2 g3
theorem ReadQ.put {w0 : World} {ex : Exit} {a : Act} {W : World} {N : Nat} {v : Value} (h2 : N ≠ 2) (h3 : N ≠ 3) (h : ReadQ w0 ex (a.put (some N) v) W) : ReadQ w0 ex a W := by
  obtain ⟨g2, g3, e2, e3, hd, hx, hz⟩ := h
  refine ⟨g2, g3, ?_, ?_, hd, hx, hz⟩
  · rw [← e2]; simp [Act.put, Array.getD_eq_getD_getElem?, Array.getElem?_setIfInBounds_ne h2]
  · rw [← e3]; simp [Act.put, Array.getD_eq_getD_getElem?, Array.getElem?_setIfInBounds_ne h3]
def read_T9 : Bool × List (List Nat × List Nat) := (true, [([], []), ([], []), ([1], [1]), ([0, 2], [0, 2]), ([3], [3]), ([], []), ([5, 0], [5]), ([4, 6], [4, 6]), ([], []), ([8, 7, 6, 0, 1, 2, 3, 4, 5, 6, 7, 8], [7, 8])])
def read_B9 : List Nat := [0, 0, 2, 7, 15, 0, 33, 127, 0, 511]
theorem read_tab9 : rtab .any (opsOf Tryz.f46 9) = read_T9 := by kernel_rfl
theorem read_bits9 : waitsOk read_T9.2 read_B9 = true := by kernel_rfl
def read_T12 : Bool × List (List Nat × List Nat) := (true, [([], []), ([0], [0]), ([], []), ([2], [2]), ([], []), ([4, 3], [4]), ([3, 5], [3, 5]), ([6], [6]), ([1, 7, 5], [1, 7]), ([0, 1, 2, 3, 4, 5, 6, 7, 8], []), ([9, 8, 8, 0, 1, 2, 3, 4, 5, 6, 7, 8], [8, 9])])
def read_B12 : List Nat := [0, 1, 0, 4, 0, 28, 60, 124, 255, 511, 1023]
theorem read_tab12 : rtab .any (opsOf Tryz.f46 12) = read_T12 := by kernel_rfl
theorem read_bits12 : waitsOk read_T12.2 read_B12 = true := by kernel_rfl
def read_T18 : Bool × List (List Nat × List Nat) := (true, [([], []), ([0], [0]), ([], []), ([2], [2]), ([], []), ([4, 3], [4]), ([], []), ([6, 5], [6]), ([7], [7]), ([3, 5, 8], [3, 5, 8]), ([9], [9]), ([1, 10, 7], [1, 10]), ([0, 1, 2, 3, 4, 5, 6, 7, 8, 9, 10, 11], []), ([12, 11, 11, 0, 1, 2, 3, 4, 5, 6, 7, 8, 9, 10, 11], [11, 12])])
def read_B18 : List Nat := [0, 1, 0, 4, 0, 28, 0, 124, 252, 508, 1020, 2047, 4095, 8191]
theorem read_tab18 : rtab .any (opsOf Tryz.f46 18) = read_T18 := by kernel_rfl
theorem read_bits18 : waitsOk read_T18.2 read_B18 = true := by kernel_rfl
set_option maxRecDepth 100000 in
set_option maxHeartbeats 8000000 in
theorem read_calls (A : Option Addr) (c : Nat) (xs : List Int) (w : World) (hr : ReadsInt w .u8 A xs.length xs) (hc : xs.length ≤ c) (hl : xs.length < 2147483648) (hi : ∀ x, x ∈ xs → 0 ≤ x ∧ x < 256) :
    Calls Tryz.prog 46 #[.slice A xs.length c] w (ReadR w) := by
  have hmf : ∀ (fn : Fn) (first cap : Array Value) (w : World), (Instr.makeFunc fn first cap).run Tryz.prog w = .ok (.func fn first cap) w := fun _ _ _ _ => rfl
  have HB := As.mk (Below.refl w.heap.size w)
  have HR := As.mk (show ∀ W, Below w.heap.size w W → ∀ g, W.heap[g]? = some (.cells #[.slice A xs.length c] 120 (0, 0)) → w.heap.size ≤ g → RdS w W g xs from fun W hb g hg hge => ⟨A, c, hg, hc, hr, hb, hge, hl, hi⟩)
  clear hr hc hl hi
  have hu37 := Tryz.underlying37
  have hu120 := Tryz.underlying120
  go_enter_defers Tryz.func46, Tryz.ntmps46
  refine Code.wp_mono (Q := ReadQ w) ?_ ?_
  · intro ex a W h
    obtain ⟨g2, g3, e2, e3, hd, hx, hz⟩ := h
    rcases hx with rfl | rfl
    · show Leaves Tryz.prog Tryz.f46 a.tmps (ReadR w) a.defers .returning W
      rw [hd]
      refine leaves_cons (f := 84) (args := #[.pointer (some ⟨g3, 0, none⟩)]) (by simp) (by simp [go_sem]) ?_
      refine (catch_none ⟨g3, 0, none⟩ W).mono ?_
      rintro e u' w9 ⟨rfl, rfl, rfl⟩
      exact read_results w w9 a.tmps g2 g3 e2 e3 hz
    · show Leaves Tryz.prog Tryz.f46 a.tmps (ReadR w) a.defers (.panicking [{ v := shortV, recovered := false }]) W
      rw [hd]
      refine leaves_cons (f := 84) (args := #[.pointer (some ⟨g3, 0, none⟩)]) (by simp) (by simp [go_sem]) ?_
      obtain ⟨b, hb3⟩ : ∃ b, W.heap[g3]? = some (.cells #[.bool b] 4 (0, 0)) := hz.elim fun _ h => h.elim fun _ h => h.elim fun _ h => h.elim fun _ h => h.elim fun _ h => h.elim fun _ h => h.1.2.2.2.2.1
      refine (catch_short ⟨g3, 0, none⟩ b [] W ((kC hb3 0).trans rfl) (kF hb3 0)).mono ?_
      rintro e u' w9 ⟨rfl, rfl, w8, rfl, hb⟩
      exact read_results w _ a.tmps g2 g3 e2 e3 ((hz.below hb).okay false)
  go_wp2_with (first
    | ((with_reducible refine gate_dst (N := 2) rfl ?_); refine box_event ?hg (N := 2) ?hd (cs := #[.int .i64 0, .string (⟨#[]⟩ : ByteArray), .slice none 0 0, .slice none 0 0]) (t := 37) ?hr ?_; (case hd => rfl); (case hg => rfl); (case hr => first | (go_simp; done) | (go_simp; rfl)); intro g2 hg w1 hbox hb; have GE2 := As.mk ((by rw [hg]; exact HB.out.size) : w.heap.size ≤ g2); have n1 := As.mk (bT HB.out hb); clear HB; have HB := n1; clear n1; have BK2 := As.mk hbox; clear hb hbox hg)
    | ((with_reducible refine gate_dst (N := 3) rfl ?_); refine box_event ?hg (N := 3) ?hd (cs := #[.bool false]) (t := 4) ?hr ?_; (case hd => rfl); (case hg => rfl); (case hr => first | (go_simp; done) | (go_simp; rfl)); intro g3 hg w1 hbox hb; have GE3 := As.mk ((by rw [hg]; exact HB.out.size) : w.heap.size ≤ g3); have n1 := As.mk (bT HB.out hb); have n2 := As.mk (kB BK2.out hb); clear HB BK2; have HB := n1; have BK2 := n2; clear n1 n2; have BK3 := As.mk hbox; clear hb hbox hg)
    | ((with_reducible refine gate_dst (N := 10) rfl ?_); refine box_event ?hg (N := 10) ?hd (cs := #[.slice A xs.length c]) (t := 120) ?hr ?_; (case hd => rfl); (case hg => rfl); (case hr => first | (go_simp; done) | (go_simp; rfl)); intro g hg w1 hbox hb; have HC : As (CM w w1 g2 g3 g xs (fun _ => True) 0 (⟨#[]⟩ : ByteArray) (.slice none 0 0) (.slice none 0 0) [] []) := ⟨⟨bT HB.out hb, GE2.out, GE3.out, kB BK2.out hb, ⟨false, kB BK3.out hb⟩, by decide, by decide⟩, HR.out _ (bT HB.out hb) g hbox (by rw [hg]; exact HB.out.size), Kd.R_nil _ _ _ _ _, Kd.R_nil _ _ _ _ _, by decide, by decide, fun s hs => by cases hs⟩; clear hb hbox hg BK2 BK3 HB HR)
    | (go_at_call 85; refine (rtwo_calls w _ g _ HC.out.2.1).mono ?_; rintro e w1 ⟨hk, hb, rfl | ⟨v, ys, rfl, ⟨x, rfl, hx⟩, hs⟩⟩; (focus (exact ⟨g2, g3, rfl, rfl, rfl, .inr rfl, HC.out.thrown hk hb⟩)); have n1 := As.mk (HC.out.read hk hs); clear HC; have HC := n1; have HX := As.mk hx; clear n1 hk hb hs hx)
    | (go_at_call 86; refine (rtext_calls w _ g _ HC.out.2.1).mono ?_; rintro e w1 ⟨hk, hb, rfl | ⟨v, ys, rfl, ⟨s, rfl, hx⟩, hs⟩⟩; (focus (exact ⟨g2, g3, rfl, rfl, rfl, .inr rfl, HC.out.thrown hk hb⟩)); have n1 := As.mk (HC.out.read hk hs); clear HC; have HC := n1; have HS := As.mk hx; clear n1 hk hb hs hx; have m0 := (kC HC.out.box2 0).trans rfl; have f0 := kF HC.out.box2 0; have m1 := (kC HC.out.box2 1).trans rfl; have f1 := kF HC.out.box2 1)
    | (go_at_call 87; have n0 := As.mk (HC.out.head HX.out HS.out); clear m0 f0 m1 f1 HC; have HC := n0; clear n0; refine (rbyte_calls w _ g _ HC.out.2.1).mono ?_; rintro e w1 ⟨hk, hb, rfl | ⟨v, ys, rfl, ⟨y, rfl, hy0, hy1⟩, hs⟩⟩; (focus (exact ⟨g2, g3, rfl, rfl, rfl, .inr rfl, HC.out.thrown hk hb⟩)); obtain ⟨N, rfl⟩ := Int.eq_ofNat_of_zero_le hy0; have n1 := As.mk (HC.out.read hk hs); clear HC; have HC := n1; have HN := As.mk (show N ≤ 255 by omega); clear n1 hk hb hs hy0 hy1))
  go_loopg [19] N (fun kq v19 w' => ∃ i : Nat, v19 = .int .i64 i ∧ As (i + kq = N) ∧ ∃ ys vR R, As (CM w w' g2 g3 g ys (fun _ => True) x s vR (.slice none 0 0) R []) ∧ As (R.length = i))
  case atStart => exact ⟨0, rfl, ⟨by omega⟩, _, _, _, HC, ⟨rfl⟩⟩
  case round =>
    obtain ⟨i, rfl, HK, zs, vR, R, HC, HL⟩ := hrel
    by_cases hlt : i < N
    rotate_left
    · have hge : ¬ (i : Int) < (N : Int) := by omega
      go_wp2_with (go_at_call 87; refine (rbyte_calls w _ g _ HC.out.2.1).mono ?_; rintro e w1 ⟨hk, hb, rfl | ⟨v, ys, rfl, ⟨y, rfl, hy0, hy1⟩, hs⟩⟩; (focus (exact ⟨g2, g3, rfl, rfl, rfl, .inr rfl, HC.out.thrown hk hb⟩)); obtain ⟨M, rfl⟩ := Int.eq_ofNat_of_zero_le hy0; have n1 := As.mk (HC.out.read hk hs); clear HC; have HC := n1; have HM := As.mk (show M ≤ 255 by omega); clear n1 hk hb hs hy0 hy1)
      go_loopg [64] M (fun kq v64 w' => ∃ j : Nat, v64 = .int .i64 j ∧ As (j + kq = M) ∧ ∃ ys vE E, As (CM w w' g2 g3 g ys (fun _ => True) x s vR vE R E) ∧ As (E.length = j))
      case atStart => exact ⟨0, rfl, ⟨by omega⟩, _, _, _, HC, ⟨rfl⟩⟩
      case round =>
        clear HC
        obtain ⟨j, rfl, HJ, zs, vE, E, HC, HE⟩ := hrel
        by_cases hlj : j < M
        rotate_left
        · have hgj : ¬ (j : Int) < (M : Int) := by omega
          obtain ⟨A2, n2, c2, e2⟩ : ∃ A n c, vR = Value.slice A n c := (Kd.R_slice HC.out.2.2.1).elim (fun A h => h.elim (fun c e => ⟨A, _, c, e⟩))
          obtain ⟨A3, n3, c3, e3⟩ : ∃ A n c, vE = Value.slice A n c := (Kd.R_slice HC.out.2.2.2.1).elim (fun A h => h.elim (fun c e => ⟨A, _, c, e⟩))
          subst e2 e3
          have m0 := (kC HC.out.box2 0).trans rfl; have m1 := (kC HC.out.box2 1).trans rfl; have m2 := (kC HC.out.box2 2).trans rfl; have m3 := (kC HC.out.box2 3).trans rfl; have f0 := kF HC.out.box2 0; have f1 := kF HC.out.box2 1; have f2 := kF HC.out.box2 2; have f3 := kF HC.out.box2 3; obtain ⟨b3, hb3⟩ := HC.out.box3; have q0 := (kC hb3 0).trans rfl; have p0 := kF hb3 0; clear hb3; obtain ⟨ne23, ne32⟩ := HC.out.ne
          go_wp2_with ((with_reducible refine gate_store (t := 37) (p := 2) rfl ?_); refine store_event (t := 37) (p := 2) (v := ?vo2) (w1 := ?wo2) ?hg ?ho ?hn ?hr ?_; (case ho => rfl); (case hg => rfl); (case hn => rfl); (case hr => first | (go_simp; done) | (go_simp; rfl)); intro w2 hw; have n1 := As.mk (HC.out.again); rw [← hw] at n1; clear HC m0 m1 m2 m3 q0 f0 f1 f2 f3 p0; have HC := n1; clear n1 hw; obtain ⟨b3, hb3⟩ := HC.out.box3; have q0 := (kC hb3 0).trans rfl; have p0 := kF hb3 0; clear hb3)
          exact ⟨g2, g3, rfl, rfl, rfl, .inl rfl, (HC.out.okay true).z⟩
        have hlj' : (j : Int) < (M : Int) := by omega
        go_upto_region 18 with fail
        have n1 := As.mk (HC.out.later (bD (Below.refl _ _)))
        refine start_ (n := 14) (S := fun w' => w'.cell? ⟨g2, 3, none⟩ = some vE) (ds := [13]) #[false, false, false, false, false, false, false, false, false, false, false, false, false, false] (by kernel_rfl) rfl rfl ((kC (HC.out.later (bD (Below.refl _ _))).box2 3).trans rfl) (fun hHeld => ?_); refine with_tabW read_tab18 read_bits18 (fun HT_ HW_ => ?_)
        clear HC
        have HC := n1
        clear n1
        refine pure_ (i := 0) (N := some 66) (v := ?_) (a' := ?_) #[true, false, false, false, false, false, false, false, false, false, false, false, false, false] rfl rfl (any_of HT_.out (by kernel_rfl)) (fun _ _ _ h => ReadQ.put (N := 66) (by decide) (by decide) h) (Or.inl ⟨by rfl, ?_⟩) ?_ ?_; rotate_left; (intro w'; go_simp; with_reducible rfl); rotate_left; (simp only [Act.put, zA, zZ, zS, i64_w, i32_w]; rfl)
        refine pure_ (i := 2) (N := some 68) (v := ?_) (a' := ?_) #[true, false, true, false, false, false, false, false, false, false, false, false, false, false] rfl rfl (any_of HT_.out (by kernel_rfl)) (fun _ _ _ h => ReadQ.put (N := 68) (by decide) (by decide) h) (Or.inl ⟨by rfl, ?_⟩) ?_ ?_; rotate_left; (intro w'; go_simp; with_reducible rfl); rotate_left; (simp only [Act.put, zA, zZ, zS, i64_w, i32_w]; rfl)
        refine pure_ (i := 4) (N := some 70) (v := ?_) (a' := ?_) #[true, false, true, false, true, false, false, false, false, false, false, false, false, false] rfl rfl (any_of HT_.out (by kernel_rfl)) (fun _ _ _ h => ReadQ.put (N := 70) (by decide) (by decide) h) (Or.inl ⟨by rfl, ?_⟩) ?_ ?_; rotate_left; (intro w'; go_simp; with_reducible rfl); rotate_left; (simp only [Act.put, zA, zZ, zS, i64_w, i32_w]; rfl)
        refine pure_ (i := 6) (N := some 72) (v := ?_) (a' := ?_) #[true, false, true, false, true, false, true, false, false, false, false, false, false, false] rfl rfl (any_of HT_.out (by kernel_rfl)) (fun _ _ _ h => ReadQ.put (N := 72) (by decide) (by decide) h) (Or.inl ⟨by rfl, ?_⟩) ?_ ?_; rotate_left; (intro w'; go_simp; with_reducible rfl); rotate_left; (simp only [Act.put, zA, zZ, zS, i64_w, i32_w]; rfl)
        refine take_ (i := 1) (N := some 67) (v := ?_) (a' := ?_) #[true, true, true, false, true, false, true, false, false, false, false, false, false, false] rfl rfl (take_ofW HT_.out HW_.out (by kernel_rfl)) (fun _ _ _ h => ReadQ.put (N := 67) (by decide) (by decide) h) (Or.inl ⟨by rfl, ?_⟩) hHeld ?_ ?_; rotate_left; (intro w' hs_; first | (go_simp; done) | (go_simp; with_reducible rfl)); rotate_left; (simp only [Act.put, zA, zZ, zS, i64_w, i32_w]; rfl)
        refine one_ (i := 3) (N := some 69) #[true, true, true, true, true, false, true, false, false, false, false, false, false, false] rfl rfl (one_of HT_.out (by kernel_rfl)) (by decide) (fun K hK => ?_)
        refine goesP_ Tryz.func87 (by kernel_rfl) rfl #[.pointer (some ⟨g, 0, none⟩)] (by rfl) rfl rfl (by (try simp only [List.map_toArray, List.map_cons, List.map_nil]); first | done | rfl) ?_
        refine (rbyte_calls w _ g _ HC.out.2.1).mono ?_
        rintro e w1 ⟨hk, hb, rfl | ⟨v, ys, rfl, ⟨ef, rfl, hf0⟩, hs⟩⟩
        · exact .inr ⟨_, rfl, g2, g3, rfl, rfl, rfl, .inr rfl, HC.out.thrown hk hb⟩
        refine .inl ⟨_, rfl, ?_⟩
        have n1 := As.mk (HC.out.read hk hs)
        clear HC
        have HC := n1
        clear n1 hk hb hs
        refine hK.out _ _ ((kC HC.out.box2 3).trans rfl) (fun hHeld => ?_)
        clear hK K
        refine norm_ (a' := ?_) ?_ ?_
        rotate_left
        · show Act.put _ (some 69) _ = _
          simp only [Act.put, zA, zZ, zS, i64_w, i32_w]
          rfl
        refine one_ (i := 5) (N := some 71) #[true, true, true, true, true, true, true, false, false, false, false, false, false, false] rfl rfl (one_of HT_.out (by kernel_rfl)) (by decide) (fun K hK => ?_)
        refine goesP_ Tryz.func87 (by kernel_rfl) rfl #[.pointer (some ⟨g, 0, none⟩)] (by rfl) rfl rfl (by (try simp only [List.map_toArray, List.map_cons, List.map_nil]); first | done | rfl) ?_
        refine (rbyte_calls w _ g _ HC.out.2.1).mono ?_
        rintro e w1 ⟨hk, hb, rfl | ⟨v, ys, rfl, ⟨et, rfl, ht0⟩, hs⟩⟩
        · exact .inr ⟨_, rfl, g2, g3, rfl, rfl, rfl, .inr rfl, HC.out.thrown hk hb⟩
        refine .inl ⟨_, rfl, ?_⟩
        have n1 := As.mk (HC.out.read hk hs)
        clear HC
        have HC := n1
        clear n1 hk hb hs
        refine hK.out _ _ ((kC HC.out.box2 3).trans rfl) (fun hHeld => ?_)
        clear hK K
        refine norm_ (a' := ?_) ?_ ?_
        rotate_left
        · show Act.put _ (some 71) _ = _
          simp only [Act.put, zA, zZ, zS, i64_w, i32_w]
          rfl
        refine one_ (i := 7) (N := some 73) #[true, true, true, true, true, true, true, true, false, false, false, false, false, false] rfl rfl (one_of HT_.out (by kernel_rfl)) (by decide) (fun K hK => ?_)
        refine goesP_ Tryz.func87 (by kernel_rfl) rfl #[.pointer (some ⟨g, 0, none⟩)] (by rfl) rfl rfl (by (try simp only [List.map_toArray, List.map_cons, List.map_nil]); first | done | rfl) ?_
        refine (rbyte_calls w _ g _ HC.out.2.1).mono ?_
        rintro e w1 ⟨hk, hb, rfl | ⟨v, ys, rfl, ⟨en, rfl, hn0⟩, hs⟩⟩
        · exact .inr ⟨_, rfl, g2, g3, rfl, rfl, rfl, .inr rfl, HC.out.thrown hk hb⟩
        refine .inl ⟨_, rfl, ?_⟩
        have n1 := As.mk (HC.out.read hk hs)
        clear HC
        have HC := n1
        clear n1 hk hb hs
        refine hK.out _ _ ((kC HC.out.box2 3).trans rfl) (fun hHeld => ?_)
        clear hK K
        refine norm_ (a' := ?_) ?_ ?_
        rotate_left
        · show Act.put _ (some 73) _ = _
          simp only [Act.put, zA, zZ, zS, i64_w, i32_w]
          rfl
        refine pure_ (i := 8) (N := some 74) (v := ?_) (a' := ?_) #[true, true, true, true, true, true, true, true, true, false, false, false, false, false] rfl rfl (any_of HT_.out (by kernel_rfl)) (fun _ _ _ h => ReadQ.put (N := 74) (by decide) (by decide) h) (Or.inl ⟨by rfl, ?_⟩) ?_ ?_; rotate_left; (intro w'; go_simp; with_reducible rfl); rotate_left; (simp only [Act.put, zA, zZ, zS, i64_w, i32_w]; rfl)
        refine pure_ (i := 9) (N := some 75) (v := ?_) (a' := ?_) #[true, true, true, true, true, true, true, true, true, true, false, false, false, false] rfl rfl (any_of HT_.out (by kernel_rfl)) (fun _ _ _ h => ReadQ.put (N := 75) (by decide) (by decide) h) (Or.inl ⟨by rfl, ?_⟩) ?_ ?_; rotate_left; (intro w'; go_simp; with_reducible rfl); rotate_left; (simp only [Act.put, zA, zZ, zS, i64_w, i32_w]; rfl)
        refine one_ (i := 10) (N := some 76) #[true, true, true, true, true, true, true, true, true, true, true, false, false, false] rfl rfl (one_of HT_.out (by kernel_rfl)) (by decide) (fun K hK => ?_)
        refine value_ (v := .slice (some ⟨w1.heap.size, 0, none⟩) 1 1) (by rfl) rfl (by first | (go_simp; done) | (go_simp; rfl)) ?_
        refine hK.out _ _ ((kC (HC.out.later (bA (Below.refl _ _) _)).box2 3).trans rfl) (fun hHeld => ?_)
        clear hK K
        refine norm_ (a' := ?_) ?_ ?_
        rotate_left
        · show Act.put _ (some 76) _ = _
          simp only [Act.put, zA, zZ, zS, i64_w, i32_w]
          rfl
        refine one_ (i := 11) (N := some 77) #[true, true, true, true, true, true, true, true, true, true, true, true, false, false] rfl rfl (one_of HT_.out (by kernel_rfl)) (by decide) (fun K hK => ?_)
        refine Kd.R_append_step k50 (w0 := w) w.heap.size (by rfl) (.tmp 67) (.tmp 76) 35 50 (.agg #[(.int .i64 0), (.int .i64 0), (.bool false)]) 24 rfl Tryz.underlying35 info50 rfl (by decide) (by decide) vE E (⟨ef, et, _⟩ : S50) [.int .i64 ef, .int .i64 et, .bool _] (fun _ => True) (fun _ => False) rfl rfl (k50_mkM _ _ _ _) (fun _ hk => hk.elim) (fun _ _ => trivial) HC.out.2.2.2.1 HC.out.bel HC.out.bel.size (by have := HE.out; have := HM.out; omega) ?_
        intro v1 w2 hv1 hb1 hg1 hat1
        obtain ⟨A9, n9, c9, e9⟩ : ∃ A n c, v1 = Value.slice A n c := (Kd.R_slice hv1).elim (fun A h => h.elim (fun c e => ⟨A, _, c, e⟩))
        subst e9
        obtain ⟨hbx, hcm⟩ := HC.out.grewE hb1 hg1 hv1 (HC.out.2.2.2.2.snocE (by have := HE.out; have := HM.out; omega))
        have BX := As.mk hbx
        have n1 := As.mk hcm
        clear HC hv1 hb1 hg1 hat1 hbx hcm
        have HC := n1
        clear n1
        refine hK.out _ _ ((kC BX.out 3).trans rfl) (fun hHeld => ?_)
        clear hK K
        refine norm_ (a' := ?_) ?_ ?_
        rotate_left
        · show Act.put _ (some 77) _ = _
          simp only [Act.put, zA, zZ, zS, i64_w, i32_w]
          rfl
        refine pure_ (i := 12) (N := some 78) (v := ?_) (a' := ?_) #[true, true, true, true, true, true, true, true, true, true, true, true, true, false] rfl rfl (any_of HT_.out (by kernel_rfl)) (fun _ _ _ h => ReadQ.put (N := 78) (by decide) (by decide) h) (Or.inl ⟨by rfl, ?_⟩) ?_ ?_; rotate_left; (intro w'; go_simp; with_reducible rfl); rotate_left; (simp only [Act.put, zA, zZ, zS, i64_w, i32_w]; rfl)
        have m3 := (kC BX.out 3).trans rfl
        have f3 := kF BX.out 3
        refine last_ (i := 13) (N := none) #[true, true, true, true, true, true, true, true, true, true, true, true, true, true] rfl rfl (one_of HT_.out (by kernel_rfl)) (by decide) (fun K hK => ?_)
        refine skip_ (by rfl) rfl (by first | (go_simp; done) | (go_simp; rfl)) ?_
        refine hK.out _ _ ?_
        clear hK K
        refine done_ (done_of HT_.out (by kernel_rfl)) ?_
        clear HT_ HW_ hHeld m3 f3 BX
        go_wp2
        go_roundg (M - (j + 1))
        case measure => have := HJ.out; omega
        case rel => have hM_ := HM.out; exact ⟨j + 1, by (rw [show wrap64 ((j : Int) + 1) = ((j + 1 : Nat) : Int) from by unfold wrap64; omega]), ⟨by have := HJ.out; omega⟩, _, _, _, HC, ⟨by have := HE.out; rw [List.length_append, List.length_singleton]; omega⟩⟩
    have hlt' : (i : Int) < (N : Int) := by omega
    go_upto_region 7 with (go_at_call 87; refine (rbyte_calls w _ g _ HC.out.2.1).mono ?_; rintro e w1 ⟨hk, hb, rfl | ⟨v, ys, rfl, ⟨y, rfl, hy0, hy1⟩, hs⟩⟩; (focus (exact ⟨g2, g3, rfl, rfl, rfl, .inr rfl, HC.out.thrown hk hb⟩)); obtain ⟨K, rfl⟩ := Int.eq_ofNat_of_zero_le hy0; have n1 := As.mk (HC.out.read hk hs); clear HC; have HC := n1; have HKt := As.mk (show K ≤ 255 by omega); clear n1 hk hb hs hy0 hy1)
    obtain ⟨A2, n2, c2, e2⟩ : ∃ A n c, vR = Value.slice A n c := (Kd.R_slice HC.out.2.2.1).elim (fun A h => h.elim (fun c e => ⟨A, _, c, e⟩))
    subst e2
    rcases Nat.eq_zero_or_pos K with rfl | hK1
    · have m0 := (kC HC.out.box2 0).trans rfl; have m1 := (kC HC.out.box2 1).trans rfl; have m2 := (kC HC.out.box2 2).trans rfl; have m3 := (kC HC.out.box2 3).trans rfl; have f0 := kF HC.out.box2 0; have f1 := kF HC.out.box2 1; have f2 := kF HC.out.box2 2; have f3 := kF HC.out.box2 3; obtain ⟨b3, hb3⟩ := HC.out.box3; have q0 := (kC hb3 0).trans rfl; have p0 := kF hb3 0; clear hb3; obtain ⟨ne23, ne32⟩ := HC.out.ne
      go_wp2_with ((with_reducible refine gate_store (t := 37) (p := 2) rfl ?_); refine store_event (t := 37) (p := 2) (v := ?vo2) (w1 := ?wo2) ?hg ?ho ?hn ?hr ?_; (case ho => rfl); (case hg => rfl); (case hn => rfl); (case hr => first | (go_simp; done) | (go_simp; rfl)); intro w2 hw; have n1 := As.mk (HC.out.again); rw [← hw] at n1; clear HC m0 m1 m2 m3 q0 f0 f1 f2 f3 p0; have HC := n1; clear n1 hw; obtain ⟨b3, hb3⟩ := HC.out.box3; have q0 := (kC hb3 0).trans rfl; have p0 := kF hb3 0; clear hb3)
      first
        | exact ⟨g2, g3, rfl, rfl, rfl, .inl rfl, (HC.out.okay false).z⟩
        | exact ⟨g2, g3, rfl, rfl, rfl, .inl rfl, (HC.out.again.okay false).z⟩
    obtain ⟨q, rfl⟩ : ∃ q, K = q + 1 := ⟨K - 1, by omega⟩
    have hk1 : ¬ (((q + 1 : Nat) : Int) < 1) := by omega
    have hk2 : ¬ ((q : Int) + 1 < 1) := by omega
    by_cases hq : 5 ≤ q
    · have hgt : ((q + 1 : Nat) : Int) > 5 := by omega
      have hgt2 : (q : Int) + 1 > 5 := by omega
      have m0 := (kC HC.out.box2 0).trans rfl; have m1 := (kC HC.out.box2 1).trans rfl; have m2 := (kC HC.out.box2 2).trans rfl; have m3 := (kC HC.out.box2 3).trans rfl; have f0 := kF HC.out.box2 0; have f1 := kF HC.out.box2 1; have f2 := kF HC.out.box2 2; have f3 := kF HC.out.box2 3; obtain ⟨b3, hb3⟩ := HC.out.box3; have q0 := (kC hb3 0).trans rfl; have p0 := kF hb3 0; clear hb3; obtain ⟨ne23, ne32⟩ := HC.out.ne
      go_wp2_with (first | ((with_reducible refine gate_store (t := 37) (p := 2) rfl ?_); refine store_event (t := 37) (p := 2) (v := ?vo2) (w1 := ?wo2) ?hg ?ho ?hn ?hr ?_; (case ho => rfl); (case hg => rfl); (case hn => rfl); (case hr => first | (go_simp; done) | (go_simp; rfl)); intro w2 hw; have n1 := As.mk (HC.out.again); rw [← hw] at n1; clear HC m0 m1 m2 m3 q0 f0 f1 f2 f3 p0; have HC := n1; clear n1 hw; obtain ⟨b3, hb3⟩ := HC.out.box3; have q0 := (kC hb3 0).trans rfl; have p0 := kF hb3 0; clear hb3) | (go_at_call 73; refine (catalog_kinds.calls kindsL _ rfl).mono ?_; rintro e w7 ⟨v7, rfl, hr3, hb⟩; obtain ⟨A3, n3, c3, e3⟩ : ∃ A n c, v7 = Value.slice A n c := (Kd.R_slice hr3).elim (fun A h => h.elim (fun c e => ⟨A, _, c, e⟩)); subst e3; obtain ⟨hn3, _⟩ := kind_at hr3 0 (by decide); have hn5 : n3 = 5 := hn3; subst hn5; clear hr3 hn3; have n1 := As.mk (HC.out.later hb); clear HC; have HC := n1; clear n1 hb; clear m0 m1 m2 m3 f0 f1 f2 f3 q0 p0 ne23 ne32; have m0 := (kC HC.out.box2 0).trans rfl; have m1 := (kC HC.out.box2 1).trans rfl; have m2 := (kC HC.out.box2 2).trans rfl; have m3 := (kC HC.out.box2 3).trans rfl; have f0 := kF HC.out.box2 0; have f1 := kF HC.out.box2 1; have f2 := kF HC.out.box2 2; have f3 := kF HC.out.box2 3; obtain ⟨b3, hb3⟩ := HC.out.box3; have q0 := (kC hb3 0).trans rfl; have p0 := kF hb3 0; clear hb3; obtain ⟨ne23, ne32⟩ := HC.out.ne))
      first
        | exact ⟨g2, g3, rfl, rfl, rfl, .inl rfl, (HC.out.okay false).z⟩
        | exact ⟨g2, g3, rfl, rfl, rfl, .inl rfl, (HC.out.again.okay false).z⟩
    have hgt : ¬ (((q + 1 : Nat) : Int) > 5) := by omega
    have hgt2 : ¬ ((q : Int) + 1 > 5) := by omega
    have hq : q < kindsL.length := by show q < 5; omega
    go_upto_region 9 with (go_at_call 73; refine (catalog_kinds.calls kindsL _ rfl).mono ?_; rintro e w7 ⟨v7, rfl, hr3, hb⟩; obtain ⟨A3, n3, c3, e3⟩ : ∃ A n c, v7 = Value.slice A n c := (Kd.R_slice hr3).elim (fun A h => h.elim (fun c e => ⟨A, _, c, e⟩)); subst e3; obtain ⟨hn3, _⟩ := kind_at hr3 0 (by decide); have hn5 : n3 = 5 := hn3; subst hn5; clear hr3 hn3; have n1 := As.mk (HC.out.later hb); clear HC; have HC := n1; clear n1 hb)
    obtain ⟨kd, HKD⟩ : ∃ kd, As (kindsL.getD q (⟨#[]⟩ : ByteArray) = kd) := ⟨_, ⟨rfl⟩⟩
    have HKS : As (kd.size < 65536) := ⟨by rw [← HKD.out]; exact (by decide +kernel : ∀ q : Fin 5, (kindsL.getD q.1 (⟨#[]⟩ : ByteArray)).size < 65536) ⟨q, hq⟩⟩
    have hwr : wrap64 (q : Int) = (q : Int) := by unfold wrap64; omega
    have hwq : wrap64 (((q + 1 : Nat) : Int) - 1) = (q : Int) := by unfold wrap64; omega
    have hq0 : (0 : Int) ≤ (q : Int) := by omega
    have hq5 : (q : Int) < 5 := by omega
    have n1 := As.mk (HC.out.later (bD (Below.refl _ _)))
    refine start_ (n := 10) (S := fun _ => True) (ds := [9]) #[false, false, false, false, false, false, false, false, false, false] (by kernel_rfl) rfl rfl True.intro (fun hHeld => ?_); refine with_tabW read_tab9 read_bits9 (fun HT_ HW_ => ?_)
    clear HC
    have HC := n1
    clear n1 hHeld
    refine pure_ (i := 1) (N := some 33) (v := ?_) (a' := ?_) #[false, true, false, false, false, false, false, false, false, false] rfl rfl (any_of HT_.out (by kernel_rfl)) (fun _ _ _ h => ReadQ.put (N := 33) (by decide) (by decide) h) (Or.inl ⟨by rfl, ?_⟩) ?_ ?_; rotate_left; (intro w'; go_simp; with_reducible rfl); rotate_left; (simp only [Act.put, zA, zZ, zS, i64_w, i32_w]; rfl)
    refine pure_ (i := 2) (N := some 34) (v := ?_) (a' := ?_) #[false, true, true, false, false, false, false, false, false, false] rfl rfl (any_of HT_.out (by kernel_rfl)) (fun _ _ _ h => ReadQ.put (N := 34) (by decide) (by decide) h) (Or.inl ⟨by rfl, ?_⟩) ?_ ?_; rotate_left; (intro w'; go_simp; with_reducible rfl); rotate_left; (simp only [Act.put, zA, zZ, zS, i64_w, i32_w]; rfl)
    refine pure_ (i := 5) (N := some 37) (v := ?_) (a' := ?_) #[false, true, true, false, false, true, false, false, false, false] rfl rfl (any_of HT_.out (by kernel_rfl)) (fun _ _ _ h => ReadQ.put (N := 37) (by decide) (by decide) h) (Or.inl ⟨by rfl, ?_⟩) ?_ ?_; rotate_left; (intro w'; go_simp; with_reducible rfl); rotate_left; (simp only [Act.put, zA, zZ, zS, i64_w, i32_w]; rfl)
    refine joinS_ 1 #[true, true, true, true, true, true, true, true, true, false] (fun p : (Value × Value × ByteArray × Nat) => [(32, p.1), (35, p.2.1), (36, .string (kd)), (38, .string p.2.2.1), (39, .agg #[.string kd, .string p.2.2.1, .slice none 0 0]), (6, .pointer (some ⟨p.2.2.2, 0, none⟩))]) (fun p W' => ∃ ys, CM w W' g2 g3 g ys (fun k => k < p.2.2.2) x s (.slice A2 n2 c2) (.slice none 0 0) R [] ∧ W'.heap[p.2.2.2]? = some (.cells #[.string (⟨#[]⟩ : ByteArray), .string (⟨#[]⟩ : ByteArray), .slice none 0 0] 24 (0, 0)) ∧ w.heap.size ≤ p.2.2.2 ∧ p.2.2.1.size < 65536) ?_ ?_
    rotate_left
    · intro HJ9
      refine two_ (i := 0) (j := 8) (Ni := some 32) (Nj := some 6) #[true, true, true, false, false, true, false, false, false, false] #[false, true, true, false, false, true, false, false, true, false] rfl rfl rfl rfl (two_of HT_.out (by kernel_rfl)) (by decide) (by decide) (fun K hK => ?_) (fun K hK => ?_)
      · refine goes_ Tryz.func73 (by kernel_rfl) rfl #[] (by rfl) rfl rfl (by (try simp only [List.map_toArray, List.map_cons, List.map_nil]); first | done | rfl) ?_
        refine (catalog_kinds.calls kindsL _ rfl).mono ?_
        rintro e w3 ⟨v3, rfl, hr3, hb⟩
        obtain ⟨A3, n3, c3, e3⟩ : ∃ A n c, v3 = Value.slice A n c := (Kd.R_slice hr3).elim (fun A h => h.elim (fun c e => ⟨A, _, c, e⟩))
        subst e3
        obtain ⟨hn3, ad, kcs, rfl, hkc, hkb⟩ := kind_at hr3 q hq
        have hn5 : n3 = 5 := hn3
        subst hn5
        clear hr3 hn3
        rw [HKD.out] at hkc
        have n1 := As.mk (HC.out.later hb)
        clear HC
        have HC := n1
        clear n1 hb
        refine ⟨_, rfl, ?_⟩
        refine hK.out _ _ True.intro (fun _ => ?_)
        clear hK K
        refine norm_ (a' := ?_) ?_ ?_
        rotate_left
        · show Act.put _ (some 32) _ = _
          simp only [Act.put, zA, zZ, zS, i64_w, i32_w]
          rfl
        refine pure_ (i := 3) (N := some 35) (v := ?_) (a' := ?_) #[true, true, true, true, false, true, false, false, false, false] rfl rfl (any_of HT_.out (by kernel_rfl)) (fun _ _ _ h => ReadQ.put (N := 35) (by decide) (by decide) h) (Or.inl ⟨by rfl, ?_⟩) ?_ ?_; rotate_left; (intro w'; go_simp; with_reducible rfl); rotate_left; (simp only [Act.put, zA, zZ, zS, i64_w, i32_w]; rfl)
        refine hold_ (S' := fun w' => w'.cell? (ad.add q) = some (.string (kd))) ?_
        have hHeld := hkc
        refine take_ (i := 4) (N := some 36) (v := ?_) (a' := ?_) #[true, true, true, true, true, true, false, false, false, false] rfl rfl (take_ofW HT_.out HW_.out (by kernel_rfl)) (fun _ _ _ h => ReadQ.put (N := 36) (by decide) (by decide) h) (Or.inl ⟨by rfl, ?_⟩) hHeld ?_ ?_; rotate_left; (intro w' hs_; first | (go_simp; done) | (go_simp; with_reducible rfl)); rotate_left; (simp only [Act.put, zA, zZ, zS, i64_w, i32_w]; rfl)
        refine two_ (i := 6) (j := 8) (Ni := some 38) (Nj := some 6) #[true, true, true, true, true, true, true, false, false, false] #[true, true, true, true, true, true, false, false, true, false] rfl rfl rfl rfl (two_of HT_.out (by kernel_rfl)) (by decide) (by decide) (fun K hK => ?_) (fun K hK => ?_)
        · refine goesP_ Tryz.func86 (by kernel_rfl) rfl #[.pointer (some ⟨g, 0, none⟩)] (by rfl) rfl rfl (by (try simp only [List.map_toArray, List.map_cons, List.map_nil]); first | done | rfl) ?_
          refine (rtext_calls w _ g _ HC.out.2.1).mono ?_
          rintro e w1 ⟨hk, hb, rfl | ⟨v, ys, rfl, ⟨s1, rfl, hs1⟩, hs⟩⟩
          · exact .inr ⟨_, rfl, g2, g3, rfl, rfl, rfl, .inr rfl, HC.out.thrown hk hb⟩
          refine .inl ⟨_, rfl, ?_⟩
          have mv := HC.out.2.1.moved hk
          have hkb1 := mv.blk hkb (by decide)
          have hkc1 := (World.cell?_of_block (mv _ _ _ hkb (by decide))).trans hkc
          have n1 := As.mk (HC.out.read hk hs)
          clear HC
          have HC := n1
          clear n1 hk hb hs mv
          refine hK.out _ _ hkc1 (fun hHeld => ?_)
          clear hK K
          refine norm_ (a' := ?_) ?_ ?_
          rotate_left
          · show Act.put _ (some 38) _ = _
            simp only [Act.put, zA, zZ, zS, i64_w, i32_w]
            rfl
          clear hkc hkb
          have hkc := hkc1
          have hkb := hkb1
          clear hkc1 hkb1
          refine pure_ (i := 7) (N := some 39) (v := ?_) (a' := ?_) #[true, true, true, true, true, true, true, true, false, false] rfl rfl (any_of HT_.out (by kernel_rfl)) (fun _ _ _ h => ReadQ.put (N := 39) (by decide) (by decide) h) (Or.inl ⟨by rfl, ?_⟩) ?_ ?_; rotate_left; (intro w'; go_simp; with_reducible rfl); rotate_left; (simp only [Act.put, zA, zZ, zS, i64_w, i32_w]; rfl)
          refine one_ (i := 8) (N := some 6) #[true, true, true, true, true, true, true, true, true, false] rfl rfl (one_of HT_.out (by kernel_rfl)) (by decide) (fun K hK => ?_)
          refine value_ (v := .pointer (some ⟨w1.heap.size, 0, none⟩)) (w1 := w1.alloc (.cells #[.string (⟨#[]⟩ : ByteArray), .string (⟨#[]⟩ : ByteArray), .slice none 0 0] 24 (0, 0))) (by rfl) rfl (by first | (go_simp; done) | (go_simp; rfl)) ?_
          have hba : Below w1.heap.size w1 (w1.alloc (.cells #[.string (⟨#[]⟩ : ByteArray), .string (⟨#[]⟩ : ByteArray), .slice none 0 0] 24 (0, 0))) := bA (Below.refl _ _) _
          have hge6 := HC.out.bel.size
          have n1 := As.mk (HC.out.fresh (.cells #[.string (⟨#[]⟩ : ByteArray), .string (⟨#[]⟩ : ByteArray), .slice none 0 0] 24 (0, 0)))
          have BK6 := As.mk (blk_new w1 (.cells #[.string (⟨#[]⟩ : ByteArray), .string (⟨#[]⟩ : ByteArray), .slice none 0 0] 24 (0, 0)))
          clear HC
          have HC := n1
          clear n1
          have hkc1 := (hba.cell (World.block_lt_of_cell? _ _ hkc)).trans hkc
          have hkb1 := kB hkb hba
          clear hba
          refine hK.out _ _ hkc1 (fun hHeld => ?_)
          clear hK K
          refine norm_ (a' := ?_) ?_ ?_
          rotate_left
          · show Act.put _ (some 6) _ = _
            simp only [Act.put, zA, zZ, zS, i64_w, i32_w]
            rfl
          have h9 := HJ9 (fun w' => w'.cell? (ad.add q) = some (.string (kd))) (.slice (some ad) 5 c3, .pointer (some (ad.add q)), s1, w1.heap.size) _ ⟨_, HC.out, BK6.out, hge6, hs1⟩
          simp only [putAll, Act.put, zA, zZ, zS] at h9
          exact h9
        · refine value_ (v := .pointer (some ⟨w3.heap.size, 0, none⟩)) (w1 := w3.alloc (.cells #[.string (⟨#[]⟩ : ByteArray), .string (⟨#[]⟩ : ByteArray), .slice none 0 0] 24 (0, 0))) (by rfl) rfl (by first | (go_simp; done) | (go_simp; rfl)) ?_
          have hba : Below w3.heap.size w3 (w3.alloc (.cells #[.string (⟨#[]⟩ : ByteArray), .string (⟨#[]⟩ : ByteArray), .slice none 0 0] 24 (0, 0))) := bA (Below.refl _ _) _
          have hge6 := HC.out.bel.size
          have n1 := As.mk (HC.out.fresh (.cells #[.string (⟨#[]⟩ : ByteArray), .string (⟨#[]⟩ : ByteArray), .slice none 0 0] 24 (0, 0)))
          have BK6 := As.mk (blk_new w3 (.cells #[.string (⟨#[]⟩ : ByteArray), .string (⟨#[]⟩ : ByteArray), .slice none 0 0] 24 (0, 0)))
          clear HC
          have HC := n1
          clear n1
          have hkc1 := (hba.cell (World.block_lt_of_cell? _ _ hkc)).trans hkc
          have hkb1 := kB hkb hba
          clear hba
          refine hK.out _ _ hkc1 (fun hHeld => ?_)
          clear hK K
          refine norm_ (a' := ?_) ?_ ?_
          rotate_left
          · show Act.put _ (some 6) _ = _
            simp only [Act.put, zA, zZ, zS, i64_w, i32_w]
            rfl
          clear hkc hkb
          have hkc := hkc1
          have hkb := hkb1
          clear hkc1 hkb1
          refine one_ (i := 6) (N := some 38) #[true, true, true, true, true, true, true, false, true, false] rfl rfl (one_of HT_.out (by kernel_rfl)) (by decide) (fun K hK => ?_)
          refine goesP_ Tryz.func86 (by kernel_rfl) rfl #[.pointer (some ⟨g, 0, none⟩)] (by rfl) rfl rfl (by (try simp only [List.map_toArray, List.map_cons, List.map_nil]); first | done | rfl) ?_
          refine (rtext_calls w _ g _ HC.out.2.1).mono ?_
          rintro e w1 ⟨hk, hb, rfl | ⟨v, ys, rfl, ⟨s1, rfl, hs1⟩, hs⟩⟩
          · exact .inr ⟨_, rfl, g2, g3, rfl, rfl, rfl, .inr rfl, HC.out.thrown hk hb⟩
          refine .inl ⟨_, rfl, ?_⟩
          have mv := HC.out.2.1.moved hk
          have hkb1 := mv.blk hkb (by decide)
          have hkc1 := (World.cell?_of_block (mv _ _ _ hkb (by decide))).trans hkc
          have n6 := As.mk (mv.blk BK6.out (by decide))
          clear BK6
          have BK6 := n6
          clear n6
          have n1 := As.mk (HC.out.read hk hs)
          clear HC
          have HC := n1
          clear n1 hk hb hs mv
          refine hK.out _ _ hkc1 (fun hHeld => ?_)
          clear hK K
          refine norm_ (a' := ?_) ?_ ?_
          rotate_left
          · show Act.put _ (some 38) _ = _
            simp only [Act.put, zA, zZ, zS, i64_w, i32_w]
            rfl
          refine pure_ (i := 7) (N := some 39) (v := ?_) (a' := ?_) #[true, true, true, true, true, true, true, true, true, false] rfl rfl (any_of HT_.out (by kernel_rfl)) (fun _ _ _ h => ReadQ.put (N := 39) (by decide) (by decide) h) (Or.inl ⟨by rfl, ?_⟩) ?_ ?_; rotate_left; (intro w'; go_simp; with_reducible rfl); rotate_left; (simp only [Act.put, zA, zZ, zS, i64_w, i32_w]; rfl)
          have h9 := HJ9 (fun w' => w'.cell? (ad.add q) = some (.string (kd))) (.slice (some ad) 5 c3, .pointer (some (ad.add q)), s1, w3.heap.size) _ ⟨_, HC.out, BK6.out, hge6, hs1⟩
          simp only [putAll, Act.put, zA, zZ, zS] at h9
          exact h9
      · refine value_ (v := .pointer (some ⟨w7.drew.heap.size, 0, none⟩)) (w1 := w7.drew.alloc (.cells #[.string (⟨#[]⟩ : ByteArray), .string (⟨#[]⟩ : ByteArray), .slice none 0 0] 24 (0, 0))) (by rfl) rfl (by first | (go_simp; done) | (go_simp; rfl)) ?_
        have hba : Below w7.drew.heap.size w7.drew (w7.drew.alloc (.cells #[.string (⟨#[]⟩ : ByteArray), .string (⟨#[]⟩ : ByteArray), .slice none 0 0] 24 (0, 0))) := bA (Below.refl _ _) _
        have hge6 := HC.out.bel.size
        have n1 := As.mk (HC.out.fresh (.cells #[.string (⟨#[]⟩ : ByteArray), .string (⟨#[]⟩ : ByteArray), .slice none 0 0] 24 (0, 0)))
        have BK6 := As.mk (blk_new w7.drew (.cells #[.string (⟨#[]⟩ : ByteArray), .string (⟨#[]⟩ : ByteArray), .slice none 0 0] 24 (0, 0)))
        clear HC
        have HC := n1
        clear n1
        clear hba
        refine hK.out _ _ True.intro (fun hHeld => ?_)
        clear hK K
        refine norm_ (a' := ?_) ?_ ?_
        rotate_left
        · show Act.put _ (some 6) _ = _
          simp only [Act.put, zA, zZ, zS, i64_w, i32_w]
          rfl
        refine one_ (i := 0) (N := some 32) #[true, true, true, false, false, true, false, false, true, false] rfl rfl (one_of HT_.out (by kernel_rfl)) (by decide) (fun K hK => ?_)
        refine goes_ Tryz.func73 (by kernel_rfl) rfl #[] (by rfl) rfl rfl (by (try simp only [List.map_toArray, List.map_cons, List.map_nil]); first | done | rfl) ?_
        refine (catalog_kinds.calls kindsL _ rfl).mono ?_
        rintro e w3 ⟨v3, rfl, hr3, hb⟩
        obtain ⟨A3, n3, c3, e3⟩ : ∃ A n c, v3 = Value.slice A n c := (Kd.R_slice hr3).elim (fun A h => h.elim (fun c e => ⟨A, _, c, e⟩))
        subst e3
        obtain ⟨hn3, ad, kcs, rfl, hkc, hkb⟩ := kind_at hr3 q hq
        have hn5 : n3 = 5 := hn3
        subst hn5
        clear hr3 hn3
        rw [HKD.out] at hkc
        have n6 := As.mk (kB BK6.out hb)
        clear BK6
        have BK6 := n6
        clear n6
        have n1 := As.mk (HC.out.later hb)
        clear HC
        have HC := n1
        clear n1 hb
        refine ⟨_, rfl, ?_⟩
        refine hK.out _ _ True.intro (fun _ => ?_)
        clear hK K
        refine norm_ (a' := ?_) ?_ ?_
        rotate_left
        · show Act.put _ (some 32) _ = _
          simp only [Act.put, zA, zZ, zS, i64_w, i32_w]
          rfl
        refine pure_ (i := 3) (N := some 35) (v := ?_) (a' := ?_) #[true, true, true, true, false, true, false, false, true, false] rfl rfl (any_of HT_.out (by kernel_rfl)) (fun _ _ _ h => ReadQ.put (N := 35) (by decide) (by decide) h) (Or.inl ⟨by rfl, ?_⟩) ?_ ?_; rotate_left; (intro w'; go_simp; with_reducible rfl); rotate_left; (simp only [Act.put, zA, zZ, zS, i64_w, i32_w]; rfl)
        refine hold_ (S' := fun w' => w'.cell? (ad.add q) = some (.string (kd))) ?_
        have hHeld := hkc
        refine take_ (i := 4) (N := some 36) (v := ?_) (a' := ?_) #[true, true, true, true, true, true, false, false, true, false] rfl rfl (take_ofW HT_.out HW_.out (by kernel_rfl)) (fun _ _ _ h => ReadQ.put (N := 36) (by decide) (by decide) h) (Or.inl ⟨by rfl, ?_⟩) hHeld ?_ ?_; rotate_left; (intro w' hs_; first | (go_simp; done) | (go_simp; with_reducible rfl)); rotate_left; (simp only [Act.put, zA, zZ, zS, i64_w, i32_w]; rfl)
        refine one_ (i := 6) (N := some 38) #[true, true, true, true, true, true, true, false, true, false] rfl rfl (one_of HT_.out (by kernel_rfl)) (by decide) (fun K hK => ?_)
        refine goesP_ Tryz.func86 (by kernel_rfl) rfl #[.pointer (some ⟨g, 0, none⟩)] (by rfl) rfl rfl (by (try simp only [List.map_toArray, List.map_cons, List.map_nil]); first | done | rfl) ?_
        refine (rtext_calls w _ g _ HC.out.2.1).mono ?_
        rintro e w1 ⟨hk, hb, rfl | ⟨v, ys, rfl, ⟨s1, rfl, hs1⟩, hs⟩⟩
        · exact .inr ⟨_, rfl, g2, g3, rfl, rfl, rfl, .inr rfl, HC.out.thrown hk hb⟩
        refine .inl ⟨_, rfl, ?_⟩
        have mv := HC.out.2.1.moved hk
        have hkb1 := mv.blk hkb (by decide)
        have hkc1 := (World.cell?_of_block (mv _ _ _ hkb (by decide))).trans hkc
        have n6 := As.mk (mv.blk BK6.out (by decide))
        clear BK6
        have BK6 := n6
        clear n6
        have n1 := As.mk (HC.out.read hk hs)
        clear HC
        have HC := n1
        clear n1 hk hb hs mv
        refine hK.out _ _ hkc1 (fun hHeld => ?_)
        clear hK K
        refine norm_ (a' := ?_) ?_ ?_
        rotate_left
        · show Act.put _ (some 38) _ = _
          simp only [Act.put, zA, zZ, zS, i64_w, i32_w]
          rfl
        refine pure_ (i := 7) (N := some 39) (v := ?_) (a' := ?_) #[true, true, true, true, true, true, true, true, true, false] rfl rfl (any_of HT_.out (by kernel_rfl)) (fun _ _ _ h => ReadQ.put (N := 39) (by decide) (by decide) h) (Or.inl ⟨by rfl, ?_⟩) ?_ ?_; rotate_left; (intro w'; go_simp; with_reducible rfl); rotate_left; (simp only [Act.put, zA, zZ, zS, i64_w, i32_w]; rfl)
        have h9 := HJ9 (fun w' => w'.cell? (ad.add q) = some (.string (kd))) (.slice (some ad) 5 c3, .pointer (some (ad.add q)), s1, w7.drew.heap.size) _ ⟨_, HC.out, BK6.out, hge6, hs1⟩
        simp only [putAll, Act.put, zA, zZ, zS] at h9
        exact h9
    rintro S' ⟨v3, v35, s1, g6⟩ W' ⟨ys, hcm, hbk, hge6, hs1⟩
    have HC := As.mk hcm
    have BK6 := As.mk hbk
    clear hcm hbk
    refine norm_ (a' := ?_) ?_ ?_
    rotate_left
    · simp only [putAll, Act.put, zA, zZ, zS, i64_w, i32_w]
      rfl
    have d0 := (kC BK6.out 0).trans rfl
    have d1 := (kC BK6.out 1).trans rfl
    have d2 := (kC BK6.out 2).trans rfl
    have e0 := kF BK6.out 0
    have e1 := kF BK6.out 1
    have e2 := kF BK6.out 2
    refine last_ (i := 9) (N := none) #[true, true, true, true, true, true, true, true, true, true] rfl rfl (one_of HT_.out (by kernel_rfl)) (by decide) (fun K hK => ?_)
    refine skip_ (by rfl) rfl (by first | (go_simp; done) | (go_simp; rfl)) ?_
    refine hK.out _ _ ?_
    clear hK K
    refine done_ (done_of HT_.out (by kernel_rfl)) ?_
    clear HT_ HW_ d0 d1 d2 e0 e1 e2
    dsimp only at HC BK6 hge6 hs1
    have b1 := kP (cs' := #[.string kd, .string (⟨#[]⟩ : ByteArray), .slice none 0 0]) BK6.out 0 (.string kd) rfl
    have b2 := kP (cs' := #[.string kd, .string s1, .slice none 0 0]) b1 1 (.string s1) rfl
    have b3 := kP (cs' := #[.string kd, .string s1, .slice none 0 0]) b2 2 (.slice none 0 0) rfl
    have n1 := As.mk (((HC.out.set6 BK6.out hge6 0 (.string kd)).set6 b1 hge6 1 (.string s1)).set6 b2 hge6 2 (.slice none 0 0))
    have n6 := As.mk b3
    clear HC BK6 b1 b2 b3
    have HC := n1
    have BK6 := n6
    clear n1 n6
    have HG6 := As.mk hge6
    have HS1 := As.mk hs1
    clear hge6 hs1
    go_wp2_with (go_at_call 87; refine (rbyte_calls w _ g _ HC.out.2.1).mono ?_; rintro e w1 ⟨hk, hb, rfl | ⟨v, ys, rfl, ⟨y, rfl, hy0, hy1⟩, hs⟩⟩; (focus (exact ⟨g2, g3, rfl, rfl, rfl, .inr rfl, HC.out.thrown hk hb⟩)); obtain ⟨L, rfl⟩ := Int.eq_ofNat_of_zero_le hy0; have n6 := As.mk ((HC.out.2.1.moved hk).blk BK6.out (by decide)); have n1 := As.mk (HC.out.read hk hs); clear HC BK6; have HC := n1; have BK6 := n6; have HLL := As.mk (show L ≤ 255 by omega); clear n1 n6 hk hb hs hy0 hy1)
    go_loopg [42] L (fun kq v42 w' => ∃ j : Nat, v42 = .int .i64 j ∧ As (j + kq = L) ∧ ∃ ys vP ps, As (CM w w' g2 g3 g ys (fun k => k < g6) x s (.slice A2 n2 c2) (.slice none 0 0) R []) ∧ As (w'.heap[g6]? = some (.cells #[.string kd, .string s1, vP] 24 (0, 0))) ∧ As (Kd.R k31 31 w' w.heap.size (fun k => g6 ≤ k) vP ps) ∧ As (ps.length = j) ∧ As (∀ p, p ∈ ps → p.f0.size < 65536 ∧ p.f1.size < 65536))
    case atStart => exact ⟨0, rfl, ⟨by omega⟩, _, _, [], HC, BK6, ⟨Kd.R_nil _ _ _ _ _⟩, ⟨rfl⟩, ⟨fun p hp => by cases hp⟩⟩
    case round =>
      clear HC BK6
      obtain ⟨j, rfl, HJ, zs, vP, ps, HC, BK6, HP, HPL, HPS⟩ := hrel
      obtain ⟨A5, n5, c5, e5⟩ : ∃ A n c, vP = Value.slice A n c := (Kd.R_slice HP.out).elim (fun A h => h.elim (fun c e => ⟨A, _, c, e⟩))
      subst e5
      by_cases hlj : j < L
      rotate_left
      · have hgj : ¬ (j : Int) < (L : Int) := by omega
        have m2 := (kC HC.out.box2 2).trans rfl; have f2 := kF HC.out.box2 2; have d0 := (kC BK6.out 0).trans rfl; have d1 := (kC BK6.out 1).trans rfl; have d2 := (kC BK6.out 2).trans rfl
        go_wp2_with ((with_reducible refine gate_dst (N := 59) rfl ?_); refine Kd.R_append k24 (w0 := w) w.heap.size (by rfl) (.tmp 56) (.tmp 58) 34 24 (.agg #[(.string ⟨#[]⟩), (.string ⟨#[]⟩), (.slice none 0 0)]) 56 rfl Tryz.underlying34 info24 rfl (by decide) (by decide) (.slice A2 n2 c2) R (⟨kd, s1, ps⟩ : S24) [.string kd, .string s1, .slice A5 n5 c5] (fun _ => True) (fun k => g6 ≤ k) rfl rfl (k24_mkM _ _ _ (⟨kd, s1, ps⟩ : S24) HP.out) (fun k hk => ⟨True.intro, fun e => by have h6 : k < g6 := HC.out.2.2.1.1 k e.symm; have h7 : g6 ≤ k := hk; omega⟩) (fun _ _ => True.intro) (Kd.R_mono HC.out.2.2.1 (fun _ _ => True.intro)) HC.out.bel HC.out.bel.size (by have := HL.out; have := HN.out; omega) ?_; intro v1 w2 hv1 hb1 hg1 hat1; obtain ⟨A9, n9, c9, e9⟩ : ∃ A n c, v1 = Value.slice A n c := (Kd.R_slice hv1).elim (fun A h => h.elim (fun c e => ⟨A, _, c, e⟩)); subst e9; obtain ⟨hbx, hcm⟩ := HC.out.grewR hb1 hg1 hv1 (HC.out.2.2.2.2.snocR (by have := HL.out; have := HN.out; omega) ⟨HKS.out, HS1.out, by have := HPL.out; have := HLL.out; have := HJ.out; show ps.length ≤ 255; omega, HPS.out⟩); clear m2 f2 d0 d1 d2; have m2 := (kC hbx 2).trans rfl; have f2 := kF hbx 2; have n1 := As.mk hcm; clear HC BK6 HP hv1 hb1 hg1 hat1 hbx hcm; have HC := n1; clear n1)
        go_roundg (N - (i + 1))
        case measure => have := HK.out; omega
        case rel => have hM_ := HN.out; exact ⟨i + 1, by (rw [show wrap64 ((i : Int) + 1) = ((i + 1 : Nat) : Int) from by unfold wrap64; omega]), ⟨by have := HK.out; omega⟩, _, _, _, HC, ⟨by have := HL.out; rw [List.length_append, List.length_singleton]; omega⟩⟩
      have hlj' : (j : Int) < (L : Int) := by omega
      go_upto_region 12 with fail
      have n1 := As.mk (HC.out.later (bD (Below.refl _ _)))
      have n6 := As.mk (kD BK6.out)
      have nP := As.mk (Kd.R_below HP.out (bD (Below.refl _ _)))
      refine start_ (n := 11) (S := fun w' => w'.cell? ⟨g6, 2, none⟩ = some (.slice A5 n5 c5)) (ds := [10]) #[false, false, false, false, false, false, false, false, false, false, false] (by kernel_rfl) rfl rfl ((kC (kD BK6.out) 2).trans rfl) (fun hHeld => ?_); refine with_tabW read_tab12 read_bits12 (fun HT_ HW_ => ?_)
      clear HC BK6 HP
      have HC := n1
      have BK6 := n6
      have HP := nP
      clear n1 n6 nP
      refine pure_ (i := 0) (N := some 44) (v := ?_) (a' := ?_) #[true, false, false, false, false, false, false, false, false, false, false] rfl rfl (any_of HT_.out (by kernel_rfl)) (fun _ _ _ h => ReadQ.put (N := 44) (by decide) (by decide) h) (Or.inl ⟨by rfl, ?_⟩) ?_ ?_; rotate_left; (intro w'; go_simp; with_reducible rfl); rotate_left; (simp only [Act.put, zA, zZ, zS, i64_w, i32_w]; rfl)
      refine pure_ (i := 2) (N := some 46) (v := ?_) (a' := ?_) #[true, false, true, false, false, false, false, false, false, false, false] rfl rfl (any_of HT_.out (by kernel_rfl)) (fun _ _ _ h => ReadQ.put (N := 46) (by decide) (by decide) h) (Or.inl ⟨by rfl, ?_⟩) ?_ ?_; rotate_left; (intro w'; go_simp; with_reducible rfl); rotate_left; (simp only [Act.put, zA, zZ, zS, i64_w, i32_w]; rfl)
      refine pure_ (i := 4) (N := some 48) (v := ?_) (a' := ?_) #[true, false, true, false, true, false, false, false, false, false, false] rfl rfl (any_of HT_.out (by kernel_rfl)) (fun _ _ _ h => ReadQ.put (N := 48) (by decide) (by decide) h) (Or.inl ⟨by rfl, ?_⟩) ?_ ?_; rotate_left; (intro w'; go_simp; with_reducible rfl); rotate_left; (simp only [Act.put, zA, zZ, zS, i64_w, i32_w]; rfl)
      refine take_ (i := 1) (N := some 45) (v := ?_) (a' := ?_) #[true, true, true, false, true, false, false, false, false, false, false] rfl rfl (take_ofW HT_.out HW_.out (by kernel_rfl)) (fun _ _ _ h => ReadQ.put (N := 45) (by decide) (by decide) h) (Or.inl ⟨by rfl, ?_⟩) hHeld ?_ ?_; rotate_left; (intro w' hs_; first | (go_simp; done) | (go_simp; with_reducible rfl)); rotate_left; (simp only [Act.put, zA, zZ, zS, i64_w, i32_w]; rfl)
      refine one_ (i := 3) (N := some 47) #[true, true, true, true, true, false, false, false, false, false, false] rfl rfl (one_of HT_.out (by kernel_rfl)) (by decide) (fun K hK => ?_)
      refine goesP_ Tryz.func86 (by kernel_rfl) rfl #[.pointer (some ⟨g, 0, none⟩)] (by rfl) rfl rfl (by (try simp only [List.map_toArray, List.map_cons, List.map_nil]); first | done | rfl) ?_
      refine (rtext_calls w _ g _ HC.out.2.1).mono ?_
      rintro e w1 ⟨hk, hb, rfl | ⟨v, ys, rfl, ⟨pn, rfl, hpn⟩, hs⟩⟩
      · exact .inr ⟨_, rfl, g2, g3, rfl, rfl, rfl, .inr rfl, HC.out.thrown hk hb⟩
      refine .inl ⟨_, rfl, ?_⟩
      have mv := HC.out.2.1.moved hk
      have n6 := As.mk (mv.blk BK6.out (by decide))
      have nP := As.mk (mv.R HP.out (by decide))
      clear BK6 HP
      have BK6 := n6
      have HP := nP
      clear n6 nP mv
      have n1 := As.mk (HC.out.read hk hs)
      clear HC
      have HC := n1
      clear n1 hk hb hs
      refine hK.out _ _ ((kC BK6.out 2).trans rfl) (fun hHeld => ?_)
      clear hK K
      refine norm_ (a' := ?_) ?_ ?_
      rotate_left
      · show Act.put _ (some 47) _ = _
        simp only [Act.put, zA, zZ, zS, i64_w, i32_w]
        rfl
      refine one_ (i := 5) (N := some 49) #[true, true, true, true, true, true, false, false, false, false, false] rfl rfl (one_of HT_.out (by kernel_rfl)) (by decide) (fun K hK => ?_)
      refine goesP_ Tryz.func86 (by kernel_rfl) rfl #[.pointer (some ⟨g, 0, none⟩)] (by rfl) rfl rfl (by (try simp only [List.map_toArray, List.map_cons, List.map_nil]); first | done | rfl) ?_
      refine (rtext_calls w _ g _ HC.out.2.1).mono ?_
      rintro e w1 ⟨hk, hb, rfl | ⟨v, ys, rfl, ⟨pv, rfl, hpv⟩, hs⟩⟩
      · exact .inr ⟨_, rfl, g2, g3, rfl, rfl, rfl, .inr rfl, HC.out.thrown hk hb⟩
      refine .inl ⟨_, rfl, ?_⟩
      have mv := HC.out.2.1.moved hk
      have n6 := As.mk (mv.blk BK6.out (by decide))
      have nP := As.mk (mv.R HP.out (by decide))
      clear BK6 HP
      have BK6 := n6
      have HP := nP
      clear n6 nP mv
      have n1 := As.mk (HC.out.read hk hs)
      clear HC
      have HC := n1
      clear n1 hk hb hs
      refine hK.out _ _ ((kC BK6.out 2).trans rfl) (fun hHeld => ?_)
      clear hK K
      refine norm_ (a' := ?_) ?_ ?_
      rotate_left
      · show Act.put _ (some 49) _ = _
        simp only [Act.put, zA, zZ, zS, i64_w, i32_w]
        rfl
      refine pure_ (i := 6) (N := some 50) (v := ?_) (a' := ?_) #[true, true, true, true, true, true, true, false, false, false, false] rfl rfl (any_of HT_.out (by kernel_rfl)) (fun _ _ _ h => ReadQ.put (N := 50) (by decide) (by decide) h) (Or.inl ⟨by rfl, ?_⟩) ?_ ?_; rotate_left; (intro w'; go_simp; with_reducible rfl); rotate_left; (simp only [Act.put, zA, zZ, zS, i64_w, i32_w]; rfl)
      refine one_ (i := 7) (N := some 51) #[true, true, true, true, true, true, true, true, false, false, false] rfl rfl (one_of HT_.out (by kernel_rfl)) (by decide) (fun K hK => ?_)
      refine value_ (v := .slice (some ⟨w1.heap.size, 0, none⟩) 1 1) (by rfl) rfl (by first | (go_simp; done) | (go_simp; rfl)) ?_
      refine hK.out _ _ ((kC (kA BK6.out _) 2).trans rfl) (fun hHeld => ?_)
      clear hK K
      refine norm_ (a' := ?_) ?_ ?_
      rotate_left
      · show Act.put _ (some 51) _ = _
        simp only [Act.put, zA, zZ, zS, i64_w, i32_w]
        rfl
      refine one_ (i := 8) (N := some 52) #[true, true, true, true, true, true, true, true, true, false, false] rfl rfl (one_of HT_.out (by kernel_rfl)) (by decide) (fun K hK => ?_)
      refine Kd.R_append_step k31 (w0 := w) w.heap.size (by rfl) (.tmp 45) (.tmp 51) 22 31 (.agg #[(.string ⟨#[]⟩), (.string ⟨#[]⟩)]) 32 rfl Tryz.underlying22 info31 rfl (by decide) (by decide) (.slice A5 n5 c5) ps (⟨pn, pv⟩ : S31) [.string pn, .string pv] (fun k => g6 ≤ k) (fun _ => False) rfl rfl (k31_mkM _ _ _ _) (fun _ hk => hk.elim) (fun k hk => by have := blk_lt BK6.out; omega) HP.out HC.out.bel HC.out.bel.size (by have := HPL.out; have := HLL.out; omega) ?_
      intro v1 w2 hv1 hb1 hg1 hat1
      obtain ⟨A9, n9, c9, e9⟩ : ∃ A n c, v1 = Value.slice A n c := (Kd.R_slice hv1).elim (fun A h => h.elim (fun c e => ⟨A, _, c, e⟩))
      subst e9
      have n1 := As.mk (HC.out.grewP HP.out hg1 hb1)
      have n6 := As.mk ((Mv.grown hg1 (Kd.R_typed HP.out)).blk BK6.out (by decide))
      have nP := As.mk hv1
      clear HC BK6 HP hv1 hb1 hg1 hat1
      have HC := n1
      have BK6 := n6
      have HP := nP
      clear n1 n6 nP
      refine hK.out _ _ ((kC BK6.out 2).trans rfl) (fun hHeld => ?_)
      clear hK K
      refine norm_ (a' := ?_) ?_ ?_
      rotate_left
      · show Act.put _ (some 52) _ = _
        simp only [Act.put, zA, zZ, zS, i64_w, i32_w]
        rfl
      refine pure_ (i := 9) (N := some 53) (v := ?_) (a' := ?_) #[true, true, true, true, true, true, true, true, true, true, false] rfl rfl (any_of HT_.out (by kernel_rfl)) (fun _ _ _ h => ReadQ.put (N := 53) (by decide) (by decide) h) (Or.inl ⟨by rfl, ?_⟩) ?_ ?_; rotate_left; (intro w'; go_simp; with_reducible rfl); rotate_left; (simp only [Act.put, zA, zZ, zS, i64_w, i32_w]; rfl)
      have m3 := (kC BK6.out 2).trans rfl
      have f3 := kF BK6.out 2
      refine last_ (i := 10) (N := none) #[true, true, true, true, true, true, true, true, true, true, true] rfl rfl (one_of HT_.out (by kernel_rfl)) (by decide) (fun K hK => ?_)
      refine skip_ (by rfl) rfl (by first | (go_simp; done) | (go_simp; rfl)) ?_
      refine hK.out _ _ ?_
      clear hK K
      refine done_ (done_of HT_.out (by kernel_rfl)) ?_
      clear HT_ HW_ hHeld m3 f3
      have n1 := As.mk (HC.out.set6 BK6.out HG6.out 2 (.slice A9 n9 c9))
      have n6 := As.mk (kP (cs' := #[.string kd, .string s1, .slice A9 n9 c9]) BK6.out 2 (.slice A9 n9 c9) rfl)
      have nP := As.mk ((Mv.set BK6.out (j := 2) (.slice A9 n9 c9)).R HP.out (by decide))
      clear HC BK6 HP
      have HC := n1
      have BK6 := n6
      have HP := nP
      clear n1 n6 nP
      go_wp2
      go_roundg (L - (j + 1))
      case measure => have := HJ.out; omega
      case rel => have hM_ := HLL.out; exact ⟨j + 1, by (rw [show wrap64 ((j : Int) + 1) = ((j + 1 : Nat) : Int) from by unfold wrap64; omega]), ⟨by have := HJ.out; omega⟩, _, _, _, HC, BK6, HP, ⟨by have := HPL.out; rw [List.length_append, List.length_singleton]; omega⟩, ⟨fun p hp => (List.mem_append.1 hp).elim (HPS.out p) (fun h => by rw [List.mem_singleton.1 h]; exact ⟨hpn, hpv⟩)⟩⟩
end Go.Proofs.YtkgafkoopefghaaGreatDoor.PA
end
