/- A part of this law; its conditions stand in the last text. -/
import Derived.Test.YtkgafkoopefghaaGreatDoorCc19
import Derived.Test.YtkgafkoopefghaaGreatDoorCc20
section
set_option linter.unusedVariables false
set_option linter.unusedSimpArgs false
namespace Go.Proofs.YtkgafkoopefghaaGreatDoor.PA
open Go.RowKit Go.Maps Go.WideMaps Go.Proofs.YtkgafkoopefghaaGreatDoor.Hk Go.Proofs.YtkgafkoopefghaaGreatDoorW.PrintWords Go.Proofs.YtkgafkoopefghaaGreatDoorW.PrintLast
attribute [local go_sem] run_store_func
section
variable {P : Program} {o : Oper} {a : Act} {w : World} {K : Act → World → Prop} {Q : Exit → Act → World → Prop}
theorem wp_make {t : TypeId} (ho : o.op = Op.makeMap t none) (h : K (a.put o.dst (.map (some w.heap.size))) (w.alloc (.map #[] 0))) : Oper.wp P o a w K Q := by
  unfold Oper.wp
  simp [execOp, ho, run_makeMap, Result.andThen]
  exact h
theorem wp_moved {x : Operand} (ho : o.op = Op.move x) (h : K (a.put o.dst (a.eval x)) w) : Oper.wp P o a w K Q := by
  unfold Oper.wp
  simp [execOp, ho, Result.andThen]
  exact h
theorem wp_assigned {x : Operand} (ho : o.op = Op.assign x) (h : K (a.put o.dst (a.eval x)) w) : Oper.wp P o a w K Q := by
  unfold Oper.wp
  simp [execOp, ho, Result.andThen]
  exact h
theorem wp_inserted {t : TypeId} {m x v : Operand} {b : Nat} {key val : Value} {w' : World} (ho : o.op = Op.insert t m x v) (hm : a.eval m = .map (some b)) (hx : a.eval x = key) (hv : a.eval v = val)
    (hrun : (Instr.mapUpdate t (.map (some b)) key val).run P w = .ok () w') (h : K (a.put o.dst undef) w') : Oper.wp P o a w K Q := by
  unfold Oper.wp
  simp [execOp, ho, hm, hx, hv, hrun, Result.andThen]
  exact h
end
def pkAct (gv : Nat) (v2 v3 v47 v48 v49 v50 v51 v52 : Value) : Act := { tmps := #[.string ⟨#[112, 97, 99, 107, 97, 103, 101]⟩, undef, v2, v3, .func (.func 52) #[] #[], .pointer (some ⟨gv, 0, none⟩), .string ⟨#[112, 97, 99, 107, 97, 103, 101]⟩, .bool false, .bool false, undef, undef, undef, undef, undef, undef, undef, undef, undef, undef, undef, undef, undef, undef, undef, undef, undef, .bool false, .bool false, undef, undef, undef, undef, undef, undef, undef, undef, .bool false, .bool false, undef, undef, undef, undef, undef, undef, .bool true, .bool true, (.agg #[.string ⟨#[108, 97, 116, 101, 115, 116]⟩, .bool false, (.func (.func 61) #[] #[])]), v47, v48, v49, v50, v51, v52, undef, undef, undef, undef, undef, undef], defers := [] }
def pkN : List (List Nat) := [[], [], [], [1, 2], [1, 2, 3], [0, 4], [], [0, 6], [0, 1, 2, 3, 4, 5, 6, 7], [], [8, 9, 0, 1, 2, 3, 4, 5, 6, 7, 8, 9]]
def rowsD (p a : Bool) (bx bc : Nat) : DataW Value := putL ((if p = true then [(⟨#[112, 114, 101, 115, 101, 110, 116]⟩, .map (some bx))] else []) ++ (if a = true then [(⟨#[97, 98, 115, 101, 110, 116]⟩, .map (some bc))] else []))
def rowD (v : Bool) : DataW Value := putL (if v = true then [(⟨#[118, 101, 114, 115, 105, 111, 110]⟩, (.agg #[.string ⟨#[108, 97, 116, 101, 115, 116]⟩, .bool false, (.func (.func 61) #[] #[])]))] else [])
structure PkF (w0 : World) (gv : Nat) (x0 x1 x2 x3 x4 x5 x6 x7 x8 x9 x10 : Bool) (v2 v3 v47 v48 v49 v50 v51 v52 : Value) (b0 bx bc : Nat) (w : World) : Prop where
  below : Below w0.heap.size w0 w
  c0 : w.heap[gv]? = some (.cells #[.string ⟨#[108, 97, 116, 101, 115, 116]⟩, .bool false, (.func (.func 61) #[] #[])] 68 (0, 0))
  f0 : x0 = true → v47 = .map (some b0) ∧ w0.heap.size ≤ b0 ∧ w.ownsMap Tryz.prog 9 heldR b0 (x5.toNat + x7.toNat) (rowsD x5 x7 bx bc)
  f1 : x1 = true → v48 = .map (some bx) ∧ w0.heap.size ≤ bx ∧ w.ownsMap Tryz.prog 9 heldR bx x3.toNat (rowD x3)
  f2 : x2 = true → v49 = (.agg #[.string ⟨#[108, 97, 116, 101, 115, 116]⟩, .bool false, (.func (.func 61) #[] #[])])
  f4 : x4 = true → v50 = .map (some bx)
  f6 : x6 = true → v51 = .map (some bc) ∧ w.ownsMap Tryz.prog 9 heldR bc 0 (putL [])
  f8 : x8 = true → v52 = .map (some b0)
  f9 : x9 = true → v2 = .string ⟨#[112, 114, 101, 115, 101, 110, 116]⟩
  f10 : x10 = true → v3 = .map (some b0)
  n01 : x0 = true → x1 = true → b0 ≠ bx
  n06 : x0 = true → x6 = true → b0 ≠ bc
  n16 : x1 = true → x6 = true → bx ≠ bc
  d5 : x5 = true → x0 = true ∧ x4 = true
  d7 : x7 = true → x0 = true ∧ x6 = true
  d3 : x3 = true → x1 = true
  d4 : x4 = true → x1 = true
  d8 : x8 = true → x0 = true
  d10 : x10 = true → x8 = true
def PkInv (w0 : World) (gv : Nat) (l : List Bool) (a : Act) (w : World) : Prop := ∃ x0 x1 x2 x3 x4 x5 x6 x7 x8 x9 x10, l = [x0, x1, x2, x3, x4, x5, x6, x7, x8, x9, x10] ∧ ∃ v2 v3 v47 v48 v49 v50 v51 v52 b0 bx bc, a = pkAct gv v2 v3 v47 v48 v49 v50 v51 v52 ∧ PkF w0 gv x0 x1 x2 x3 x4 x5 x6 x7 x8 x9 x10 v2 v3 v47 v48 v49 v50 v51 v52 b0 bx bc w
theorem rows_present (a : Bool) (bx bc : Nat) : (rowsD false a bx bc).put (kS ⟨#[112, 114, 101, 115, 101, 110, 116]⟩) (.held (.map (some bx))) = rowsD true a bx bc := by cases a <;> rfl
theorem rows_absent (p : Bool) (bx bc : Nat) : (rowsD p false bx bc).put (kS ⟨#[97, 98, 115, 101, 110, 116]⟩) (.held (.map (some bc))) = rowsD p true bx bc := by cases p <;> rfl
theorem row_version : (rowD false).put (kS ⟨#[118, 101, 114, 115, 105, 111, 110]⟩) (.held (.agg #[.string ⟨#[108, 97, 116, 101, 115, 116]⟩, .bool false, (.func (.func 61) #[] #[])])) = rowD true := rfl
theorem row_kept {w w' : World} {b n g : Nat} {D : DataW Value} {cs : Array Value} {t : TypeId} (ho : w.ownsMap Tryz.prog 9 heldR b n D) (hg : w.grownBy w' (some b)) (h : w.heap[g]? = some (.cells cs t (0, 0))) : w'.heap[g]? = some (.cells cs t (0, 0)) := by
  obtain ⟨es, clock, hb, _⟩ := ho
  have hne : g ≠ b := fun e => by rw [e, hb] at h; cases h
  exact (hg.block g (blk_lt h) (by simpa using hne)).trans h
theorem own_new {W : World} : (W.alloc (.map #[] 0)).ownsMap Tryz.prog 9 heldR W.heap.size 0 (.map []) := World.ownsMap_made W _ _ _
set_option maxRecDepth 100000 in
set_option maxHeartbeats 4000000 in
theorem pk_step (Q : Exit → Act → World → Prop) (w0 : World) (gv : Nat) (l : List Bool) (a : Act) (w : World) (i : Nat) (h : PkInv w0 gv l a w) (hi : i < pkN.length) (hr : readyN pkN l i = true) : wpOp Tryz.prog (opsOf Tryz.f27 11) Q i (PkInv w0 gv (l.set i true)) a w := by
  obtain ⟨x0, x1, x2, x3, x4, x5, x6, x7, x8, x9, x10, rfl, v2, v3, v47, v48, v49, v50, v51, v52, b0, bx, bc, rfl, F⟩ := h
  have hmm := @run_makeMap Tryz.prog
  have hu68 := Tryz.underlying68
  have hcase : i = 0 ∨ i = 1 ∨ i = 2 ∨ i = 3 ∨ i = 4 ∨ i = 5 ∨ i = 6 ∨ i = 7 ∨ i = 8 ∨ i = 9 ∨ i = 10 := by have : pkN.length = 11 := rfl; omega
  rcases hcase with rfl | rfl | rfl | rfl | rfl | rfl | rfl | rfl | rfl | rfl | rfl
  · cases x0 with
    | true => cases (show false = true from hr)
    | false =>
      have z5 : x5 = false := by cases hz : x5 with
        | false => rfl
        | true => cases (F.d5 hz).1
      subst z5
      have z7 : x7 = false := by cases hz : x7 with
        | false => rfl
        | true => cases (F.d7 hz).1
      subst z7
      have z8 : x8 = false := by cases hz : x8 with
        | false => rfl
        | true => cases (F.d8 hz)
      subst z8
      have z10 : x10 = false := by cases hz : x10 with
        | false => rfl
        | true => cases (F.d10 hz)
      subst z10
      refine wpOp_step rfl (fun K hK => ?_)
      rw [if_pos (by rfl)]
      refine wp_make rfl ?_
      exact hK _ _ ⟨_, _, _, _, _, _, _, _, _, _, _, rfl, _, _, _, _, _, _, _, _, w.heap.size, _, _, rfl, ⟨(F.below.alloc F.below.size _), (kA F.c0 _), (fun _ => ⟨rfl, F.below.size, own_new⟩), (fun q => ⟨(F.f1 q).1, (F.f1 q).2.1, (F.f1 q).2.2.alloc _⟩), F.f2, F.f4, (fun q => ⟨(F.f6 q).1, (F.f6 q).2.alloc _⟩), (fun q => by cases q), F.f9, (fun q => by cases q), (fun _ q e => by have := (F.f1 q).2.2.lt; omega), (fun _ q e => by have := (F.f6 q).2.lt; omega), F.n16, (fun q => by cases q), (fun q => by cases q), F.d3, F.d4, (fun q => by cases q), (fun q => by cases q)⟩⟩
  · cases x1 with
    | true => cases (show false = true from hr)
    | false =>
      have z3 : x3 = false := by cases hz : x3 with
        | false => rfl
        | true => cases (F.d3 hz)
      subst z3
      have z4 : x4 = false := by cases hz : x4 with
        | false => rfl
        | true => cases (F.d4 hz)
      subst z4
      have z5 : x5 = false := by cases hz : x5 with
        | false => rfl
        | true => cases (F.d5 hz).2
      subst z5
      refine wpOp_step rfl (fun K hK => ?_)
      rw [if_pos (by rfl)]
      refine wp_make rfl ?_
      exact hK _ _ ⟨_, _, _, _, _, _, _, _, _, _, _, rfl, _, _, _, _, _, _, _, _, _, w.heap.size, _, rfl, ⟨(F.below.alloc F.below.size _), (kA F.c0 _), (fun q => ⟨(F.f0 q).1, (F.f0 q).2.1, (F.f0 q).2.2.alloc _⟩), (fun _ => ⟨rfl, F.below.size, own_new⟩), F.f2, (fun q => by cases q), (fun q => ⟨(F.f6 q).1, (F.f6 q).2.alloc _⟩), F.f8, F.f9, F.f10, (fun q _ e => by have := (F.f0 q).2.2.lt; omega), F.n06, (fun _ q e => by have := (F.f6 q).2.lt; omega), F.d5, F.d7, (fun q => by cases q), (fun q => by cases q), F.d8, F.d10⟩⟩
  · cases x2 with
    | true => cases (show false = true from hr)
    | false =>
      refine wpOp_step rfl (fun K hK => ?_)
      rw [if_pos (by rfl)]
      refine wp_load_row 68 (.tmp 5) rfl gv rfl 68 _ _ _ F.c0 hu68 rfl (by kernel_rfl) ?_
      exact hK _ _ ⟨_, _, _, _, _, _, _, _, _, _, _, rfl, _, _, _, _, _, _, _, _, _, _, _, rfl, ⟨F.below, F.c0, F.f0, F.f1, (fun _ => rfl), F.f4, F.f6, F.f8, F.f9, F.f10, F.n01, F.n06, F.n16, F.d5, F.d7, F.d3, F.d4, F.d8, F.d10⟩⟩
  · cases x3 with
    | true => cases (show false = true from hr)
    | false =>
      have y1 : x1 = true := by cases x1 <;> first | rfl | (cases (show false = true from hr))
      subst y1
      have y2 : x2 = true := by cases x2 <;> first | rfl | (cases (show false = true from hr))
      subst y2
      refine wpOp_step rfl (fun K hK => ?_)
      rw [if_pos (by rfl)]
      obtain ⟨w', hrun, r1, r2⟩ := ((F.f1 rfl).2.2).update (string_keyed Tryz.underlying9) Tryz.underlying61 (by first | decide | (cases x7 <;> decide) | (cases x5 <;> decide)) (keyOf_string_mk Tryz.underlying9 (s := ⟨#[118, 101, 114, 115, 105, 111, 110]⟩) (by decide)) (rfl : heldR ((.agg #[.string ⟨#[108, 97, 116, 101, 115, 116]⟩, .bool false, (.func (.func 61) #[] #[])])) = some (.held ((.agg #[.string ⟨#[108, 97, 116, 101, 115, 116]⟩, .bool false, (.func (.func 61) #[] #[])])), []))
      have hk := row_kept (F.f1 rfl).2.2 r2 F.c0
      have e1 := (F.f1 rfl).1
      have e2 := F.f2 rfl
      subst e1 e2
      refine wp_inserted rfl rfl rfl rfl hrun ?_
      exact hK _ _ ⟨_, _, _, _, _, _, _, _, _, _, _, rfl, _, _, _, _, _, _, _, _, _, _, _, rfl, ⟨(F.below.grown r2 F.below.size (fun k e => by cases e; exact (F.f1 rfl).2.1)), hk, (fun q => ⟨(F.f0 q).1, (F.f0 q).2.1, (F.f0 q).2.2.kept r2 (fun e => F.n01 q rfl (by cases e; rfl))⟩), (fun _ => ⟨rfl, (F.f1 rfl).2.1, by rw [← row_version]; exact r1⟩), F.f2, F.f4, (fun q => ⟨(F.f6 q).1, (F.f6 q).2.kept r2 (fun e => F.n16 rfl q (by cases e; rfl))⟩), F.f8, F.f9, F.f10, F.n01, F.n06, F.n16, F.d5, F.d7, (fun _ => rfl), F.d4, F.d8, F.d10⟩⟩
  · cases x4 with
    | true => cases (show false = true from hr)
    | false =>
      have y1 : x1 = true := by cases x1 <;> first | rfl | (cases (show false = true from hr))
      subst y1
      have y2 : x2 = true := by cases x2 <;> first | rfl | (cases (show false = true from hr))
      subst y2
      have y3 : x3 = true := by cases x3 <;> first | rfl | (cases (show false = true from hr))
      subst y3
      refine wpOp_step rfl (fun K hK => ?_)
      rw [if_pos (by rfl)]
      have e1 := (F.f1 rfl).1
      subst e1
      refine wp_moved rfl ?_
      exact hK _ _ ⟨_, _, _, _, _, _, _, _, _, _, _, rfl, _, _, _, _, _, _, _, _, _, _, _, rfl, ⟨F.below, F.c0, F.f0, F.f1, F.f2, (fun _ => rfl), F.f6, F.f8, F.f9, F.f10, F.n01, F.n06, F.n16, (fun q => ⟨(F.d5 q).1, rfl⟩), F.d7, F.d3, (fun _ => rfl), F.d8, F.d10⟩⟩
  · cases x5 with
    | true => cases (show false = true from hr)
    | false =>
      have y0 : x0 = true := by cases x0 <;> first | rfl | (cases (show false = true from hr))
      subst y0
      have y4 : x4 = true := by cases x4 <;> first | rfl | (cases (show false = true from hr))
      subst y4
      refine wpOp_step rfl (fun K hK => ?_)
      rw [if_pos (by rfl)]
      obtain ⟨w', hrun, r1, r2⟩ := ((F.f0 rfl).2.2).update (string_keyed Tryz.underlying9) Tryz.underlying54 (by first | decide | (cases x7 <;> decide) | (cases x5 <;> decide)) (keyOf_string_mk Tryz.underlying9 (s := ⟨#[112, 114, 101, 115, 101, 110, 116]⟩) (by decide)) (rfl : heldR (.map (some bx)) = some (.held (.map (some bx)), []))
      have hk := row_kept (F.f0 rfl).2.2 r2 F.c0
      have e1 := (F.f0 rfl).1
      have e2 := F.f4 rfl
      have e3 := F.d4 rfl
      subst e1 e2 e3
      refine wp_inserted rfl rfl rfl rfl hrun ?_
      exact hK _ _ ⟨_, _, _, _, _, _, _, _, _, _, _, rfl, _, _, _, _, _, _, _, _, _, _, _, rfl, ⟨(F.below.grown r2 F.below.size (fun k e => by cases e; exact (F.f0 rfl).2.1)), hk, (fun _ => ⟨rfl, (F.f0 rfl).2.1, by rw [← rows_present]; cases x7 <;> exact r1⟩), (fun q => ⟨(F.f1 q).1, (F.f1 q).2.1, (F.f1 q).2.2.kept r2 (fun e => F.n01 rfl q (by cases e; rfl))⟩), F.f2, F.f4, (fun q => ⟨(F.f6 q).1, (F.f6 q).2.kept r2 (fun e => F.n06 rfl q (by cases e; rfl))⟩), F.f8, F.f9, F.f10, F.n01, F.n06, F.n16, (fun _ => ⟨rfl, rfl⟩), F.d7, F.d3, F.d4, F.d8, F.d10⟩⟩
  · cases x6 with
    | true => cases (show false = true from hr)
    | false =>
      have z7 : x7 = false := by cases hz : x7 with
        | false => rfl
        | true => cases (F.d7 hz).2
      subst z7
      refine wpOp_step rfl (fun K hK => ?_)
      rw [if_pos (by rfl)]
      refine wp_make rfl ?_
      exact hK _ _ ⟨_, _, _, _, _, _, _, _, _, _, _, rfl, _, _, _, _, _, _, _, _, _, _, w.heap.size, rfl, ⟨(F.below.alloc F.below.size _), (kA F.c0 _), (fun q => ⟨(F.f0 q).1, (F.f0 q).2.1, (F.f0 q).2.2.alloc _⟩), (fun q => ⟨(F.f1 q).1, (F.f1 q).2.1, (F.f1 q).2.2.alloc _⟩), F.f2, F.f4, (fun _ => ⟨rfl, own_new⟩), F.f8, F.f9, F.f10, F.n01, (fun q _ e => by have := (F.f0 q).2.2.lt; omega), (fun q _ e => by have := (F.f1 q).2.2.lt; omega), F.d5, (fun q => by cases q), F.d3, F.d4, F.d8, F.d10⟩⟩
  · cases x7 with
    | true => cases (show false = true from hr)
    | false =>
      have y0 : x0 = true := by cases x0 <;> first | rfl | (cases (show false = true from hr))
      subst y0
      have y6 : x6 = true := by cases x6 <;> first | rfl | (cases (show false = true from hr))
      subst y6
      refine wpOp_step rfl (fun K hK => ?_)
      rw [if_pos (by rfl)]
      obtain ⟨w', hrun, r1, r2⟩ := ((F.f0 rfl).2.2).update (string_keyed Tryz.underlying9) Tryz.underlying54 (by first | decide | (cases x7 <;> decide) | (cases x5 <;> decide)) (keyOf_string_mk Tryz.underlying9 (s := ⟨#[97, 98, 115, 101, 110, 116]⟩) (by decide)) (rfl : heldR (.map (some bc)) = some (.held (.map (some bc)), []))
      have hk := row_kept (F.f0 rfl).2.2 r2 F.c0
      have e1 := (F.f0 rfl).1
      have e2 := (F.f6 rfl).1
      subst e1 e2
      refine wp_inserted rfl rfl rfl rfl hrun ?_
      exact hK _ _ ⟨_, _, _, _, _, _, _, _, _, _, _, rfl, _, _, _, _, _, _, _, _, _, _, _, rfl, ⟨(F.below.grown r2 F.below.size (fun k e => by cases e; exact (F.f0 rfl).2.1)), hk, (fun _ => ⟨rfl, (F.f0 rfl).2.1, by rw [← rows_absent]; cases x5 <;> exact r1⟩), (fun q => ⟨(F.f1 q).1, (F.f1 q).2.1, (F.f1 q).2.2.kept r2 (fun e => F.n01 rfl q (by cases e; rfl))⟩), F.f2, F.f4, (fun q => ⟨(F.f6 q).1, (F.f6 q).2.kept r2 (fun e => F.n06 rfl q (by cases e; rfl))⟩), F.f8, F.f9, F.f10, F.n01, F.n06, F.n16, F.d5, (fun _ => ⟨rfl, rfl⟩), F.d3, F.d4, F.d8, F.d10⟩⟩
  · cases x8 with
    | true => cases (show false = true from hr)
    | false =>
      have y0 : x0 = true := by cases x0 <;> first | rfl | (cases (show false = true from hr))
      subst y0
      have y1 : x1 = true := by cases x1 <;> first | rfl | (cases (show false = true from hr))
      subst y1
      have y2 : x2 = true := by cases x2 <;> first | rfl | (cases (show false = true from hr))
      subst y2
      have y3 : x3 = true := by cases x3 <;> first | rfl | (cases (show false = true from hr))
      subst y3
      have y4 : x4 = true := by cases x4 <;> first | rfl | (cases (show false = true from hr))
      subst y4
      have y5 : x5 = true := by cases x5 <;> first | rfl | (cases (show false = true from hr))
      subst y5
      have y6 : x6 = true := by cases x6 <;> first | rfl | (cases (show false = true from hr))
      subst y6
      have y7 : x7 = true := by cases x7 <;> first | rfl | (cases (show false = true from hr))
      subst y7
      refine wpOp_step rfl (fun K hK => ?_)
      rw [if_pos (by rfl)]
      have e1 := (F.f0 rfl).1
      subst e1
      refine wp_moved rfl ?_
      exact hK _ _ ⟨_, _, _, _, _, _, _, _, _, _, _, rfl, _, _, _, _, _, _, _, _, _, _, _, rfl, ⟨F.below, F.c0, F.f0, F.f1, F.f2, F.f4, F.f6, (fun _ => rfl), F.f9, F.f10, F.n01, F.n06, F.n16, F.d5, F.d7, F.d3, F.d4, (fun _ => rfl), (fun _ => rfl)⟩⟩
  · cases x9 with
    | true => cases (show false = true from hr)
    | false =>
      refine wpOp_step rfl (fun K hK => ?_)
      rw [if_pos (by rfl)]
      refine wp_assigned rfl ?_
      exact hK _ _ ⟨_, _, _, _, _, _, _, _, _, _, _, rfl, _, _, _, _, _, _, _, _, _, _, _, rfl, ⟨F.below, F.c0, F.f0, F.f1, F.f2, F.f4, F.f6, F.f8, (fun _ => rfl), F.f10, F.n01, F.n06, F.n16, F.d5, F.d7, F.d3, F.d4, F.d8, F.d10⟩⟩
  · cases x10 with
    | true => cases (show false = true from hr)
    | false =>
      have y8 : x8 = true := by cases x8 <;> first | rfl | (cases (show false = true from hr))
      subst y8
      have y9 : x9 = true := by cases x9 <;> first | rfl | (cases (show false = true from hr))
      subst y9
      have y0 : x0 = true := by cases x0 <;> first | rfl | (cases (show false = true from hr))
      subst y0
      have y1 : x1 = true := by cases x1 <;> first | rfl | (cases (show false = true from hr))
      subst y1
      have y2 : x2 = true := by cases x2 <;> first | rfl | (cases (show false = true from hr))
      subst y2
      have y3 : x3 = true := by cases x3 <;> first | rfl | (cases (show false = true from hr))
      subst y3
      have y4 : x4 = true := by cases x4 <;> first | rfl | (cases (show false = true from hr))
      subst y4
      have y5 : x5 = true := by cases x5 <;> first | rfl | (cases (show false = true from hr))
      subst y5
      have y6 : x6 = true := by cases x6 <;> first | rfl | (cases (show false = true from hr))
      subst y6
      have y7 : x7 = true := by cases x7 <;> first | rfl | (cases (show false = true from hr))
      subst y7
      refine wpOp_step rfl (fun K hK => ?_)
      rw [if_pos (by rfl)]
      have e1 := F.f8 rfl
      subst e1
      refine wp_assigned rfl ?_
      exact hK _ _ ⟨_, _, _, _, _, _, _, _, _, _, _, rfl, _, _, _, _, _, _, _, _, _, _, _, rfl, ⟨F.below, F.c0, F.f0, F.f1, F.f2, F.f4, F.f6, F.f8, F.f9, (fun _ => rfl), F.n01, F.n06, F.n16, F.d5, F.d7, F.d3, F.d4, F.d8, (fun _ => rfl)⟩⟩
theorem ready_true {l : List Bool} {i : Nat} (h : readyN pkN l i = false) (e : readyN pkN l i = true) : False := by rw [h] at e; cases e
theorem pk_done (w0 : World) (gv : Nat) (l : List Bool) (a : Act) (w : World) (h : PkInv w0 gv l a w) (hn : ∀ i, i < pkN.length → readyN pkN l i = false) : ∃ u47 u48 u49 u50 u51 u52 b0 hi, a = pkAct gv (.string ⟨#[112, 114, 101, 115, 101, 110, 116]⟩) (.map (some b0)) u47 u48 u49 u50 u51 u52 ∧ St w0 w b0 hi packageD := by
  obtain ⟨x0, x1, x2, x3, x4, x5, x6, x7, x8, x9, x10, rfl, v2, v3, v47, v48, v49, v50, v51, v52, b0, bx, bc, rfl, F⟩ := h
  have e0 : x0 = true := by
    cases x0 with
    | true => rfl
    | false => exact (ready_true (hn 0 (by decide)) rfl).elim
  subst e0
  have e1 : x1 = true := by
    cases x1 with
    | true => rfl
    | false => exact (ready_true (hn 1 (by decide)) rfl).elim
  subst e1
  have e2 : x2 = true := by
    cases x2 with
    | true => rfl
    | false => exact (ready_true (hn 2 (by decide)) rfl).elim
  subst e2
  have e6 : x6 = true := by
    cases x6 with
    | true => rfl
    | false => exact (ready_true (hn 6 (by decide)) rfl).elim
  subst e6
  have e9 : x9 = true := by
    cases x9 with
    | true => rfl
    | false => exact (ready_true (hn 9 (by decide)) rfl).elim
  subst e9
  have e3 : x3 = true := by
    cases x3 with
    | true => rfl
    | false => exact (ready_true (hn 3 (by decide)) rfl).elim
  subst e3
  have e4 : x4 = true := by
    cases x4 with
    | true => rfl
    | false => exact (ready_true (hn 4 (by decide)) rfl).elim
  subst e4
  have e5 : x5 = true := by
    cases x5 with
    | true => rfl
    | false => exact (ready_true (hn 5 (by decide)) rfl).elim
  subst e5
  have e7 : x7 = true := by
    cases x7 with
    | true => rfl
    | false => exact (ready_true (hn 7 (by decide)) rfl).elim
  subst e7
  have e8 : x8 = true := by
    cases x8 with
    | true => rfl
    | false => exact (ready_true (hn 8 (by decide)) rfl).elim
  subst e8
  have e10 : x10 = true := by
    cases x10 with
    | true => rfl
    | false => exact (ready_true (hn 10 (by decide)) rfl).elim
  subst e10
  have e1 := F.f9 rfl
  have e2 := F.f10 rfl
  subst e1 e2
  have h0 := F.f0 rfl
  have h1 := F.f1 rfl
  have h6 := F.f6 rfl
  refine ⟨_, _, _, _, _, _, _, w.heap.size, rfl, F.below, h0.2.1, h0.2.2.lt, Nat.le_refl _, 2, _, Nat.le_refl _, h0.2.2, ⟨rfl, bx, 1, _, rfl, fun e => F.n01 rfl rfl e.symm, h1.2.2.lt, by decide, h1.2.2, ⟨rfl, rule_version _ _ _⟩, trivial⟩, ⟨rfl, bc, 0, [], rfl, fun e => F.n06 rfl rfl e.symm, h6.2.lt, by decide, h6.2, trivial⟩, trivial⟩
set_option maxRecDepth 100000 in
set_option maxHeartbeats 4000000 in
theorem shapes_package (w : World) : Calls Tryz.prog 27 #[.string ⟨#[112, 97, 99, 107, 97, 103, 101]⟩] w fun e w' => ∃ b hi, e = .returned (.tuple #[.string ⟨#[112, 114, 101, 115, 101, 110, 116]⟩, .map (some b)]) ∧ St w w' b hi packageD := by
  have hmm := @run_makeMap Tryz.prog
  have hu68 := Tryz.underlying68
  have HB := As.mk (Below.refl w.heap.size w)
  go_enter Tryz.func27, Tryz.ntmps27
  go_wp2_with (first | ((with_reducible refine gate_dst (N := 5) rfl ?_); refine box_event ?hg (N := 5) ?hd (cs := #[.string (⟨#[]⟩ : ByteArray), .bool false, .nilFunc]) (t := 68) ?hr ?_; (case hd => rfl); (case hg => rfl); (case hr => first | (go_simp; done) | (go_simp; rfl)); intro gv hg w1 hbox hb; have GEgv := As.mk ((by rw [hg]; exact (bZ (by repeat (first | (with_reducible first | exact HB.out | apply bA | apply bN | apply bD) | exact HB.out))) : w.heap.size ≤ gv)); have nB_ := As.mk (bT (by repeat (first | (with_reducible first | exact HB.out | apply bA | apply bN | apply bD) | exact HB.out)) hb); clear HB; have HB := nB_; clear nB_; have BKgv := As.mk hbox; clear hb hbox hg; have c1_gv_0 : w1.cell? ⟨gv, 0, none⟩ = some (.string (⟨#[]⟩ : ByteArray)) := (kC BKgv.out 0).trans rfl; have f1_gv_0 := kF BKgv.out 0; have c1_gv_1 : w1.cell? ⟨gv, 1, none⟩ = some (.bool false) := (kC BKgv.out 1).trans rfl; have f1_gv_1 := kF BKgv.out 1; have c1_gv_2 : w1.cell? ⟨gv, 2, none⟩ = some (.nilFunc) := (kC BKgv.out 2).trans rfl; have f1_gv_2 := kF BKgv.out 2) | ((with_reducible refine gate_store (t := 68) (p := 5) rfl ?_); refine store_event (t := 68) (p := 5) (v := ?vo2) (w1 := ?wo2) ?hg ?ho ?hn ?hr ?_; (case ho => rfl); (case hg => rfl); (case hn => rfl); (case hr => first | (go_simp; done) | (go_simp; rfl)); intro w2 hw; have ngv_ := As.mk ((by rw [hw]; refine kP (cs := #[(.string ⟨#[108, 97, 116, 101, 115, 116]⟩), (.bool false), .nilFunc]) ?_ 2 _ rfl; refine kP (cs := #[(.string ⟨#[108, 97, 116, 101, 115, 116]⟩), .bool false, .nilFunc]) ?_ 1 _ rfl; refine kP (cs := #[.string (⟨#[]⟩ : ByteArray), .bool false, .nilFunc]) ?_ 0 _ rfl; (with_reducible repeat (first | refine kN ?_ _ | refine kD ?_ | refine kA ?_ _)); exact BKgv.out) : w2.heap[gv]? = some (.cells #[(.string ⟨#[108, 97, 116, 101, 115, 116]⟩), (.bool false), (.func (.func 61) #[] #[])] 68 (0, 0))); have nB_ := As.mk ((by rw [hw]; exact (by repeat (first | (with_reducible first | exact HB.out | apply bA | apply bN | apply bD | refine bS ?_ GEgv.out) | exact HB.out))) : Below w.heap.size w w2); clear BKgv; have BKgv := ngv_; clear ngv_; clear HB; have HB := nB_; clear nB_; clear hw; have c2_gv_0 : w2.cell? ⟨gv, 0, none⟩ = some ((.string ⟨#[108, 97, 116, 101, 115, 116]⟩)) := (kC BKgv.out 0).trans rfl; have f2_gv_0 := kF BKgv.out 0; have c2_gv_1 : w2.cell? ⟨gv, 1, none⟩ = some ((.bool false)) := (kC BKgv.out 1).trans rfl; have f2_gv_1 := kF BKgv.out 1; have c2_gv_2 : w2.cell? ⟨gv, 2, none⟩ = some ((.func (.func 61) #[] #[])) := (kC BKgv.out 2).trans rfl; have f2_gv_2 := kF BKgv.out 2))
  refine region_inv (T := pkN) (ops := opsOf Tryz.f27 11) (by kernel_rfl) (PkInv w gv) (by kernel_rfl) ?_ (fun l a w' i h hi hr => pk_step _ w gv l a w' i h hi hr) (fun l a w' h hn => ?_)
  · exact ⟨false, false, false, false, false, false, false, false, false, false, false, rfl, .string ⟨#[]⟩, .map none, undef, undef, undef, undef, undef, undef, 0, 0, 0, rfl, HB.out.drew, BKgv.out, by simp, by simp, by simp, by simp, by simp, by simp, by simp, by simp, by simp, by simp, by simp, by simp, by simp, by simp, by simp, by simp, by simp⟩
  · obtain ⟨u47, u48, u49, u50, u51, u52, b0, hi, rfl, hst⟩ := pk_done w gv l a w' h hn
    have HST := As.mk hst
    clear hst h hn HB BKgv
    unfold pkAct
    go_wp2
    go_ret2
    exact ⟨_, _, rfl, HST.out⟩
end Go.Proofs.YtkgafkoopefghaaGreatDoor.PA
end
