/- A part of this law; its conditions stand in the last text. -/
import Derived.Test.YtkgafkoopefghaaGreatDoorCc6
import Derived.Test.YtkgafkoopefghaaGreatDoorCc9
import Derived.Test.YtkgafkoopefghaaGreatDoorCc24
import Derived.Test.YtkgafkoopefghaaGreatDoorCc8
section
namespace Go.Proofs.YtkgafkoopefghaaGreatDoor.PA
open Go.RowKit Go.Proofs.YtkgafkoopefghaaGreatDoorW.PrintWords Go.Proofs.YtkgafkoopefghaaGreatDoorW.PrintLast Go.Proofs.YtkgafkoopefghaaGreatDoorW.PrintMore
open Go.Proofs.YtkgafkoopefghaaGreatDoor.Hk
attribute [local go_sem high] Go.Proofs.YtkgafkoopefghaaGreatDoor.Hk.binOp_leq_not
attribute [local go_sem] max2_int min2_int max_two min_two max_three min_three max_four min_four
attribute [local go_sem high] eqA31
set_option linter.unusedVariables false
set_option linter.unusedSimpArgs false
def catalog_kinds.f  : Option (List ByteArray) := some (([(⟨#[102, 105, 108, 101]⟩ : ByteArray), (⟨#[97, 99, 99, 111, 117, 110, 116]⟩ : ByteArray), (⟨#[103, 114, 111, 117, 112]⟩ : ByteArray), (⟨#[112, 97, 99, 107, 97, 103, 101]⟩ : ByteArray), (⟨#[115, 101, 114, 118, 105, 99, 101]⟩ : ByteArray)] : List ByteArray))
set_option maxHeartbeats 8000000 in
set_option maxRecDepth 100000 in
theorem catalog_kinds.calls  (r : List ByteArray) (w : World) (h : catalog_kinds.f  = some r) :
    Calls Tryz.prog 73 #[] w fun e w' => ∃ v0_ : Value, e = .returned (v0_) ∧ Kd.R Kd.string 9 w' w.heap.size (fun _ => True) v0_ r ∧ Below w.heap.size w w' := by
  have HB := As.mk (Below.refl w.heap.size w)
  have H : (some (([(⟨#[102, 105, 108, 101]⟩ : ByteArray), (⟨#[97, 99, 99, 111, 117, 110, 116]⟩ : ByteArray), (⟨#[103, 114, 111, 117, 112]⟩ : ByteArray), (⟨#[112, 97, 99, 107, 97, 103, 101]⟩ : ByteArray), (⟨#[115, 101, 114, 118, 105, 99, 101]⟩ : ByteArray)] : List ByteArray))) = some r := h
  clear h
  obtain ⟨y101, hy101⟩ : ∃ y_ : List ByteArray, y_ = (([(⟨#[102, 105, 108, 101]⟩ : ByteArray), (⟨#[97, 99, 99, 111, 117, 110, 116]⟩ : ByteArray), (⟨#[103, 114, 111, 117, 112]⟩ : ByteArray), (⟨#[112, 97, 99, 107, 97, 103, 101]⟩ : ByteArray), (⟨#[115, 101, 114, 118, 105, 99, 101]⟩ : ByteArray)] : List ByteArray)) := ⟨_, rfl⟩
  replace H : (some y101) = some r := by first | (rw [hy101]; with_reducible exact H) | (have H2_ := (Option.bind_some _ _).symm.trans H; rw [hy101]; with_reducible exact H2_) | (have H2_ := (Option.bind_some _ _).symm.trans H; with_reducible exact H2_) | with_reducible exact H | (rw [hy101]; exact H) | exact H
  have Ny101 := As.mk hy101
  clear hy101
  obtain rfl := Option.some.inj H
  go_enter Tryz.func73, Tryz.ntmps73
  go_wp2_with (first | ((with_reducible refine gate_dst (N := 1) rfl ?_); refine Kd.R_lit Kd.string _ 9 ?hg (N := 1) ?hd (xs := ([(⟨#[102, 105, 108, 101]⟩ : ByteArray), (⟨#[97, 99, 99, 111, 117, 110, 116]⟩ : ByteArray), (⟨#[103, 114, 111, 117, 112]⟩ : ByteArray), (⟨#[112, 97, 99, 107, 97, 103, 101]⟩ : ByteArray), (⟨#[115, 101, 114, 118, 105, 99, 101]⟩ : ByteArray)] : List ByteArray)) (inner := [.string (⟨#[102, 105, 108, 101]⟩ : ByteArray), .string (⟨#[97, 99, 99, 111, 117, 110, 116]⟩ : ByteArray), .string (⟨#[103, 114, 111, 117, 112]⟩ : ByteArray), .string (⟨#[112, 97, 99, 107, 97, 103, 101]⟩ : ByteArray), .string (⟨#[115, 101, 114, 118, 105, 99, 101]⟩ : ByteArray)]) (ok := fun _ => True) (okp := fun _ => True) ?hr ?hp (fun _ hk => hk) trivial (Below.refl _ _) (Nat.le_refl _) (by simp) ?_; (case hd => rfl); (case hg => rfl); (case hr => first | (go_simp; done) | (go_simp; rfl)); (case hp => exact (Reps.one (show Kd.M Kd.string _ _ _ (⟨#[102, 105, 108, 101]⟩ : ByteArray) [.string (⟨#[102, 105, 108, 101]⟩ : ByteArray)] from rfl) (Reps.one (show Kd.M Kd.string _ _ _ (⟨#[97, 99, 99, 111, 117, 110, 116]⟩ : ByteArray) [.string (⟨#[97, 99, 99, 111, 117, 110, 116]⟩ : ByteArray)] from rfl) (Reps.one (show Kd.M Kd.string _ _ _ (⟨#[103, 114, 111, 117, 112]⟩ : ByteArray) [.string (⟨#[103, 114, 111, 117, 112]⟩ : ByteArray)] from rfl) (Reps.one (show Kd.M Kd.string _ _ _ (⟨#[112, 97, 99, 107, 97, 103, 101]⟩ : ByteArray) [.string (⟨#[112, 97, 99, 107, 97, 103, 101]⟩ : ByteArray)] from rfl) (Reps.one (show Kd.M Kd.string _ _ _ (⟨#[115, 101, 114, 118, 105, 99, 101]⟩ : ByteArray) [.string (⟨#[115, 101, 114, 118, 105, 99, 101]⟩ : ByteArray)] from rfl) (Reps.none _ _))))))); intro v102 w1 ho2 hb hg_ hnew_; clear hg_ hnew_; (first | rw [← Ny101.out] at ho2 | (simp only [Int.reduceToNat] at ho2; rw [← Ny101.out] at ho2)); have n0_ := As.mk (Kd.R_lower ho2 (bZ (by repeat (first | (with_reducible first | exact HB.out | apply bA | apply bN | apply bD) | exact HB.out)))); have n1_ := As.mk (bT (by repeat (first | (with_reducible first | exact HB.out | apply bA | apply bN | apply bD) | exact HB.out)) hb); clear HB; have HO103 := n0_; have HB := n1_; clear n0_ n1_; clear hb ho2))
  go_ret
  exact ⟨_, by first | rfl | (simp [errW_none, errW_some] <;> rfl) | (simp [*, errW_none, errW_some] <;> rfl), by (with_reducible repeat (first | apply Kd.R_alloc | apply Kd.R_drewN | apply Kd.R_drew)); exact HO103.out, by repeat (first | (with_reducible first | exact HB.out | apply bA | apply bN | apply bD) | exact HB.out)⟩
def slices_Index_string_string.l0 : Nat → List ByteArray → ByteArray → Int → Int → Option (Int)
  | 0, _, _, _, _ => none
  | k + 1, x0, x1, x7, x8 => if x8 < x7 then (if 0 ≤ x8 then (if x8 < (x0.length : Int) then (if x1.toList = (rdOf ByteArray.empty x0 x8).toList then (some x8) else (slices_Index_string_string.l0 k x0 x1 x7 (wrap64 (x8 + 1)))) else (none)) else (none)) else (some (-1))
def slices_Index_string_string.f (k : Nat) (l0 : List ByteArray) (a1 : ByteArray) : Option (Int) := slices_Index_string_string.l0 k l0 a1 (l0.length : Int) 0
set_option maxHeartbeats 8000000 in
set_option maxRecDepth 100000 in
theorem slices_Index_string_string.calls (k : Nat) (A0 : Option Addr) (c0 : Nat) (l0 : List ByteArray) (a1 : ByteArray) (r : Int) (w : World) (hr0 : Kd.C Kd.string w A0 l0.length l0) (hc0 : l0.length ≤ c0) (h : slices_Index_string_string.f k l0 a1 = some r) :
    Calls Tryz.prog 72 #[.slice A0 l0.length c0, .string a1] w fun e w' => e = .returned (.int .i64 r) ∧ Drawn0 w w' := by
  have HR0 := As.mk hr0
  have HC0 := As.mk hc0
  clear hr0 hc0
  have H : (slices_Index_string_string.l0 k l0 a1 (l0.length : Int) 0) = some r := h
  clear h
  have H' := As.mk H
  clear H
  go_enter Tryz.func72, Tryz.ntmps72
  go_wp2
  go_loopg [8] k (fun kq v8 w' => ∃ (x8_1 : Int), v8 = .int .i64 x8_1 ∧ As (slices_Index_string_string.l0 kq l0 a1 (l0.length : Int) x8_1 = some r) ∧ As (kq ≤ k) ∧ Drawn0 w w')
  case atStart => exact ⟨(0), (by first | rfl | (simp; done) | (simp [*]; done)), H', ⟨Nat.le_refl _⟩, by repeat (first | exact Drawn0.refl _ | apply Drawn0.step)⟩
  case round =>
    clear H'
    try clear p2
    obtain ⟨x8_1, rfl, HA, HK1, ⟨m1, rfl⟩⟩ := hrel
    cases gk with
    | zero => exact absurd HA.out (by simp [slices_Index_string_string.l0])
    | succ k1 =>
      have H := HA.out
      clear HA
      simp only [slices_Index_string_string.l0] at H
      by_cases c3 : x8_1 < (l0.length : Int)
      · rw [if_pos c3] at H
        have c3b0 : decide (x8_1 < (l0.length : Int)) = true := decide_eq_true c3
        clear c3
        by_cases c4 : 0 ≤ x8_1
        · rw [if_pos c4] at H
          have c4b0 : decide (0 ≤ x8_1) = true := decide_eq_true c4
          clear c4
          by_cases c5 : x8_1 < (l0.length : Int)
          · rw [if_pos c5] at H
            have c5b0 : decide (x8_1 < (l0.length : Int)) = true := decide_eq_true c5
            clear c5
            by_cases c6 : a1.toList = (rdOf ByteArray.empty l0 x8_1).toList
            · rw [if_pos c6] at H
              have c6b0 : (a1.toList == (rdOf ByteArray.empty l0 x8_1).toList) = true := beq_iff_eq.mpr c6
              have c6b1 : (a1.toList != (rdOf ByteArray.empty l0 x8_1).toList) = false := bne_eq_false_iff_eq.mpr c6
              clear c6
              obtain rfl := Option.some.inj H
              have p104 : 0 ≤ (x8_1 : Int) := of_decide_eq_true (by first | (with_reducible assumption) | assumption)
              have q104 : x8_1 < (l0.length : Int) := of_decide_eq_true (by first | (with_reducible assumption) | assumption)
              obtain ⟨ad104, e104, hx104_0⟩ := Kd.at_string HR0.out x8_1 p104 q104
              cases e104
              replace p104 := eq_true p104
              replace q104 := eq_true q104
              go_wp2
              go_ret
              exact ⟨by first | rfl | (simp; done) | (simp [*]; done), by repeat (first | exact Drawn0.refl _ | apply Drawn0.step)⟩
            · rw [if_neg c6] at H
              have c6b0 : (a1.toList == (rdOf ByteArray.empty l0 x8_1).toList) = false := beq_eq_false_iff_ne.mpr c6
              have c6b1 : (a1.toList != (rdOf ByteArray.empty l0 x8_1).toList) = true := bne_iff_ne.mpr c6
              have H' := As.mk H
              clear H
              have p104 : 0 ≤ (x8_1 : Int) := of_decide_eq_true (by first | (with_reducible assumption) | assumption)
              have q104 : x8_1 < (l0.length : Int) := of_decide_eq_true (by first | (with_reducible assumption) | assumption)
              obtain ⟨ad104, e104, hx104_0⟩ := Kd.at_string HR0.out x8_1 p104 q104
              cases e104
              replace p104 := eq_true p104
              replace q104 := eq_true q104
              go_wp2
              go_roundg k1
              case measure => have := HK1.out; omega
              case rel => exact ⟨(wrap64 (x8_1 + 1)), (by first | rfl | (simp; done) | (simp [*]; done)), H', ⟨by have := HK1.out; omega⟩, by repeat (first | exact Drawn0.refl _ | apply Drawn0.step)⟩
          · rw [if_neg c5] at H
            exact absurd H (by simp)
        · rw [if_neg c4] at H
          exact absurd H (by simp)
      · rw [if_neg c3] at H
        have c3b0 : decide (x8_1 < (l0.length : Int)) = false := decide_eq_false c3
        clear c3
        obtain rfl := Option.some.inj H
        go_wp2
        go_ret
        exact ⟨by first | rfl | (simp; done) | (simp [*]; done), by repeat (first | exact Drawn0.refl _ | apply Drawn0.step)⟩
end Go.Proofs.YtkgafkoopefghaaGreatDoor.PA
end
section
set_option linter.unusedVariables false
set_option linter.unusedSimpArgs false
namespace Go.Proofs.YtkgafkoopefghaaGreatDoor.PA
open Go.RowKit Go.Proofs.YtkgafkoopefghaaGreatDoor.Hk Go.Proofs.YtkgafkoopefghaaGreatDoorW.PrintWords Go.Proofs.YtkgafkoopefghaaGreatDoorW.PrintLast Go.Proofs.YtkgafkoopefghaaGreatDoorW.PrintMore
def txtC (s : ByteArray) : List Int := [(s.size : Int) / 256 % 256, (s.size : Int) % 256] ++ bytesOf s
def parC (p : S31) : List Int := txtC p.f0 ++ txtC p.f1
def tyC (s : ByteArray) : Int := if s.toList = ([102, 105, 108, 101] : List UInt8) then 0 else if s.toList = ([97, 99, 99, 111, 117, 110, 116] : List UInt8) then 1 else if s.toList = ([103, 114, 111, 117, 112] : List UInt8) then 2 else if s.toList = ([112, 97, 99, 107, 97, 103, 101] : List UInt8) then 3 else if s.toList = ([115, 101, 114, 118, 105, 99, 101] : List UInt8) then 4 else -1
def resC (r : S24) : List Int := [(tyC r.f0 + 1) % 256] ++ txtC r.f1 ++ [(r.f2.length : Int) % 256] ++ r.f2.flatMap parC
def edgeC (x : S50) : List Int := [x.f0 % 256, x.f1 % 256, if x.f2 = true then 1 else 0]
def bytesC (v : Int) (node : ByteArray) (R : List S24) (E : List S50) : List Int := [v / 256 % 256, v % 256] ++ txtC node ++ [(R.length : Int) % 256] ++ R.flatMap resC ++ [(E.length : Int) % 256] ++ E.flatMap edgeC
theorem txtC_len (s : ByteArray) : (txtC s).length = 2 + s.size := by unfold txtC; simp [bytesOf_length]; omega
theorem flat_take {α : Type} {f : α → List Int} {l : List α} {i : Nat} (hi : i < l.length) : (l.take (i + 1)).flatMap f = (l.take i).flatMap f ++ f l[i] := by
  rw [List.take_add_one, List.getElem?_eq_getElem hi, List.flatMap_append]
  simp
theorem flat_len {α : Type} {f : α → List Int} {l : List α} {i : Nat} (hi : i < l.length) : ((l.take i).flatMap f).length + (f l[i]).length ≤ (l.flatMap f).length := by
  have h : l.flatMap f = (l.take (i + 1)).flatMap f ++ (l.drop (i + 1)).flatMap f := by rw [← List.flatMap_append, List.take_append_drop]
  rw [h, flat_take hi, List.length_append, List.length_append]
  omega
theorem rd24_at {l : List S24} {i : Nat} (h : i < l.length) : rd_T24 l (i : Int) = l[i] := by unfold rd_T24; rw [Int.toNat_natCast, List.getD_eq_getElem?_getD, List.getElem?_eq_getElem h]; rfl
theorem rd31_at {l : List S31} {i : Nat} (h : i < l.length) : rd_T31 l (i : Int) = l[i] := by unfold rd_T31; rw [Int.toNat_natCast, List.getD_eq_getElem?_getD, List.getElem?_eq_getElem h]; rfl
theorem rd50_at {l : List S50} {i : Nat} (h : i < l.length) : rd_T50 l (i : Int) = l[i] := by unfold rd_T50; rw [Int.toNat_natCast, List.getD_eq_getElem?_getD, List.getElem?_eq_getElem h]; rfl
def kindsL : List ByteArray := [(⟨#[102, 105, 108, 101]⟩ : ByteArray), (⟨#[97, 99, 99, 111, 117, 110, 116]⟩ : ByteArray), (⟨#[103, 114, 111, 117, 112]⟩ : ByteArray), (⟨#[112, 97, 99, 107, 97, 103, 101]⟩ : ByteArray), (⟨#[115, 101, 114, 118, 105, 99, 101]⟩ : ByteArray)]
theorem index_f (s : ByteArray) : slices_Index_string_string.f 6 kindsL s = some (tyC s) := by
  have e0 : (rdOf ByteArray.empty kindsL 0).toList = ([102, 105, 108, 101] : List UInt8) := by decide +kernel
  have e1 : (rdOf ByteArray.empty kindsL 1).toList = ([97, 99, 99, 111, 117, 110, 116] : List UInt8) := by decide +kernel
  have e2 : (rdOf ByteArray.empty kindsL 2).toList = ([103, 114, 111, 117, 112] : List UInt8) := by decide +kernel
  have e3 : (rdOf ByteArray.empty kindsL 3).toList = ([112, 97, 99, 107, 97, 103, 101] : List UInt8) := by decide +kernel
  have e4 : (rdOf ByteArray.empty kindsL 4).toList = ([115, 101, 114, 118, 105, 99, 101] : List UInt8) := by decide +kernel
  have hl : (kindsL.length : Int) = 5 := rfl
  unfold slices_Index_string_string.f tyC
  rw [hl]
  rw [slices_Index_string_string.l0, if_pos (by decide), if_pos (by decide), if_pos (by rw [hl]; decide), e0, show wrap64 (0 + 1) = 1 from by unfold wrap64; omega]
  by_cases c0 : s.toList = ([102, 105, 108, 101] : List UInt8)
  · rw [if_pos c0, if_pos c0]
  rw [if_neg c0, if_neg c0, slices_Index_string_string.l0, if_pos (by decide), if_pos (by decide), if_pos (by rw [hl]; decide), e1, show wrap64 (1 + 1) = 2 from by unfold wrap64; omega]
  by_cases c1 : s.toList = ([97, 99, 99, 111, 117, 110, 116] : List UInt8)
  · rw [if_pos c1, if_pos c1]
  rw [if_neg c1, if_neg c1, slices_Index_string_string.l0, if_pos (by decide), if_pos (by decide), if_pos (by rw [hl]; decide), e2, show wrap64 (2 + 1) = 3 from by unfold wrap64; omega]
  by_cases c2 : s.toList = ([103, 114, 111, 117, 112] : List UInt8)
  · rw [if_pos c2, if_pos c2]
  rw [if_neg c2, if_neg c2, slices_Index_string_string.l0, if_pos (by decide), if_pos (by decide), if_pos (by rw [hl]; decide), e3, show wrap64 (3 + 1) = 4 from by unfold wrap64; omega]
  by_cases c3 : s.toList = ([112, 97, 99, 107, 97, 103, 101] : List UInt8)
  · rw [if_pos c3, if_pos c3]
  rw [if_neg c3, if_neg c3, slices_Index_string_string.l0, if_pos (by decide), if_pos (by decide), if_pos (by rw [hl]; decide), e4, show wrap64 (4 + 1) = 5 from by unfold wrap64; omega]
  by_cases c4 : s.toList = ([115, 101, 114, 118, 105, 99, 101] : List UInt8)
  · rw [if_pos c4, if_pos c4]
  rw [if_neg c4, if_neg c4, slices_Index_string_string.l0, if_neg (by decide)]
theorem tyC_range (s : ByteArray) : -1 ≤ tyC s ∧ tyC s ≤ 4 := by
  unfold tyC
  repeat' (split)
  all_goals decide
def bytes_T8 : Bool × List (List Nat × List Nat) := (true, [([], []), ([], []), ([], []), ([2], [2]), ([1, 3, 1], [1, 3]), ([4], [4]), ([0, 5, 4], [0, 5])])
def bytes_B8 : List Nat := [0, 0, 0, 4, 14, 30, 63]
theorem bytes_tab8 : rtab .any (opsOf Tryz.f37 8) = bytes_T8 := by kernel_rfl
theorem bytes_bits8 : waitsOk bytes_T8.2 bytes_B8 = true := by kernel_rfl
theorem WrS.drew {w0 W : World} {g : Nat} {xs : List Int} (h : WrS w0 W g xs) : WrS w0 W.drew g xs := h.later (bD (Below.refl _ _))
theorem WrS.cast {w0 W : World} {g : Nat} {xs ys : List Int} (h : WrS w0 W g xs) (e : xs = ys) : WrS w0 W g ys := e ▸ h
def hdrC (v : Int) (node : ByteArray) (n : Int) : List Int := [v / 256 % 256, v % 256] ++ txtC node ++ [n % 256]
theorem hdrC_len (v : Int) (node : ByteArray) (n : Int) : (hdrC v node n).length = 5 + node.size := by unfold hdrC; simp [txtC_len]; omega
theorem set3_own {W : World} {g t : Nat} {a b c : Value} (hb : W.heap[g]? = some (.cells #[a, b, c] t (0, 0))) (x y z : Value) : (((W.setCell ⟨g, 0, none⟩ x).setCell ⟨g, 1, none⟩ y).setCell ⟨g, 2, none⟩ z).heap[g]? = some (.cells #[x, y, z] t (0, 0)) :=
  kP (cs := #[x, y, c]) (kP (cs := #[x, b, c]) (kP hb 0 x rfl) 1 y rfl) 2 z rfl
theorem set3_far {W : World} {g k t t' : Nat} {cs cs' : Array Value} (hb : W.heap[g]? = some (.cells cs t (0, 0))) (hk : W.heap[k]? = some (.cells cs' t' (0, 0))) (hne : t' ≠ t) (x y z : Value) : (((W.setCell ⟨g, 0, none⟩ x).setCell ⟨g, 1, none⟩ y).setCell ⟨g, 2, none⟩ z).heap[k]? = some (.cells cs' t' (0, 0)) := by
  have h := blk_ne hk hb hne
  exact kR (kR (kR hk h _) h _) h _
theorem WrS.set3 {w0 W : World} {g g' t : Nat} {a b c : Value} {xs : List Int} (h : WrS w0 W g xs) (hb : W.heap[g']? = some (.cells #[a, b, c] t (0, 0))) (h5 : t ≠ 5) (h7 : t ≠ 107) (hge : w0.heap.size ≤ g') (x y z : Value) : WrS w0 (((W.setCell ⟨g', 0, none⟩ x).setCell ⟨g', 1, none⟩ y).setCell ⟨g', 2, none⟩ z) g xs := by
  obtain ⟨v, h1, h2, h3, h4⟩ := h
  have hq : ∀ q, q ∈ 5 :: (Kd.int .u8).E → q ≠ t := fun q hq => by
    have : q = 5 := by simpa [Kd.int, Kd.scalar] using hq
    rw [this]; exact fun e => h5 e.symm
  have b1 := kP hb 0 x (cs' := #[x, b, c]) rfl
  have b2 := kP b1 1 y (cs' := #[x, y, c]) rfl
  exact ⟨v, set3_far hb h1 (fun e => h7 e.symm) x y z, Kd.R_set (Kd.R_set (Kd.R_set h2 hb hq 0 x) b1 hq 1 y) b2 hq 2 z, bS (bS (bS h3 hge) hge) hge, h4⟩
theorem set2_own {W : World} {g t : Nat} {a b : Value} (hb : W.heap[g]? = some (.cells #[a, b] t (0, 0))) (x y : Value) : ((W.setCell ⟨g, 0, none⟩ x).setCell ⟨g, 1, none⟩ y).heap[g]? = some (.cells #[x, y] t (0, 0)) :=
  kP (cs := #[x, b]) (kP hb 0 x rfl) 1 y rfl
theorem set2_far {W : World} {g k t t' : Nat} {cs cs' : Array Value} (hb : W.heap[g]? = some (.cells cs t (0, 0))) (hk : W.heap[k]? = some (.cells cs' t' (0, 0))) (hne : t' ≠ t) (x y : Value) : ((W.setCell ⟨g, 0, none⟩ x).setCell ⟨g, 1, none⟩ y).heap[k]? = some (.cells cs' t' (0, 0)) := by
  have h := blk_ne hk hb hne
  exact kR (kR hk h _) h _
theorem WrS.set2 {w0 W : World} {g g' t : Nat} {a b : Value} {xs : List Int} (h : WrS w0 W g xs) (hb : W.heap[g']? = some (.cells #[a, b] t (0, 0))) (h5 : t ≠ 5) (h7 : t ≠ 107) (hge : w0.heap.size ≤ g') (x y : Value) : WrS w0 ((W.setCell ⟨g', 0, none⟩ x).setCell ⟨g', 1, none⟩ y) g xs := by
  obtain ⟨v, h1, h2, h3, h4⟩ := h
  have hq : ∀ q, q ∈ 5 :: (Kd.int .u8).E → q ≠ t := fun q hq => by
    have : q = 5 := by simpa [Kd.int, Kd.scalar] using hq
    rw [this]; exact fun e => h5 e.symm
  have b1 := kP hb 0 x (cs' := #[x, b]) rfl
  exact ⟨v, set2_far hb h1 (fun e => h7 e.symm) x y, Kd.R_set (Kd.R_set h2 hb hq 0 x) b1 hq 1 y, bS (bS h3 hge) hge, h4⟩
def catalog_bytes.f (a0_0 : Int) (a0_1 : ByteArray) (l0_2 : List (S24)) (l0_3 : List (S50)) : Option (List Int) := if (bytesC a0_0 a0_1 l0_2 l0_3).length ≤ 140737488355328 ∧ l0_2.length < 2147483648 ∧ l0_3.length < 2147483648 ∧ (l0_2.all fun s => decide (s.f2.length < 2147483648)) = true then some (bytesC a0_0 a0_1 l0_2 l0_3) else none
set_option maxRecDepth 100000 in
set_option maxHeartbeats 8000000 in
theorem catalog_bytes.calls (a0_0 : Int) (a0_1 : ByteArray) (A0_2 : Option Addr) (c0_2 : Nat) (l0_2 : List (S24)) (A0_3 : Option Addr) (c0_3 : Nat) (l0_3 : List (S50)) (r : List Int) (w : World) (hr0_2 : Kd.C k24 w A0_2 l0_2.length l0_2) (hc0_2 : l0_2.length ≤ c0_2) (hr0_3 : Kd.C k50 w A0_3 l0_3.length l0_3) (hc0_3 : l0_3.length ≤ c0_3) (h : catalog_bytes.f a0_0 a0_1 l0_2 l0_3 = some r) :
    Calls Tryz.prog 37 #[.agg #[.int .i64 a0_0, .string a0_1, .slice A0_2 l0_2.length c0_2, .slice A0_3 l0_3.length c0_3]] w fun e w' => ∃ v0_ : Value, e = .returned (v0_) ∧ Kd.R (Kd.int .u8) 5 w' w.heap.size (fun _ => True) v0_ r ∧ Below w.heap.size w w' := by
  unfold catalog_bytes.f at h
  by_cases c : (bytesC a0_0 a0_1 l0_2 l0_3).length ≤ 140737488355328 ∧ l0_2.length < 2147483648 ∧ l0_3.length < 2147483648 ∧ (l0_2.all fun s => decide (s.f2.length < 2147483648)) = true
  rotate_left
  · rw [if_neg c] at h; cases h
  rw [if_pos c] at h
  obtain rfl := Option.some.inj h
  clear h
  have HN := As.mk c.2.1
  have HM := As.mk c.2.2.1
  have HP := As.mk (fun (s : S24) (hs : s ∈ l0_2) => (of_decide_eq_true (List.all_eq_true.1 c.2.2.2 s hs) : s.f2.length < 2147483648))
  have HT : As (2 + (2 + a0_1.size) + 1 + (l0_2.flatMap resC).length + 1 + (l0_3.flatMap edgeC).length ≤ 140737488355328) := ⟨by
    have h := c.1
    unfold bytesC at h
    simp only [List.length_append, List.length_cons, List.length_nil, txtC_len] at h
    omega⟩
  clear c
  have HR := As.mk hr0_2
  have HE := As.mk hr0_3
  clear hr0_2 hr0_3
  have HB0 := As.mk (Below.refl w.heap.size w)
  have hu37 := Tryz.underlying37
  have hu24 := Tryz.underlying24
  have hu31 := Tryz.underlying31
  have hu50 := Tryz.underlying50
  have hu107 := Tryz.underlying107
  have hq1 : ((l0_2.length : Int)) ≤ 9223372036854775807 := by have := HN.out; omega
  go_enter Tryz.func37, Tryz.ntmps37
  go_wp2_with (first | ((with_reducible refine gate_dst (N := 1) rfl ?_); refine box_event ?hg (N := 1) ?hd (cs := #[.int .i64 a0_0, .string a0_1, .slice A0_2 l0_2.length c0_2, .slice A0_3 l0_3.length c0_3]) (t := 37) ?hr ?_; (case hd => rfl); (case hg => rfl); (case hr => first | (go_simp; done) | (go_simp; rfl)); intro g1 hg w1 hbox hb; have n1 := As.mk hb; clear HB0; have HB0 := n1; clear n1; have BK1 := As.mk hbox; clear hb hbox hg; have m0 : w1.cell? ⟨g1, 0, none⟩ = some (.int .i64 a0_0) := (kC BK1.out 0).trans rfl; have m1 : w1.cell? ⟨g1, 1, none⟩ = some (.string a0_1) := (kC BK1.out 1).trans rfl; have m2 : w1.cell? ⟨g1, 2, none⟩ = some (.slice A0_2 l0_2.length c0_2) := (kC BK1.out 2).trans rfl; have m3 : w1.cell? ⟨g1, 3, none⟩ = some (.slice A0_3 l0_3.length c0_3) := (kC BK1.out 3).trans rfl) | ((with_reducible refine gate_dst (N := 11) rfl ?_); refine box_event ?hg (N := 11) ?hd (cs := #[.slice none 0 0]) (t := 107) ?hr ?_; (case hd => rfl); (case hg => rfl); (case hr => first | (go_simp; done) | (go_simp; rfl)); intro g hg w1 hbox hb; have n1 := As.mk (kB BK1.out hb); clear BK1; have BK1 := n1; have HW : As (WrS w w1 g []) := ⟨⟨_, hbox, Kd.R_nil _ _ _ _ _, bT HB0.out hb, by rw [hg]; exact HB0.out.size⟩⟩; clear n1 hb hbox hg m0 m1 m2 m3; have m0 : w1.cell? ⟨g1, 0, none⟩ = some (.int .i64 a0_0) := (kC BK1.out 0).trans rfl; have m1 : w1.cell? ⟨g1, 1, none⟩ = some (.string a0_1) := (kC BK1.out 1).trans rfl; have m2 : w1.cell? ⟨g1, 2, none⟩ = some (.slice A0_2 l0_2.length c0_2) := (kC BK1.out 2).trans rfl; have m3 : w1.cell? ⟨g1, 3, none⟩ = some (.slice A0_3 l0_3.length c0_3) := (kC BK1.out 3).trans rfl) | (go_at_call 69; refine (wtwo_calls w _ g _ _ HW.out (by have h := HT.out; simp only [List.length_append, List.length_cons, List.length_nil, txtC_len, bytesOf_length]; omega)).mono ?_; rintro e w1 ⟨rfl, h1, hk⟩; have n1 := As.mk (hk.2 _ _ _ BK1.out (by decide) (by decide)); have n2 := As.mk h1; clear BK1 HW; have BK1 := n1; have HW := n2; clear n1 n2 h1 hk; clear m0 m1 m2 m3; have m0 : w1.cell? ⟨g1, 0, none⟩ = some (.int .i64 a0_0) := (kC BK1.out 0).trans rfl; have m1 : w1.cell? ⟨g1, 1, none⟩ = some (.string a0_1) := (kC BK1.out 1).trans rfl; have m2 : w1.cell? ⟨g1, 2, none⟩ = some (.slice A0_2 l0_2.length c0_2) := (kC BK1.out 2).trans rfl; have m3 : w1.cell? ⟨g1, 3, none⟩ = some (.slice A0_3 l0_3.length c0_3) := (kC BK1.out 3).trans rfl) | (go_at_call 70; refine (wtext_calls w _ g _ _ HW.out (by have h := HT.out; simp only [List.length_append, List.length_cons, List.length_nil, txtC_len, bytesOf_length]; omega)).mono ?_; rintro e w1 ⟨rfl, h1, hk⟩; have n1 := As.mk (hk.2 _ _ _ BK1.out (by decide) (by decide)); have n2 := As.mk h1; clear BK1 HW; have BK1 := n1; have HW := n2; clear n1 n2 h1 hk; clear m0 m1 m2 m3; have m0 : w1.cell? ⟨g1, 0, none⟩ = some (.int .i64 a0_0) := (kC BK1.out 0).trans rfl; have m1 : w1.cell? ⟨g1, 1, none⟩ = some (.string a0_1) := (kC BK1.out 1).trans rfl; have m2 : w1.cell? ⟨g1, 2, none⟩ = some (.slice A0_2 l0_2.length c0_2) := (kC BK1.out 2).trans rfl; have m3 : w1.cell? ⟨g1, 3, none⟩ = some (.slice A0_3 l0_3.length c0_3) := (kC BK1.out 3).trans rfl) | (go_at_call 71; refine (wbyte_calls w _ g _ _ HW.out (by have h := HT.out; simp only [List.length_append, List.length_cons, List.length_nil, txtC_len, bytesOf_length]; omega)).mono ?_; rintro e w1 ⟨rfl, h1, hk⟩; have n1 := As.mk (hk.2 _ _ _ BK1.out (by decide) (by decide)); have n2 := As.mk h1; clear BK1 HW; have BK1 := n1; have HW := n2; clear n1 n2 h1 hk; clear m0 m1 m2 m3; have m0 : w1.cell? ⟨g1, 0, none⟩ = some (.int .i64 a0_0) := (kC BK1.out 0).trans rfl; have m1 : w1.cell? ⟨g1, 1, none⟩ = some (.string a0_1) := (kC BK1.out 1).trans rfl; have m2 : w1.cell? ⟨g1, 2, none⟩ = some (.slice A0_2 l0_2.length c0_2) := (kC BK1.out 2).trans rfl; have m3 : w1.cell? ⟨g1, 3, none⟩ = some (.slice A0_3 l0_3.length c0_3) := (kC BK1.out 3).trans rfl))
  go_loopg [28] l0_2.length (fun kq v28 w' => ∃ i : Nat, v28 = .int .i64 i ∧ As (i + kq = l0_2.length) ∧ As (w'.heap[g1]? = some (.cells #[.int .i64 a0_0, .string a0_1, .slice A0_2 l0_2.length c0_2, .slice A0_3 l0_3.length c0_3] 37 (0, 0))) ∧ As (WrS w w' g (hdrC a0_0 a0_1 (l0_2.length : Int) ++ (l0_2.take i).flatMap resC)))
  case atStart => exact ⟨0, rfl, ⟨by omega⟩, BK1, ⟨HW.out.cast (by simp [hdrC, txtC])⟩⟩
  case round =>
    obtain ⟨i, rfl, HKq, BK1, HW⟩ := hrel
    by_cases hlt : i < l0_2.length
    rotate_left
    · have hge : ¬ (i : Int) < (l0_2.length : Int) := by omega
      have hi : i = l0_2.length := by have := HKq.out; omega
      subst hi
      rw [List.take_length] at HW
      have hq3 : ((l0_3.length : Int)) ≤ 9223372036854775807 := by have := HM.out; omega
      have m0 : wr.cell? ⟨g1, 0, none⟩ = some (.int .i64 a0_0) := (kC BK1.out 0).trans rfl; have m1 : wr.cell? ⟨g1, 1, none⟩ = some (.string a0_1) := (kC BK1.out 1).trans rfl; have m2 : wr.cell? ⟨g1, 2, none⟩ = some (.slice A0_2 l0_2.length c0_2) := (kC BK1.out 2).trans rfl; have m3 : wr.cell? ⟨g1, 3, none⟩ = some (.slice A0_3 l0_3.length c0_3) := (kC BK1.out 3).trans rfl
      go_wp2_with (first | (go_at_call 71; refine (wbyte_calls w _ g _ _ HW.out (by have h := HT.out; simp only [List.length_append, List.length_cons, List.length_nil, hdrC_len]; omega)).mono ?_; rintro e w1 ⟨rfl, h1, hk⟩; have n1 := As.mk (hk.2 _ _ _ BK1.out (by decide) (by decide)); clear BK1; have BK1 := n1; clear n1; have nw := As.mk h1; clear HW; have HW := nw; clear nw h1 hk; clear m0 m1 m2 m3; have m0 : w1.cell? ⟨g1, 0, none⟩ = some (.int .i64 a0_0) := (kC BK1.out 0).trans rfl; have m1 : w1.cell? ⟨g1, 1, none⟩ = some (.string a0_1) := (kC BK1.out 1).trans rfl; have m2 : w1.cell? ⟨g1, 2, none⟩ = some (.slice A0_2 l0_2.length c0_2) := (kC BK1.out 2).trans rfl; have m3 : w1.cell? ⟨g1, 3, none⟩ = some (.slice A0_3 l0_3.length c0_3) := (kC BK1.out 3).trans rfl))
      go_loopg [73] l0_3.length (fun kq v73 w' => ∃ j : Nat, v73 = .int .i64 j ∧ As (j + kq = l0_3.length) ∧ As (w'.heap[g1]? = some (.cells #[.int .i64 a0_0, .string a0_1, .slice A0_2 l0_2.length c0_2, .slice A0_3 l0_3.length c0_3] 37 (0, 0))) ∧ As (WrS w w' g (hdrC a0_0 a0_1 (l0_2.length : Int) ++ l0_2.flatMap resC ++ [(l0_3.length : Int) % 256] ++ (l0_3.take j).flatMap edgeC)))
      case atStart => exact ⟨0, rfl, ⟨by omega⟩, BK1, ⟨HW.out.cast (by simp)⟩⟩
      case round =>
        obtain ⟨j, rfl, HKj, BK1, HW⟩ := hrel
        by_cases hlt : j < l0_3.length
        rotate_left
        · have hge : ¬ (j : Int) < (l0_3.length : Int) := by omega
          have hj : j = l0_3.length := by have := HKj.out; omega
          subst hj
          rw [List.take_length] at HW
          obtain ⟨v, hg0, hR, hB, hge⟩ := HW.out
          obtain ⟨A9, n9, c9, e9⟩ : ∃ A n c, v = Value.slice A n c := (Kd.R_slice hR).elim (fun A h => h.elim (fun c e => ⟨A, _, c, e⟩))
          subst e9
          have k0 := (kC hg0 0).trans rfl
          have HR9 := As.mk hR
          have HB9 := As.mk hB
          clear hR hB hge HW hg0
          go_wp2
          go_ret
          refine ⟨_, rfl, ?_, HB9.out⟩
          have e : bytesC a0_0 a0_1 l0_2 l0_3 = hdrC a0_0 a0_1 (l0_2.length : Int) ++ l0_2.flatMap resC ++ [(l0_3.length : Int) % 256] ++ l0_3.flatMap edgeC := by unfold bytesC hdrC; simp
          rw [e]
          exact HR9.out
        have hlt' : (j : Int) < (l0_3.length : Int) := by omega
        have hle := flat_len (f := edgeC) hlt
        obtain ⟨ad, ead, hx0, hx1, hx2⟩ := at_T50 HE.out (j : Int) (by omega) hlt'
        cases ead
        replace hx0 := ((WrS.of_below HW.out).cell (World.block_lt_of_cell? w _ hx0)).trans hx0
        replace hx1 := ((WrS.of_below HW.out).cell (World.block_lt_of_cell? w _ hx1)).trans hx1
        replace hx2 := ((WrS.of_below HW.out).cell (World.block_lt_of_cell? w _ hx2)).trans hx2
        simp only [Int.toNat_natCast] at hx0 hx1 hx2
        have hs := rd50_at hlt
        have hfl := flat_take (f := edgeC) hlt
        rw [← hs] at hle hfl
        generalize rd_T50 l0_3 (j : Int) = x at hx0 hx1 hx2 hle hfl
        clear hs
        obtain ⟨f, t, b⟩ := x
        simp only [] at hx0 hx1 hx2
        have HFL := As.mk hfl
        have HLE := As.mk (show ((l0_3.take j).flatMap edgeC).length + 3 ≤ (l0_3.flatMap edgeC).length from hle)
        clear hfl hle
        cases b with
        | true =>
          go_wp2_with (first | ((with_reducible refine gate_dst (N := 9) rfl ?_); refine box_event ?hg (N := 9) ?hd (cs := #[.int .i64 0, .int .i64 0, .bool false]) (t := 50) ?hr ?_; (case hd => rfl); (case hg => rfl); (case hr => first | (go_simp; done) | (go_simp; rfl)); intro g9 hg w1 hbox hb; have n0 := As.mk ((by rw [hg]; exact (WrS.of_below HW.out).size) : w.heap.size ≤ g9); have n1 := As.mk (kB BK1.out hb); clear BK1; have BK1 := n1; clear n1; have nw := As.mk (HW.out.later hb); clear HW; have HW := nw; clear nw; have BK9 := As.mk hbox; have GE9 := n0; clear hb hbox hg n0; have d9_0 : w1.cell? ⟨g9, 0, none⟩ = some (.int .i64 0) := (kC BK9.out 0).trans rfl; have e9_0 := kF BK9.out 0; have d9_1 : w1.cell? ⟨g9, 1, none⟩ = some (.int .i64 0) := (kC BK9.out 1).trans rfl; have e9_1 := kF BK9.out 1; have d9_2 : w1.cell? ⟨g9, 2, none⟩ = some (.bool false) := (kC BK9.out 2).trans rfl; have e9_2 := kF BK9.out 2) | ((with_reducible refine gate_store (t := 50) (p := 9) rfl ?_); refine store_event (t := 50) (p := 9) (v := ?vo91) (w1 := ?wo91) ?hg ?ho ?hn ?hr ?_; (case ho => rfl); (case hg => rfl); (case hn => rfl); (case hr => first | (go_simp; done) | (go_simp; rfl)); intro w2 hw; have nb := As.mk ((by rw [hw]; exact set3_own BK9.out _ _ _) : w2.heap[g9]? = some (.cells #[.int .i64 f, .int .i64 t, .bool true] 50 (0, 0))); have nw := As.mk ((by rw [hw]; exact WrS.set3 HW.out BK9.out (by decide) (by decide) GE9.out _ _ _) : WrS w w2 g _); have n1 := As.mk ((by rw [hw]; exact set3_far BK9.out BK1.out (by decide) _ _ _) : w2.heap[g1]? = some (.cells #[.int .i64 a0_0, .string a0_1, .slice A0_2 l0_2.length c0_2, .slice (some ad) l0_3.length c0_3] 37 (0, 0))); clear BK1; have BK1 := n1; clear n1; clear BK9 HW d9_0 e9_0 d9_1 e9_1 d9_2 e9_2; have BK9 := nb; have HW := nw; clear nb nw hw; have d9_0 : w2.cell? ⟨g9, 0, none⟩ = some (.int .i64 f) := (kC BK9.out 0).trans rfl; have d9_1 : w2.cell? ⟨g9, 1, none⟩ = some (.int .i64 t) := (kC BK9.out 1).trans rfl; have d9_2 : w2.cell? ⟨g9, 2, none⟩ = some (.bool true) := (kC BK9.out 2).trans rfl) | (go_at_call 71; refine (wbyte_calls w _ g _ _ HW.out (by have h := HT.out; have h2 := HLE.out; simp only [List.length_append, List.length_cons, List.length_nil, hdrC_len]; omega)).mono ?_; rintro e w1 ⟨rfl, h1, hk⟩; have n1 := As.mk (hk.2 _ _ _ BK1.out (by decide) (by decide)); clear BK1; have BK1 := n1; clear n1; have n9 := As.mk (hk.2 _ _ _ BK9.out (by decide) (by decide)); clear BK9; have BK9 := n9; clear n9; have nw := As.mk h1; clear HW; have HW := nw; clear nw h1 hk; clear d9_0 d9_1 d9_2; have d9_0 : w1.cell? ⟨g9, 0, none⟩ = some (.int .i64 f) := (kC BK9.out 0).trans rfl; have d9_1 : w1.cell? ⟨g9, 1, none⟩ = some (.int .i64 t) := (kC BK9.out 1).trans rfl; have d9_2 : w1.cell? ⟨g9, 2, none⟩ = some (.bool true) := (kC BK9.out 2).trans rfl))
          go_roundg (l0_3.length - (j + 1))
          case measure => have := HKj.out; omega
          case rel => exact ⟨j + 1, by go_num, ⟨by omega⟩, BK1, ⟨HW.out.cast (by rw [HFL.out]; simp [edgeC])⟩⟩
        | false =>
          go_wp2_with (first | ((with_reducible refine gate_dst (N := 9) rfl ?_); refine box_event ?hg (N := 9) ?hd (cs := #[.int .i64 0, .int .i64 0, .bool false]) (t := 50) ?hr ?_; (case hd => rfl); (case hg => rfl); (case hr => first | (go_simp; done) | (go_simp; rfl)); intro g9 hg w1 hbox hb; have n0 := As.mk ((by rw [hg]; exact (WrS.of_below HW.out).size) : w.heap.size ≤ g9); have n1 := As.mk (kB BK1.out hb); clear BK1; have BK1 := n1; clear n1; have nw := As.mk (HW.out.later hb); clear HW; have HW := nw; clear nw; have BK9 := As.mk hbox; have GE9 := n0; clear hb hbox hg n0; have d9_0 : w1.cell? ⟨g9, 0, none⟩ = some (.int .i64 0) := (kC BK9.out 0).trans rfl; have e9_0 := kF BK9.out 0; have d9_1 : w1.cell? ⟨g9, 1, none⟩ = some (.int .i64 0) := (kC BK9.out 1).trans rfl; have e9_1 := kF BK9.out 1; have d9_2 : w1.cell? ⟨g9, 2, none⟩ = some (.bool false) := (kC BK9.out 2).trans rfl; have e9_2 := kF BK9.out 2) | ((with_reducible refine gate_store (t := 50) (p := 9) rfl ?_); refine store_event (t := 50) (p := 9) (v := ?vo92) (w1 := ?wo92) ?hg ?ho ?hn ?hr ?_; (case ho => rfl); (case hg => rfl); (case hn => rfl); (case hr => first | (go_simp; done) | (go_simp; rfl)); intro w2 hw; have nb := As.mk ((by rw [hw]; exact set3_own BK9.out _ _ _) : w2.heap[g9]? = some (.cells #[.int .i64 f, .int .i64 t, .bool false] 50 (0, 0))); have nw := As.mk ((by rw [hw]; exact WrS.set3 HW.out BK9.out (by decide) (by decide) GE9.out _ _ _) : WrS w w2 g _); have n1 := As.mk ((by rw [hw]; exact set3_far BK9.out BK1.out (by decide) _ _ _) : w2.heap[g1]? = some (.cells #[.int .i64 a0_0, .string a0_1, .slice A0_2 l0_2.length c0_2, .slice (some ad) l0_3.length c0_3] 37 (0, 0))); clear BK1; have BK1 := n1; clear n1; clear BK9 HW d9_0 e9_0 d9_1 e9_1 d9_2 e9_2; have BK9 := nb; have HW := nw; clear nb nw hw; have d9_0 : w2.cell? ⟨g9, 0, none⟩ = some (.int .i64 f) := (kC BK9.out 0).trans rfl; have d9_1 : w2.cell? ⟨g9, 1, none⟩ = some (.int .i64 t) := (kC BK9.out 1).trans rfl; have d9_2 : w2.cell? ⟨g9, 2, none⟩ = some (.bool false) := (kC BK9.out 2).trans rfl) | (go_at_call 71; refine (wbyte_calls w _ g _ _ HW.out (by have h := HT.out; have h2 := HLE.out; simp only [List.length_append, List.length_cons, List.length_nil, hdrC_len]; omega)).mono ?_; rintro e w1 ⟨rfl, h1, hk⟩; have n1 := As.mk (hk.2 _ _ _ BK1.out (by decide) (by decide)); clear BK1; have BK1 := n1; clear n1; have n9 := As.mk (hk.2 _ _ _ BK9.out (by decide) (by decide)); clear BK9; have BK9 := n9; clear n9; have nw := As.mk h1; clear HW; have HW := nw; clear nw h1 hk; clear d9_0 d9_1 d9_2; have d9_0 : w1.cell? ⟨g9, 0, none⟩ = some (.int .i64 f) := (kC BK9.out 0).trans rfl; have d9_1 : w1.cell? ⟨g9, 1, none⟩ = some (.int .i64 t) := (kC BK9.out 1).trans rfl; have d9_2 : w1.cell? ⟨g9, 2, none⟩ = some (.bool false) := (kC BK9.out 2).trans rfl))
          go_roundg (l0_3.length - (j + 1))
          case measure => have := HKj.out; omega
          case rel => exact ⟨j + 1, by go_num, ⟨by omega⟩, BK1, ⟨HW.out.cast (by rw [HFL.out]; simp [edgeC])⟩⟩
    have hlt' : (i : Int) < (l0_2.length : Int) := by omega
    have hle := flat_len (f := resC) hlt
    obtain ⟨ad, A2, c2, ead, hx0, hx1, hx2, hl2, hi2⟩ := at_T24 HR.out (i : Int) (by omega) hlt'
    cases ead
    replace hx0 := ((WrS.of_below HW.out).cell (World.block_lt_of_cell? w _ hx0)).trans hx0
    replace hx1 := ((WrS.of_below HW.out).cell (World.block_lt_of_cell? w _ hx1)).trans hx1
    replace hx2 := ((WrS.of_below HW.out).cell (World.block_lt_of_cell? w _ hx2)).trans hx2
    simp only [Int.toNat_natCast] at hx0 hx1 hx2
    have hs := rd24_at hlt
    have hpl := HP.out _ (List.getElem_mem hlt)
    have hfl := flat_take (f := resC) hlt
    rw [← hs] at hle hfl hpl
    generalize rd_T24 l0_2 (i : Int) = x at hx0 hx1 hx2 hle hfl hl2 hi2 hpl
    clear hs
    obtain ⟨k, t, q⟩ := x
    simp only [] at hx0 hx1 hx2 hl2 hi2 hpl
    have hq2 : ((q.length : Int)) ≤ 9223372036854775807 := by omega
    have hle2 : ((l0_2.take i).flatMap resC).length + (4 + t.size + (q.flatMap parC).length) ≤ (l0_2.flatMap resC).length := by
      unfold resC at hle ⊢
      simp only [List.length_append, List.length_cons, List.length_nil, txtC_len] at hle
      omega
    have HI := As.mk hi2
    have HFL := As.mk hfl
    have HLE := As.mk hle2
    clear hfl hle hle2 hi2 hl2 hpl
    obtain ⟨ty, hty⟩ : ∃ ty, tyC k = ty := ⟨_, rfl⟩
    have htr := tyC_range k
    have hix := index_f k
    rw [hty] at htr hix
    have hwr : wrap64 (ty + 1) = ty + 1 := by unfold wrap64; omega
    have HIX := As.mk hix
    have HTY := As.mk hty
    have HWR := As.mk hwr
    clear htr hix hty hwr
    go_upto_region 8 with (first | ((with_reducible refine gate_dst (N := 5) rfl ?_); refine box_event ?hg (N := 5) ?hd (cs := #[.string (⟨#[]⟩ : ByteArray), .string (⟨#[]⟩ : ByteArray), .slice none 0 0]) (t := 24) ?hr ?_; (case hd => rfl); (case hg => rfl); (case hr => first | (go_simp; done) | (go_simp; rfl)); intro g5 hg w1 hbox hb; have n0 := As.mk ((by rw [hg]; exact (WrS.of_below HW.out).size) : w.heap.size ≤ g5); have n1 := As.mk (kB BK1.out hb); clear BK1; have BK1 := n1; clear n1; have nw := As.mk (HW.out.later hb); clear HW; have HW := nw; clear nw; have BK5 := As.mk hbox; have GE5 := n0; clear hb hbox hg n0; have d5_0 : w1.cell? ⟨g5, 0, none⟩ = some (.string (⟨#[]⟩ : ByteArray)) := (kC BK5.out 0).trans rfl; have e5_0 := kF BK5.out 0; have d5_1 : w1.cell? ⟨g5, 1, none⟩ = some (.string (⟨#[]⟩ : ByteArray)) := (kC BK5.out 1).trans rfl; have e5_1 := kF BK5.out 1; have d5_2 : w1.cell? ⟨g5, 2, none⟩ = some (.slice none 0 0) := (kC BK5.out 2).trans rfl; have e5_2 := kF BK5.out 2) | ((with_reducible refine gate_store (t := 24) (p := 5) rfl ?_); refine store_event (t := 24) (p := 5) (v := ?vo5) (w1 := ?wo5) ?hg ?ho ?hn ?hr ?_; (case ho => rfl); (case hg => rfl); (case hn => rfl); (case hr => first | (go_simp; done) | (go_simp; rfl)); intro w2 hw; have nb := As.mk ((by rw [hw]; exact set3_own BK5.out _ _ _) : w2.heap[g5]? = some (.cells #[.string k, .string t, .slice A2 q.length c2] 24 (0, 0))); have nw := As.mk ((by rw [hw]; exact WrS.set3 HW.out BK5.out (by decide) (by decide) GE5.out _ _ _) : WrS w w2 g _); have n1 := As.mk ((by rw [hw]; exact set3_far BK5.out BK1.out (by decide) _ _ _) : w2.heap[g1]? = some (.cells #[.int .i64 a0_0, .string a0_1, .slice (some ad) l0_2.length c0_2, .slice A0_3 l0_3.length c0_3] 37 (0, 0))); clear BK1; have BK1 := n1; clear n1; clear BK5 HW d5_0 e5_0 d5_1 e5_1 d5_2 e5_2; have BK5 := nb; have HW := nw; clear nb nw hw; have d5_0 : w2.cell? ⟨g5, 0, none⟩ = some (.string k) := (kC BK5.out 0).trans rfl; have d5_1 : w2.cell? ⟨g5, 1, none⟩ = some (.string t) := (kC BK5.out 1).trans rfl; have d5_2 : w2.cell? ⟨g5, 2, none⟩ = some (.slice A2 q.length c2) := (kC BK5.out 2).trans rfl))
    refine start_ (n := 7) (S := fun w' => w'.cell? ⟨g5, 0, none⟩ = some (.string k)) (ds := []) #[false, false, false, false, false, false, false] (by kernel_rfl) rfl rfl ((kC BK5.out 0).trans rfl) (fun hHeld => ?_); refine with_tabW bytes_tab8 bytes_bits8 (fun HT_ HW_ => ?_)
    have n1 := As.mk (kD BK1.out)
    have n5 := As.mk (kD BK5.out)
    have nw := As.mk HW.out.drew
    clear BK1 BK5 HW
    have BK1 := n1
    have BK5 := n5
    have HW := nw
    clear n1 n5 nw d5_0 d5_1 d5_2
    refine pure_ (i := 0) (N := some 32) (v := ?_) (a' := ?_) #[true, false, false, false, false, false, false] rfl rfl (any_of HT_.out (by kernel_rfl)) (fun _ _ _ h => h) (Or.inl ⟨by rfl, ?_⟩) ?_ ?_; rotate_left; (intro w'; go_simp; with_reducible rfl); rotate_left; (simp only [Act.put, zA, zZ, zS, i64_w, i32_w]; rfl)
    refine pure_ (i := 2) (N := some 34) (v := ?_) (a' := ?_) #[true, false, true, false, false, false, false] rfl rfl (any_of HT_.out (by kernel_rfl)) (fun _ _ _ h => h) (Or.inl ⟨by rfl, ?_⟩) ?_ ?_; rotate_left; (intro w'; go_simp; with_reducible rfl); rotate_left; (simp only [Act.put, zA, zZ, zS, i64_w, i32_w]; rfl)
    refine take_ (i := 3) (N := some 35) (v := ?_) (a' := ?_) #[true, false, true, true, false, false, false] rfl rfl (take_ofW HT_.out HW_.out (by kernel_rfl)) (fun _ _ _ h => h) (Or.inl ⟨by rfl, ?_⟩) hHeld ?_ ?_; rotate_left; (intro w' hs_; go_simp; with_reducible rfl); rotate_left; (simp only [Act.put, zA, zZ, zS, i64_w, i32_w]; rfl)
    refine one_ (i := 1) (N := some 33) #[true, true, true, true, false, false, false] rfl rfl (one_of HT_.out (by kernel_rfl)) (by decide) (fun K hK => ?_)
    refine goes_ Tryz.func73 (by kernel_rfl) rfl #[] (by rfl) rfl rfl (by (try simp only [List.map_toArray, List.map_cons, List.map_nil]); first | done | rfl | (simp only [List.length_drop, List.length_take]; rfl)) ?_
    refine (catalog_kinds.calls kindsL _ rfl).mono ?_
    rintro e w3 ⟨v3, rfl, hr3, hb⟩
    obtain ⟨A3, n3, c3_, e3⟩ : ∃ A n c, v3 = Value.slice A n c := (Kd.R_slice hr3).elim (fun A h => h.elim (fun c e => ⟨A, _, c, e⟩))
    subst e3
    have H3 := As.mk hr3
    clear hr3
    have n1 := As.mk (kB BK1.out hb)
    have n5 := As.mk (kB BK5.out hb)
    have nw := As.mk (HW.out.later hb)
    clear BK1 BK5 HW
    have BK1 := n1
    have BK5 := n5
    have HW := nw
    clear n1 n5 nw hb
    refine ⟨_, rfl, ?_⟩
    refine hK.out _ _ ((kC BK5.out 0).trans rfl) (fun hHeld => ?_)
    clear hK K
    refine norm_ (a' := ?_) ?_ ?_
    rotate_left
    · show Act.put _ (some 33) _ = _
      simp only [Act.put, zA, zZ, zS, i64_w, i32_w]
      rfl
    obtain ⟨hn3, hc3, hC3⟩ := Kd.R_reads' H3.out
    subst hn3
    have HC3 := As.mk hC3
    clear hC3
    refine one_ (i := 4) (N := some 36) #[true, true, true, true, true, false, false] rfl rfl (one_of HT_.out (by kernel_rfl)) (by decide) (fun K hK => ?_)
    refine goes_ Tryz.func72 (by kernel_rfl) rfl #[.slice A3 kindsL.length c3_, .string k] (by rfl) rfl rfl (by (try simp only [List.map_toArray, List.map_cons, List.map_nil]); first | done | rfl | (simp only [List.length_drop, List.length_take]; rfl)) ?_
    refine (slices_Index_string_string.calls 6 A3 c3_ kindsL k ty _ HC3.out hc3 HIX.out).mono ?_
    rintro e w4 ⟨rfl, hd⟩
    have hb := hd.below
    clear hd
    have n1 := As.mk (kB BK1.out hb)
    have n5 := As.mk (kB BK5.out hb)
    have nw := As.mk (HW.out.later hb)
    clear BK1 BK5 HW
    have BK1 := n1
    have BK5 := n5
    have HW := nw
    clear n1 n5 nw hb
    refine ⟨_, rfl, ?_⟩
    refine hK.out _ _ ((kC BK5.out 0).trans rfl) (fun hHeld => ?_)
    clear hK K
    refine norm_ (a' := ?_) ?_ ?_
    rotate_left
    · show Act.put _ (some 36) _ = _
      simp only [Act.put, zA, zZ, zS, i64_w, i32_w]
      rfl
    refine pure_ (i := 5) (N := some 37) (v := ?_) (a' := ?_) #[true, true, true, true, true, true, false] rfl rfl (any_of HT_.out (by kernel_rfl)) (fun _ _ _ h => h) (Or.inl ⟨by rfl, ?_⟩) ?_ ?_; rotate_left; (intro w'; go_simp; with_reducible rfl); rotate_left; (simp only [Act.put, zA, zZ, zS, i64_w, i32_w]; rfl)
    refine one_ (i := 6) (N := some 38) #[true, true, true, true, true, true, true] rfl rfl (one_of HT_.out (by kernel_rfl)) (by decide) (fun K hK => ?_)
    refine goes_ Tryz.func71 (by kernel_rfl) rfl #[.pointer (some ⟨g, 0, none⟩), .int .i64 (wrap64 (ty + 1))] (by rfl) rfl rfl (by (try simp only [List.map_toArray, List.map_cons, List.map_nil]); first | done | rfl | (simp only [List.length_drop, List.length_take]; rfl)) ?_
    refine (wbyte_calls w _ g _ (wrap64 (ty + 1)) HW.out (by have h := HT.out; have h2 := HLE.out; simp only [List.length_append, List.length_cons, List.length_nil, hdrC_len]; omega)).mono ?_
    rintro e w5 ⟨rfl, h1, hk⟩
    rw [HWR.out] at h1
    have n1 := As.mk (hk.2 _ _ _ BK1.out (by decide) (by decide))
    have n5 := As.mk (hk.2 _ _ _ BK5.out (by decide) (by decide))
    have nw := As.mk h1
    clear BK1 BK5 HW h1 hk
    have BK1 := n1
    have BK5 := n5
    have HW := nw
    clear n1 n5 nw
    refine ⟨_, rfl, ?_⟩
    refine hK.out _ _ ((kC BK5.out 0).trans rfl) (fun hHeld => ?_)
    clear hK K
    refine norm_ (a' := ?_) ?_ ?_
    rotate_left
    · show Act.put _ (some 38) _ = _
      simp only [Act.put, zA, zZ, zS, i64_w, i32_w]
      rfl
    refine done_ (done_of HT_.out (by kernel_rfl)) ?_
    clear HT_ HW_ hHeld H3 HC3 hc3
    have d5_0 : w5.cell? ⟨g5, 0, none⟩ = some (.string k) := (kC BK5.out 0).trans rfl; have d5_1 : w5.cell? ⟨g5, 1, none⟩ = some (.string t) := (kC BK5.out 1).trans rfl; have d5_2 : w5.cell? ⟨g5, 2, none⟩ = some (.slice A2 q.length c2) := (kC BK5.out 2).trans rfl
    go_wp2_with (first | (go_at_call 70; refine (wtext_calls w _ g _ _ HW.out (by have h := HT.out; have h2 := HLE.out; simp only [List.length_append, List.length_cons, List.length_nil, hdrC_len, bytesOf_length]; omega)).mono ?_; rintro e w1 ⟨rfl, h1, hk⟩; have n1 := As.mk (hk.2 _ _ _ BK1.out (by decide) (by decide)); clear BK1; have BK1 := n1; clear n1; have n5 := As.mk (hk.2 _ _ _ BK5.out (by decide) (by decide)); clear BK5; have BK5 := n5; clear n5; have nw := As.mk h1; clear HW; have HW := nw; clear nw h1 hk; clear d5_0 d5_1 d5_2; have d5_0 : w1.cell? ⟨g5, 0, none⟩ = some (.string k) := (kC BK5.out 0).trans rfl; have d5_1 : w1.cell? ⟨g5, 1, none⟩ = some (.string t) := (kC BK5.out 1).trans rfl; have d5_2 : w1.cell? ⟨g5, 2, none⟩ = some (.slice A2 q.length c2) := (kC BK5.out 2).trans rfl) | (go_at_call 71; refine (wbyte_calls w _ g _ _ HW.out (by have h := HT.out; have h2 := HLE.out; simp only [List.length_append, List.length_cons, List.length_nil, hdrC_len, bytesOf_length]; omega)).mono ?_; rintro e w1 ⟨rfl, h1, hk⟩; have n1 := As.mk (hk.2 _ _ _ BK1.out (by decide) (by decide)); clear BK1; have BK1 := n1; clear n1; have n5 := As.mk (hk.2 _ _ _ BK5.out (by decide) (by decide)); clear BK5; have BK5 := n5; clear n5; have nw := As.mk h1; clear HW; have HW := nw; clear nw h1 hk; clear d5_0 d5_1 d5_2; have d5_0 : w1.cell? ⟨g5, 0, none⟩ = some (.string k) := (kC BK5.out 0).trans rfl; have d5_1 : w1.cell? ⟨g5, 1, none⟩ = some (.string t) := (kC BK5.out 1).trans rfl; have d5_2 : w1.cell? ⟨g5, 2, none⟩ = some (.slice A2 q.length c2) := (kC BK5.out 2).trans rfl))
    go_loopg [51] q.length (fun kq v51 w' => ∃ j : Nat, v51 = .int .i64 j ∧ As (j + kq = q.length) ∧ As (w'.heap[g1]? = some (.cells #[.int .i64 a0_0, .string a0_1, .slice (some ad) l0_2.length c0_2, .slice A0_3 l0_3.length c0_3] 37 (0, 0))) ∧ As (w'.heap[g5]? = some (.cells #[.string k, .string t, .slice A2 q.length c2] 24 (0, 0))) ∧ As (WrS w w' g (hdrC a0_0 a0_1 (l0_2.length : Int) ++ (l0_2.take i).flatMap resC ++ ([(ty + 1) % 256] ++ txtC t ++ [(q.length : Int) % 256]) ++ (q.take j).flatMap parC)))
    case atStart => exact ⟨0, rfl, ⟨by omega⟩, BK1, BK5, ⟨HW.out.cast (by simp [txtC])⟩⟩
    case round =>
      obtain ⟨j, rfl, HKj, BK1, BK5, HW⟩ := hrel
      by_cases hlj : j < q.length
      rotate_left
      · have hgj : ¬ (j : Int) < (q.length : Int) := by omega
        have hj : j = q.length := by have := HKj.out; omega
        subst hj
        rw [List.take_length] at HW
        go_wp2
        go_roundg (l0_2.length - (i + 1))
        case measure => have := HKq.out; omega
        case rel => exact ⟨i + 1, by go_num, ⟨by omega⟩, BK1, ⟨HW.out.cast (by rw [HFL.out]; unfold resC; rw [HTY.out]; simp)⟩⟩
      have hlj' : (j : Int) < (q.length : Int) := by omega
      have hle := flat_len (f := parC) hlj
      obtain ⟨ad2, ead2, hy0, hy1⟩ := at_T31 HI.out (j : Int) (by omega) hlj'
      cases ead2
      replace hy0 := ((WrS.of_below HW.out).cell (World.block_lt_of_cell? w _ hy0)).trans hy0
      replace hy1 := ((WrS.of_below HW.out).cell (World.block_lt_of_cell? w _ hy1)).trans hy1
      simp only [Int.toNat_natCast] at hy0 hy1
      have hs := rd31_at hlj
      have hfl := flat_take (f := parC) hlj
      rw [← hs] at hle hfl
      generalize rd_T31 q (j : Int) = x at hy0 hy1 hle hfl
      clear hs
      obtain ⟨nm, vl⟩ := x
      simp only [] at hy0 hy1
      have hle2 : ((q.take j).flatMap parC).length + (2 + nm.size + (2 + vl.size)) ≤ (q.flatMap parC).length := by
        unfold parC at hle ⊢
        simp only [List.length_append, txtC_len] at hle
        omega
      have HFL2 := As.mk hfl
      have HLE2 := As.mk hle2
      clear hfl hle hle2
      go_wp2_with (first | ((with_reducible refine gate_dst (N := 7) rfl ?_); refine box_event ?hg (N := 7) ?hd (cs := #[.string (⟨#[]⟩ : ByteArray), .string (⟨#[]⟩ : ByteArray)]) (t := 31) ?hr ?_; (case hd => rfl); (case hg => rfl); (case hr => first | (go_simp; done) | (go_simp; rfl)); intro g7 hg w1 hbox hb; have n0 := As.mk ((by rw [hg]; exact (WrS.of_below HW.out).size) : w.heap.size ≤ g7); have n1 := As.mk (kB BK1.out hb); clear BK1; have BK1 := n1; clear n1; have n5 := As.mk (kB BK5.out hb); clear BK5; have BK5 := n5; clear n5; have nw := As.mk (HW.out.later hb); clear HW; have HW := nw; clear nw; have BK7 := As.mk hbox; have GE7 := n0; clear hb hbox hg n0; have d7_0 : w1.cell? ⟨g7, 0, none⟩ = some (.string (⟨#[]⟩ : ByteArray)) := (kC BK7.out 0).trans rfl; have e7_0 := kF BK7.out 0; have d7_1 : w1.cell? ⟨g7, 1, none⟩ = some (.string (⟨#[]⟩ : ByteArray)) := (kC BK7.out 1).trans rfl; have e7_1 := kF BK7.out 1) | ((with_reducible refine gate_store (t := 31) (p := 7) rfl ?_); refine store_event (t := 31) (p := 7) (v := ?vo7) (w1 := ?wo7) ?hg ?ho ?hn ?hr ?_; (case ho => rfl); (case hg => rfl); (case hn => rfl); (case hr => first | (go_simp; done) | (go_simp; rfl)); intro w2 hw; have nb := As.mk ((by rw [hw]; exact set2_own BK7.out _ _) : w2.heap[g7]? = some (.cells #[.string nm, .string vl] 31 (0, 0))); have nw := As.mk ((by rw [hw]; exact WrS.set2 HW.out BK7.out (by decide) (by decide) GE7.out _ _) : WrS w w2 g _); have n1 := As.mk ((by rw [hw]; exact set2_far BK7.out BK1.out (by decide) _ _) : w2.heap[g1]? = some (.cells #[.int .i64 a0_0, .string a0_1, .slice (some ad) l0_2.length c0_2, .slice A0_3 l0_3.length c0_3] 37 (0, 0))); have n5 := As.mk ((by rw [hw]; exact set2_far BK7.out BK5.out (by decide) _ _) : w2.heap[g5]? = some (.cells #[.string k, .string t, .slice (some ad2) q.length c2] 24 (0, 0))); clear BK1 BK5 BK7 HW d7_0 d7_1 e7_0 e7_1; have BK1 := n1; have BK5 := n5; have BK7 := nb; have HW := nw; clear nb nw n1 n5 hw; have d7_0 : w2.cell? ⟨g7, 0, none⟩ = some (.string nm) := (kC BK7.out 0).trans rfl; have d7_1 : w2.cell? ⟨g7, 1, none⟩ = some (.string vl) := (kC BK7.out 1).trans rfl) | (go_at_call 70; refine (wtext_calls w _ g _ _ HW.out (by have h := HT.out; have h2 := HLE.out; have h3 := HLE2.out; simp only [List.length_append, List.length_cons, List.length_nil, hdrC_len, bytesOf_length, txtC_len]; omega)).mono ?_; rintro e w1 ⟨rfl, h1, hk⟩; have n1 := As.mk (hk.2 _ _ _ BK1.out (by decide) (by decide)); clear BK1; have BK1 := n1; clear n1; have n5 := As.mk (hk.2 _ _ _ BK5.out (by decide) (by decide)); clear BK5; have BK5 := n5; clear n5; have n7 := As.mk (hk.2 _ _ _ BK7.out (by decide) (by decide)); clear BK7; have BK7 := n7; clear n7; have nw := As.mk h1; clear HW; have HW := nw; clear nw h1 hk; clear d7_0 d7_1; have d7_0 : w1.cell? ⟨g7, 0, none⟩ = some (.string nm) := (kC BK7.out 0).trans rfl; have d7_1 : w1.cell? ⟨g7, 1, none⟩ = some (.string vl) := (kC BK7.out 1).trans rfl))
      go_roundg (q.length - (j + 1))
      case measure => have := HKj.out; omega
      case rel => exact ⟨j + 1, by go_num, ⟨by omega⟩, BK1, BK5, ⟨HW.out.cast (by rw [HFL2.out]; simp [parC, txtC])⟩⟩
end Go.Proofs.YtkgafkoopefghaaGreatDoor.PA
end
