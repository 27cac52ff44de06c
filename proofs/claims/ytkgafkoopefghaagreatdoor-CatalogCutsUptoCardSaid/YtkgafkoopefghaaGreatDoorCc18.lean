/- A part of this law; its conditions stand in the last text. -/
import Derived.Lib.Hide
import Derived.Deep.RegionHeld3
import Derived.Test.YtkgafkoopefghaaGreatDoorCc11
import Derived.Test.YtkgafkoopefghaaGreatDoorCc14
import Derived.Test.YtkgafkoopefghaaGreatDoorCc16
import Derived.Test.YtkgafkoopefghaaGreatDoorCc17
section
set_option linter.unusedVariables false
set_option linter.unusedSimpArgs false
namespace Go.Proofs.YtkgafkoopefghaaGreatDoor.PA
open Go.RowKit Go.Proofs.YtkgafkoopefghaaGreatDoor.Hk Go.Proofs.YtkgafkoopefghaaGreatDoorW.PrintWords
def MayAt (g : Nat) (lb : Array Value) (p : ByteArray → Bool) (w : World) : Prop :=
  ∀ (W : World) (s : ByteArray), s.size < 2147483648 → Below w.heap.size w W → Calls Tryz.prog g (#[.string s] ++ lb) W fun e w' => e = .returned (.bool (p s)) ∧ Below W.heap.size W w'
theorem MayAt.later {g : Nat} {lb : Array Value} {p : ByteArray → Bool} {w W : World} (h : MayAt g lb p w) (hb : Below w.heap.size w W) : MayAt g lb p W :=
  fun W' s hs hb' => h W' s hs (hb.trans (hb'.mono hb.size))
def lenB (s : ByteArray) : Bool := decide ((s.size : Int) ≤ 512)
def isPath (s : ByteArray) : Bool := (pathS s).2 == 0
def keyB (s : ByteArray) : Bool := !decide (s.toList = []) && wordB s 32
def versionB (s : ByteArray) : Bool := !decide (s.toList = []) && wordB s 64
def digitsB (least most : Int) (cs : List UInt8) (s : ByteArray) : Bool := decide (least ≤ s.size) && (decide ((s.size : Int) ≤ most) && s.data.toList.all (cs.contains ·))
theorem check_key (s : ByteArray) : checkS ⟨#[103, 114, 111, 117, 112, 115]⟩ s [(⟨#[]⟩ : ByteArray)] = if keyB s = true then 0 else 51 := by
  have h1 : widthS ⟨#[103, 114, 111, 117, 112, 115]⟩ = 1 := by decide
  have h2 : [(⟨#[]⟩ : ByteArray)].any (fun c => !wordB c 64) = false := by decide
  unfold checkS keyB
  rw [h1, h2]
  by_cases c1 : s.toList = []
  · rw [if_neg (by decide), if_pos c1, decide_eq_true c1]; rfl
  · rw [if_neg (by decide), if_neg c1, decide_eq_false c1]
    cases wordB s 32 <;> rfl
theorem check_word (s : ByteArray) : checkS ⟨#[103, 114, 111, 117, 112, 115]⟩ (⟨#[120]⟩ : ByteArray) [s] = if wordB s 64 = true then 0 else 51 := by
  have h1 : widthS ⟨#[103, 114, 111, 117, 112, 115]⟩ = 1 := by decide
  have h3 : (⟨#[120]⟩ : ByteArray).toList ≠ [] := by rw [toList_eq]; decide
  have h4 : wordB (⟨#[120]⟩ : ByteArray) 32 = true := by decide
  unfold checkS
  rw [h1, h4, if_neg (by decide), if_neg h3, if_neg (by decide), if_pos (by simp)]
  simp only [List.any_cons, List.any_nil, Bool.or_false]
  cases wordB s 64 <;> rfl
theorem key_f (s : ByteArray) (hs : s.size < 2147483648) : resource_key.f s = some (keyB s) := by
  unfold resource_key.f tables_Check.f
  rw [if_pos ⟨by decide, by simp only [fitB, decide_eq_true_iff]; omega, by decide, by decide⟩, Option.bind_some, check_key]
  cases keyB s <;> rfl
theorem rword_f (s : ByteArray) (hs : s.size < 2147483648) : resource_word.f s 64 = some (wordB s 64) := by
  unfold resource_word.f tables_Check.f
  by_cases c : (s.size : Int) ≤ 64
  · rw [if_pos c, if_pos ⟨by decide, by decide, by simp only [List.all_cons, List.all_nil, fitB, Bool.and_true, decide_eq_true_iff]; omega, by simp⟩, Option.bind_some, check_word]
    cases wordB s 64 <;> rfl
  · rw [if_neg c]
    unfold wordB
    rw [decide_eq_false c]
    rfl
theorem rpath_f (s : ByteArray) (hs : s.size < 2147483648) : resource_path.f s = some (isPath s) := by
  unfold resource_path.f layout_Path.f isPath
  rw [if_pos hs]; rfl
theorem may_key (w : World) : MayAt 58 #[] keyB w := fun W s hs hb => resource_key.calls s (keyB s) W (key_f s hs)
theorem may_path (w : World) (hU : UtfOk w) : MayAt 57 #[] isPath w := fun W s hs hb => resource_path.calls s (isPath s) W (rpath_f s hs) (UtfOk.of_below hU hb)
set_option maxRecDepth 100000 in
theorem may_len (w : World) : MayAt 55 #[] lenB w := fun W s hs hb => by
  show Calls Tryz.prog _ #[.string s] W _
  have hm : (s.size : Int) ≤ 9223372036854775807 := by omega
  unfold lenB
  go_enter Tryz.func55, Tryz.ntmps55
  go_wp2
  go_ret
  exact ⟨rfl, Below.refl _ _⟩
set_option maxRecDepth 100000 in
theorem may_word (w : World) : MayAt 59 #[] (fun s => wordB s 64) w := fun W s hs hb => by
  show Calls Tryz.prog _ #[.string s] W _
  have HC := As.mk (fun w => resource_word.calls s 64 (wordB s 64) w (rword_f s hs))
  generalize hw : wordB s 64 = b at HC
  have HW := As.mk hw
  clear hw
  go_enter Tryz.func59, Tryz.ntmps59
  go_wp2_with (go_at_call 60; refine (HC.out _).mono ?_; rintro e w1 ⟨rfl, hb⟩)
  go_ret
  exact ⟨by rw [HW.out]; rfl, by assumption⟩
set_option maxRecDepth 100000 in
theorem may_version (w : World) : MayAt 61 #[] versionB w := fun W s hs hb => by
  show Calls Tryz.prog _ #[.string s] W _
  have HC := As.mk (fun w => resource_word.calls s 64 (wordB s 64) w (rword_f s hs))
  unfold versionB
  generalize wordB s 64 = b at HC ⊢
  by_cases c : s.toList = []
  · have c1 : (s.toList != ([] : List UInt8)) = false := bne_eq_false_iff_eq.2 c
    have c2 : (s.toList == ([] : List UInt8)) = true := beq_iff_eq.2 c
    rw [decide_eq_true c]
    clear c
    go_enter Tryz.func61, Tryz.ntmps61
    go_wp2
    go_ret
    exact ⟨rfl, Below.refl _ _⟩
  · have c1 : (s.toList != ([] : List UInt8)) = true := bne_iff_ne.2 c
    have c2 : (s.toList == ([] : List UInt8)) = false := beq_eq_false_iff_ne.2 c
    rw [decide_eq_false c]
    clear c
    go_enter Tryz.func61, Tryz.ntmps61
    go_wp2_with (go_at_call 60; refine (HC.out _).mono ?_; rintro e w1 ⟨rfl, hb⟩)
    go_ret
    exact ⟨by simp, by assumption⟩
end Go.Proofs.YtkgafkoopefghaaGreatDoor.PA
end
