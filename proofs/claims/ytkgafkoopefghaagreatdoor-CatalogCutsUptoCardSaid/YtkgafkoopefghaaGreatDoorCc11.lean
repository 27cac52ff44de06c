/- A part of this law; its conditions stand in the last text. -/
import Derived.Lib.Hide
import Derived.Lib.OthersKept
import Derived.Test.YtkgafkoopefghaaGreatDoorCc10
import Derived.Test.YtkgafkoopefghaaGreatDoorCc4
import Derived.Test.YtkgafkoopefghaaGreatDoorCc3
import Derived.Test.YtkgafkoopefghaaGreatDoorCc6
section
set_option linter.unusedVariables false
set_option linter.unusedSimpArgs false
namespace Go.Proofs.YtkgafkoopefghaaGreatDoor.PA
open Go.RowKit Go.Proofs.YtkgafkoopefghaaGreatDoor.Hk Go.Proofs.YtkgafkoopefghaaGreatDoorW.PrintWords
theorem byte_at (s : ByteArray) (i : Nat) (h : i < s.size) : s.data.toList[i]? = some (s[i]'h) := by
  rw [List.getElem?_eq_getElem (by have := Lib.size_eq s; omega)]
  rfl
def amongB (cs : List UInt8) (j : Nat) (c : Nat) : Bool := (cs.take j).any (fun b => b.toNat == c)
theorem among_step (set : ByteArray) (j : Nat) (c : Nat) (h : j < set.size) : amongB set.data.toList (j + 1) c = (amongB set.data.toList j c || decide ((c : Int) = (((set[j]'h).toNat : Nat) : Int))) := by
  unfold amongB
  rw [List.take_add_one, byte_at set j h]
  simp only [Option.toList, List.any_append, List.any_cons, List.any_nil, Bool.or_false]
  congr 1
  rw [Bool.eq_iff_iff, beq_iff_eq, decide_eq_true_iff]
  omega
theorem among_all (set : ByteArray) (c : Nat) (hc : c < 256) : amongB set.data.toList set.size c = set.data.toList.contains (UInt8.ofNat c) := by
  unfold amongB
  rw [List.take_of_length_le (by have := Lib.size_eq set; omega), Bool.eq_iff_iff, List.any_eq_true, List.contains_iff_mem]
  constructor
  · rintro ⟨b, hb, e⟩
    have e2 := beq_iff_eq.1 e
    have : b = UInt8.ofNat c := UInt8.toNat_inj.1 (by rw [e2]; simp; omega)
    rwa [← this]
  · intro h
    exact ⟨_, h, beq_iff_eq.2 (by simp; omega)⟩
theorem among_high (set : ByteArray) (hasc : ∀ (j : Nat) (h : j < set.size), (set[j]'h).toNat < 128) (c : Nat) (hc : 128 ≤ c) : amongB set.data.toList set.size c = false := by
  unfold amongB
  rw [List.any_eq_false]
  intro b hb e
  have e2 := beq_iff_eq.1 e
  obtain ⟨j, hj, rfl⟩ := List.mem_iff_getElem.1 (List.mem_of_mem_take hb)
  have h1 : j < set.size := by have := Lib.size_eq set; omega
  have h2 := hasc j h1
  have h3 := byte_at set j h1
  rw [List.getElem?_eq_getElem hj, Option.some.injEq] at h3
  rw [h3] at e2
  omega
theorem rune_first (s : ByteArray) (pos : Nat) (h : pos < s.size) : ((s[pos]'h).toNat < 128 ∧ Utf8.decode s pos = ((s[pos]'h).toNat, 1)) ∨ (128 ≤ (s[pos]'h).toNat ∧ 128 ≤ (Utf8.decode s pos).1) := by
  by_cases c : (s[pos]'h).toNat < 128
  · exact .inl ⟨c, decode_ascii s pos h c⟩
  · exact .inr ⟨by omega, (decode_high s pos h (by omega)).1⟩
theorem drop_byte (s : ByteArray) (pos : Nat) : (⟨(s.data.toList.drop pos).toArray⟩ : ByteArray) = s.extract pos s.size := by
  apply ByteArray.ext
  apply Array.ext'
  have := Lib.extract_to_end s pos
  rw [this]
theorem in_set (s set : ByteArray) (hasc : ∀ (j : Nat) (h : j < set.size), (set[j]'h).toNat < 128) (pos : Nat) (h : pos < s.size) (hin : amongB set.data.toList set.size (Utf8.decode s pos).1 = true) : (Utf8.decode s pos).2 = 1 ∧ set.data.toList.contains (s[pos]'h) = true := by
  rcases rune_first s pos h with ⟨h1, h2⟩ | ⟨h1, h2⟩
  · rw [h2] at hin ⊢
    refine ⟨rfl, ?_⟩
    rw [among_all set _ (by have := (s[pos]'h).toNat_lt; omega)] at hin
    simpa using hin
  · rw [among_high set hasc _ h2] at hin
    cases hin
theorem out_set (s set : ByteArray) (hasc : ∀ (j : Nat) (h : j < set.size), (set[j]'h).toNat < 128) (pos : Nat) (h : pos < s.size) (hin : amongB set.data.toList set.size (Utf8.decode s pos).1 = false) : set.data.toList.contains (s[pos]'h) = false := by
  rcases rune_first s pos h with ⟨h1, h2⟩ | ⟨h1, h2⟩
  · rw [h2] at hin
    rw [among_all set _ (by have := (s[pos]'h).toNat_lt; omega)] at hin
    simpa using hin
  · rw [Bool.eq_false_iff]
    intro e
    obtain ⟨j, hj, e2⟩ := List.mem_iff_getElem.1 (List.contains_iff_mem.1 e)
    have h3 : j < set.size := by have := Lib.size_eq set; omega
    have h4 := byte_at set j h3
    rw [List.getElem?_eq_getElem hj, Option.some.injEq] at h4
    have := hasc j h3
    rw [← h4, e2] at this
    omega
set_option maxRecDepth 100000 in
set_option maxHeartbeats 2000000 in
theorem cutLeft_calls (s set : ByteArray) (w : World) (hs : s.size ≤ 9223372036854775807) (hset : set.size ≤ 9223372036854775807) (hasc : ∀ (j : Nat) (h : j < set.size), (set[j]'h).toNat < 128) :
    Calls Tryz.prog 90 #[.string s, .string set] w fun e w' => e = .returned (.string ⟨(s.data.toList.dropWhile (set.data.toList.contains ·)).toArray⟩) ∧ Below w.heap.size w w' := by
  have HA := As.mk hasc
  clear hasc
  go_enter Tryz.func90, Tryz.ntmps90
  go_wp2
  go_loopg [7] s.size (fun kq v7 wr => ∃ pos : Nat, As (pos ≤ s.size ∧ s.size - pos ≤ kq) ∧ As (∀ (j : Nat) b, j < pos → s.data.toList[j]? = some b → set.data.toList.contains b = true) ∧ As (wr.heap[w.heap.size]? = some (.stringIter s pos)) ∧ As (Below w.heap.size w wr))
  case atStart => exact ⟨0, ⟨by omega⟩, ⟨fun j b h => by omega⟩, ⟨heap_alloc_new w _⟩, ⟨(Below.refl _ _).alloc (Nat.le_refl _) _⟩⟩
  case round =>
    obtain ⟨pos, HP, HS, HI, HB⟩ := hrel
    by_cases hp : pos < s.size
    · have hnx0 := fun ty => Lib.run_next_any_at (P := Tryz.prog) wr w.heap.size s pos ty HI.out hp
      have HI1 := As.mk (Lib.iterAt_heap wr w.heap.size s pos (pos + (Utf8.decode s pos).2) HI.out)
      have HB1 := As.mk (Lib.below_iterAt HB.out (Nat.le_refl _) s (pos + (Utf8.decode s pos).2))
      have HIN := As.mk (in_set s set HA.out pos hp)
      have HOUT := As.mk (out_set s set HA.out pos hp)
      generalize wr.iterAt w.heap.size s (pos + (Utf8.decode s pos).2) = W1 at hnx0 HI1 HB1
      generalize (Utf8.decode s pos).2 = wd at HI1 HIN
      generalize (Utf8.decode s pos).1 = c at hnx0 HIN HOUT
      have hnx : ∀ ty, (Instr.next (.pointer (some ⟨w.heap.size, 0, none⟩)) true ty).run Tryz.prog wr = .ok (.tuple #[.bool true, .int .i64 pos, .int .i32 c]) W1 := hnx0
      clear hnx0
      have hpb : (pos : Int) < 9223372036854775807 := by omega
      have hin0 : As (amongB set.data.toList 0 c = false) := ⟨rfl⟩
      go_wp2
      clear hnx
      go_loopg [7] set.size (fun kq v7 wi => ∃ (j : Nat) (b : Bool), v7 = .bool b ∧ As (b = amongB set.data.toList j c) ∧ As (j ≤ set.size ∧ set.size - j ≤ kq) ∧ As (wi.heap[W1.heap.size]? = some (.stringIter set j)) ∧ As (Below W1.heap.size W1 wi))
      case atStart => exact ⟨0, false, rfl, ⟨hin0.out.symm⟩, ⟨by omega⟩, ⟨World.iter_heap _ _ _⟩, ⟨(Below.refl _ _).alloc (Nat.le_refl _) _⟩⟩
      case round =>
        obtain ⟨j, b, rfl, HV, HJ, HI2, HB2⟩ := hrel
        by_cases hj : j < set.size
        · have hnx := fun ty => Lib.run_next_ascii_at (P := Tryz.prog) _ W1.heap.size set j ty HI2.out hj (HA.out j hj)
          have HS2 := As.mk (among_step set j c hj)
          have HI3 := As.mk (Lib.iterAt_heap _ W1.heap.size set j (j + 1) HI2.out)
          have HB3 := As.mk (Lib.below_iterAt HB2.out (Nat.le_refl _) set (j + 1))
          generalize ((set[j]'hj).toNat : Int) = d at hnx HS2
          cases b with
          | true =>
            go_wp2
            clear hnx
            go_roundg (set.size - (j + 1))
            case measure => have := HJ.out; omega
            case rel => exact ⟨j + 1, true, rfl, ⟨by rw [HS2.out, ← HV.out]; rfl⟩, ⟨by have := HJ.out; omega⟩, HI3, HB3⟩
          | false =>
            go_wp2
            clear hnx
            go_roundg (set.size - (j + 1))
            case measure => have := HJ.out; omega
            case rel => exact ⟨j + 1, _, rfl, ⟨by rw [HS2.out, ← HV.out, Bool.false_or]; rfl⟩, ⟨by have := HJ.out; omega⟩, HI3, HB3⟩
        · have hnx := fun ty => Lib.run_next_end_at (P := Tryz.prog) _ W1.heap.size set j ty HI2.out hj
          have hj2 : As (j = set.size) := ⟨by have := HJ.out; omega⟩
          cases b with
          | true =>
            have hin := As.mk (HIN.out (by rw [← hj2.out]; exact HV.out.symm))
            go_wp2
            clear hnx
            go_roundg (s.size - (pos + 1))
            case measure => have := HP.out; omega
            case rel =>
              refine ⟨pos + 1, ⟨by have := HP.out; omega⟩, ⟨fun i b hi hb => ?_⟩, ⟨?_⟩, ⟨HB1.out.trans (HB2.out.mono HB1.out.size)⟩⟩
              · by_cases e : i = pos
                · subst e
                  rw [byte_at s i hp, Option.some.injEq] at hb
                  rw [← hb]; exact hin.out.2
                · exact HS.out i b (by omega) hb
              · have := kB HI1.out HB2.out
                rw [hin.out.1] at this
                exact this
          | false =>
            have hout := As.mk (HOUT.out (by rw [← hj2.out]; exact HV.out.symm))
            go_wp2
            clear hnx
            go_ret
            refine ⟨?_, HB1.out.trans (HB2.out.mono HB1.out.size)⟩
            have hl := Lib.size_eq s
            rw [Lib.dropWhile_drop _ s.data.toList pos HS.out (fun b hb => by rw [byte_at s pos hp, Option.some.injEq] at hb; rw [← hb]; exact hout.out) (by omega), drop_byte]
            rfl
    · have hnx := fun ty => Lib.run_next_end_at (P := Tryz.prog) _ w.heap.size s pos ty HI.out hp
      go_wp2
      clear hnx
      go_ret
      refine ⟨?_, HB.out⟩
      have hl := Lib.size_eq s
      have hp2 : pos = s.size := by have := HP.out; omega
      rw [Lib.dropWhile_drop _ s.data.toList pos HS.out (fun b hb => by rw [List.getElem?_eq_none (by omega)] at hb; cases hb) (by omega), List.drop_of_length_le (by omega)]
      rfl
theorem rune_last (l : List UInt8) (h : l ≠ []) : ((l.getD (l.length - 1) 0).toNat < 128 ∧ Lib.decodeLastL l = ((l.getD (l.length - 1) 0).toNat, 1)) ∨ (128 ≤ (l.getD (l.length - 1) 0).toNat ∧ 128 ≤ (Lib.decodeLastL l).1) := by
  by_cases c : (l.getD (l.length - 1) 0).toNat < 128
  · refine .inl ⟨c, ?_⟩
    unfold Lib.decodeLastL
    rw [if_neg h, if_pos c]
  · refine .inr ⟨by omega, ?_⟩
    unfold Lib.decodeLastL
    rw [if_neg h, if_neg c]
    simp only
    by_cases e : Lib.lastStart l + (Lib.decodeL (l.drop (Lib.lastStart l))).2 = l.length
    · rw [if_pos e]
      have hlt := Lib.lastStart_lt l h
      have hsz : (⟨(l.drop (Lib.lastStart l)).toArray⟩ : ByteArray).size = l.length - Lib.lastStart l := by
        rw [Lib.size_eq]; simp
      have hz : 0 < (⟨(l.drop (Lib.lastStart l)).toArray⟩ : ByteArray).size := by omega
      rcases rune_first ⟨(l.drop (Lib.lastStart l)).toArray⟩ 0 hz with ⟨h1, h2⟩ | ⟨h1, h2⟩
      · exfalso
        have hb := byte_at ⟨(l.drop (Lib.lastStart l)).toArray⟩ 0 hz
        generalize (⟨(l.drop (Lib.lastStart l)).toArray⟩ : ByteArray)[0]'hz = q at hb h1 h2
        have e2 : Lib.lastStart l = l.length - 1 := by
          unfold Lib.decodeL at e
          rw [h2] at e
          simp only at e
          omega
        simp only [List.getElem?_drop] at hb
        rw [e2] at hb
        simp only [Nat.add_zero] at hb
        rw [List.getD_eq_getElem?_getD, hb] at c
        simp only [Option.getD_some] at c
        exact c h1
      · exact h2
    · rw [if_neg e]
      decide
theorem in_last (t set : ByteArray) (hasc : ∀ (j : Nat) (h : j < set.size), (set[j]'h).toNat < 128) (h : 0 < t.size) (hin : amongB set.data.toList set.size (Lib.decodeLastL t.data.toList).1 = true) : (Lib.decodeLastL t.data.toList).2 = 1 ∧ set.data.toList.contains (t.data.toList.getD (t.data.toList.length - 1) 0) = true := by
  have hl := Lib.size_eq t
  rcases rune_last t.data.toList (fun e => by have e2 := congrArg List.length e; simp only [List.length_nil] at e2; omega) with ⟨h1, h2⟩ | ⟨h1, h2⟩
  · rw [h2] at hin ⊢
    refine ⟨rfl, ?_⟩
    rw [among_all set _ (Nat.lt_trans h1 (by decide))] at hin
    simpa using hin
  · rw [among_high set hasc _ h2] at hin
    cases hin
theorem out_last (t set : ByteArray) (hasc : ∀ (j : Nat) (h : j < set.size), (set[j]'h).toNat < 128) (h : 0 < t.size) (hin : amongB set.data.toList set.size (Lib.decodeLastL t.data.toList).1 = false) : set.data.toList.contains (t.data.toList.getD (t.data.toList.length - 1) 0) = false := by
  have hl := Lib.size_eq t
  rcases rune_last t.data.toList (fun e => by have e2 := congrArg List.length e; simp only [List.length_nil] at e2; omega) with ⟨h1, h2⟩ | ⟨h1, h2⟩
  · rw [h2] at hin
    rw [among_all set _ (Nat.lt_trans h1 (by decide))] at hin
    simpa using hin
  · rw [Bool.eq_false_iff]
    intro e
    obtain ⟨j, hj, e2⟩ := List.mem_iff_getElem.1 (List.contains_iff_mem.1 e)
    have h3 : j < set.size := by have := Lib.size_eq set; omega
    have h4 := byte_at set j h3
    rw [List.getElem?_eq_getElem hj, Option.some.injEq] at h4
    have := hasc j h3
    rw [← h4, e2] at this
    omega
theorem last_at {s t : ByteArray} {m : Nat} (h : t.data.toList = s.data.toList.take m) (hm : m ≤ s.size) (h0 : 0 < m) : s.data.toList[m - 1]? = some (t.data.toList.getD (t.data.toList.length - 1) 0) := by
  have hl := Lib.size_eq s
  have h1 : t.data.toList.length = m := by rw [h, List.length_take]; omega
  rw [h1, h, List.getD_eq_getElem?_getD, List.getElem?_take, if_pos (by omega), List.getElem?_eq_getElem (by omega)]
  rfl
theorem of_list (t : ByteArray) : (⟨t.data.toList.toArray⟩ : ByteArray) = t := by cases t; simp
set_option maxRecDepth 100000 in
set_option maxHeartbeats 2000000 in
theorem cutRight_calls (s set : ByteArray) (w : World) (hs : s.size ≤ 9223372036854775807) (hset : set.size ≤ 9223372036854775807) (hasc : ∀ (j : Nat) (h : j < set.size), (set[j]'h).toNat < 128) (hU : UtfOk w) :
    Calls Tryz.prog 89 #[.string s, .string set] w fun e w' => e = .returned (.string ⟨(Lib.trimRightS s.data.toList set.data.toList).toArray⟩) ∧ Below w.heap.size w w' := by
  have HA := As.mk hasc
  have HU := As.mk hU
  have hls := Lib.size_eq s
  clear hasc hU
  go_enter Tryz.func89, Tryz.ntmps89
  go_wp2
  go_loopg [0] s.size (fun kq v0 wr => ∃ (m : Nat) (t : ByteArray), v0 = .string t ∧ As (t.data.toList = s.data.toList.take m ∧ m ≤ s.size ∧ m ≤ kq) ∧ As (∀ (j : Nat) b, m ≤ j → s.data.toList[j]? = some b → set.data.toList.contains b = true) ∧ As (Below w.heap.size w wr))
  case atStart => exact ⟨s.size, s, rfl, ⟨(List.take_of_length_le (by omega)).symm, by omega⟩, ⟨fun j b h hb => by rw [List.getElem?_eq_none (by omega)] at hb; cases hb⟩, ⟨Below.refl _ _⟩⟩
  case round =>
    obtain ⟨m, t, rfl, HP, HS, HB⟩ := hrel
    have hms : m ≤ s.size := HP.out.2.1
    have hts : t.size = m := by have h1 := HP.out; have h2 := Lib.size_eq t; rw [h1.1, List.length_take] at h2; omega
    by_cases hm : 0 < t.size
    · have hcall := Tryz.utf8_DecodeLastRuneInString t wr (by omega) (UtfOk.of_below HU.out HB.out).1
      have HIN := As.mk (in_last t set HA.out hm)
      have HOUT := As.mk (out_last t set HA.out hm)
      generalize (Lib.decodeLastL t.data.toList).2 = n at hcall HIN
      generalize (Lib.decodeLastL t.data.toList).1 = c at hcall HIN HOUT
      have HC := As.mk hcall
      have HT := As.mk hts
      have htm : (t.size : Int) ≤ 9223372036854775807 := by omega
      have hin0 : As (amongB set.data.toList 0 c = false) := ⟨rfl⟩
      clear hcall hts
      go_wp2_with (go_at_call 106; refine HC.out.mono ?_; rintro e W1 ⟨rfl, hb⟩; have HB1 := As.mk (HB.out.trans (hb.mono HB.out.size)); clear hb)
      go_loopg [7] set.size (fun kq v7 wi => ∃ (j : Nat) (b : Bool), v7 = .bool b ∧ As (b = amongB set.data.toList j c) ∧ As (j ≤ set.size ∧ set.size - j ≤ kq) ∧ As (wi.heap[W1.heap.size]? = some (.stringIter set j)) ∧ As (Below W1.heap.size W1 wi))
      case atStart => exact ⟨0, false, rfl, ⟨hin0.out.symm⟩, ⟨by omega⟩, ⟨World.iter_heap _ _ _⟩, ⟨(Below.refl _ _).alloc (Nat.le_refl _) _⟩⟩
      case round =>
        obtain ⟨j, b, rfl, HV, HJ, HI2, HB2⟩ := hrel
        by_cases hj : j < set.size
        · have hnx := fun ty => Lib.run_next_ascii_at (P := Tryz.prog) _ W1.heap.size set j ty HI2.out hj (HA.out j hj)
          have HS2 := As.mk (among_step set j c hj)
          have HI3 := As.mk (Lib.iterAt_heap _ W1.heap.size set j (j + 1) HI2.out)
          have HB3 := As.mk (Lib.below_iterAt HB2.out (Nat.le_refl _) set (j + 1))
          generalize ((set[j]'hj).toNat : Int) = d at hnx HS2
          cases b with
          | true =>
            go_wp2
            clear hnx
            go_roundg (set.size - (j + 1))
            case measure => have := HJ.out; omega
            case rel => exact ⟨j + 1, true, rfl, ⟨by rw [HS2.out, ← HV.out]; rfl⟩, ⟨by have := HJ.out; omega⟩, HI3, HB3⟩
          | false =>
            go_wp2
            clear hnx
            go_roundg (set.size - (j + 1))
            case measure => have := HJ.out; omega
            case rel => exact ⟨j + 1, _, rfl, ⟨by rw [HS2.out, ← HV.out, Bool.false_or]; rfl⟩, ⟨by have := HJ.out; omega⟩, HI3, HB3⟩
        · have hnx := fun ty => Lib.run_next_end_at (P := Tryz.prog) _ W1.heap.size set j ty HI2.out hj
          have hj2 : As (j = set.size) := ⟨by have := HJ.out; omega⟩
          cases b with
          | true =>
            have hin := As.mk (HIN.out (by rw [← hj2.out]; exact HV.out.symm))
            obtain rfl := hin.out.1
            go_wp2
            clear hnx
            go_roundg (m - 1)
            case measure => have := HP.out; have := HT.out; omega
            case rel =>
              have hT := HT.out
              have hP := HP.out
              refine ⟨m - 1, _, rfl, ⟨?_, by omega, Nat.le_refl _⟩, ⟨fun i b hi hb => ?_⟩, ⟨HB1.out.trans (HB2.out.mono HB1.out.size)⟩⟩
              · rw [Lib.extract_from_zero, hP.1, List.take_take]
                congr 1
                omega
              · by_cases e : i = m - 1
                · subst e
                  rw [last_at hP.1 hP.2.1 (by omega), Option.some.injEq] at hb
                  rw [← hb]; exact hin.out.2
                · exact HS.out i b (by omega) hb
          | false =>
            have hout := As.mk (HOUT.out (by rw [← hj2.out]; exact HV.out.symm))
            go_wp2
            clear hnx
            go_ret
            refine ⟨?_, HB1.out.trans (HB2.out.mono HB1.out.size)⟩
            have hT := HT.out
            have hP := HP.out
            rw [Lib.trimRightS_take _ _ m (by omega) HS.out (fun b h0 hb => by rw [last_at hP.1 hP.2.1 h0, Option.some.injEq] at hb; rw [← hb]; exact hout.out), ← hP.1, of_list]
            rfl
    · have hm2 : ¬ (0 : Int) < (t.size : Int) := by omega
      go_wp2
      go_ret
      refine ⟨?_, HB.out⟩
      have hP := HP.out
      have hm0 : m = 0 := by omega
      rw [Lib.trimRightS_take _ _ m (by omega) HS.out (fun b h0 hb => by omega), ← hP.1, of_list]
      rfl
end Go.Proofs.YtkgafkoopefghaaGreatDoor.PA
end
