/- A part of this law; its conditions stand in the last text. -/
import Derived.Shelf.SlGeneric
import Derived.Shelf.SlIter.Nil
import Derived.Shelf.SortM.Plain
import Derived.Shelf.SortM.SortNone
import Derived.Ground.GgzProg
import Derived.Ground.SlgmProg
import Derived.Test.YtkgafkoopefghaaDoorProg
section
namespace Go.Proofs
open Go.Shelf
def Tryd.keys20_ren : Go.Shelf.Ren := ⟨fun | 7 => 20 | 10 => 34 | n => n, fun | 23 => 49 | 26 => 9 | 3 => 48 | 28 => 58 | 0 => 0 | 27 => 57 | 33 => 50 | 4 => 4 | n => n, fun | n => n⟩
theorem Tryd.keys20 : Go.Proofs.SlLaysZ.n7 Tryd.prog Tryd.keys20_ren := {
  mixed := by kernel_rfl
  f7 := ⟨Tryd.f20.name, by decide, Tryd.func20.trans (congrArg some (by kernel_rfl))⟩
  f10 := ⟨Tryd.f34.name, by decide, Tryd.func34.trans (congrArg some (by kernel_rfl))⟩
  t0 := Tryd.underlying0
  a0 := Tryd.isAgg0
  z0 := Tryd.sizeOf0
  v0 := Tryd.zeroValue0
  t4 := Tryd.underlying4
  a4 := Tryd.isAgg4
  z4 := Tryd.sizeOf4
  v4 := Tryd.zeroValue4
  t23 := Tryd.underlying49
  a23 := Tryd.isAgg49
  z23 := Tryd.sizeOf49
  v23 := Tryd.zeroValue49
  t26 := Tryd.underlying9
  a26 := Tryd.isAgg9
  z26 := Tryd.sizeOf9
  v26 := Tryd.zeroValue9
  t27 := Tryd.underlying57
  a27 := Tryd.isAgg57
  z27 := Tryd.sizeOf57
  v27 := Tryd.zeroValue57
  t28 := Tryd.underlying58
  a28 := Tryd.isAgg58
  z28 := Tryd.sizeOf58
  v28 := Tryd.zeroValue58
  t33 := Tryd.underlying50
  a33 := Tryd.isAgg50
  z33 := Tryd.sizeOf50
  v33 := Tryd.zeroValue50 }
def Tryd.sorted19_ren : Go.Shelf.Ren := ⟨fun | 6 => 19 | 8 => 32 | 9 => 33 | 11 => 46 | 13 => 48 | 12 => 47 | 23 => 67 | 24 => 68 | 14 => 58 | 15 => 59 | 16 => 60 | 17 => 61 | 18 => 62 | 19 => 63 | 20 => 64 | 21 => 65 | 22 => 66 | 25 => 83 | 26 => 84 | 27 => 85 | 28 => 86 | 29 => 87 | 30 => 88 | 31 => 95 | n => n, fun | 26 => 9 | 28 => 58 | 24 => 55 | 0 => 0 | 3 => 3 | 37 => 78 | 48 => 94 | 50 => 96 | 4 => 4 | 40 => 87 | 39 => 86 | 45 => 91 | 5 => 5 | 9 => 9 | 51 => 109 | 55 => 113 | 57 => 117 | 58 => 118 | 33 => 50 | n => n, fun | n => n⟩
theorem Tryd.sorted19 : Go.Proofs.SlLaysZ.n6 Tryd.prog Tryd.sorted19_ren := {
  mixed := by kernel_rfl
  f6 := ⟨Tryd.f19.name, by decide, Tryd.func19.trans (congrArg some (by kernel_rfl))⟩
  f8 := ⟨Tryd.f32.name, by decide, Tryd.func32.trans (congrArg some (by kernel_rfl))⟩
  f11 := ⟨Tryd.f46.name, by decide, Tryd.func46.trans (congrArg some (by kernel_rfl))⟩
  t0 := Tryd.underlying0
  a0 := Tryd.isAgg0
  z0 := Tryd.sizeOf0
  v0 := Tryd.zeroValue0
  t24 := Tryd.underlying55
  a24 := Tryd.isAgg55
  z24 := Tryd.sizeOf55
  v24 := Tryd.zeroValue55
  t26 := Tryd.underlying9
  a26 := Tryd.isAgg9
  z26 := Tryd.sizeOf9
  v26 := Tryd.zeroValue9
  t28 := Tryd.underlying58
  a28 := Tryd.isAgg58
  z28 := Tryd.sizeOf58
  v28 := Tryd.zeroValue58
  i26 := by kernel_rfl }
def Tryd.sort33_ren : Go.Shelf.Ren := ⟨fun | 6 => 33 | 8 => 48 | 9 => 47 | 19 => 67 | 20 => 68 | 21 => 58 | 22 => 59 | 23 => 60 | 24 => 61 | 25 => 62 | 26 => 63 | 27 => 64 | 28 => 65 | 29 => 66 | 36 => 83 | 31 => 84 | 32 => 85 | 37 => 86 | 38 => 87 | 39 => 88 | 41 => 95 | n => n, fun | 27 => 55 | 29 => 9 | 3 => 3 | 32 => 78 | 26 => 55 | 0 => 0 | 44 => 94 | 46 => 96 | 4 => 4 | 36 => 87 | 35 => 86 | 41 => 91 | 5 => 5 | 9 => 9 | 53 => 109 | 57 => 113 | 63 => 117 | 64 => 118 | n => n, fun | n => n⟩
theorem Tryd.sort33 : Go.Proofs.SlLaysM.n6 Tryd.prog Tryd.sort33_ren := {
  mixed := by kernel_rfl
  f6 := ⟨Tryd.f33.name, by decide, Tryd.func33.trans (congrArg some (by kernel_rfl))⟩
  f8 := Tryd.func48.trans (congrArg some (by kernel_rfl))
  f9 := ⟨Tryd.f47.name, by decide, Tryd.func47.trans (congrArg some (by kernel_rfl))⟩
  f19 := Tryd.func67.trans (congrArg some (by kernel_rfl))
  f20 := Tryd.func68.trans (congrArg some (by kernel_rfl))
  f21 := ⟨Tryd.f58.name, by decide, Tryd.func58.trans (congrArg some (by kernel_rfl))⟩
  f22 := ⟨Tryd.f59.name, by decide, Tryd.func59.trans (congrArg some (by kernel_rfl))⟩
  f23 := ⟨Tryd.f60.name, by decide, Tryd.func60.trans (congrArg some (by kernel_rfl))⟩
  f24 := ⟨Tryd.f61.name, by decide, Tryd.func61.trans (congrArg some (by kernel_rfl))⟩
  f25 := ⟨Tryd.f62.name, by decide, Tryd.func62.trans (congrArg some (by kernel_rfl))⟩
  f26 := ⟨Tryd.f63.name, by decide, Tryd.func63.trans (congrArg some (by kernel_rfl))⟩
  f27 := ⟨Tryd.f64.name, by decide, Tryd.func64.trans (congrArg some (by kernel_rfl))⟩
  f28 := ⟨Tryd.f65.name, by decide, Tryd.func65.trans (congrArg some (by kernel_rfl))⟩
  f29 := ⟨Tryd.f66.name, by decide, Tryd.func66.trans (congrArg some (by kernel_rfl))⟩
  f31 := Tryd.func84.trans (congrArg some (by kernel_rfl))
  f32 := Tryd.func85.trans (congrArg some (by kernel_rfl))
  f36 := ⟨Tryd.f83.name, by decide, Tryd.func83.trans (congrArg some (by kernel_rfl))⟩
  f37 := ⟨Tryd.f86.name, by decide, Tryd.func86.trans (congrArg some (by kernel_rfl))⟩
  f38 := ⟨Tryd.f87.name, by decide, Tryd.func87.trans (congrArg some (by kernel_rfl))⟩
  f39 := ⟨Tryd.f88.name, by decide, Tryd.func88.trans (congrArg some (by kernel_rfl))⟩
  f41 := ⟨Tryd.f95.name, by decide, Tryd.func95.trans (congrArg some (by kernel_rfl))⟩
  t0 := Tryd.underlying0
  a0 := Tryd.isAgg0
  z0 := Tryd.sizeOf0
  v0 := Tryd.zeroValue0
  t3 := Tryd.underlying3
  a3 := Tryd.isAgg3
  z3 := Tryd.sizeOf3
  v3 := Tryd.zeroValue3
  t4 := Tryd.underlying4
  a4 := Tryd.isAgg4
  z4 := Tryd.sizeOf4
  v4 := Tryd.zeroValue4
  t5 := Tryd.underlying5
  a5 := Tryd.isAgg5
  z5 := Tryd.sizeOf5
  v5 := Tryd.zeroValue5
  t9 := Tryd.underlying9
  a9 := Tryd.isAgg9
  z9 := Tryd.sizeOf9
  v9 := Tryd.zeroValue9
  t26 := Tryd.underlying55
  a26 := Tryd.isAgg55
  z26 := Tryd.sizeOf55
  v26 := Tryd.zeroValue55
  t27 := Tryd.underlying55
  a27 := Tryd.isAgg55
  z27 := Tryd.sizeOf55
  v27 := Tryd.zeroValue55
  t29 := Tryd.underlying9
  a29 := Tryd.isAgg9
  z29 := Tryd.sizeOf9
  v29 := Tryd.zeroValue9
  t32 := Tryd.underlying78
  a32 := Tryd.isAgg78
  z32 := Tryd.sizeOf78
  v32 := Tryd.zeroValue78
  t35 := Tryd.underlying86
  a35 := Tryd.isAgg86
  z35 := Tryd.sizeOf86
  v35 := Tryd.zeroValue86
  t36 := Tryd.underlying87
  a36 := Tryd.isAgg87
  z36 := Tryd.sizeOf87
  v36 := Tryd.zeroValue87
  t41 := Tryd.underlying91
  a41 := Tryd.isAgg91
  z41 := Tryd.sizeOf91
  v41 := Tryd.zeroValue91
  t44 := Tryd.underlying94
  a44 := Tryd.isAgg94
  z44 := Tryd.sizeOf94
  v44 := Tryd.zeroValue94
  t46 := Tryd.underlying96
  a46 := Tryd.isAgg96
  z46 := Tryd.sizeOf96
  v46 := Tryd.zeroValue96
  t53 := Tryd.underlying109
  a53 := Tryd.isAgg109
  z53 := Tryd.sizeOf109
  v53 := Tryd.zeroValue109
  t57 := Tryd.underlying113
  a57 := Tryd.isAgg113
  z57 := Tryd.sizeOf113
  v57 := Tryd.zeroValue113
  t63 := Tryd.underlying117
  a63 := Tryd.isAgg117
  z63 := Tryd.sizeOf117
  v63 := Tryd.zeroValue117
  t64 := Tryd.underlying118
  a64 := Tryd.isAgg118
  z64 := Tryd.sizeOf118
  v64 := Tryd.zeroValue118 }
open Go.RowKit Go.Maps Go.Sort Go.Shelf in
theorem Tryd.sorts19 (m : Nat) : AnyZ.SortsIn Tryd.prog Tryd.sorted19_ren Fence.wide m :=
  ⟨fun blk off cap ss W hH hblk hsz => callsIn_wide.2 (AnyM.slices_Sort_string Tryd.sort33 blk off cap ss W hH hblk hsz),
   fun p cap W => callsIn_wide.2 (AnyM.slices_Sort_string_none Tryd.sort33 p cap W)⟩
open Go.RowKit Go.Maps Go.Sort Go.Shelf in
theorem Tryd.maps_Keys_20 (mb : Option Nat) (W : World) : CallsIn Fence.wide 5 Tryd.prog 20 #[.map mb] W fun e w' => e = .returned (.func (.func 34) #[] #[.pointer (some ⟨W.heap.size, 0, none⟩)]) ∧ w' = W.alloc (.cells #[.map mb] 49) :=
  AnyZ.keys_in Tryd.keys20 Fence.wide 5 trivial rfl mb W
open Go.RowKit Go.Maps Go.Sort Go.Shelf in
theorem Tryd.slices_Sorted_keys_19_20 {H : Type} (b nn : Nat) (D0 : DataW H) (R : Value → Option (DataW H × List MemPlace)) (w : World) (hown : w.ownsMap Tryd.prog 9 R b nn D0) (hmax : Maps.size D0 ≤ maxLen) (hbytes : Maps.size D0 * 16 ≤ 140737488355328) :
    CallsIn Fence.wide 5 Tryd.prog 19 #[.func (.func 34) #[] #[.pointer (some ⟨w.heap.size, 0, none⟩)]] (w.alloc (.cells #[.map (some b)] 49)) fun e w' => ∃ (v : Value) (ss : List (List UInt8)), e = .returned v ∧ ss.Perm (strKeys D0) ∧
      w'.ownsRow (w.alloc (.cells #[.map (some b)] 49)).heap.size 9 1 v ss.length ((ss.mergeSort (fun x y => decide (x ≤ y))).map encStr) ∧ (v = .slice none 0 0 ↔ ss = []) ∧ Below (w.alloc (.cells #[.map (some b)] 49)).heap.size (w.alloc (.cells #[.map (some b)] 49)) w' := by
  have hbl := hown.lt
  have hseq : SeqGives Fence.wide 2 Tryd.prog 34 #[.pointer (some ⟨w.heap.size, 0, none⟩)] encStr (fun ss => ss.Perm (strKeys D0)) (Maps.size D0) (w.alloc (.cells #[.map (some b)] 49)) :=
    AnyZ.keys_gives (ρ := Tryd.keys20_ren) { Tryd.keys20 with } Fence.wide _ trivial rfl (by omega) w.heap.size b nn D0 _ (by simp) (by simp) (by
      obtain ⟨es, clock, hb, Ft, hs, hD⟩ := hown
      exact ⟨es, clock, (Below.heap_alloc _ _ b hbl).trans hb, Ft, hs, hD⟩)
  exact AnyZ.sorted_in Tryd.sorted19 Fence.wide 5 trivial trivial trivial trivial rfl (by omega) (Tryd.sorts19 _) (enters_of Tryd.func33 (by kernel_rfl) rfl) 34 #[.pointer (some ⟨w.heap.size, 0, none⟩)] trivial (enters_of Tryd.func34 (by kernel_rfl) rfl) _ _ hmax hbytes _ hseq
end Go.Proofs
end
