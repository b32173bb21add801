/- The library's functions that the search calls (strings.Contains, slices.Clone, slices.Grow), by the shelf's contracts. Conditions: none beyond those that each theorem states. -/
import Derived.Shelf.Strings.Search1
import Derived.Shelf.Strings.Search2
import Derived.Shelf.Strings.Search3
import Derived.Shelf.LaysM
import Derived.Shelf.Strings.Shaped
import Derived.Shelf.Slices.Clone
import Derived.Shelf.Spec.SlicesGrow
import Derived.Test.YthofobcbbddeeaaProg
namespace Go.Proofs.Ythofobcbbddeeaa.SrchS
open Go.Shelf Go.Proofs
set_option linter.unusedVariables false
def lays144_ren : Go.Shelf.Ren := ⟨fun | 144 => 86 | 143 => 90 | 219 => 92 | 217 => 93 | 225 => 94 | 224 => 95 | 267 => 96 | 266 => 97 | 314 => 98 | n => n, fun | 9 => 9 | 4 => 4 | 3 => 3 | 5 => 5 | 46 => 115 | 146 => 119 | 51 => 118 | n => n, fun | 1 => 0 | n => n⟩
theorem lays144 : Go.Proofs.Lays.n144 Try.prog lays144_ren := {
  mixed := by kernel_rfl
  f143 := Try.func90.trans (congrArg some (by kernel_rfl))
  f144 := Try.func86.trans (congrArg some (by kernel_rfl))
  f217 := Try.func93.trans (congrArg some (by kernel_rfl))
  f219 := Try.func92.trans (congrArg some (by kernel_rfl))
  f224 := Try.func95.trans (congrArg some (by kernel_rfl))
  f225 := Try.func94.trans (congrArg some (by kernel_rfl))
  f266 := Try.func97.trans (congrArg some (by kernel_rfl))
  f267 := Try.func96.trans (congrArg some (by kernel_rfl))
  f314 := Try.func98.trans (congrArg some (by kernel_rfl))
  t3 := Try.underlying3
  a3 := Try.isAgg3
  z3 := Try.sizeOf3
  v3 := Try.zeroValue3
  t4 := Try.underlying4
  a4 := Try.isAgg4
  z4 := Try.sizeOf4
  v4 := Try.zeroValue4
  t5 := Try.underlying5
  a5 := Try.isAgg5
  z5 := Try.sizeOf5
  v5 := Try.zeroValue5
  t9 := Try.underlying9
  a9 := Try.isAgg9
  z9 := Try.sizeOf9
  v9 := Try.zeroValue9
  t46 := Try.underlying115
  a46 := Try.isAgg115
  z46 := Try.sizeOf115
  v46 := Try.zeroValue115
  t51 := Try.underlying118
  a51 := Try.isAgg118
  z51 := Try.sizeOf118
  v51 := Try.zeroValue118
  t146 := Try.underlying119
  a146 := Try.isAgg119
  z146 := Try.sizeOf119
  v146 := Try.zeroValue119
  g1 := by kernel_rfl }
open Go.RowKit Go.Lib in
theorem strings_Contains (s sub : ByteArray) (m : Int) (w : World) (hs : s.size < 4294967281) (hm : w.cell? ⟨0, 0, none⟩ = some (.int .i64 m)) :
    Calls Try.prog 86 #[.string s, .string sub] w fun e w' => e = .returned (.bool (Lib.contains s.data.toList sub.data.toList)) ∧ w' = w := Any.strings_Contains lays144 s sub m w hs hm
def laysM144_ren : Go.Shelf.Ren := ⟨fun | 144 => 86 | 143 => 90 | 219 => 92 | 217 => 93 | 225 => 94 | 224 => 95 | 267 => 96 | 266 => 97 | 314 => 98 | n => n, fun | 9 => 9 | 4 => 4 | 3 => 3 | 5 => 5 | 46 => 115 | 146 => 119 | 51 => 118 | n => n, fun | 1 => 0 | n => n⟩
theorem laysM144 : Go.Proofs.LaysM.n144 Try.prog laysM144_ren := {
  mixed := by kernel_rfl
  f143 := Try.func90.trans (congrArg some (by kernel_rfl))
  f144 := Try.func86.trans (congrArg some (by kernel_rfl))
  f217 := Try.func93.trans (congrArg some (by kernel_rfl))
  f219 := Try.func92.trans (congrArg some (by kernel_rfl))
  f224 := Try.func95.trans (congrArg some (by kernel_rfl))
  f225 := Try.func94.trans (congrArg some (by kernel_rfl))
  f266 := Try.func97.trans (congrArg some (by kernel_rfl))
  f267 := Try.func96.trans (congrArg some (by kernel_rfl))
  f314 := Try.func98.trans (congrArg some (by kernel_rfl))
  t3 := Try.underlying3
  a3 := Try.isAgg3
  z3 := Try.sizeOf3
  v3 := Try.zeroValue3
  t4 := Try.underlying4
  a4 := Try.isAgg4
  z4 := Try.sizeOf4
  v4 := Try.zeroValue4
  t5 := Try.underlying5
  a5 := Try.isAgg5
  z5 := Try.sizeOf5
  v5 := Try.zeroValue5
  t9 := Try.underlying9
  a9 := Try.isAgg9
  z9 := Try.sizeOf9
  v9 := Try.zeroValue9
  t46 := Try.underlying115
  a46 := Try.isAgg115
  z46 := Try.sizeOf115
  v46 := Try.zeroValue115
  t51 := Try.underlying118
  a51 := Try.isAgg118
  z51 := Try.sizeOf118
  v51 := Try.zeroValue118
  t146 := Try.underlying119
  a146 := Try.isAgg119
  z146 := Try.sizeOf119
  v146 := Try.zeroValue119
  g1 := by kernel_rfl
  i3 := by kernel_rfl
  i4 := by kernel_rfl
  i5 := by kernel_rfl
  i9 := by kernel_rfl
  i46 := by kernel_rfl
  i51 := by kernel_rfl
  i146 := by kernel_rfl
  m1 := by kernel_rfl
  s1_3 := fun w h => Go.Proofs.cell_of_shapedOpen_int (zero := #[.int .i64 0]) (t := 3) h (of_decide_eq_true (by kernel_rfl)) (by kernel_rfl) rfl (by kernel_rfl) (by kernel_rfl) Try.underlying3 }
def laysNm216_ren : Go.Shelf.Ren := ⟨fun | 16 => 68 | n => n, fun | 24 => 42 | 9 => 9 | 4 => 4 | n => n, fun | n => n⟩
theorem laysNm216 : Go.Proofs.Lays2.n16 Try.prog laysNm216_ren := {
  mixed := by kernel_rfl
  f16 := Try.func68.trans (congrArg some (by kernel_rfl))
  t4 := Try.underlying4
  a4 := Try.isAgg4
  z4 := Try.sizeOf4
  v4 := Try.zeroValue4
  t9 := Try.underlying9
  a9 := Try.isAgg9
  z9 := Try.sizeOf9
  v9 := Try.zeroValue9
  t24 := Try.underlying42
  a24 := Try.isAgg42
  z24 := Try.sizeOf42
  v24 := Try.zeroValue42
  i9 := by kernel_rfl }
open Go.RowKit Go.Lib in
theorem slices_Clone_string (b off n c : Nat) (zs : List ByteArray) (w : World) (hz : n ≤ zs.length) (hbig : n * 16 ≤ 140737488355328) (hc : ∀ j, j < zs.length → w.cell? ⟨b, off + j, none⟩ = some (.string (zs.getD j ByteArray.empty))) :
    Calls Try.prog 68 #[.slice (some ⟨b, off, none⟩) n c] w fun e w' => ∃ v', e = .returned v' ∧ w'.ownsRow w.heap.size 9 1 v' n ((zs.take n).map (Value.string)) ∧ v' ≠ .slice none 0 0 ∧ Below w.heap.size w w' := Any.slices_Clone_string laysNm216 b off n c zs w hz hbig hc
open Go.RowKit Go.Lib in
theorem slices_Clone_string_nil (n c : Nat) (w : World) :
    Calls Try.prog 68 #[.slice none n c] w fun e w' => e = .returned (.slice none 0 0) ∧ w' = w := Any.slices_Clone_string_nil laysNm216 n c w
open Go.RowKit Go.Lib in
theorem slices_Clone_string_zero (a : Addr) (c : Nat) (w : World) :
    Calls Try.prog 68 #[.slice (some a) 0 c] w fun e w' => ∃ v', e = .returned v' ∧ w'.ownsRow w.heap.size 9 1 v' 0 [] ∧ v' ≠ .slice none 0 0 ∧ Below w.heap.size w w' := Any.slices_Clone_string_zero laysNm216 a c w
def growren : Go.Shelf.Ren := ⟨fun | 4 => 85 | n => n, fun | 22 => 42 | 25 => 9 | n => n, fun | n => n⟩
theorem lays8n4 : Go.Proofs.Lays8.n4 Try.prog growren := {
  mixed := by kernel_rfl
  f4 := ⟨Try.f85.name, by decide, Try.func85.trans (congrArg some (by kernel_rfl))⟩
  t0 := Try.underlying0
  a0 := Try.isAgg0
  z0 := Try.sizeOf0
  v0 := Try.zeroValue0
  t3 := Try.underlying3
  a3 := Try.isAgg3
  z3 := Try.sizeOf3
  v3 := Try.zeroValue3
  t4 := Try.underlying4
  a4 := Try.isAgg4
  z4 := Try.sizeOf4
  v4 := Try.zeroValue4
  t9 := Try.underlying9
  a9 := Try.isAgg9
  z9 := Try.sizeOf9
  v9 := Try.zeroValue9
  t20 := Try.underlying20
  a20 := Try.isAgg20
  z20 := Try.sizeOf20
  v20 := Try.zeroValue20
  t22 := Try.underlying42
  a22 := Try.isAgg42
  z22 := Try.sizeOf42
  v22 := Try.zeroValue42 }
end Go.Proofs.Ythofobcbbddeeaa.SrchS
