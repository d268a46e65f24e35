/-
  IterP: the kit's contracts on slices.Sorted(maps.Keys(m)) laid at this dump, in plain words (printed by the kit's lay-iter and lay-plain).
-/
import Derived.Shelf.SlIter.Nil
import Derived.Shelf.SortM.Plain
import Derived.Shelf.SortM.SortNone
import Derived.Test.YtkmbjdiodagbhaaProg
set_option linter.unusedSimpArgs false
set_option linter.unusedVariables false
set_option linter.unusedSectionVars false

namespace Go.Proofs
open Go.Shelf Go.RowKit Go.Maps Go.Sort
def Try.keys25_ren : Go.Shelf.Ren := ⟨fun | 7 => 25 | 10 => 37 | n => n, fun | 23 => 58 | 26 => 9 | 3 => 29 | 28 => 64 | 0 => 0 | 27 => 63 | 33 => 61 | 4 => 4 | n => n, fun | n => n⟩
theorem Try.keys25 : Go.Proofs.SlLaysZ.n7 Try.prog Try.keys25_ren := {
  mixed := by kernel_rfl
  f7 := ⟨Try.f25.name, by decide, Try.func25.trans (congrArg some (by kernel_rfl))⟩
  f10 := ⟨Try.f37.name, by decide, Try.func37.trans (congrArg some (by kernel_rfl))⟩
  t0 := Try.underlying0
  a0 := Try.isAgg0
  z0 := Try.sizeOf0
  v0 := Try.zeroValue0
  t4 := Try.underlying4
  a4 := Try.isAgg4
  z4 := Try.sizeOf4
  v4 := Try.zeroValue4
  t23 := Try.underlying58
  a23 := Try.isAgg58
  z23 := Try.sizeOf58
  v23 := Try.zeroValue58
  t26 := Try.underlying9
  a26 := Try.isAgg9
  z26 := Try.sizeOf9
  v26 := Try.zeroValue9
  t27 := Try.underlying63
  a27 := Try.isAgg63
  z27 := Try.sizeOf63
  v27 := Try.zeroValue63
  t28 := Try.underlying64
  a28 := Try.isAgg64
  z28 := Try.sizeOf64
  v28 := Try.zeroValue64
  t33 := Try.underlying61
  a33 := Try.isAgg61
  z33 := Try.sizeOf61
  v33 := Try.zeroValue61 }
def Try.sorted24_ren : Go.Shelf.Ren := ⟨fun | 6 => 24 | 8 => 35 | 9 => 36 | 11 => 56 | 13 => 58 | 12 => 57 | 23 => 80 | 24 => 81 | 14 => 71 | 15 => 72 | 16 => 73 | 17 => 74 | 18 => 75 | 19 => 76 | 20 => 77 | 21 => 78 | 22 => 79 | 25 => 92 | 26 => 93 | 27 => 94 | 28 => 95 | 29 => 96 | 30 => 62 | 31 => 103 | n => n, fun | 26 => 9 | 28 => 64 | 24 => 27 | 0 => 0 | 3 => 3 | 37 => 109 | 48 => 126 | 50 => 128 | 4 => 4 | 40 => 119 | 39 => 118 | 45 => 73 | 5 => 5 | 9 => 9 | 51 => 138 | 55 => 142 | 57 => 148 | 58 => 149 | 33 => 61 | n => n, fun | n => n⟩
theorem Try.sorted24 : Go.Proofs.SlLaysZ.n6 Try.prog Try.sorted24_ren := {
  mixed := by kernel_rfl
  f6 := ⟨Try.f24.name, by decide, Try.func24.trans (congrArg some (by kernel_rfl))⟩
  f8 := ⟨Try.f35.name, by decide, Try.func35.trans (congrArg some (by kernel_rfl))⟩
  f11 := ⟨Try.f56.name, by decide, Try.func56.trans (congrArg some (by kernel_rfl))⟩
  t0 := Try.underlying0
  a0 := Try.isAgg0
  z0 := Try.sizeOf0
  v0 := Try.zeroValue0
  t24 := Try.underlying27
  a24 := Try.isAgg27
  z24 := Try.sizeOf27
  v24 := Try.zeroValue27
  t26 := Try.underlying9
  a26 := Try.isAgg9
  z26 := Try.sizeOf9
  v26 := Try.zeroValue9
  t28 := Try.underlying64
  a28 := Try.isAgg64
  z28 := Try.sizeOf64
  v28 := Try.zeroValue64
  i26 := by kernel_rfl }
def Try.sort36_ren : Go.Shelf.Ren := ⟨fun | 6 => 36 | 8 => 58 | 9 => 57 | 19 => 80 | 20 => 81 | 21 => 71 | 22 => 72 | 23 => 73 | 24 => 74 | 25 => 75 | 26 => 76 | 27 => 77 | 28 => 78 | 29 => 79 | 36 => 92 | 31 => 93 | 32 => 94 | 37 => 95 | 38 => 96 | 39 => 62 | 41 => 103 | n => n, fun | 27 => 27 | 29 => 9 | 3 => 3 | 32 => 109 | 26 => 27 | 0 => 0 | 44 => 126 | 46 => 128 | 4 => 4 | 36 => 119 | 35 => 118 | 41 => 73 | 5 => 5 | 9 => 9 | 53 => 138 | 57 => 142 | 63 => 148 | 64 => 149 | n => n, fun | n => n⟩
theorem Try.sort36 : Go.Proofs.SlLaysM.n6 Try.prog Try.sort36_ren := {
  mixed := by kernel_rfl
  f6 := ⟨Try.f36.name, by decide, Try.func36.trans (congrArg some (by kernel_rfl))⟩
  f8 := Try.func58.trans (congrArg some (by kernel_rfl))
  f9 := ⟨Try.f57.name, by decide, Try.func57.trans (congrArg some (by kernel_rfl))⟩
  f19 := Try.func80.trans (congrArg some (by kernel_rfl))
  f20 := Try.func81.trans (congrArg some (by kernel_rfl))
  f21 := ⟨Try.f71.name, by decide, Try.func71.trans (congrArg some (by kernel_rfl))⟩
  f22 := ⟨Try.f72.name, by decide, Try.func72.trans (congrArg some (by kernel_rfl))⟩
  f23 := ⟨Try.f73.name, by decide, Try.func73.trans (congrArg some (by kernel_rfl))⟩
  f24 := ⟨Try.f74.name, by decide, Try.func74.trans (congrArg some (by kernel_rfl))⟩
  f25 := ⟨Try.f75.name, by decide, Try.func75.trans (congrArg some (by kernel_rfl))⟩
  f26 := ⟨Try.f76.name, by decide, Try.func76.trans (congrArg some (by kernel_rfl))⟩
  f27 := ⟨Try.f77.name, by decide, Try.func77.trans (congrArg some (by kernel_rfl))⟩
  f28 := ⟨Try.f78.name, by decide, Try.func78.trans (congrArg some (by kernel_rfl))⟩
  f29 := ⟨Try.f79.name, by decide, Try.func79.trans (congrArg some (by kernel_rfl))⟩
  f31 := Try.func93.trans (congrArg some (by kernel_rfl))
  f32 := Try.func94.trans (congrArg some (by kernel_rfl))
  f36 := ⟨Try.f92.name, by decide, Try.func92.trans (congrArg some (by kernel_rfl))⟩
  f37 := ⟨Try.f95.name, by decide, Try.func95.trans (congrArg some (by kernel_rfl))⟩
  f38 := ⟨Try.f96.name, by decide, Try.func96.trans (congrArg some (by kernel_rfl))⟩
  f39 := ⟨Try.f62.name, by decide, Try.func62.trans (congrArg some (by kernel_rfl))⟩
  f41 := ⟨Try.f103.name, by decide, Try.func103.trans (congrArg some (by kernel_rfl))⟩
  t0 := Try.underlying0
  a0 := Try.isAgg0
  z0 := Try.sizeOf0
  v0 := Try.zeroValue0
  t3 := Try.underlying3
  a3 := Try.isAgg3
  z3 := Try.sizeOf3
  v3 := Try.zeroValue3
  t4 := Try.underlying4
  a4 := Try.isAgg4
  z4 := Try.sizeOf4
  v4 := Try.zeroValue4
  t5 := Try.underlying5
  a5 := Try.isAgg5
  z5 := Try.sizeOf5
  v5 := Try.zeroValue5
  t9 := Try.underlying9
  a9 := Try.isAgg9
  z9 := Try.sizeOf9
  v9 := Try.zeroValue9
  t26 := Try.underlying27
  a26 := Try.isAgg27
  z26 := Try.sizeOf27
  v26 := Try.zeroValue27
  t27 := Try.underlying27
  a27 := Try.isAgg27
  z27 := Try.sizeOf27
  v27 := Try.zeroValue27
  t29 := Try.underlying9
  a29 := Try.isAgg9
  z29 := Try.sizeOf9
  v29 := Try.zeroValue9
  t32 := Try.underlying109
  a32 := Try.isAgg109
  z32 := Try.sizeOf109
  v32 := Try.zeroValue109
  t35 := Try.underlying118
  a35 := Try.isAgg118
  z35 := Try.sizeOf118
  v35 := Try.zeroValue118
  t36 := Try.underlying119
  a36 := Try.isAgg119
  z36 := Try.sizeOf119
  v36 := Try.zeroValue119
  t41 := Try.underlying73
  a41 := Try.isAgg73
  z41 := Try.sizeOf73
  v41 := Try.zeroValue73
  t44 := Try.underlying126
  a44 := Try.isAgg126
  z44 := Try.sizeOf126
  v44 := Try.zeroValue126
  t46 := Try.underlying128
  a46 := Try.isAgg128
  z46 := Try.sizeOf128
  v46 := Try.zeroValue128
  t53 := Try.underlying138
  a53 := Try.isAgg138
  z53 := Try.sizeOf138
  v53 := Try.zeroValue138
  t57 := Try.underlying142
  a57 := Try.isAgg142
  z57 := Try.sizeOf142
  v57 := Try.zeroValue142
  t63 := Try.underlying148
  a63 := Try.isAgg148
  z63 := Try.sizeOf148
  v63 := Try.zeroValue148
  t64 := Try.underlying149
  a64 := Try.isAgg149
  z64 := Try.sizeOf149
  v64 := Try.zeroValue149 }
theorem Try.sorts24 (m : Nat) : AnyZ.SortsIn Try.prog Try.sorted24_ren Fence.wide m :=
  ⟨fun blk off cap ss W hH hblk hsz => callsIn_wide.2 (AnyM.slices_Sort_string Try.sort36 blk off cap ss W hH hblk hsz),
   fun p cap W => callsIn_wide.2 (AnyM.slices_Sort_string_none Try.sort36 p cap W)⟩
theorem Try.keys10 : Go.Proofs.SlLaysZ.n10 Try.prog Try.keys25_ren := { Try.keys25 with }
end Go.Proofs
