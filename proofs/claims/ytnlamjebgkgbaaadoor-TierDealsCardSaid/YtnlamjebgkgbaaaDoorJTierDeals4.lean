/- The sort at points, laid at this dump. -/
import Derived.Test.YtnlamjebgkgbaaaDoorProg
import Derived.Shelf.SlSortCmp.WholeK
import Derived.Shelf.SlSortCmp.NoneTotal
import Derived.Ground.SlsfProg
namespace Go.Proofs
open Go.Shelf
def Tryd.sortPt_ren : Go.Shelf.Ren := ⟨fun | 6 => 44 | 15 => 57 | 14 => 56 | 28 => 71 | 29 => 72 | 20 => 63 | 21 => 64 | 22 => 65 | 23 => 66 | 24 => 67 | 25 => 68 | 26 => 69 | 27 => 70 | 46 => 79 | 47 => 80 | 48 => 81 | 49 => 82 | 50 => 83 | 57 => 88 | n => n, fun | 22 => 89 | 24 => 92 | 25 => 111 | 3 => 3 | 39 => 112 | 0 => 0 | 53 => 137 | 55 => 90 | 4 => 4 | 46 => 131 | 45 => 130 | 50 => 33 | 5 => 5 | 9 => 9 | 66 => 148 | 70 => 152 | 76 => 158 | 77 => 159 | n => n, fun | n => n⟩
theorem Tryd.sortPt : Go.Proofs.SlLaysF0.n6 Tryd.prog Tryd.sortPt_ren := {
  mixed := by kernel_rfl
  f6 := ⟨Tryd.f44.name, by decide, Tryd.func44.trans (congrArg some (by kernel_rfl))⟩
  f14 := ⟨Tryd.f56.name, by decide, Tryd.func56.trans (congrArg some (by kernel_rfl))⟩
  f15 := Tryd.func57.trans (congrArg some (by kernel_rfl))
  f20 := ⟨Tryd.f63.name, by decide, Tryd.func63.trans (congrArg some (by kernel_rfl))⟩
  f21 := ⟨Tryd.f64.name, by decide, Tryd.func64.trans (congrArg some (by kernel_rfl))⟩
  f22 := ⟨Tryd.f65.name, by decide, Tryd.func65.trans (congrArg some (by kernel_rfl))⟩
  f23 := ⟨Tryd.f66.name, by decide, Tryd.func66.trans (congrArg some (by kernel_rfl))⟩
  f24 := ⟨Tryd.f67.name, by decide, Tryd.func67.trans (congrArg some (by kernel_rfl))⟩
  f25 := ⟨Tryd.f68.name, by decide, Tryd.func68.trans (congrArg some (by kernel_rfl))⟩
  f26 := ⟨Tryd.f69.name, by decide, Tryd.func69.trans (congrArg some (by kernel_rfl))⟩
  f27 := ⟨Tryd.f70.name, by decide, Tryd.func70.trans (congrArg some (by kernel_rfl))⟩
  f28 := Tryd.func71.trans (congrArg some (by kernel_rfl))
  f29 := Tryd.func72.trans (congrArg some (by kernel_rfl))
  f46 := ⟨Tryd.f79.name, by decide, Tryd.func79.trans (congrArg some (by kernel_rfl))⟩
  f47 := Tryd.func80.trans (congrArg some (by kernel_rfl))
  f48 := Tryd.func81.trans (congrArg some (by kernel_rfl))
  f49 := ⟨Tryd.f82.name, by decide, Tryd.func82.trans (congrArg some (by kernel_rfl))⟩
  f50 := ⟨Tryd.f83.name, by decide, Tryd.func83.trans (congrArg some (by kernel_rfl))⟩
  f57 := ⟨Tryd.f88.name, by decide, Tryd.func88.trans (congrArg some (by kernel_rfl))⟩
  t0 := Tryd.underlying0
  a0 := Tryd.isAgg0
  z0 := Tryd.sizeOf0
  v0 := Tryd.zeroValue0
  t3 := Tryd.underlying3
  a3 := Tryd.isAgg3
  z3 := Tryd.sizeOf3
  v3 := Tryd.zeroValue3
  t4 := Tryd.underlying4
  a4 := Tryd.isAgg4
  z4 := Tryd.sizeOf4
  v4 := Tryd.zeroValue4
  t5 := Tryd.underlying5
  a5 := Tryd.isAgg5
  z5 := Tryd.sizeOf5
  v5 := Tryd.zeroValue5
  t9 := Tryd.underlying9
  a9 := Tryd.isAgg9
  z9 := Tryd.sizeOf9
  v9 := Tryd.zeroValue9
  t22 := Tryd.underlying89
  a22 := Tryd.isAgg89
  z22 := Tryd.sizeOf89
  v22 := Tryd.zeroValue89
  t25 := Tryd.underlying111
  a25 := Tryd.isAgg111
  z25 := Tryd.sizeOf111
  v25 := Tryd.zeroValue111
  t39 := Tryd.underlying112
  a39 := Tryd.isAgg112
  z39 := Tryd.sizeOf112
  v39 := Tryd.zeroValue112
  t45 := Tryd.underlying130
  a45 := Tryd.isAgg130
  z45 := Tryd.sizeOf130
  v45 := Tryd.zeroValue130
  t46 := Tryd.underlying131
  a46 := Tryd.isAgg131
  z46 := Tryd.sizeOf131
  v46 := Tryd.zeroValue131
  t50 := Tryd.underlying33
  a50 := Tryd.isAgg33
  z50 := Tryd.sizeOf33
  v50 := Tryd.zeroValue33
  t53 := Tryd.underlying137
  a53 := Tryd.isAgg137
  z53 := Tryd.sizeOf137
  v53 := Tryd.zeroValue137
  t55 := Tryd.underlying90
  a55 := Tryd.isAgg90
  z55 := Tryd.sizeOf90
  v55 := Tryd.zeroValue90
  t66 := Tryd.underlying148
  a66 := Tryd.isAgg148
  z66 := Tryd.sizeOf148
  v66 := Tryd.zeroValue148
  t70 := Tryd.underlying152
  a70 := Tryd.isAgg152
  z70 := Tryd.sizeOf152
  v70 := Tryd.zeroValue152
  t76 := Tryd.underlying158
  a76 := Tryd.isAgg158
  z76 := Tryd.sizeOf158
  v76 := Tryd.zeroValue158
  t77 := Tryd.underlying159
  a77 := Tryd.isAgg159
  z77 := Tryd.sizeOf159
  v77 := Tryd.zeroValue159 }
end Go.Proofs
