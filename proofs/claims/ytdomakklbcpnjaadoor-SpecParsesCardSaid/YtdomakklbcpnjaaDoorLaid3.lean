/-
  DERIVED: THE SHELF's CONTRACTS AT THIS DUMP, IN PLAIN WORDS (tools/lay-plain.mjs out of 'YtdomakklbcpnjaaDoorShelf.lean', which tools/lay-shelf.mjs wrote): THE SAME DECLARATIONS UNDER THE SAME NAMES: 'import', 'namespace', 'open', 'def', 'theorem' AND NOTHING ELSE: no command of the shelf's: FOR A HAND-IN. Each laying: the table of numbers ('.._ren') and one theorem, a field a fact of the dump's own or the kernel's comparison; each contract: ONE APPLICATION.
-/
import Derived.Shelf.Strings.Builder1
import Derived.Shelf.Strings.Trim
import Derived.Shelf.Small.Utf8
import Derived.Shelf.Small.Bits
import Derived.Shelf.Small.Strs
import Derived.Shelf.Strconv.Itoa0
import Derived.Shelf.Strconv.Itoa1
import Derived.Shelf.LaysM
import Derived.Shelf.Strconv.Itoa2
import Derived.Shelf.Strconv.Itoa3
import Derived.Shelf.Strings.Search1
import Derived.Shelf.Strings.Search2
import Derived.Shelf.Strings.Search3
import Derived.Shelf.Strings.Cut
import Derived.Shelf.Strings.Shaped
import Derived.Shelf.Unicode.Decode
import Derived.Shelf.Strings.Runes
import Derived.Shelf.Strings.AsciiSet
import Derived.Shelf.Unicode.DecodeSlow
import Derived.Shelf.Unicode.DecodeAny
import Derived.Shelf.Unicode.DecodeLast
import Derived.Ground.Names2Prog
import Derived.Shelf.Slices.SearchI
import Derived.Ground.SlgcProg
import Derived.Shelf.SlicesG.Cmp
import Derived.Test.YtdomakklbcpnjaaDoorProg
import Derived.Shelf.SlSortCmp.WholeK
import Derived.Shelf.SlSortCmp.NoneTotal
import Derived.Ground.SlsfProg
import Derived.Ground.SlgcProg
import Derived.Shelf.SlicesG.Cmp
namespace Go.Proofs
open Go.Shelf
def Tryd.laysSlC25_f89_ren : Go.Shelf.Ren := ⟨fun | 5 => 89 | 7 => 124 | n => n, fun | 22 => 3 | 3 => 3 | 4 => 4 | n => n, fun | n => n⟩
theorem Tryd.laysSlC25_f89 : Go.Proofs.SlLaysC2.n5 Tryd.prog Tryd.laysSlC25_f89_ren := {
  mixed := by kernel_rfl
  f5 := ⟨Tryd.f89.name, by decide, Tryd.func89.trans (congrArg some (by kernel_rfl))⟩
  f7 := ⟨Tryd.f124.name, by decide, Tryd.func124.trans (congrArg some (by kernel_rfl))⟩
  t3 := Tryd.underlying3
  a3 := Tryd.isAgg3
  z3 := Tryd.sizeOf3
  v3 := Tryd.zeroValue3
  t4 := Tryd.underlying4
  a4 := Tryd.isAgg4
  z4 := Tryd.sizeOf4
  v4 := Tryd.zeroValue4
  t22 := Tryd.underlying3
  a22 := Tryd.isAgg3
  z22 := Tryd.sizeOf3
  v22 := Tryd.zeroValue3 }
open Go.Lib in
/-- cmp.Compare at an int under a name: "Compare returns -1 if x is less than y, 0 if x equals y, +1 if x is greater than y.": IT RETURNS 'Lib.compareInt x y'; the world is as it was. (LAID AT THE INSTANCE 'cmp.Compare[int]': no walk: one application.) -/
theorem Tryd.cmp_Compare_int_f89 (x y : Int) (w : World) :
    Calls Tryd.prog 89 #[.int .i64 x, .int .i64 y] w fun e w' => e = .returned (.int .i64 (Lib.compareInt x y)) ∧ w' = w := AnyG.cmp_Compare_int Tryd.laysSlC25_f89 x y w
def Tryd.sortFo_ren : Go.Shelf.Ren := ⟨fun | 6 => 87 | 15 => 107 | 14 => 123 | 28 => 151 | 29 => 152 | 20 => 162 | 21 => 164 | 22 => 165 | 23 => 166 | 24 => 167 | 25 => 168 | 26 => 169 | 27 => 170 | 46 => 200 | 47 => 190 | 48 => 191 | 49 => 201 | 50 => 202 | 57 => 221 | n => n, fun | 22 => 113 | 24 => 115 | 25 => 117 | 3 => 3 | 39 => 163 | 0 => 0 | 53 => 214 | 55 => 189 | 4 => 4 | 46 => 208 | 45 => 207 | 50 => 82 | 5 => 5 | 9 => 9 | 66 => 243 | 70 => 247 | 76 => 262 | 77 => 263 | n => n, fun | n => n⟩
theorem Tryd.sortFo : Go.Proofs.SlLaysF0.n6 Tryd.prog Tryd.sortFo_ren := {
  mixed := by kernel_rfl
  f6 := ⟨Tryd.f87.name, by decide, Tryd.func87.trans (congrArg some (by kernel_rfl))⟩
  f14 := ⟨Tryd.f123.name, by decide, Tryd.func123.trans (congrArg some (by kernel_rfl))⟩
  f15 := Tryd.func107.trans (congrArg some (by kernel_rfl))
  f20 := ⟨Tryd.f162.name, by decide, Tryd.func162.trans (congrArg some (by kernel_rfl))⟩
  f21 := ⟨Tryd.f164.name, by decide, Tryd.func164.trans (congrArg some (by kernel_rfl))⟩
  f22 := ⟨Tryd.f165.name, by decide, Tryd.func165.trans (congrArg some (by kernel_rfl))⟩
  f23 := ⟨Tryd.f166.name, by decide, Tryd.func166.trans (congrArg some (by kernel_rfl))⟩
  f24 := ⟨Tryd.f167.name, by decide, Tryd.func167.trans (congrArg some (by kernel_rfl))⟩
  f25 := ⟨Tryd.f168.name, by decide, Tryd.func168.trans (congrArg some (by kernel_rfl))⟩
  f26 := ⟨Tryd.f169.name, by decide, Tryd.func169.trans (congrArg some (by kernel_rfl))⟩
  f27 := ⟨Tryd.f170.name, by decide, Tryd.func170.trans (congrArg some (by kernel_rfl))⟩
  f28 := Tryd.func151.trans (congrArg some (by kernel_rfl))
  f29 := Tryd.func152.trans (congrArg some (by kernel_rfl))
  f46 := ⟨Tryd.f200.name, by decide, Tryd.func200.trans (congrArg some (by kernel_rfl))⟩
  f47 := Tryd.func190.trans (congrArg some (by kernel_rfl))
  f48 := Tryd.func191.trans (congrArg some (by kernel_rfl))
  f49 := ⟨Tryd.f201.name, by decide, Tryd.func201.trans (congrArg some (by kernel_rfl))⟩
  f50 := ⟨Tryd.f202.name, by decide, Tryd.func202.trans (congrArg some (by kernel_rfl))⟩
  f57 := ⟨Tryd.f221.name, by decide, Tryd.func221.trans (congrArg some (by kernel_rfl))⟩
  t0 := Tryd.underlying0
  a0 := Tryd.isAgg0
  z0 := Tryd.sizeOf0
  v0 := Tryd.zeroValue0
  t3 := Tryd.underlying3
  a3 := Tryd.isAgg3
  z3 := Tryd.sizeOf3
  v3 := Tryd.zeroValue3
  t4 := Tryd.underlying4
  a4 := Tryd.isAgg4
  z4 := Tryd.sizeOf4
  v4 := Tryd.zeroValue4
  t5 := Tryd.underlying5
  a5 := Tryd.isAgg5
  z5 := Tryd.sizeOf5
  v5 := Tryd.zeroValue5
  t9 := Tryd.underlying9
  a9 := Tryd.isAgg9
  z9 := Tryd.sizeOf9
  v9 := Tryd.zeroValue9
  t22 := Tryd.underlying113
  a22 := Tryd.isAgg113
  z22 := Tryd.sizeOf113
  v22 := Tryd.zeroValue113
  t25 := Tryd.underlying117
  a25 := Tryd.isAgg117
  z25 := Tryd.sizeOf117
  v25 := Tryd.zeroValue117
  t39 := Tryd.underlying163
  a39 := Tryd.isAgg163
  z39 := Tryd.sizeOf163
  v39 := Tryd.zeroValue163
  t45 := Tryd.underlying207
  a45 := Tryd.isAgg207
  z45 := Tryd.sizeOf207
  v45 := Tryd.zeroValue207
  t46 := Tryd.underlying208
  a46 := Tryd.isAgg208
  z46 := Tryd.sizeOf208
  v46 := Tryd.zeroValue208
  t50 := Tryd.underlying82
  a50 := Tryd.isAgg82
  z50 := Tryd.sizeOf82
  v50 := Tryd.zeroValue82
  t53 := Tryd.underlying214
  a53 := Tryd.isAgg214
  z53 := Tryd.sizeOf214
  v53 := Tryd.zeroValue214
  t55 := Tryd.underlying189
  a55 := Tryd.isAgg189
  z55 := Tryd.sizeOf189
  v55 := Tryd.zeroValue189
  t66 := Tryd.underlying243
  a66 := Tryd.isAgg243
  z66 := Tryd.sizeOf243
  v66 := Tryd.zeroValue243
  t70 := Tryd.underlying247
  a70 := Tryd.isAgg247
  z70 := Tryd.sizeOf247
  v70 := Tryd.zeroValue247
  t76 := Tryd.underlying262
  a76 := Tryd.isAgg262
  z76 := Tryd.sizeOf262
  v76 := Tryd.zeroValue262
  t77 := Tryd.underlying263
  a77 := Tryd.isAgg263
  z77 := Tryd.sizeOf263
  v77 := Tryd.zeroValue263 }
end Go.Proofs
