/-
  DERIVED: THE SHELF's CONTRACTS AT THIS DUMP, IN PLAIN WORDS (tools/lay-plain.mjs out of 'YtfpfdgljhcpkpaaDoorShelf.lean', which tools/lay-shelf.mjs wrote): THE SAME DECLARATIONS UNDER THE SAME NAMES: 'import', 'namespace', 'open', 'def', 'theorem' AND NOTHING ELSE: no command of the shelf's: FOR A HAND-IN. Each laying: the table of numbers ('.._ren') and one theorem, a field a fact of the dump's own or the kernel's comparison; each contract: ONE APPLICATION.
-/
import Derived.Shelf.Strings.Builder1
import Derived.Shelf.Strings.Trim
import Derived.Shelf.Small.Utf8
import Derived.Shelf.Small.Bits
import Derived.Shelf.Small.Strs
import Derived.Shelf.Strconv.Itoa0
import Derived.Shelf.Strconv.Itoa1
import Derived.Shelf.LaysM
import Derived.Shelf.Strconv.Itoa2
import Derived.Shelf.Strconv.Itoa3
import Derived.Shelf.Strings.Search1
import Derived.Shelf.Strings.Search2
import Derived.Shelf.Strings.Search3
import Derived.Shelf.Strings.Cut
import Derived.Shelf.Strings.Shaped
import Derived.Shelf.Unicode.Decode
import Derived.Shelf.Strings.Runes
import Derived.Shelf.Strings.AsciiSet
import Derived.Shelf.Unicode.DecodeSlow
import Derived.Shelf.Unicode.DecodeAny
import Derived.Shelf.Unicode.DecodeLast
import Derived.Ground.Names2Prog
import Derived.Shelf.Slices.SearchI
import Derived.Ground.SlgcProg
import Derived.Shelf.SlicesG.Cmp
import Derived.Test.YtfpfdgljhcpkpaaDoorProg
import Derived.Shelf.SlSortCmp.WholeK
import Derived.Shelf.SlSortCmp.NoneTotal
import Derived.Ground.SlsfProg
namespace Go.Proofs
open Go.Shelf
def Tryd.laysSlC25_f89_ren : Go.Shelf.Ren := ⟨fun | 5 => 61 | 7 => 93 | n => n, fun | 22 => 3 | 3 => 3 | 4 => 4 | n => n, fun | n => n⟩
theorem Tryd.laysSlC25_f89 : Go.Proofs.SlLaysC2.n5 Tryd.prog Tryd.laysSlC25_f89_ren := {
  mixed := by kernel_rfl
  f5 := ⟨Tryd.f61.name, by decide, Tryd.func61.trans (congrArg some (by kernel_rfl))⟩
  f7 := ⟨Tryd.f93.name, by decide, Tryd.func93.trans (congrArg some (by kernel_rfl))⟩
  t3 := Tryd.underlying3
  a3 := Tryd.isAgg3
  z3 := Tryd.sizeOf3
  v3 := Tryd.zeroValue3
  t4 := Tryd.underlying4
  a4 := Tryd.isAgg4
  z4 := Tryd.sizeOf4
  v4 := Tryd.zeroValue4
  t22 := Tryd.underlying3
  a22 := Tryd.isAgg3
  z22 := Tryd.sizeOf3
  v22 := Tryd.zeroValue3 }
open Go.Lib in
/-- cmp.Compare at an int under a name: "Compare returns -1 if x is less than y, 0 if x equals y, +1 if x is greater than y.": IT RETURNS 'Lib.compareInt x y'; the world is as it was. (LAID AT THE INSTANCE 'cmp.Compare[int]': no walk: one application.) -/
theorem Tryd.cmp_Compare_int_f89 (x y : Int) (w : World) :
    Calls Tryd.prog 61 #[.int .i64 x, .int .i64 y] w fun e w' => e = .returned (.int .i64 (Lib.compareInt x y)) ∧ w' = w := AnyG.cmp_Compare_int Tryd.laysSlC25_f89 x y w
def Tryd.sortFo_ren : Go.Shelf.Ren := ⟨fun | 6 => 59 | 15 => 92 | 14 => 91 | 28 => 134 | 29 => 135 | 20 => 125 | 21 => 127 | 22 => 128 | 23 => 129 | 24 => 130 | 25 => 131 | 26 => 132 | 27 => 133 | 46 => 172 | 47 => 173 | 48 => 174 | 49 => 175 | 50 => 176 | 57 => 196 | n => n, fun | 22 => 90 | 24 => 92 | 25 => 95 | 3 => 3 | 39 => 157 | 0 => 0 | 53 => 205 | 55 => 166 | 4 => 4 | 46 => 199 | 45 => 198 | 50 => 61 | 5 => 5 | 9 => 9 | 66 => 234 | 70 => 238 | 76 => 254 | 77 => 255 | n => n, fun | n => n⟩
theorem Tryd.sortFo : Go.Proofs.SlLaysF0.n6 Tryd.prog Tryd.sortFo_ren := {
  mixed := by kernel_rfl
  f6 := ⟨Tryd.f59.name, by decide, Tryd.func59.trans (congrArg some (by kernel_rfl))⟩
  f14 := ⟨Tryd.f91.name, by decide, Tryd.func91.trans (congrArg some (by kernel_rfl))⟩
  f15 := Tryd.func92.trans (congrArg some (by kernel_rfl))
  f20 := ⟨Tryd.f125.name, by decide, Tryd.func125.trans (congrArg some (by kernel_rfl))⟩
  f21 := ⟨Tryd.f127.name, by decide, Tryd.func127.trans (congrArg some (by kernel_rfl))⟩
  f22 := ⟨Tryd.f128.name, by decide, Tryd.func128.trans (congrArg some (by kernel_rfl))⟩
  f23 := ⟨Tryd.f129.name, by decide, Tryd.func129.trans (congrArg some (by kernel_rfl))⟩
  f24 := ⟨Tryd.f130.name, by decide, Tryd.func130.trans (congrArg some (by kernel_rfl))⟩
  f25 := ⟨Tryd.f131.name, by decide, Tryd.func131.trans (congrArg some (by kernel_rfl))⟩
  f26 := ⟨Tryd.f132.name, by decide, Tryd.func132.trans (congrArg some (by kernel_rfl))⟩
  f27 := ⟨Tryd.f133.name, by decide, Tryd.func133.trans (congrArg some (by kernel_rfl))⟩
  f28 := Tryd.func134.trans (congrArg some (by kernel_rfl))
  f29 := Tryd.func135.trans (congrArg some (by kernel_rfl))
  f46 := ⟨Tryd.f172.name, by decide, Tryd.func172.trans (congrArg some (by kernel_rfl))⟩
  f47 := Tryd.func173.trans (congrArg some (by kernel_rfl))
  f48 := Tryd.func174.trans (congrArg some (by kernel_rfl))
  f49 := ⟨Tryd.f175.name, by decide, Tryd.func175.trans (congrArg some (by kernel_rfl))⟩
  f50 := ⟨Tryd.f176.name, by decide, Tryd.func176.trans (congrArg some (by kernel_rfl))⟩
  f57 := ⟨Tryd.f196.name, by decide, Tryd.func196.trans (congrArg some (by kernel_rfl))⟩
  t0 := Tryd.underlying0
  a0 := Tryd.isAgg0
  z0 := Tryd.sizeOf0
  v0 := Tryd.zeroValue0
  t3 := Tryd.underlying3
  a3 := Tryd.isAgg3
  z3 := Tryd.sizeOf3
  v3 := Tryd.zeroValue3
  t4 := Tryd.underlying4
  a4 := Tryd.isAgg4
  z4 := Tryd.sizeOf4
  v4 := Tryd.zeroValue4
  t5 := Tryd.underlying5
  a5 := Tryd.isAgg5
  z5 := Tryd.sizeOf5
  v5 := Tryd.zeroValue5
  t9 := Tryd.underlying9
  a9 := Tryd.isAgg9
  z9 := Tryd.sizeOf9
  v9 := Tryd.zeroValue9
  t22 := Tryd.underlying90
  a22 := Tryd.isAgg90
  z22 := Tryd.sizeOf90
  v22 := Tryd.zeroValue90
  t25 := Tryd.underlying95
  a25 := Tryd.isAgg95
  z25 := Tryd.sizeOf95
  v25 := Tryd.zeroValue95
  t39 := Tryd.underlying157
  a39 := Tryd.isAgg157
  z39 := Tryd.sizeOf157
  v39 := Tryd.zeroValue157
  t45 := Tryd.underlying198
  a45 := Tryd.isAgg198
  z45 := Tryd.sizeOf198
  v45 := Tryd.zeroValue198
  t46 := Tryd.underlying199
  a46 := Tryd.isAgg199
  z46 := Tryd.sizeOf199
  v46 := Tryd.zeroValue199
  t50 := Tryd.underlying61
  a50 := Tryd.isAgg61
  z50 := Tryd.sizeOf61
  v50 := Tryd.zeroValue61
  t53 := Tryd.underlying205
  a53 := Tryd.isAgg205
  z53 := Tryd.sizeOf205
  v53 := Tryd.zeroValue205
  t55 := Tryd.underlying166
  a55 := Tryd.isAgg166
  z55 := Tryd.sizeOf166
  v55 := Tryd.zeroValue166
  t66 := Tryd.underlying234
  a66 := Tryd.isAgg234
  z66 := Tryd.sizeOf234
  v66 := Tryd.zeroValue234
  t70 := Tryd.underlying238
  a70 := Tryd.isAgg238
  z70 := Tryd.sizeOf238
  v70 := Tryd.zeroValue238
  t76 := Tryd.underlying254
  a76 := Tryd.isAgg254
  z76 := Tryd.sizeOf254
  v76 := Tryd.zeroValue254
  t77 := Tryd.underlying255
  a77 := Tryd.isAgg255
  z77 := Tryd.sizeOf255
  v77 := Tryd.zeroValue255 }
end Go.Proofs
