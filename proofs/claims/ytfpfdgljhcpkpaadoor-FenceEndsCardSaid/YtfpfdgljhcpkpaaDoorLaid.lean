/-
  DERIVED: THE SHELF's CONTRACTS AT THIS DUMP, IN PLAIN WORDS (tools/lay-plain.mjs out of 'YtfpfdgljhcpkpaaDoorShelf.lean', which tools/lay-shelf.mjs wrote): THE SAME DECLARATIONS UNDER THE SAME NAMES: 'import', 'namespace', 'open', 'def', 'theorem' AND NOTHING ELSE: no command of the shelf's: FOR A HAND-IN. Each laying: the table of numbers ('.._ren') and one theorem, a field a fact of the dump's own or the kernel's comparison; each contract: ONE APPLICATION.
-/
import Derived.Shelf.SlSortCmp.WholeK
import Derived.Shelf.SlSortCmp.NoneTotal
import Derived.Ground.SlsfProg
import Derived.Shelf.Strings.Builder1
import Derived.Shelf.Small.Bits
import Derived.Shelf.Strconv.Itoa0
import Derived.Shelf.Strconv.Itoa1
import Derived.Shelf.LaysM
import Derived.Shelf.Strconv.Itoa2
import Derived.Shelf.Strconv.Itoa3
import Derived.Ground.SlgcProg
import Derived.Shelf.SlicesG.Cmp
import Derived.Test.YtfpfdgljhcpkpaaDoorProg
namespace Go.Proofs
open Go.Shelf
def Tryd.lays169_ren : Go.Shelf.Ren := ⟨fun | 169 => 78 | n => n, fun | 70 => 134 | 9 => 9 | 0 => 0 | 72 => 137 | 37 => 135 | 127 => 183 | 3 => 3 | 5 => 5 | n => n, fun | n => n⟩
theorem Tryd.lays169 : Go.Proofs.Lays.n169 Tryd.prog Tryd.lays169_ren := {
  mixed := by kernel_rfl
  f169 := Tryd.func78.trans (congrArg some (by kernel_rfl))
  t0 := Tryd.underlying0
  a0 := Tryd.isAgg0
  z0 := Tryd.sizeOf0
  v0 := Tryd.zeroValue0
  t3 := Tryd.underlying3
  a3 := Tryd.isAgg3
  z3 := Tryd.sizeOf3
  v3 := Tryd.zeroValue3
  t9 := Tryd.underlying9
  a9 := Tryd.isAgg9
  z9 := Tryd.sizeOf9
  v9 := Tryd.zeroValue9
  t37 := Tryd.underlying135
  a37 := Tryd.isAgg135
  z37 := Tryd.sizeOf135
  v37 := Tryd.zeroValue135
  t70 := Tryd.underlying134
  a70 := Tryd.isAgg134
  z70 := Tryd.sizeOf134
  v70 := Tryd.zeroValue134
  t72 := Tryd.underlying137
  a72 := Tryd.isAgg137
  z72 := Tryd.sizeOf137
  v72 := Tryd.zeroValue137
  t127 := Tryd.underlying183
  a127 := Tryd.isAgg183
  z127 := Tryd.sizeOf183
  v127 := Tryd.zeroValue183 }
theorem Tryd.Builder_Extra_169 : Builder.Extra Tryd.prog Tryd.lays169_ren := {
  sizeBuilder := by kernel_rfl
  liesBuilder := by kernel_rfl
  t5 := Tryd.underlying5
  a5 := Tryd.isAgg5
  z5 := Tryd.sizeOf5
  v5 := Tryd.zeroValue5
  infoByte := by kernel_rfl
  cellsByte := by kernel_rfl
  sizeByte := by kernel_rfl
  neB5 := by decide }
open Go.RowKit in
/-- (*strings.Builder).String: "String returns the accumulated string.": OF A BUILDER THAT HOLDS AT LEAST ONE BYTE. ✋ THE MODEL FREEZES THOSE BYTES IN THE BUFFER (unsafe.String): a later write INTO them ends the model's run without an answer; a later append BEHIND them goes on. The statement's order of evaluation is drawn: one draw. (LAID: no walk: one application.) -/
theorem Tryd.Builder_String (B b : Nat) (l : List UInt8) (w : World) (h : Lib.IsBuilder 137 5 B b (Lib.byteCells l) w) (h0 : l ≠ []) :
    Calls Tryd.prog 78 #[.pointer (some ⟨b, 0, none⟩)] w fun e w' => e = .returned (.string ⟨l.toArray⟩) ∧ Below B w w' := Any.Builder_String Tryd.lays169 Tryd.Builder_Extra_169 B b l w h h0
open Go.RowKit in
/-- (*strings.Builder).String OF A BUILDER THAT HOLDS NO BYTE: the empty string. (Its buffer is nil, or a row of which it has taken nothing yet; where that row has NO capacity the model lays one new block for unsafe.SliceData's 'some address'.) One draw. (LAID: no walk: one application.) -/
theorem Tryd.Builder_String_empty (B b : Nat) (w : World) (h : Lib.IsBuilder 137 5 B b [] w) (hBw : B ≤ w.heap.size) :
    Calls Tryd.prog 78 #[.pointer (some ⟨b, 0, none⟩)] w fun e w' => e = .returned (.string ⟨#[]⟩) ∧ Below B w w' := Any.Builder_String_empty Tryd.lays169 Tryd.Builder_Extra_169 B b w h hBw
open Go.RowKit in
/-- (*strings.Builder).String: "String returns the accumulated string.": WHATEVER THE BUILDER HOLDS. (LAID: no walk: one application.) -/
theorem Tryd.Builder_String_any (B b : Nat) (l : List UInt8) (w : World) (h : Lib.IsBuilder 137 5 B b (Lib.byteCells l) w) (hBw : B ≤ w.heap.size) :
    Calls Tryd.prog 78 #[.pointer (some ⟨b, 0, none⟩)] w fun e w' => e = .returned (.string ⟨l.toArray⟩) ∧ Below B w w' := Any.Builder_String_any Tryd.lays169 Tryd.Builder_Extra_169 B b l w h hBw
def Tryd.lays246_ren : Go.Shelf.Ren := ⟨fun | 246 => 112 | 283 => 152 | 284 => 153 | 285 => 154 | 286 => 155 | 129 => 135 | 317 => 184 | 318 => 185 | 319 => 186 | 320 => 187 | 337 => 207 | 338 => 208 | n => n, fun | 2 => 2 | 3 => 3 | 9 => 9 | 4 => 4 | 171 => 221 | 0 => 0 | 53 => 166 | 37 => 135 | 5 => 5 | 173 => 223 | 212 => 249 | 51 => 205 | 20 => 20 | 213 => 250 | 46 => 157 | 232 => 275 | 233 => 276 | n => n, fun | 17 => 3 | 18 => 7 | 19 => 8 | n => n⟩
theorem Tryd.lays246 : Go.Proofs.Lays.n246 Tryd.prog Tryd.lays246_ren := {
  mixed := by kernel_rfl
  f129 := Tryd.func135.trans (congrArg some (by kernel_rfl))
  f246 := Tryd.func112.trans (congrArg some (by kernel_rfl))
  f283 := Tryd.func152.trans (congrArg some (by kernel_rfl))
  f284 := Tryd.func153.trans (congrArg some (by kernel_rfl))
  f285 := Tryd.func154.trans (congrArg some (by kernel_rfl))
  f286 := Tryd.func155.trans (congrArg some (by kernel_rfl))
  f317 := Tryd.func184.trans (congrArg some (by kernel_rfl))
  f318 := Tryd.func185.trans (congrArg some (by kernel_rfl))
  f319 := Tryd.func186.trans (congrArg some (by kernel_rfl))
  f320 := Tryd.func187.trans (congrArg some (by kernel_rfl))
  f337 := Tryd.func207.trans (congrArg some (by kernel_rfl))
  f338 := Tryd.func208.trans (congrArg some (by kernel_rfl))
  t0 := Tryd.underlying0
  a0 := Tryd.isAgg0
  z0 := Tryd.sizeOf0
  v0 := Tryd.zeroValue0
  t2 := Tryd.underlying2
  a2 := Tryd.isAgg2
  z2 := Tryd.sizeOf2
  v2 := Tryd.zeroValue2
  t3 := Tryd.underlying3
  a3 := Tryd.isAgg3
  z3 := Tryd.sizeOf3
  v3 := Tryd.zeroValue3
  t4 := Tryd.underlying4
  a4 := Tryd.isAgg4
  z4 := Tryd.sizeOf4
  v4 := Tryd.zeroValue4
  t5 := Tryd.underlying5
  a5 := Tryd.isAgg5
  z5 := Tryd.sizeOf5
  v5 := Tryd.zeroValue5
  t9 := Tryd.underlying9
  a9 := Tryd.isAgg9
  z9 := Tryd.sizeOf9
  v9 := Tryd.zeroValue9
  t20 := Tryd.underlying20
  a20 := Tryd.isAgg20
  z20 := Tryd.sizeOf20
  v20 := Tryd.zeroValue20
  t37 := Tryd.underlying135
  a37 := Tryd.isAgg135
  z37 := Tryd.sizeOf135
  v37 := Tryd.zeroValue135
  t46 := Tryd.underlying157
  a46 := Tryd.isAgg157
  z46 := Tryd.sizeOf157
  v46 := Tryd.zeroValue157
  t51 := Tryd.underlying205
  a51 := Tryd.isAgg205
  z51 := Tryd.sizeOf205
  v51 := Tryd.zeroValue205
  t53 := Tryd.underlying166
  a53 := Tryd.isAgg166
  z53 := Tryd.sizeOf166
  v53 := Tryd.zeroValue166
  t171 := Tryd.underlying221
  a171 := Tryd.isAgg221
  z171 := Tryd.sizeOf221
  v171 := Tryd.zeroValue221
  t173 := Tryd.underlying223
  a173 := Tryd.isAgg223
  z173 := Tryd.sizeOf223
  v173 := Tryd.zeroValue223
  t212 := Tryd.underlying249
  a212 := Tryd.isAgg249
  z212 := Tryd.sizeOf249
  v212 := Tryd.zeroValue249
  t213 := Tryd.underlying250
  a213 := Tryd.isAgg250
  z213 := Tryd.sizeOf250
  t232 := Tryd.underlying275
  a232 := Tryd.isAgg275
  z232 := Tryd.sizeOf275
  v232 := Tryd.zeroValue275
  t233 := Tryd.underlying276
  a233 := Tryd.isAgg276
  z233 := Tryd.sizeOf276
  v233 := Tryd.zeroValue276
  g17 := by kernel_rfl
  g18 := by kernel_rfl
  g19 := by kernel_rfl }
open Go.RowKit Go.Sort Go.Lib in
/-- THE ROAD WITHOUT THE TABLE: 0 <= i < 100: two constants are read, nothing is laid: no premise on the world, and the world is as it was. (LAID: no walk: one application.) -/
theorem Tryd.internal_strconv_FormatInt_10_small (i : Nat) (hi : i < 100) (w : World) :
    Calls Tryd.prog 112 #[.int .i64 i, .int .i64 10] w fun e w' => e = .returned (.string ⟨(Lib.decDigits i).toArray⟩) ∧ w' = w := Any.internal_strconv_FormatInt_10_small Tryd.lays246 i hi w
def Tryd.laysSlC25_f68_ren : Go.Shelf.Ren := ⟨fun | 5 => 58 | 7 => 90 | n => n, fun | 22 => 2 | 3 => 3 | 4 => 4 | n => n, fun | n => n⟩
theorem Tryd.laysSlC25_f68 : Go.Proofs.SlLaysC2.n5 Tryd.prog Tryd.laysSlC25_f68_ren := {
  mixed := by kernel_rfl
  f5 := ⟨Tryd.f58.name, by decide, Tryd.func58.trans (congrArg some (by kernel_rfl))⟩
  f7 := ⟨Tryd.f90.name, by decide, Tryd.func90.trans (congrArg some (by kernel_rfl))⟩
  t3 := Tryd.underlying3
  a3 := Tryd.isAgg3
  z3 := Tryd.sizeOf3
  v3 := Tryd.zeroValue3
  t4 := Tryd.underlying4
  a4 := Tryd.isAgg4
  z4 := Tryd.sizeOf4
  v4 := Tryd.zeroValue4
  t22 := Tryd.underlying2
  a22 := Tryd.isAgg2
  z22 := Tryd.sizeOf2
  v22 := Tryd.zeroValue2 }
open Go.Lib in
/-- cmp.Compare at an int under a name: "Compare returns -1 if x is less than y, 0 if x equals y, +1 if x is greater than y.": IT RETURNS 'Lib.compareInt x y'; the world is as it was. (LAID AT THE INSTANCE 'cmp.Compare[int64]': no walk: one application.) -/
theorem Tryd.cmp_Compare_int (x y : Int) (w : World) :
    Calls Tryd.prog 58 #[.int .i64 x, .int .i64 y] w fun e w' => e = .returned (.int .i64 (Lib.compareInt x y)) ∧ w' = w := AnyG.cmp_Compare_int Tryd.laysSlC25_f68 x y w
def Tryd.sortSp_ren : Go.Shelf.Ren := ⟨fun | 6 => 85 | 15 => 92 | 14 => 124 | 28 => 134 | 29 => 135 | 20 => 163 | 21 => 164 | 22 => 165 | 23 => 166 | 24 => 167 | 25 => 168 | 26 => 169 | 27 => 170 | 46 => 192 | 47 => 173 | 48 => 174 | 49 => 193 | 50 => 194 | 57 => 215 | n => n, fun | 22 => 22 | 24 => 48 | 25 => 151 | 3 => 3 | 39 => 157 | 0 => 0 | 53 => 205 | 55 => 166 | 4 => 4 | 46 => 199 | 45 => 198 | 50 => 61 | 5 => 5 | 9 => 9 | 66 => 234 | 70 => 238 | 76 => 254 | 77 => 255 | n => n, fun | n => n⟩
theorem Tryd.sortSp : Go.Proofs.SlLaysF0.n6 Tryd.prog Tryd.sortSp_ren := {
  mixed := by kernel_rfl
  f6 := ⟨Tryd.f85.name, by decide, Tryd.func85.trans (congrArg some (by kernel_rfl))⟩
  f14 := ⟨Tryd.f124.name, by decide, Tryd.func124.trans (congrArg some (by kernel_rfl))⟩
  f15 := Tryd.func92.trans (congrArg some (by kernel_rfl))
  f20 := ⟨Tryd.f163.name, by decide, Tryd.func163.trans (congrArg some (by kernel_rfl))⟩
  f21 := ⟨Tryd.f164.name, by decide, Tryd.func164.trans (congrArg some (by kernel_rfl))⟩
  f22 := ⟨Tryd.f165.name, by decide, Tryd.func165.trans (congrArg some (by kernel_rfl))⟩
  f23 := ⟨Tryd.f166.name, by decide, Tryd.func166.trans (congrArg some (by kernel_rfl))⟩
  f24 := ⟨Tryd.f167.name, by decide, Tryd.func167.trans (congrArg some (by kernel_rfl))⟩
  f25 := ⟨Tryd.f168.name, by decide, Tryd.func168.trans (congrArg some (by kernel_rfl))⟩
  f26 := ⟨Tryd.f169.name, by decide, Tryd.func169.trans (congrArg some (by kernel_rfl))⟩
  f27 := ⟨Tryd.f170.name, by decide, Tryd.func170.trans (congrArg some (by kernel_rfl))⟩
  f28 := Tryd.func134.trans (congrArg some (by kernel_rfl))
  f29 := Tryd.func135.trans (congrArg some (by kernel_rfl))
  f46 := ⟨Tryd.f192.name, by decide, Tryd.func192.trans (congrArg some (by kernel_rfl))⟩
  f47 := Tryd.func173.trans (congrArg some (by kernel_rfl))
  f48 := Tryd.func174.trans (congrArg some (by kernel_rfl))
  f49 := ⟨Tryd.f193.name, by decide, Tryd.func193.trans (congrArg some (by kernel_rfl))⟩
  f50 := ⟨Tryd.f194.name, by decide, Tryd.func194.trans (congrArg some (by kernel_rfl))⟩
  f57 := ⟨Tryd.f215.name, by decide, Tryd.func215.trans (congrArg some (by kernel_rfl))⟩
  t0 := Tryd.underlying0
  a0 := Tryd.isAgg0
  z0 := Tryd.sizeOf0
  v0 := Tryd.zeroValue0
  t3 := Tryd.underlying3
  a3 := Tryd.isAgg3
  z3 := Tryd.sizeOf3
  v3 := Tryd.zeroValue3
  t4 := Tryd.underlying4
  a4 := Tryd.isAgg4
  z4 := Tryd.sizeOf4
  v4 := Tryd.zeroValue4
  t5 := Tryd.underlying5
  a5 := Tryd.isAgg5
  z5 := Tryd.sizeOf5
  v5 := Tryd.zeroValue5
  t9 := Tryd.underlying9
  a9 := Tryd.isAgg9
  z9 := Tryd.sizeOf9
  v9 := Tryd.zeroValue9
  t22 := Tryd.underlying22
  a22 := Tryd.isAgg22
  z22 := Tryd.sizeOf22
  v22 := Tryd.zeroValue22
  t25 := Tryd.underlying151
  a25 := Tryd.isAgg151
  z25 := Tryd.sizeOf151
  v25 := Tryd.zeroValue151
  t39 := Tryd.underlying157
  a39 := Tryd.isAgg157
  z39 := Tryd.sizeOf157
  v39 := Tryd.zeroValue157
  t45 := Tryd.underlying198
  a45 := Tryd.isAgg198
  z45 := Tryd.sizeOf198
  v45 := Tryd.zeroValue198
  t46 := Tryd.underlying199
  a46 := Tryd.isAgg199
  z46 := Tryd.sizeOf199
  v46 := Tryd.zeroValue199
  t50 := Tryd.underlying61
  a50 := Tryd.isAgg61
  z50 := Tryd.sizeOf61
  v50 := Tryd.zeroValue61
  t53 := Tryd.underlying205
  a53 := Tryd.isAgg205
  z53 := Tryd.sizeOf205
  v53 := Tryd.zeroValue205
  t55 := Tryd.underlying166
  a55 := Tryd.isAgg166
  z55 := Tryd.sizeOf166
  v55 := Tryd.zeroValue166
  t66 := Tryd.underlying234
  a66 := Tryd.isAgg234
  z66 := Tryd.sizeOf234
  v66 := Tryd.zeroValue234
  t70 := Tryd.underlying238
  a70 := Tryd.isAgg238
  z70 := Tryd.sizeOf238
  v70 := Tryd.zeroValue238
  t76 := Tryd.underlying254
  a76 := Tryd.isAgg254
  z76 := Tryd.sizeOf254
  v76 := Tryd.zeroValue254
  t77 := Tryd.underlying255
  a77 := Tryd.isAgg255
  z77 := Tryd.sizeOf255
  v77 := Tryd.zeroValue255 }
end Go.Proofs
