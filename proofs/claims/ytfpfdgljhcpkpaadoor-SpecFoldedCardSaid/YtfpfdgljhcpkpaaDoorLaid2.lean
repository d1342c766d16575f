/-
  DERIVED: THE SHELF's CONTRACTS AT THIS DUMP, IN PLAIN WORDS (tools/lay-plain.mjs out of 'YtfpfdgljhcpkpaaDoorShelf.lean', which tools/lay-shelf.mjs wrote): THE SAME DECLARATIONS UNDER THE SAME NAMES: 'import', 'namespace', 'open', 'def', 'theorem' AND NOTHING ELSE: no command of the shelf's: FOR A HAND-IN. Each laying: the table of numbers ('.._ren') and one theorem, a field a fact of the dump's own or the kernel's comparison; each contract: ONE APPLICATION.
-/
import Derived.Shelf.Strings.Trim
import Derived.Shelf.Strings.SlTrimAscii
import Derived.Shelf.Strings.Search1
import Derived.Shelf.Strings.Search2
import Derived.Shelf.Strings.Search3
import Derived.Test.YtfpfdgljhcpkpaaDoorProg
namespace Go.Proofs
open Go.Shelf
def Tryd.lays160_ren : Go.Shelf.Ren := ⟨fun | 160 => 81 | 232 => 115 | 231 => 114 | 227 => 116 | 234 => 118 | 233 => 117 | 236 => 120 | 235 => 119 | 228 => 159 | 271 => 161 | 151 => 160 | 197 => 157 | 120 => 191 | 152 => 190 | 260 => 188 | 137 => 213 | 119 => 214 | 224 => 211 | 225 => 210 | 217 => 209 | 266 => 219 | n => n, fun | 9 => 9 | 4 => 4 | 3 => 3 | 5 => 5 | 117 => 188 | 116 => 187 | 0 => 0 | 124 => 191 | 21 => 21 | 105 => 225 | 46 => 157 | 119 => 266 | 139 => 269 | 138 => 268 | n => n, fun | 3 => 4 | 4 => 5 | n => n⟩
theorem Tryd.lays160 : Go.Proofs.Lays.n160 Tryd.prog Tryd.lays160_ren := {
  mixed := by kernel_rfl
  f119 := Tryd.func214.trans (congrArg some (by kernel_rfl))
  f120 := Tryd.func191.trans (congrArg some (by kernel_rfl))
  f137 := Tryd.func213.trans (congrArg some (by kernel_rfl))
  f151 := Tryd.func160.trans (congrArg some (by kernel_rfl))
  f152 := Tryd.func190.trans (congrArg some (by kernel_rfl))
  f160 := Tryd.func81.trans (congrArg some (by kernel_rfl))
  f197 := Tryd.func157.trans (congrArg some (by kernel_rfl))
  f217 := Tryd.func209.trans (congrArg some (by kernel_rfl))
  f224 := Tryd.func211.trans (congrArg some (by kernel_rfl))
  f225 := Tryd.func210.trans (congrArg some (by kernel_rfl))
  f227 := Tryd.func116.trans (congrArg some (by kernel_rfl))
  f228 := Tryd.func159.trans (congrArg some (by kernel_rfl))
  f231 := Tryd.func114.trans (congrArg some (by kernel_rfl))
  f232 := Tryd.func115.trans (congrArg some (by kernel_rfl))
  f233 := Tryd.func117.trans (congrArg some (by kernel_rfl))
  f234 := Tryd.func118.trans (congrArg some (by kernel_rfl))
  f235 := Tryd.func119.trans (congrArg some (by kernel_rfl))
  f236 := Tryd.func120.trans (congrArg some (by kernel_rfl))
  f260 := Tryd.func188.trans (congrArg some (by kernel_rfl))
  f266 := Tryd.func219.trans (congrArg some (by kernel_rfl))
  f271 := Tryd.func161.trans (congrArg some (by kernel_rfl))
  t0 := Tryd.underlying0
  a0 := Tryd.isAgg0
  z0 := Tryd.sizeOf0
  v0 := Tryd.zeroValue0
  t3 := Tryd.underlying3
  a3 := Tryd.isAgg3
  z3 := Tryd.sizeOf3
  v3 := Tryd.zeroValue3
  t4 := Tryd.underlying4
  a4 := Tryd.isAgg4
  z4 := Tryd.sizeOf4
  v4 := Tryd.zeroValue4
  t5 := Tryd.underlying5
  a5 := Tryd.isAgg5
  z5 := Tryd.sizeOf5
  v5 := Tryd.zeroValue5
  t9 := Tryd.underlying9
  a9 := Tryd.isAgg9
  z9 := Tryd.sizeOf9
  v9 := Tryd.zeroValue9
  t21 := Tryd.underlying21
  a21 := Tryd.isAgg21
  z21 := Tryd.sizeOf21
  v21 := Tryd.zeroValue21
  t46 := Tryd.underlying157
  a46 := Tryd.isAgg157
  z46 := Tryd.sizeOf157
  v46 := Tryd.zeroValue157
  t105 := Tryd.underlying225
  a105 := Tryd.isAgg225
  z105 := Tryd.sizeOf225
  v105 := Tryd.zeroValue225
  t116 := Tryd.underlying187
  a116 := Tryd.isAgg187
  z116 := Tryd.sizeOf187
  t117 := Tryd.underlying188
  a117 := Tryd.isAgg188
  z117 := Tryd.sizeOf188
  v117 := Tryd.zeroValue188
  t119 := Tryd.underlying266
  a119 := Tryd.isAgg266
  z119 := Tryd.sizeOf266
  t124 := Tryd.underlying191
  a124 := Tryd.isAgg191
  z124 := Tryd.sizeOf191
  v124 := Tryd.zeroValue191
  t138 := Tryd.underlying268
  a138 := Tryd.isAgg268
  z138 := Tryd.sizeOf268
  v138 := Tryd.zeroValue268
  t139 := Tryd.underlying269
  a139 := Tryd.isAgg269
  z139 := Tryd.sizeOf269
  v139 := Tryd.zeroValue269
  g3 := by kernel_rfl
  g4 := by kernel_rfl }
open Go.RowKit in
/-- strings.Trim: "Trim returns a slice of the string s with all leading and trailing Unicode code points contained in cutset removed.": AT A cutset OF ONE ASCII BYTE. THE WORLD BEHIND IT: as it was, or (where s is not empty) with ONE DRAW MORE off the tape: the statement 'return trimLeftByte(trimRightByte(s, c), c)' draws its order of evaluation. (LAID: no walk: one application.) -/
theorem Tryd.strings_Trim_one (s : ByteArray) (c : UInt8) (hc : c.toNat < 128) (w : World) (hs : s.size ≤ 9223372036854775807) :
    Calls Tryd.prog 81 #[.string s, .string ⟨#[c]⟩] w fun e w' => e = .returned (.string ⟨(Lib.trimB s.data.toList c).toArray⟩) ∧ (w' = w ∨ w' = w.drew) := Any.strings_Trim_one Tryd.lays160 s c hc w hs
def Tryd.lays219_ren : Go.Shelf.Ren := ⟨fun | 219 => 189 | 217 => 209 | 225 => 210 | 224 => 211 | 267 => 212 | 266 => 219 | 314 => 220 | n => n, fun | 9 => 9 | 3 => 3 | 4 => 4 | 5 => 5 | 46 => 157 | 146 => 277 | 51 => 205 | n => n, fun | 1 => 6 | n => n⟩
theorem Tryd.lays219 : Go.Proofs.Lays.n219 Tryd.prog Tryd.lays219_ren := {
  mixed := by kernel_rfl
  f217 := Tryd.func209.trans (congrArg some (by kernel_rfl))
  f219 := Tryd.func189.trans (congrArg some (by kernel_rfl))
  f224 := Tryd.func211.trans (congrArg some (by kernel_rfl))
  f225 := Tryd.func210.trans (congrArg some (by kernel_rfl))
  f266 := Tryd.func219.trans (congrArg some (by kernel_rfl))
  f267 := Tryd.func212.trans (congrArg some (by kernel_rfl))
  f314 := Tryd.func220.trans (congrArg some (by kernel_rfl))
  t3 := Tryd.underlying3
  a3 := Tryd.isAgg3
  z3 := Tryd.sizeOf3
  v3 := Tryd.zeroValue3
  t4 := Tryd.underlying4
  a4 := Tryd.isAgg4
  z4 := Tryd.sizeOf4
  v4 := Tryd.zeroValue4
  t5 := Tryd.underlying5
  a5 := Tryd.isAgg5
  z5 := Tryd.sizeOf5
  v5 := Tryd.zeroValue5
  t9 := Tryd.underlying9
  a9 := Tryd.isAgg9
  z9 := Tryd.sizeOf9
  v9 := Tryd.zeroValue9
  t46 := Tryd.underlying157
  a46 := Tryd.isAgg157
  z46 := Tryd.sizeOf157
  v46 := Tryd.zeroValue157
  t51 := Tryd.underlying205
  a51 := Tryd.isAgg205
  z51 := Tryd.sizeOf205
  v51 := Tryd.zeroValue205
  t146 := Tryd.underlying277
  a146 := Tryd.isAgg277
  z146 := Tryd.sizeOf277
  v146 := Tryd.zeroValue277
  g1 := by kernel_rfl }
open Go.RowKit Go.Lib in
/-- internal/stringslite.Index (what strings.Index calls) AT A substr OF ONE BYTE c: IT RETURNS 'Lib.indexByte s c'; the world is as it was. (LAID: no walk: one application.) -/
theorem Tryd.stringslite_Index_one (s : ByteArray) (c : UInt8) (w : World) :
    Calls Tryd.prog 189 #[.string s, .string ⟨#[c]⟩] w fun e w' => e = .returned (.int .i64 (Lib.indexByte s.data.toList c)) ∧ w' = w := Any.stringslite_Index_one Tryd.lays219 s c w
def Tryd.lays143_ren : Go.Shelf.Ren := ⟨fun | 143 => 158 | 219 => 189 | 217 => 209 | 225 => 210 | 224 => 211 | 267 => 212 | 266 => 219 | 314 => 220 | n => n, fun | 9 => 9 | 3 => 3 | 4 => 4 | 5 => 5 | 46 => 157 | 146 => 277 | 51 => 205 | n => n, fun | 1 => 6 | n => n⟩
theorem Tryd.lays143 : Go.Proofs.Lays.n143 Tryd.prog Tryd.lays143_ren := {
  mixed := by kernel_rfl
  f143 := Tryd.func158.trans (congrArg some (by kernel_rfl))
  f217 := Tryd.func209.trans (congrArg some (by kernel_rfl))
  f219 := Tryd.func189.trans (congrArg some (by kernel_rfl))
  f224 := Tryd.func211.trans (congrArg some (by kernel_rfl))
  f225 := Tryd.func210.trans (congrArg some (by kernel_rfl))
  f266 := Tryd.func219.trans (congrArg some (by kernel_rfl))
  f267 := Tryd.func212.trans (congrArg some (by kernel_rfl))
  f314 := Tryd.func220.trans (congrArg some (by kernel_rfl))
  t3 := Tryd.underlying3
  a3 := Tryd.isAgg3
  z3 := Tryd.sizeOf3
  v3 := Tryd.zeroValue3
  t4 := Tryd.underlying4
  a4 := Tryd.isAgg4
  z4 := Tryd.sizeOf4
  v4 := Tryd.zeroValue4
  t5 := Tryd.underlying5
  a5 := Tryd.isAgg5
  z5 := Tryd.sizeOf5
  v5 := Tryd.zeroValue5
  t9 := Tryd.underlying9
  a9 := Tryd.isAgg9
  z9 := Tryd.sizeOf9
  v9 := Tryd.zeroValue9
  t46 := Tryd.underlying157
  a46 := Tryd.isAgg157
  z46 := Tryd.sizeOf157
  v46 := Tryd.zeroValue157
  t51 := Tryd.underlying205
  a51 := Tryd.isAgg205
  z51 := Tryd.sizeOf205
  v51 := Tryd.zeroValue205
  t146 := Tryd.underlying277
  a146 := Tryd.isAgg277
  z146 := Tryd.sizeOf277
  v146 := Tryd.zeroValue277
  g1 := by kernel_rfl }
open Go.RowKit Go.Lib in
/-- strings.Index: "Index returns the index of the first instance of substr in s, or -1 if substr is not present in s.": AT A substr OF ONE BYTE c: IT RETURNS 'Lib.indexByte s c'; the world is as it was. (LAID: no walk: one application.) -/
theorem Tryd.strings_Index_one (s : ByteArray) (c : UInt8) (w : World) :
    Calls Tryd.prog 158 #[.string s, .string ⟨#[c]⟩] w fun e w' => e = .returned (.int .i64 (Lib.indexByte s.data.toList c)) ∧ w' = w := Any.strings_Index_one Tryd.lays143 s c w

end Go.Proofs
