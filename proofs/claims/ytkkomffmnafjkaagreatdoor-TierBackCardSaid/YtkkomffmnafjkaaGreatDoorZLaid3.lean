/- DERIVED: THE SHELF's CONTRACTS AT THIS DUMP, IN PLAIN WORDS .. -/
import Derived.Shelf.Strings.Builder1
import Derived.Shelf.Strings.Trim
import Derived.Shelf.Small.Utf8
import Derived.Shelf.Small.Bits
import Derived.Shelf.Small.Strs
import Derived.Shelf.Strconv.Itoa0
import Derived.Shelf.Strconv.Itoa1
import Derived.Shelf.LaysM
import Derived.Shelf.Strconv.Itoa2
import Derived.Shelf.Strconv.Itoa3
import Derived.Shelf.Strings.Search1
import Derived.Shelf.Strings.Search2
import Derived.Shelf.Strings.Search3
import Derived.Shelf.Strings.Cut
import Derived.Shelf.Strings.Shaped
import Derived.Shelf.Unicode.Decode
import Derived.Shelf.Strings.Runes
import Derived.Shelf.Strings.AsciiSet
import Derived.Shelf.Unicode.DecodeSlow
import Derived.Shelf.Unicode.DecodeAny
import Derived.Shelf.Unicode.DecodeLast
import Derived.Ground.Names2Prog
import Derived.Shelf.Slices.SearchI
import Derived.Ground.SlgcProg
import Derived.Shelf.SlicesG.Cmp
import Derived.Test.YtkkomffmnafjkaaGreatDoorProg
import Derived.Shelf.SlSortCmp.WholeK
import Derived.Shelf.SlSortCmp.NoneTotal
import Derived.Ground.SlsfProg
set_option maxHeartbeats 16000000
set_option maxRecDepth 100000
set_option linter.all false
namespace Go.Proofs
open Go.Shelf
def Tryz.laysSlC25_f89_ren:Go.Shelf.Ren:=⟨fun|5=>194|7=>260|n=>n,fun|22=>3|3=>3|4=>4|n=>n,fun|n=>n⟩
theorem Tryz.laysSlC25_f89:Go.Proofs.SlLaysC2.n5 Tryz.prog Tryz.laysSlC25_f89_ren:={
 mixed:=by kernel_rfl
 f5:=⟨Tryz.f194.name,by decide,Tryz.func194.trans (congrArg some (by kernel_rfl))⟩
 f7:=⟨Tryz.f260.name,by decide,Tryz.func260.trans (congrArg some (by kernel_rfl))⟩
 t3:=Tryz.underlying3
 a3:=Tryz.isAgg3
 z3:=Tryz.sizeOf3
 v3:=Tryz.zeroValue3
 t4:=Tryz.underlying4
 a4:=Tryz.isAgg4
 z4:=Tryz.sizeOf4
 v4:=Tryz.zeroValue4
 t22:=Tryz.underlying3
 a22:=Tryz.isAgg3
 z22:=Tryz.sizeOf3
 v22:=Tryz.zeroValue3}
open Go.Lib in theorem Tryz.cmp_Compare_int_f89(x y:Int)(w:World):Calls Tryz.prog 194 #[.int .i64 x,.int .i64 y] w fun e w'=>e=.returned (.int .i64 (Lib.compareInt x y))∧w'=w:=AnyG.cmp_Compare_int Tryz.laysSlC25_f89 x y w
def Tryz.sortFo_ren:Go.Shelf.Ren:=⟨fun|6=>192|15=>144|14=>259|28=>209|29=>210|20=>302|21=>304|22=>305|23=>306|24=>307|25=>308|26=>309|27=>310|46=>329|47=>267|48=>268|49=>330|50=>331|57=>337|n=>n,fun|22=>254|24=>256|25=>258|3=>3|39=>213|0=>0|53=>274|55=>261|4=>4|46=>267|45=>266|50=>271|5=>5|9=>9|66=>317|70=>321|76=>350|77=>351|n=>n,fun|n=>n⟩
theorem Tryz.sortFo:Go.Proofs.SlLaysF0.n6 Tryz.prog Tryz.sortFo_ren:={
 mixed:=by kernel_rfl
 f6:=⟨Tryz.f192.name,by decide,Tryz.func192.trans (congrArg some (by kernel_rfl))⟩
 f14:=⟨Tryz.f259.name,by decide,Tryz.func259.trans (congrArg some (by kernel_rfl))⟩
 f15:=Tryz.func144.trans (congrArg some (by kernel_rfl))
 f20:=⟨Tryz.f302.name,by decide,Tryz.func302.trans (congrArg some (by kernel_rfl))⟩
 f21:=⟨Tryz.f304.name,by decide,Tryz.func304.trans (congrArg some (by kernel_rfl))⟩
 f22:=⟨Tryz.f305.name,by decide,Tryz.func305.trans (congrArg some (by kernel_rfl))⟩
 f23:=⟨Tryz.f306.name,by decide,Tryz.func306.trans (congrArg some (by kernel_rfl))⟩
 f24:=⟨Tryz.f307.name,by decide,Tryz.func307.trans (congrArg some (by kernel_rfl))⟩
 f25:=⟨Tryz.f308.name,by decide,Tryz.func308.trans (congrArg some (by kernel_rfl))⟩
 f26:=⟨Tryz.f309.name,by decide,Tryz.func309.trans (congrArg some (by kernel_rfl))⟩
 f27:=⟨Tryz.f310.name,by decide,Tryz.func310.trans (congrArg some (by kernel_rfl))⟩
 f28:=Tryz.func209.trans (congrArg some (by kernel_rfl))
 f29:=Tryz.func210.trans (congrArg some (by kernel_rfl))
 f46:=⟨Tryz.f329.name,by decide,Tryz.func329.trans (congrArg some (by kernel_rfl))⟩
 f47:=Tryz.func267.trans (congrArg some (by kernel_rfl))
 f48:=Tryz.func268.trans (congrArg some (by kernel_rfl))
 f49:=⟨Tryz.f330.name,by decide,Tryz.func330.trans (congrArg some (by kernel_rfl))⟩
 f50:=⟨Tryz.f331.name,by decide,Tryz.func331.trans (congrArg some (by kernel_rfl))⟩
 f57:=⟨Tryz.f337.name,by decide,Tryz.func337.trans (congrArg some (by kernel_rfl))⟩
 t0:=Tryz.underlying0
 a0:=Tryz.isAgg0
 z0:=Tryz.sizeOf0
 v0:=Tryz.zeroValue0
 t3:=Tryz.underlying3
 a3:=Tryz.isAgg3
 z3:=Tryz.sizeOf3
 v3:=Tryz.zeroValue3
 t4:=Tryz.underlying4
 a4:=Tryz.isAgg4
 z4:=Tryz.sizeOf4
 v4:=Tryz.zeroValue4
 t5:=Tryz.underlying5
 a5:=Tryz.isAgg5
 z5:=Tryz.sizeOf5
 v5:=Tryz.zeroValue5
 t9:=Tryz.underlying9
 a9:=Tryz.isAgg9
 z9:=Tryz.sizeOf9
 v9:=Tryz.zeroValue9
 t22:=Tryz.underlying254
 a22:=Tryz.isAgg254
 z22:=Tryz.sizeOf254
 v22:=Tryz.zeroValue254
 t25:=Tryz.underlying258
 a25:=Tryz.isAgg258
 z25:=Tryz.sizeOf258
 v25:=Tryz.zeroValue258
 t39:=Tryz.underlying213
 a39:=Tryz.isAgg213
 z39:=Tryz.sizeOf213
 v39:=Tryz.zeroValue213
 t45:=Tryz.underlying266
 a45:=Tryz.isAgg266
 z45:=Tryz.sizeOf266
 v45:=Tryz.zeroValue266
 t46:=Tryz.underlying267
 a46:=Tryz.isAgg267
 z46:=Tryz.sizeOf267
 v46:=Tryz.zeroValue267
 t50:=Tryz.underlying271
 a50:=Tryz.isAgg271
 z50:=Tryz.sizeOf271
 v50:=Tryz.zeroValue271
 t53:=Tryz.underlying274
 a53:=Tryz.isAgg274
 z53:=Tryz.sizeOf274
 v53:=Tryz.zeroValue274
 t55:=Tryz.underlying261
 a55:=Tryz.isAgg261
 z55:=Tryz.sizeOf261
 v55:=Tryz.zeroValue261
 t66:=Tryz.underlying317
 a66:=Tryz.isAgg317
 z66:=Tryz.sizeOf317
 v66:=Tryz.zeroValue317
 t70:=Tryz.underlying321
 a70:=Tryz.isAgg321
 z70:=Tryz.sizeOf321
 v70:=Tryz.zeroValue321
 t76:=Tryz.underlying350
 a76:=Tryz.isAgg350
 z76:=Tryz.sizeOf350
 v76:=Tryz.zeroValue350
 t77:=Tryz.underlying351
 a77:=Tryz.isAgg351
 z77:=Tryz.sizeOf351
 v77:=Tryz.zeroValue351}
end Go.Proofs
