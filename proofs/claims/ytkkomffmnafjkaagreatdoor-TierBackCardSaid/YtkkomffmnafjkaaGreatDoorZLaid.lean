/- DERIVED: THE SHELF's CONTRACTS AT THIS DUMP, IN PLAIN WORDS .. -/
import Derived.Shelf.SlSortCmp.WholeK
import Derived.Shelf.SlSortCmp.NoneTotal
import Derived.Ground.SlsfProg
import Derived.Shelf.Strings.Builder1
import Derived.Shelf.Small.Bits
import Derived.Shelf.Strconv.Itoa0
import Derived.Shelf.Strconv.Itoa1
import Derived.Shelf.LaysM
import Derived.Shelf.Strconv.Itoa2
import Derived.Shelf.Strconv.Itoa3
import Derived.Ground.SlgcProg
import Derived.Shelf.SlicesG.Cmp
import Derived.Test.YtkkomffmnafjkaaGreatDoorProg
set_option maxHeartbeats 16000000
set_option maxRecDepth 100000
set_option linter.all false
namespace Go.Proofs
open Go.Shelf
def Tryz.lays246_ren:Go.Shelf.Ren:=⟨fun|246=>185|283=>252|284=>253|285=>254|286=>255|129=>210|317=>296|318=>297|319=>298|320=>299|337=>326|338=>327|n=>n,fun|2=>2|3=>3|9=>9|4=>4|171=>306|0=>0|53=>261|37=>243|5=>5|173=>308|212=>336|51=>274|20=>20|213=>337|46=>213|232=>364|233=>365|n=>n,fun|17=>3|18=>6|19=>7|n=>n⟩
theorem Tryz.lays246:Go.Proofs.Lays.n246 Tryz.prog Tryz.lays246_ren:={
 mixed:=by kernel_rfl
 f129:=Tryz.func210.trans (congrArg some (by kernel_rfl))
 f246:=Tryz.func185.trans (congrArg some (by kernel_rfl))
 f283:=Tryz.func252.trans (congrArg some (by kernel_rfl))
 f284:=Tryz.func253.trans (congrArg some (by kernel_rfl))
 f285:=Tryz.func254.trans (congrArg some (by kernel_rfl))
 f286:=Tryz.func255.trans (congrArg some (by kernel_rfl))
 f317:=Tryz.func296.trans (congrArg some (by kernel_rfl))
 f318:=Tryz.func297.trans (congrArg some (by kernel_rfl))
 f319:=Tryz.func298.trans (congrArg some (by kernel_rfl))
 f320:=Tryz.func299.trans (congrArg some (by kernel_rfl))
 f337:=Tryz.func326.trans (congrArg some (by kernel_rfl))
 f338:=Tryz.func327.trans (congrArg some (by kernel_rfl))
 t0:=Tryz.underlying0
 a0:=Tryz.isAgg0
 z0:=Tryz.sizeOf0
 v0:=Tryz.zeroValue0
 t2:=Tryz.underlying2
 a2:=Tryz.isAgg2
 z2:=Tryz.sizeOf2
 v2:=Tryz.zeroValue2
 t3:=Tryz.underlying3
 a3:=Tryz.isAgg3
 z3:=Tryz.sizeOf3
 v3:=Tryz.zeroValue3
 t4:=Tryz.underlying4
 a4:=Tryz.isAgg4
 z4:=Tryz.sizeOf4
 v4:=Tryz.zeroValue4
 t5:=Tryz.underlying5
 a5:=Tryz.isAgg5
 z5:=Tryz.sizeOf5
 v5:=Tryz.zeroValue5
 t9:=Tryz.underlying9
 a9:=Tryz.isAgg9
 z9:=Tryz.sizeOf9
 v9:=Tryz.zeroValue9
 t20:=Tryz.underlying20
 a20:=Tryz.isAgg20
 z20:=Tryz.sizeOf20
 v20:=Tryz.zeroValue20
 t37:=Tryz.underlying243
 a37:=Tryz.isAgg243
 z37:=Tryz.sizeOf243
 v37:=Tryz.zeroValue243
 t46:=Tryz.underlying213
 a46:=Tryz.isAgg213
 z46:=Tryz.sizeOf213
 v46:=Tryz.zeroValue213
 t51:=Tryz.underlying274
 a51:=Tryz.isAgg274
 z51:=Tryz.sizeOf274
 v51:=Tryz.zeroValue274
 t53:=Tryz.underlying261
 a53:=Tryz.isAgg261
 z53:=Tryz.sizeOf261
 v53:=Tryz.zeroValue261
 t171:=Tryz.underlying306
 a171:=Tryz.isAgg306
 z171:=Tryz.sizeOf306
 v171:=Tryz.zeroValue306
 t173:=Tryz.underlying308
 a173:=Tryz.isAgg308
 z173:=Tryz.sizeOf308
 v173:=Tryz.zeroValue308
 t212:=Tryz.underlying336
 a212:=Tryz.isAgg336
 z212:=Tryz.sizeOf336
 v212:=Tryz.zeroValue336
 t213:=Tryz.underlying337
 a213:=Tryz.isAgg337
 z213:=Tryz.sizeOf337
 t232:=Tryz.underlying364
 a232:=Tryz.isAgg364
 z232:=Tryz.sizeOf364
 v232:=Tryz.zeroValue364
 t233:=Tryz.underlying365
 a233:=Tryz.isAgg365
 z233:=Tryz.sizeOf365
 v233:=Tryz.zeroValue365
 g17:=by kernel_rfl
 g18:=by kernel_rfl
 g19:=by kernel_rfl}
def Tryz.laysSlC25_f68_ren:Go.Shelf.Ren:=⟨fun|5=>87|7=>145|n=>n,fun|22=>2|3=>3|4=>4|n=>n,fun|n=>n⟩
theorem Tryz.laysSlC25_f68:Go.Proofs.SlLaysC2.n5 Tryz.prog Tryz.laysSlC25_f68_ren:={
 mixed:=by kernel_rfl
 f5:=⟨Tryz.f87.name,by decide,Tryz.func87.trans (congrArg some (by kernel_rfl))⟩
 f7:=⟨Tryz.f145.name,by decide,Tryz.func145.trans (congrArg some (by kernel_rfl))⟩
 t3:=Tryz.underlying3
 a3:=Tryz.isAgg3
 z3:=Tryz.sizeOf3
 v3:=Tryz.zeroValue3
 t4:=Tryz.underlying4
 a4:=Tryz.isAgg4
 z4:=Tryz.sizeOf4
 v4:=Tryz.zeroValue4
 t22:=Tryz.underlying2
 a22:=Tryz.isAgg2
 z22:=Tryz.sizeOf2
 v22:=Tryz.zeroValue2}
open Go.Lib in theorem Tryz.cmp_Compare_int(x y:Int)(w:World):Calls Tryz.prog 87 #[.int .i64 x,.int .i64 y] w fun e w'=>e=.returned (.int .i64 (Lib.compareInt x y))∧w'=w:=AnyG.cmp_Compare_int Tryz.laysSlC25_f68 x y w
end Go.Proofs
