/- DERIVED: THE SHELF's CONTRACTS AT THIS DUMP, IN PLAIN WORDS .. -/
import Derived.Shelf.Strings.Trim
import Derived.Shelf.Strings.SlTrimAscii
import Derived.Shelf.Strings.Search1
import Derived.Shelf.Strings.Search2
import Derived.Shelf.Strings.Search3
import Derived.Test.YtkkomffmnafjkaaGreatDoorProg
set_option maxHeartbeats 16000000
set_option maxRecDepth 100000
set_option linter.all false
namespace Go.Proofs
open Go.Shelf
def Tryz.lays160_ren:Go.Shelf.Ren:=⟨fun|160=>171|232=>236|231=>235|227=>237|234=>239|233=>238|236=>241|235=>240|228=>281|271=>284|151=>283|197=>282|120=>322|152=>321|260=>320|137=>332|119=>335|224=>289|225=>288|217=>287|266=>323|n=>n,fun|9=>9|4=>4|3=>3|5=>5|117=>292|116=>291|0=>0|124=>295|21=>21|105=>328|46=>213|119=>360|139=>363|138=>362|n=>n,fun|3=>4|4=>5|n=>n⟩
theorem Tryz.lays160:Go.Proofs.Lays.n160 Tryz.prog Tryz.lays160_ren:={
 mixed:=by kernel_rfl
 f119:=Tryz.func335.trans (congrArg some (by kernel_rfl))
 f120:=Tryz.func322.trans (congrArg some (by kernel_rfl))
 f137:=Tryz.func332.trans (congrArg some (by kernel_rfl))
 f151:=Tryz.func283.trans (congrArg some (by kernel_rfl))
 f152:=Tryz.func321.trans (congrArg some (by kernel_rfl))
 f160:=Tryz.func171.trans (congrArg some (by kernel_rfl))
 f197:=Tryz.func282.trans (congrArg some (by kernel_rfl))
 f217:=Tryz.func287.trans (congrArg some (by kernel_rfl))
 f224:=Tryz.func289.trans (congrArg some (by kernel_rfl))
 f225:=Tryz.func288.trans (congrArg some (by kernel_rfl))
 f227:=Tryz.func237.trans (congrArg some (by kernel_rfl))
 f228:=Tryz.func281.trans (congrArg some (by kernel_rfl))
 f231:=Tryz.func235.trans (congrArg some (by kernel_rfl))
 f232:=Tryz.func236.trans (congrArg some (by kernel_rfl))
 f233:=Tryz.func238.trans (congrArg some (by kernel_rfl))
 f234:=Tryz.func239.trans (congrArg some (by kernel_rfl))
 f235:=Tryz.func240.trans (congrArg some (by kernel_rfl))
 f236:=Tryz.func241.trans (congrArg some (by kernel_rfl))
 f260:=Tryz.func320.trans (congrArg some (by kernel_rfl))
 f266:=Tryz.func323.trans (congrArg some (by kernel_rfl))
 f271:=Tryz.func284.trans (congrArg some (by kernel_rfl))
 t0:=Tryz.underlying0
 a0:=Tryz.isAgg0
 z0:=Tryz.sizeOf0
 v0:=Tryz.zeroValue0
 t3:=Tryz.underlying3
 a3:=Tryz.isAgg3
 z3:=Tryz.sizeOf3
 v3:=Tryz.zeroValue3
 t4:=Tryz.underlying4
 a4:=Tryz.isAgg4
 z4:=Tryz.sizeOf4
 v4:=Tryz.zeroValue4
 t5:=Tryz.underlying5
 a5:=Tryz.isAgg5
 z5:=Tryz.sizeOf5
 v5:=Tryz.zeroValue5
 t9:=Tryz.underlying9
 a9:=Tryz.isAgg9
 z9:=Tryz.sizeOf9
 v9:=Tryz.zeroValue9
 t21:=Tryz.underlying21
 a21:=Tryz.isAgg21
 z21:=Tryz.sizeOf21
 v21:=Tryz.zeroValue21
 t46:=Tryz.underlying213
 a46:=Tryz.isAgg213
 z46:=Tryz.sizeOf213
 v46:=Tryz.zeroValue213
 t105:=Tryz.underlying328
 a105:=Tryz.isAgg328
 z105:=Tryz.sizeOf328
 v105:=Tryz.zeroValue328
 t116:=Tryz.underlying291
 a116:=Tryz.isAgg291
 z116:=Tryz.sizeOf291
 t117:=Tryz.underlying292
 a117:=Tryz.isAgg292
 z117:=Tryz.sizeOf292
 v117:=Tryz.zeroValue292
 t119:=Tryz.underlying360
 a119:=Tryz.isAgg360
 z119:=Tryz.sizeOf360
 t124:=Tryz.underlying295
 a124:=Tryz.isAgg295
 z124:=Tryz.sizeOf295
 v124:=Tryz.zeroValue295
 t138:=Tryz.underlying362
 a138:=Tryz.isAgg362
 z138:=Tryz.sizeOf362
 v138:=Tryz.zeroValue362
 t139:=Tryz.underlying363
 a139:=Tryz.isAgg363
 z139:=Tryz.sizeOf363
 v139:=Tryz.zeroValue363
 g3:=by kernel_rfl
 g4:=by kernel_rfl}
end Go.Proofs
