/- DERIVED: THE SHELF's CONTRACTS AT THIS DUMP, IN PLAIN WORDS .. -/
import Derived.Shelf.Strings.SlTrimAscii
import Derived.Shelf.Strings.Search3
import Derived.Test.YtbphndihjdiiiaaGreatDoorProg
set_option maxHeartbeats 16000000
set_option maxRecDepth 100000
set_option linter.all false
namespace Go.Proofs
open Go.Shelf
def Tryz.lays160_ren:Go.Shelf.Ren:=⟨fun|160=>310|232=>319|231=>318|227=>320|234=>322|233=>321|236=>324|235=>323|228=>327|271=>329|151=>328|197=>161|120=>331|152=>330|260=>216|137=>317|119=>332|224=>262|225=>261|217=>260|266=>290|n=>n,fun|9=>9|4=>4|3=>3|5=>5|117=>338|116=>337|0=>0|124=>341|21=>21|105=>217|46=>156|119=>294|139=>297|138=>296|n=>n,fun|3=>0|4=>1|n=>n⟩
theorem Tryz.lays160:Go.Proofs.Lays.n160 Tryz.prog Tryz.lays160_ren:={
 mixed:=by kernel_rfl
 f119:=Tryz.func332.trans (congrArg some (by kernel_rfl))
 f120:=Tryz.func331.trans (congrArg some (by kernel_rfl))
 f137:=Tryz.func317.trans (congrArg some (by kernel_rfl))
 f151:=Tryz.func328.trans (congrArg some (by kernel_rfl))
 f152:=Tryz.func330.trans (congrArg some (by kernel_rfl))
 f160:=Tryz.func310.trans (congrArg some (by kernel_rfl))
 f197:=Tryz.func161.trans (congrArg some (by kernel_rfl))
 f217:=Tryz.func260.trans (congrArg some (by kernel_rfl))
 f224:=Tryz.func262.trans (congrArg some (by kernel_rfl))
 f225:=Tryz.func261.trans (congrArg some (by kernel_rfl))
 f227:=Tryz.func320.trans (congrArg some (by kernel_rfl))
 f228:=Tryz.func327.trans (congrArg some (by kernel_rfl))
 f231:=Tryz.func318.trans (congrArg some (by kernel_rfl))
 f232:=Tryz.func319.trans (congrArg some (by kernel_rfl))
 f233:=Tryz.func321.trans (congrArg some (by kernel_rfl))
 f234:=Tryz.func322.trans (congrArg some (by kernel_rfl))
 f235:=Tryz.func323.trans (congrArg some (by kernel_rfl))
 f236:=Tryz.func324.trans (congrArg some (by kernel_rfl))
 f260:=Tryz.func216.trans (congrArg some (by kernel_rfl))
 f266:=Tryz.func290.trans (congrArg some (by kernel_rfl))
 f271:=Tryz.func329.trans (congrArg some (by kernel_rfl))
 t0:=Tryz.underlying0
 a0:=Tryz.isAgg0
 z0:=Tryz.sizeOf0
 v0:=Tryz.zeroValue0
 t3:=Tryz.underlying3
 a3:=Tryz.isAgg3
 z3:=Tryz.sizeOf3
 v3:=Tryz.zeroValue3
 t4:=Tryz.underlying4
 a4:=Tryz.isAgg4
 z4:=Tryz.sizeOf4
 v4:=Tryz.zeroValue4
 t5:=Tryz.underlying5
 a5:=Tryz.isAgg5
 z5:=Tryz.sizeOf5
 v5:=Tryz.zeroValue5
 t9:=Tryz.underlying9
 a9:=Tryz.isAgg9
 z9:=Tryz.sizeOf9
 v9:=Tryz.zeroValue9
 t21:=Tryz.underlying21
 a21:=Tryz.isAgg21
 z21:=Tryz.sizeOf21
 v21:=Tryz.zeroValue21
 t46:=Tryz.underlying156
 a46:=Tryz.isAgg156
 z46:=Tryz.sizeOf156
 v46:=Tryz.zeroValue156
 t105:=Tryz.underlying217
 a105:=Tryz.isAgg217
 z105:=Tryz.sizeOf217
 v105:=Tryz.zeroValue217
 t116:=Tryz.underlying337
 a116:=Tryz.isAgg337
 z116:=Tryz.sizeOf337
 t117:=Tryz.underlying338
 a117:=Tryz.isAgg338
 z117:=Tryz.sizeOf338
 v117:=Tryz.zeroValue338
 t119:=Tryz.underlying294
 a119:=Tryz.isAgg294
 z119:=Tryz.sizeOf294
 t124:=Tryz.underlying341
 a124:=Tryz.isAgg341
 z124:=Tryz.sizeOf341
 v124:=Tryz.zeroValue341
 t138:=Tryz.underlying296
 a138:=Tryz.isAgg296
 z138:=Tryz.sizeOf296
 v138:=Tryz.zeroValue296
 t139:=Tryz.underlying297
 a139:=Tryz.isAgg297
 z139:=Tryz.sizeOf297
 v139:=Tryz.zeroValue297
 g3:=by kernel_rfl
 g4:=by kernel_rfl}
end Go.Proofs
