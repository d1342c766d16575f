/- DERIVED: THE SHELF's CONTRACTS AT THIS DUMP, IN PLAIN WORDS .. -/
import Derived.Shelf.Small.Wraps
import Derived.Shelf.Strings.Cut
import Derived.Shelf.Strings.Shaped
import Derived.Test.YtkkomffmnafjkaaGreatDoorProg
set_option maxHeartbeats 16000000
set_option maxRecDepth 100000
set_option linter.all false
namespace Go.Proofs
open Go.Shelf
def Tryz.lays103_ren:Go.Shelf.Ren:=⟨fun|103=>115|210=>178|206=>242|n=>n,fun|9=>9|4=>4|24=>128|3=>3|n=>n,fun|n=>n⟩
theorem Tryz.lays103:Go.Proofs.Lays.n103 Tryz.prog Tryz.lays103_ren:={
 mixed:=by kernel_rfl
 f103:=Tryz.func115.trans (congrArg some (by kernel_rfl))
 f206:=Tryz.func242.trans (congrArg some (by kernel_rfl))
 f210:=Tryz.func178.trans (congrArg some (by kernel_rfl))
 t3:=Tryz.underlying3
 a3:=Tryz.isAgg3
 z3:=Tryz.sizeOf3
 v3:=Tryz.zeroValue3
 t4:=Tryz.underlying4
 a4:=Tryz.isAgg4
 z4:=Tryz.sizeOf4
 v4:=Tryz.zeroValue4
 t9:=Tryz.underlying9
 a9:=Tryz.isAgg9
 z9:=Tryz.sizeOf9
 v9:=Tryz.zeroValue9
 t24:=Tryz.underlying128
 a24:=Tryz.isAgg128
 z24:=Tryz.sizeOf128
 v24:=Tryz.zeroValue128}
open Go.RowKit in theorem Tryz.strings_CutPrefix(s p:ByteArray)(w:World):Calls Tryz.prog 115 #[.string s,.string p] w fun e w'=>e=.returned (.tuple #[.string ⟨(Lib.trimPrefix s.data.toList p.data.toList).toArray⟩,.bool (Lib.hasPrefix s.data.toList p.data.toList)])∧w'=w:=Any.strings_CutPrefix Tryz.lays103 s p w
def Tryz.lays145_ren:Go.Shelf.Ren:=⟨fun|145=>116|220=>179|219=>245|217=>287|225=>288|224=>289|267=>290|266=>323|314=>324|n=>n,fun|9=>9|4=>4|59=>179|3=>3|5=>5|46=>213|146=>346|51=>274|n=>n,fun|1=>0|n=>n⟩
theorem Tryz.lays145:Go.Proofs.Lays.n145 Tryz.prog Tryz.lays145_ren:={
 mixed:=by kernel_rfl
 f145:=Tryz.func116.trans (congrArg some (by kernel_rfl))
 f217:=Tryz.func287.trans (congrArg some (by kernel_rfl))
 f219:=Tryz.func245.trans (congrArg some (by kernel_rfl))
 f220:=Tryz.func179.trans (congrArg some (by kernel_rfl))
 f224:=Tryz.func289.trans (congrArg some (by kernel_rfl))
 f225:=Tryz.func288.trans (congrArg some (by kernel_rfl))
 f266:=Tryz.func323.trans (congrArg some (by kernel_rfl))
 f267:=Tryz.func290.trans (congrArg some (by kernel_rfl))
 f314:=Tryz.func324.trans (congrArg some (by kernel_rfl))
 t3:=Tryz.underlying3
 a3:=Tryz.isAgg3
 z3:=Tryz.sizeOf3
 v3:=Tryz.zeroValue3
 t4:=Tryz.underlying4
 a4:=Tryz.isAgg4
 z4:=Tryz.sizeOf4
 v4:=Tryz.zeroValue4
 t5:=Tryz.underlying5
 a5:=Tryz.isAgg5
 z5:=Tryz.sizeOf5
 v5:=Tryz.zeroValue5
 t9:=Tryz.underlying9
 a9:=Tryz.isAgg9
 z9:=Tryz.sizeOf9
 v9:=Tryz.zeroValue9
 t46:=Tryz.underlying213
 a46:=Tryz.isAgg213
 z46:=Tryz.sizeOf213
 v46:=Tryz.zeroValue213
 t51:=Tryz.underlying274
 a51:=Tryz.isAgg274
 z51:=Tryz.sizeOf274
 v51:=Tryz.zeroValue274
 t59:=Tryz.underlying179
 a59:=Tryz.isAgg179
 z59:=Tryz.sizeOf179
 v59:=Tryz.zeroValue179
 t146:=Tryz.underlying346
 a146:=Tryz.isAgg346
 z146:=Tryz.sizeOf346
 v146:=Tryz.zeroValue346
 g1:=by kernel_rfl}
open Go.RowKit Go.Lib in theorem Tryz.strings_Cut(s sep:ByteArray)(m:Int)(w:World)(hs:s.size<4294967281)(hm:w.cell? ⟨0,0,none⟩=some (.int .i64 m)):Calls Tryz.prog 116 #[.string s,.string sep] w fun e w'=>e=.returned (.tuple #[.string ⟨(Lib.cut s.data.toList sep.data.toList).1.toArray⟩,.string ⟨(Lib.cut s.data.toList sep.data.toList).2.1.toArray⟩,.bool (Lib.cut s.data.toList sep.data.toList).2.2])∧∃n,w'=w.drewN n:=Any.strings_Cut Tryz.lays145 s sep m w hs hm
end Go.Proofs
