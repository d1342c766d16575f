/- strings.FieldsFunc laid at this dump. Contract of strings.FieldsFunc at the .. -/
import Derived.Shelf.Strings.FieldsFuncAny
import Derived.Test.YtkkomffmnafjkaaGreatDoorProg
import Derived.Test.YtkkomffmnafjkaaGreatDoorZP17
set_option maxHeartbeats 16000000
set_option maxRecDepth 100000
set_option linter.all false
namespace Go.Proofs
open Go.Shelf
def Tryz.lays229_ren:Go.Shelf.Ren:=⟨fun|229=>111|n=>n,fun|0=>0|3=>3|4=>4|9=>9|21=>21|31=>43|40=>172|152=>236|154=>238|n=>n,fun|n=>n⟩
theorem Tryz.lays229:Go.Proofs.Lays.n229 Tryz.prog Tryz.lays229_ren:={
 mixed:=by kernel_rfl
 f229:=Tryz.func111.trans (congrArg some (by kernel_rfl))
 t0:=Tryz.underlying0
 a0:=Tryz.isAgg0
 z0:=Tryz.sizeOf0
 v0:=Tryz.zeroValue0
 t3:=Tryz.underlying3
 a3:=Tryz.isAgg3
 z3:=Tryz.sizeOf3
 v3:=Tryz.zeroValue3
 t4:=Tryz.underlying4
 a4:=Tryz.isAgg4
 z4:=Tryz.sizeOf4
 v4:=Tryz.zeroValue4
 t9:=Tryz.underlying9
 a9:=Tryz.isAgg9
 z9:=Tryz.sizeOf9
 v9:=Tryz.zeroValue9
 t21:=Tryz.underlying21
 a21:=Tryz.isAgg21
 z21:=Tryz.sizeOf21
 v21:=Tryz.zeroValue21
 t31:=Tryz.underlying43
 a31:=Tryz.isAgg43
 z31:=Tryz.sizeOf43
 v31:=Tryz.zeroValue43
 t40:=Tryz.underlying172
 a40:=Tryz.isAgg172
 z40:=Tryz.sizeOf172
 v40:=Tryz.zeroValue172
 t152:=Tryz.underlying236
 a152:=Tryz.isAgg236
 z152:=Tryz.sizeOf236
 v152:=Tryz.zeroValue236
 t154:=Tryz.underlying238
 a154:=Tryz.isAgg238
 z154:=Tryz.sizeOf238
 v154:=Tryz.zeroValue238}
end Go.Proofs
namespace Go.Proofs.YtkkomffmnafjkaaGreatDoor
open Go.RowKit
theorem x208(x:Nat)(w:World)(h:x≤1114111):Calls Tryz.prog 112 #[.int .i32 (x:Int)] w fun e w'=>e=.returned (.bool (y17 x))∧w'=w:=by
 by_cases h1:x=32;·subst h1;go_enter Tryz.func112,Tryz.ntmps112;go_wp2_with fail;go_ret;exact⟨rfl,rfl⟩
 ·by_cases h2:x=9;·subst h2;go_enter Tryz.func112,Tryz.ntmps112;go_wp2_with fail;go_ret;exact⟨rfl,rfl⟩
  ·have hv:y17 x=false:=by unfold y17;simp[h1,h2]
   have e1:((x:Int)==32)=false:=by rw[beq_eq_false_iff_ne];omega
   have e2:((x:Int)==9)=false:=by rw[beq_eq_false_iff_ne];omega
   rw[hv];clear h1 h2 hv;go_enter Tryz.func112,Tryz.ntmps112;go_wp2_with fail;go_ret;exact⟨rfl,rfl⟩
theorem y208(L:List (List UInt8)):(L.map fun y=>(⟨y.toArray⟩:ByteArray)).map Value.string=w180 encT L:=by induction L with|nil=>rfl|cons a r ih=>rw[List.map_cons,List.map_cons,ih];rfl
theorem k205(L:List (List UInt8))(w:World)(hne:L≠[])(hk:∀k∈L,KeyB k)(hl:(x176 [32] L).length≤1000000):Calls Tryz.prog 111 #[.string ⟨(x176 [32] L).toArray⟩,.func (.func 112) #[] #[]] w fun e w'=>∃A c,e=.returned (.slice A L.length c)∧OwnG 9 encT 1 w' w.heap.size A c L∧Below w.heap.size w w':=by have h:=Any.strings_FieldsFunc_runes Tryz.lays229 112 #[] (enters_of Tryz.func112 (by kernel_rfl) rfl) y17 ⟨(x176 [32] L).toArray⟩ w (by rw[q19];omega) (fun W x hx hb=>(x208 x W hx).mono fun e w'⟨he,hw⟩=>⟨he,0,hw⟩) (by kernel_rfl) (by kernel_rfl);rw[y205 hne hk]at h;refine h.mono ?_;rintro e w'⟨A,rfl,_,hown,hb⟩;rw[y208,List.length_map]at hown;exact⟨some ⟨A,0,none⟩,L.length,by rw[List.length_map],hown,hb⟩
end Go.Proofs.YtkkomffmnafjkaaGreatDoor
