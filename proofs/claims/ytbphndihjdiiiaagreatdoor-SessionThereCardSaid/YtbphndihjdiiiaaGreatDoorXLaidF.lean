/- The number's text at this program, for every number. Contracts of the texts .. -/
import Derived.Test.YtbphndihjdiiiaaGreatDoorXB11
import Derived.Shelf.Strconv.Itoa3
import Derived.Test.YtbphndihjdiiiaaGreatDoorXT1
import Derived.Test.YtbphndihjdiiiaaGreatDoorXW3
import Derived.Test.YtbphndihjdiiiaaGreatDoorXM1
import Derived.Test.YtbphndihjdiiiaaGreatDoorXV1
import Derived.Test.YtbphndihjdiiiaaGreatDoorXF0
import Derived.MapKept
set_option maxHeartbeats 16000000
set_option maxRecDepth 100000
set_option linter.all false
namespace Go.Proofs
open Go.Shelf
theorem Tryz.laysM246:Go.Proofs.LaysM.n246 Tryz.prog Tryz.lays246_ren:={Tryz.lays246 with
 i0:=by kernel_rfl
 i2:=by kernel_rfl
 i3:=by kernel_rfl
 i4:=by kernel_rfl
 i5:=by kernel_rfl
 i9:=by kernel_rfl
 i20:=by kernel_rfl
 i37:=by kernel_rfl
 i46:=by kernel_rfl
 i51:=by kernel_rfl
 i53:=by kernel_rfl
 i171:=by kernel_rfl
 i173:=by kernel_rfl
 i212:=by kernel_rfl
 i232:=by kernel_rfl
 i233:=by kernel_rfl
 m17:=by kernel_rfl
 m18:=by kernel_rfl
 m19:=by kernel_rfl}
namespace YtbphndihjdiiiaaGreatDoor
open Go.Shelf Go.Sort
open Go.RowKit
theorem q30{P:Program}{w w':World}{name:String}{k:IntKind}{zs:List Int}(h:Lib.TabIs P w name k zs)(hb:Below w.heap.size w w'):Lib.TabIs P w' name k zs:=by
 unfold Lib.TabIs World.var? at*;cases hg:P.globalNamed name with
  |none=>rw[hg]at h;simp at h
  |some g=>
   rw[hg]at h;simp only[Option.bind_some]at h⊢;have hlt:g<w.heap.size:=by
    rcases Nat.lt_or_ge g w.heap.size with h'|h';·exact h'
    ·rw[Array.getElem?_eq_none h']at h;simp at h
   rw[hb.block g hlt];exact h
theorem z121(W:World)(q:Nat)(os:Array Obj):Below W.heap.size W (grow (W.drewN q) os):=by
 refine⟨rfl,rfl,rfl,?_,fun k hk=>?_⟩;·simp[grow]
 ·rw[heap_grow_old _ _ (by simpa using hk)];rfl
theorem w78(n:Int)(h0:-9223372036854775808≤n)(h1:n≤9223372036854775807)(w:World)(htab:Lib.TabIs Tryz.prog w "internal/strconv.uint64pow10" .u64 Lib.pow10Tab):Calls Tryz.prog 100 #[.int .i64 n,.int .i64 10] w fun e w'=>e=.returned (.string ⟨(Lib.itoa n).toArray⟩)∧Below w.heap.size w w':=by have hF:=Any.internal_strconv_FormatInt_10 Tryz.laysM246 n h0 h1 w htab;generalize(⟨(Lib.itoa n).toArray⟩:ByteArray)=r at hF⊢;have HF:=Lib.hid hF;clear hF htab;go_enter Tryz.func100,Tryz.ntmps100;go_wp2_with fail;refine HF.out.mono ?_;rintro e w1⟨rfl,q,os,rfl⟩;go_wp2_with fail;go_ret;exact⟨rfl,z121 w q os⟩
end YtbphndihjdiiiaaGreatDoor
end Go.Proofs
namespace Go.Proofs.YtbphndihjdiiiaaGreatDoor
open Go.RowKit
theorem y41{n:Int}(h0:0≤n)(h:n<10):digN n=[UInt8.ofNat (48+n.toNat)]:=by unfold digN;rw[Lib.decDigits,dif_pos (by omega)]
theorem q61{n:Int}(h:¬n<10):digN n=digN (n/10)++[UInt8.ofNat (48+(n%10).toNat)]:=by
 unfold digN;rw[Lib.decDigits,dif_neg (by omega)];have e1:(n/10).toNat=n.toNat/10:=by omega
 have e2:(n%10).toNat=n.toNat%10:=by omega
 rw[e1,e2]
theorem q66{n:Int}(h0:0≤n):Lib.itoa n=digN n:=by unfold Lib.itoa digN;rw[if_neg (by omega)]
end Go.Proofs.YtbphndihjdiiiaaGreatDoor
