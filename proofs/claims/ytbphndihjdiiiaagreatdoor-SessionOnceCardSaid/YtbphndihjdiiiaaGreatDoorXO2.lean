/- Contracts of lists of tags, of tags compared, of one among some. Printed by .. -/
import Derived.Test.YtbphndihjdiiiaaGreatDoorXI5
import Derived.Test.YtbphndihjdiiiaaGreatDoorXB11
import Derived.Deep.RegionHeld3
import Derived.Test.YtbphndihjdiiiaaGreatDoorXI4
set_option maxHeartbeats 16000000
set_option maxRecDepth 100000
set_option linter.all false
namespace Go.Proofs.YtbphndihjdiiiaaGreatDoor
open Go.RowKit
abbrev TagL:=List UInt8×Bool
def q27(t:TagL):List Value:=[.string ⟨t.1.toArray⟩,.bool t.2]
def tgs(T:List TagL):Bool:=T.all fun t=>j20 t.1
theorem z113{T:List TagL}{k:Nat}(hk:k<T.length)(h:tgs (T.take k)=true)(h2:j20 T[k].1=true):tgs (T.take (k+1))=true:=by unfold tgs at*;rw[m_ hk,bq_,h];simp[h2]
theorem tgs_no{T:List TagL}{k:Nat}(hk:k<T.length)(h2:j20 T[k].1=false):tgs T=false:=by unfold tgs;rw[List.all_eq_false];exact⟨T[k],A_ hk,by rw[h2];simp⟩
def k47(any:Bool)(T:List TagL):Bool:=decide (T.length≤32)&&!(any&&decide (0<T.length))&&tgs T
def j61(T:List TagL):Bool:=tgs T&&decide (T.length≤32)
def k38(a b:TagL):Bool:=j20 a.1&&j20 b.1&&decide (a.1=b.1)
def k34(a b:TagL):Bool:=!a.2&&!b.2&&k38 a b
def oneT(s:Bool)(t x:TagL):Bool:=if s=true then k34 x t else k38 x t
def inT(T:List TagL)(t:TagL)(s:Bool):Bool:=T.any (oneT s t)
theorem y66{T:List TagL}{t:TagL}{s:Bool}{k:Nat}(hk:k<T.length)(h:inT (T.take k) t s=false)(h2:oneT s t T[k]=false):inT (T.take (k+1)) t s=false:=by unfold inT at*;rw[m_ hk,List.any_append,h];simp[h2]
theorem q79{T:List TagL}{t:TagL}{s:Bool}{k:Nat}(hk:k<T.length)(h2:oneT s t T[k]=true):inT T t s=true:=by unfold inT;rw[List.any_eq_true];exact⟨T[k],A_ hk,h2⟩
theorem q135(a b:TagL):k38 a b=k38 b a:=by unfold k38;rw[show decide (a.1=b.1)=decide (b.1=a.1)by rw[decide_eq_decide];exact eq_comm,Bool.and_comm (j20 a.1)]
theorem q113(a b:TagL):k34 a b=k34 b a:=by unfold k34;rw[q135 a b,Bool.and_comm (!a.2)]
def w54(T:List TagL):Prop:=∀t∈T,t.1.length≤1000000
theorem k82(a b:List UInt8)(ak bk:Bool)(w:World)(ha:a.length≤1000000)(hb:b.length≤1000000):Calls Tryz.prog 192 #[.agg #[.string ⟨a.toArray⟩,.bool ak],.agg #[.string ⟨b.toArray⟩,.bool bk]] w fun e w'=>e=.returned (.bool (k38 (a,ak) (b,bk)))∧Below w.heap.size w w':=by
 have HA:=fun W=>a_ (k39 a ak W ha);have HB:=fun W=>a_ (k39 b bk W hb);have HV:Hid (k38 (a,ak) (b,bk)=(j20 a&&j20 b&&decide (a=b))):=rfl;obtain⟨V,hV⟩:∃V,k38 (a,ak) (b,bk)=V:=⟨_,rfl⟩;rw[hV]at HV⊢;clear hV;go_enter Tryz.func192,Tryz.ntmps192;go_upto_region 1 with fail;obtain⟨W0,hW0,X0,X1,HB0⟩:=box2 w #[.string ⟨a.toArray⟩,.bool ak] 43 #[.string ⟨b.toArray⟩,.bool bk] 43;rw[hW0];clear hW0;obtain⟨v0,v1⟩:=bc2 X0.out rfl rfl;have vz:=q14 X0.out;obtain⟨u0,u1⟩:=bc2 X1.out rfl rfl;have uz:=q14 X1.out;obtain⟨ta,hta⟩:∃x,j20 a=x:=⟨_,rfl⟩;rw[hta]at HA HV;clear hta;cases ta with
  |false=>go_wp2_with(go_at_call_of 115(Value.agg #[.string ⟨a.toArray⟩,.bool ak]);refine(HA _).out.mono ?_;rintro e w1⟨rfl,hb1⟩;have Y0:=a_ (j3 hb1 X0.out);have Y1:=a_ (j3 hb1 X1.out);obtain⟨k0,k1⟩:=bc2 Y0.out rfl rfl;obtain⟨m0,m1⟩:=bc2 Y1.out rfl rfl;have kz:=q14 Y0.out;have mz:=q14 Y1.out);go_ret;exact⟨by rw[HV.out];rfl,q12 hb1 HB0.out⟩
  |true=>
   obtain⟨tb,htb⟩:∃x,j20 b=x:=⟨_,rfl⟩;rw[htb]at HB HV;clear htb;cases tb with
    |false=>go_wp2_with(first|(go_at_call_of 115(Value.agg #[.string ⟨b.toArray⟩,.bool bk]);refine(HB _).out.mono ?_;rintro e w2⟨rfl,hb2⟩;have Z0:=a_ (j3 hb2 Y0.out);have Z1:=a_ (j3 hb2 Y1.out);have k0:=bc 0 Z0.out rfl;have m0:=bc 0 Z1.out rfl;have kz:=q14 Z0.out;have mz:=q14 Z1.out)|(go_at_call_of 115(Value.agg #[.string ⟨a.toArray⟩,.bool ak]);refine(HA _).out.mono ?_;rintro e w1⟨rfl,hb1⟩;have Y0:=a_ (j3 hb1 X0.out);have Y1:=a_ (j3 hb1 X1.out);obtain⟨k0,k1⟩:=bc2 Y0.out rfl rfl;obtain⟨m0,m1⟩:=bc2 Y1.out rfl rfl;have kz:=q14 Y0.out;have mz:=q14 Y1.out));go_ret;exact⟨by rw[HV.out];rfl,q12 hb2 (q12 hb1 HB0.out)⟩
    |true=>
     by_cases he:a=b;·
      have hq:(a==b)=true:=by rw[he];exact beq_self_eq_true b
      rw[r_ he]at HV;clear he;go_wp2_with(first|(go_at_call_of 115(Value.agg #[.string ⟨b.toArray⟩,.bool bk]);refine(HB _).out.mono ?_;rintro e w2⟨rfl,hb2⟩;have Z0:=a_ (j3 hb2 Y0.out);have Z1:=a_ (j3 hb2 Y1.out);have k0:=bc 0 Z0.out rfl;have m0:=bc 0 Z1.out rfl;have kz:=q14 Z0.out;have mz:=q14 Z1.out)|(go_at_call_of 115(Value.agg #[.string ⟨a.toArray⟩,.bool ak]);refine(HA _).out.mono ?_;rintro e w1⟨rfl,hb1⟩;have Y0:=a_ (j3 hb1 X0.out);have Y1:=a_ (j3 hb1 X1.out);obtain⟨k0,k1⟩:=bc2 Y0.out rfl rfl;obtain⟨m0,m1⟩:=bc2 Y1.out rfl rfl;have kz:=q14 Y0.out;have mz:=q14 Y1.out));go_ret;exact⟨by rw[HV.out];rfl,q12 hb2 (q12 hb1 HB0.out)⟩
     ·have hq:(a==b)=false:=l_.2 he;rw[j_ he]at HV;clear he;go_wp2_with(first|(go_at_call_of 115(Value.agg #[.string ⟨b.toArray⟩,.bool bk]);refine(HB _).out.mono ?_;rintro e w2⟨rfl,hb2⟩;have Z0:=a_ (j3 hb2 Y0.out);have Z1:=a_ (j3 hb2 Y1.out);have k0:=bc 0 Z0.out rfl;have m0:=bc 0 Z1.out rfl;have kz:=q14 Z0.out;have mz:=q14 Z1.out)|(go_at_call_of 115(Value.agg #[.string ⟨a.toArray⟩,.bool ak]);refine(HA _).out.mono ?_;rintro e w1⟨rfl,hb1⟩;have Y0:=a_ (j3 hb1 X0.out);have Y1:=a_ (j3 hb1 X1.out);obtain⟨k0,k1⟩:=bc2 Y0.out rfl rfl;obtain⟨m0,m1⟩:=bc2 Y1.out rfl rfl;have kz:=q14 Y0.out;have mz:=q14 Y1.out));go_ret;exact⟨by rw[HV.out];rfl,q12 hb2 (q12 hb1 HB0.out)⟩
theorem j74(a b:List UInt8)(ak bk:Bool)(w:World)(ha:a.length≤1000000)(hb:b.length≤1000000):Calls Tryz.prog 206 #[.agg #[.string ⟨a.toArray⟩,.bool ak],.agg #[.string ⟨b.toArray⟩,.bool bk]] w fun e w'=>e=.returned (.bool (k38 (a,ak) (b,bk)))∧Below w.heap.size w w':=by
 have HA:=fun W=>a_ (j37 a ak W ha);have HB:=fun W=>a_ (j37 b bk W hb);have HV:Hid (k38 (a,ak) (b,bk)=(j20 a&&j20 b&&decide (a=b))):=rfl;obtain⟨V,hV⟩:∃V,k38 (a,ak) (b,bk)=V:=⟨_,rfl⟩;rw[hV]at HV⊢;clear hV;go_enter Tryz.func206,Tryz.ntmps206;go_upto_region 1 with fail;obtain⟨W0,hW0,X0,X1,HB0⟩:=box2 w #[.string ⟨a.toArray⟩,.bool ak] 43 #[.string ⟨b.toArray⟩,.bool bk] 43;rw[hW0];clear hW0;obtain⟨v0,v1⟩:=bc2 X0.out rfl rfl;have vz:=q14 X0.out;obtain⟨u0,u1⟩:=bc2 X1.out rfl rfl;have uz:=q14 X1.out;obtain⟨ta,hta⟩:∃x,j20 a=x:=⟨_,rfl⟩;rw[hta]at HA HV;clear hta;cases ta with
  |false=>go_wp2_with(go_at_call_of 128(Value.agg #[.string ⟨a.toArray⟩,.bool ak]);refine(HA _).out.mono ?_;rintro e w1⟨rfl,hb1⟩;have Y0:=a_ (j3 hb1 X0.out);have Y1:=a_ (j3 hb1 X1.out);obtain⟨k0,k1⟩:=bc2 Y0.out rfl rfl;obtain⟨m0,m1⟩:=bc2 Y1.out rfl rfl;have kz:=q14 Y0.out;have mz:=q14 Y1.out);go_ret;exact⟨by rw[HV.out];rfl,q12 hb1 HB0.out⟩
  |true=>
   obtain⟨tb,htb⟩:∃x,j20 b=x:=⟨_,rfl⟩;rw[htb]at HB HV;clear htb;cases tb with
    |false=>go_wp2_with(first|(go_at_call_of 128(Value.agg #[.string ⟨b.toArray⟩,.bool bk]);refine(HB _).out.mono ?_;rintro e w2⟨rfl,hb2⟩;have Z0:=a_ (j3 hb2 Y0.out);have Z1:=a_ (j3 hb2 Y1.out);have k0:=bc 0 Z0.out rfl;have m0:=bc 0 Z1.out rfl;have kz:=q14 Z0.out;have mz:=q14 Z1.out)|(go_at_call_of 128(Value.agg #[.string ⟨a.toArray⟩,.bool ak]);refine(HA _).out.mono ?_;rintro e w1⟨rfl,hb1⟩;have Y0:=a_ (j3 hb1 X0.out);have Y1:=a_ (j3 hb1 X1.out);obtain⟨k0,k1⟩:=bc2 Y0.out rfl rfl;obtain⟨m0,m1⟩:=bc2 Y1.out rfl rfl;have kz:=q14 Y0.out;have mz:=q14 Y1.out));go_ret;exact⟨by rw[HV.out];rfl,q12 hb2 (q12 hb1 HB0.out)⟩
    |true=>
     by_cases he:a=b;·
      have hq:(a==b)=true:=by rw[he];exact beq_self_eq_true b
      rw[r_ he]at HV;clear he;go_wp2_with(first|(go_at_call_of 128(Value.agg #[.string ⟨b.toArray⟩,.bool bk]);refine(HB _).out.mono ?_;rintro e w2⟨rfl,hb2⟩;have Z0:=a_ (j3 hb2 Y0.out);have Z1:=a_ (j3 hb2 Y1.out);have k0:=bc 0 Z0.out rfl;have m0:=bc 0 Z1.out rfl;have kz:=q14 Z0.out;have mz:=q14 Z1.out)|(go_at_call_of 128(Value.agg #[.string ⟨a.toArray⟩,.bool ak]);refine(HA _).out.mono ?_;rintro e w1⟨rfl,hb1⟩;have Y0:=a_ (j3 hb1 X0.out);have Y1:=a_ (j3 hb1 X1.out);obtain⟨k0,k1⟩:=bc2 Y0.out rfl rfl;obtain⟨m0,m1⟩:=bc2 Y1.out rfl rfl;have kz:=q14 Y0.out;have mz:=q14 Y1.out));go_ret;exact⟨by rw[HV.out];rfl,q12 hb2 (q12 hb1 HB0.out)⟩
     ·have hq:(a==b)=false:=l_.2 he;rw[j_ he]at HV;clear he;go_wp2_with(first|(go_at_call_of 128(Value.agg #[.string ⟨b.toArray⟩,.bool bk]);refine(HB _).out.mono ?_;rintro e w2⟨rfl,hb2⟩;have Z0:=a_ (j3 hb2 Y0.out);have Z1:=a_ (j3 hb2 Y1.out);have k0:=bc 0 Z0.out rfl;have m0:=bc 0 Z1.out rfl;have kz:=q14 Z0.out;have mz:=q14 Z1.out)|(go_at_call_of 128(Value.agg #[.string ⟨a.toArray⟩,.bool ak]);refine(HA _).out.mono ?_;rintro e w1⟨rfl,hb1⟩;have Y0:=a_ (j3 hb1 X0.out);have Y1:=a_ (j3 hb1 X1.out);obtain⟨k0,k1⟩:=bc2 Y0.out rfl rfl;obtain⟨m0,m1⟩:=bc2 Y1.out rfl rfl;have kz:=q14 Y0.out;have mz:=q14 Y1.out));go_ret;exact⟨by rw[HV.out];rfl,q12 hb2 (q12 hb1 HB0.out)⟩
theorem q69(a b:List UInt8)(ak bk:Bool)(w:World)(ha:a.length≤1000000)(hb:b.length≤1000000):Calls Tryz.prog 124 #[.agg #[.string ⟨a.toArray⟩,.bool ak],.agg #[.string ⟨b.toArray⟩,.bool bk]] w fun e w'=>e=.returned (.bool (k34 (a,ak) (b,bk)))∧Below w.heap.size w w':=by
 have HW:=fun W=>a_ (k82 a b ak bk W ha hb);have HV:Hid (k34 (a,ak) (b,bk)=(!ak&&!bk&&k38 (a,ak) (b,bk))):=rfl;obtain⟨V,hV⟩:∃V,k34 (a,ak) (b,bk)=V:=⟨_,rfl⟩;rw[hV]at HV⊢;obtain⟨U,hU⟩:∃U,k38 (a,ak) (b,bk)=U:=⟨_,rfl⟩;rw[hU]at HV HW;clear hV hU;go_enter Tryz.func124,Tryz.ntmps124;go_upto_region 1 with fail;obtain⟨W0,hW0,X0,X1,HB0⟩:=box2 w #[.string ⟨a.toArray⟩,.bool ak] 43 #[.string ⟨b.toArray⟩,.bool bk] 43;rw[hW0];clear hW0;obtain⟨v0,v1⟩:=bc2 X0.out rfl rfl;have vz:=q14 X0.out;obtain⟨u0,u1⟩:=bc2 X1.out rfl rfl;have uz:=q14 X1.out;cases ak<;>cases bk<;>cases U;all_goals go_wp2_with(go_at_call 192;refine(HW _).out.mono ?_;rintro e w1⟨rfl,hb1⟩;have Y0:=a_ (j3 hb1 X0.out);have Y1:=a_ (j3 hb1 X1.out);obtain⟨k0,k1⟩:=bc2 Y0.out rfl rfl;obtain⟨m0,m1⟩:=bc2 Y1.out rfl rfl;have kz:=q14 Y0.out;have mz:=q14 Y1.out);go_ret;exact⟨by rw[HV.out];rfl,by first|exact q12 hb1 HB0.out|exact HB0.out⟩
theorem x63(a b:List UInt8)(ak bk:Bool)(w:World)(ha:a.length≤1000000)(hb:b.length≤1000000):Calls Tryz.prog 142 #[.agg #[.string ⟨a.toArray⟩,.bool ak],.agg #[.string ⟨b.toArray⟩,.bool bk]] w fun e w'=>e=.returned (.bool (k34 (a,ak) (b,bk)))∧Below w.heap.size w w':=by
 have HW:=fun W=>a_ (j74 a b ak bk W ha hb);have HV:Hid (k34 (a,ak) (b,bk)=(!ak&&!bk&&k38 (a,ak) (b,bk))):=rfl;obtain⟨V,hV⟩:∃V,k34 (a,ak) (b,bk)=V:=⟨_,rfl⟩;rw[hV]at HV⊢;obtain⟨U,hU⟩:∃U,k38 (a,ak) (b,bk)=U:=⟨_,rfl⟩;rw[hU]at HV HW;clear hV hU;go_enter Tryz.func142,Tryz.ntmps142;go_upto_region 1 with fail;obtain⟨W0,hW0,X0,X1,HB0⟩:=box2 w #[.string ⟨a.toArray⟩,.bool ak] 43 #[.string ⟨b.toArray⟩,.bool bk] 43;rw[hW0];clear hW0;obtain⟨v0,v1⟩:=bc2 X0.out rfl rfl;have vz:=q14 X0.out;obtain⟨u0,u1⟩:=bc2 X1.out rfl rfl;have uz:=q14 X1.out;cases ak<;>cases bk<;>cases U;all_goals go_wp2_with(go_at_call 206;refine(HW _).out.mono ?_;rintro e w1⟨rfl,hb1⟩;have Y0:=a_ (j3 hb1 X0.out);have Y1:=a_ (j3 hb1 X1.out);obtain⟨k0,k1⟩:=bc2 Y0.out rfl rfl;obtain⟨m0,m1⟩:=bc2 Y1.out rfl rfl;have kz:=q14 Y0.out;have mz:=q14 Y1.out);go_ret;exact⟨by rw[HV.out];rfl,by first|exact q12 hb1 HB0.out|exact HB0.out⟩
theorem k74(A:Option Addr)(c:Nat)(T:List TagL)(am:Bool)(w:World)(h:SpG q27 2 w A c T)(hl:T.length≤1000000)(hx:w54 T):Calls Tryz.prog 169 #[.slice A T.length c,.bool am] w fun e w'=>e=.returned (.bool (k47 am T))∧Below w.heap.size w w':=by
 have HK:=a_ h;have HX:=a_ hx;clear h hx;have HL:Hid (k47 am T=(decide (T.length≤32)&&!(am&&decide (0<T.length))&&tgs T)):=rfl;obtain⟨V,hV⟩:∃V,k47 am T=V:=⟨_,rfl⟩;rw[hV]at HL⊢;clear hV;by_cases h1:32<T.length;·
  rw[j_ (show¬T.length≤32 by omega)]at HL;have h1':(32:Int)<(T.length:Int):=by omega
  clear h1;go_enter Tryz.func169,Tryz.ntmps169;go_wp2_with fail;go_ret;exact⟨by rw[HL.out];rfl,by(repeat(first|exact c_ _ _|refine q15 ?_ _|refine x15 ?_|refine q11 ?_ _|refine w14 ?_ (by simp) _))⟩
 rw[r_ (show T.length≤32 by omega)]at HL;have h1':¬(32:Int)<(T.length:Int):=by omega
 clear h1;have hcs:(am&&decide (0<T.length))=true∧am=true∧0<T.length∨(am&&decide (0<T.length))=false∧(am=false∨T.length=0):=by
  by_cases h:0<T.length;·rw[r_ h];cases am<;>simp[h]
  ·rw[j_ h];right;exact⟨by simp,.inr (by omega)⟩
 rcases hcs with⟨h2,rfl,h3⟩|⟨h2,h3⟩;·
  rw[h2]at HL;have h3':(0:Int)<(T.length:Int):=by omega
  clear h2 h3;go_enter Tryz.func169,Tryz.ntmps169;go_wp2_with fail;go_ret;exact⟨by rw[HL.out];rfl,by(repeat(first|exact c_ _ _|refine q15 ?_ _|refine x15 ?_|refine q11 ?_ _|refine w14 ?_ (by simp) _))⟩
 rw[h2]at HL;clear h2;have hcases:am=false∨(am=true∧¬(0:Int)<(T.length:Int)):=by cases am with|false=>exact .inl rfl|true=>exact .inr ⟨rfl,by have:=h3.resolve_left (by simp);omega⟩
 clear h3;rcases hcases with rfl|⟨rfl,h4'⟩;·
  go_enter Tryz.func169,Tryz.ntmps169;go_wp2_with fail;go_loopw[6,20](fun _ i wr=>∃k:Nat,k≤T.length∧i=.int .i64 (k:Int)∧tgs (T.take k)=true∧Below w.heap.size w wr)(fun _ i _=>T.length-(intOf i).toNat);case atStart=>exact⟨0,s_ _,rfl,rfl,by(repeat(first|exact c_ _ _|refine q15 ?_ _|refine x15 ?_|refine q11 ?_ _|refine w14 ?_ (by simp) _))⟩
  case round=>
   obtain⟨k,hk,rfl,hall,hbw⟩:=hrel;have HA:=a_ hall;have HB:=a_ hbw;clear hall hbw;by_cases hlt:k<T.length;·
    obtain⟨b,off,e,hb,hc⟩:=(HK.out.below HB.out).at' k hlt;have c0:=hc 0 _ rfl;have c1:=hc 1 _ rfl;have hxl:=HX.out _ (A_ hlt);have HS:=a_ (fun h=>z113 hlt HA.out h);have HN:=a_ (fun h=>tgs_no hlt h);obtain⟨⟨t,tw⟩,ht⟩:∃x,T[k]=x:=⟨_,rfl⟩;rw[ht]at c0 c1 HS HN hxl;have HR:=fun W=>a_ (k39 t tw W hxl);simp only[M_]at c0 c1 HS HN;clear hc ht hxl HA;subst e;obtain⟨z,hz⟩:∃z,j20 t=z:=⟨_,rfl⟩;rw[hz]at HR HS HN;clear hz;cases z with
     |false=>have HV:=a_ (HN.out rfl);clear HN HS;go_wp2_with(go_at_call 115;refine(HR _).out.mono ?_;rintro e w1⟨rfl,hb1⟩);go_ret;exact⟨by rw[HL.out,HV.out];rfl,q12 hb1 (q11 HB.out _)⟩
     |true=>
      have HV:=a_ (HS.out rfl);clear HN HS;go_wp2_with(go_at_call 115;refine(HR _).out.mono ?_;rintro e w1⟨rfl,hb1⟩);go_roundw;case rel=>exact⟨k+1,by omega,by go_num,HV.out,q12 hb1 (q11 HB.out _)⟩
      case measure=>simp[intOf];omega
   ·have HV:Hid (tgs T=true):=by have h:=HA.out;rw[t_ (by omega)]at h;exact h
    clear HA;go_wp2_with fail;go_ret;exact⟨by rw[HL.out,HV.out];rfl,HB.out⟩
 ·go_enter Tryz.func169,Tryz.ntmps169;go_wp2_with fail;go_loopw[6,20](fun _ i wr=>∃k:Nat,k≤T.length∧i=.int .i64 (k:Int)∧tgs (T.take k)=true∧Below w.heap.size w wr)(fun _ i _=>T.length-(intOf i).toNat);case atStart=>exact⟨0,s_ _,rfl,rfl,by(repeat(first|exact c_ _ _|refine q15 ?_ _|refine x15 ?_|refine q11 ?_ _|refine w14 ?_ (by simp) _))⟩
  case round=>
   obtain⟨k,hk,rfl,hall,hbw⟩:=hrel;have HA:=a_ hall;have HB:=a_ hbw;clear hall hbw;by_cases hlt:k<T.length;·exfalso;omega
   ·have HV:Hid (tgs T=true):=by have h:=HA.out;rw[t_ (by omega)]at h;exact h
    clear HA;go_wp2_with fail;go_ret;exact⟨by rw[HL.out,HV.out];rfl,HB.out⟩
theorem v102(A:Option Addr)(c:Nat)(T:List TagL)(w:World)(h:SpG q27 2 w A c T)(hl:T.length≤1000000)(hx:w54 T):Calls Tryz.prog 228 #[.slice A T.length c] w fun e w'=>e=.returned (.bool (j61 T))∧Below w.heap.size w w':=by
 have HK:=a_ h;have HX:=a_ hx;clear h hx;have HL:Hid (j61 T=(tgs T&&decide (T.length≤32))):=rfl;obtain⟨V,hV⟩:∃V,j61 T=V:=⟨_,rfl⟩;rw[hV]at HL⊢;clear hV;go_enter Tryz.func228,Tryz.ntmps228;go_wp2_with fail;go_loopw[4,7](fun _ i wr=>∃k:Nat,k≤T.length∧i=.int .i64 (k:Int)∧tgs (T.take k)=true∧Below w.heap.size w wr)(fun _ i _=>T.length-(intOf i).toNat);case atStart=>exact⟨0,s_ _,rfl,rfl,by(repeat(first|exact c_ _ _|refine q15 ?_ _|refine x15 ?_|refine q11 ?_ _|refine w14 ?_ (by simp) _))⟩
 case round=>
  obtain⟨k,hk,rfl,hall,hbw⟩:=hrel;have HA:=a_ hall;have HB:=a_ hbw;clear hall hbw;by_cases hlt:k<T.length;·
   obtain⟨b,off,e,hb,hc⟩:=(HK.out.below HB.out).at' k hlt;have c0:=hc 0 _ rfl;have c1:=hc 1 _ rfl;have hxl:=HX.out _ (A_ hlt);have HS:=a_ (fun h=>z113 hlt HA.out h);have HN:=a_ (fun h=>tgs_no hlt h);obtain⟨⟨t,tw⟩,ht⟩:∃x,T[k]=x:=⟨_,rfl⟩;rw[ht]at c0 c1 HS HN hxl;have HR:=fun W=>a_ (j37 t tw W hxl);simp only[M_]at c0 c1 HS HN;clear hc ht hxl HA;subst e;obtain⟨z,hz⟩:∃z,j20 t=z:=⟨_,rfl⟩;rw[hz]at HR HS HN;clear hz;cases z with
    |false=>have HV:=a_ (HN.out rfl);clear HN HS;go_wp2_with(go_at_call 128;refine(HR _).out.mono ?_;rintro e w1⟨rfl,hb1⟩);go_ret;exact⟨by rw[HL.out,HV.out];rfl,q12 hb1 (q11 HB.out _)⟩
    |true=>
     have HV:=a_ (HS.out rfl);clear HN HS;go_wp2_with(go_at_call 128;refine(HR _).out.mono ?_;rintro e w1⟨rfl,hb1⟩);go_roundw;case rel=>exact⟨k+1,by omega,by go_num,HV.out,q12 hb1 (q11 HB.out _)⟩
     case measure=>simp[intOf];omega
  ·have HV:Hid (tgs T=true):=by have h:=HA.out;rw[t_ (by omega)]at h;exact h
   clear HA;by_cases h1:T.length≤32;·
    rw[r_ h1]at HL;have h1':(T.length:Int)≤32:=by omega
    clear h1;go_wp2_with fail;go_ret;exact⟨by rw[HL.out,HV.out];rfl,HB.out⟩
   ·rw[j_ h1]at HL;have h1':¬(T.length:Int)≤32:=by omega
    clear h1;go_wp2_with fail;go_ret;exact⟨by rw[HL.out,HV.out];rfl,HB.out⟩
theorem tagIn_s(A:Option Addr)(c:Nat)(T:List TagL)(x:List UInt8)(xw:Bool)(w:World)(h:SpG q27 2 w A c T)(hl:T.length≤1000000)(hx:w54 T)(hxl:x.length≤1000000):Calls Tryz.prog 123 #[.slice A T.length c,.agg #[.string ⟨x.toArray⟩,.bool xw],.bool true] w fun e w'=>e=.returned (.bool (inT T (x,xw) true))∧Below w.heap.size w w':=by
 have HK:=a_ h;have HX:=a_ hx;have HXL:=a_ hxl;clear h hx hxl;go_enter Tryz.func123,Tryz.ntmps123;go_upto_region 1 with fail;obtain⟨W0,hW0⟩:∃W,(w.alloc (.cells #[.string ⟨x.toArray⟩,.bool xw] 43))=W:=⟨_,rfl⟩;have X0:Hid (W0.heap[w.heap.size]?=some (.cells #[.string ⟨x.toArray⟩,.bool xw] 43 (0,0))):=by rw[←hW0];exact j17 rfl
 have HB0:Hid (Below w.heap.size w W0):=by rw[←hW0];exact q11 (c_ _ _) _
 rw[hW0];clear hW0;go_wp2_with fail;go_loopw[8,11](fun _ i wr=>∃k:Nat,k≤T.length∧i=.int .i64 (k:Int)∧inT (T.take k) (x,xw) true=false∧Below W0.heap.size W0 wr)(fun _ i _=>T.length-(intOf i).toNat);case atStart=>exact⟨0,s_ _,rfl,rfl,c_ _ _⟩
 case round=>
  obtain⟨k,hk,rfl,hall,hbw⟩:=hrel;have HA:=a_ hall;have HB:=a_ hbw;clear hall hbw;have Y0:=a_ (j3 HB.out X0.out);obtain⟨v0,v1⟩:=bc2 Y0.out rfl rfl;have vz:=q14 Y0.out;by_cases hlt:k<T.length;·
   obtain⟨b,off,e,hb,hc⟩:=((HK.out.below HB0.out).below HB.out).at' k hlt;have c0:=hc 0 _ rfl;have c1:=hc 1 _ rfl;have htl:=HX.out _ (A_ hlt);have HS:=a_ (fun h=>y66 (t:=(x,xw)) (s:=true) hlt HA.out h);have HY:=a_ (fun h=>q79 (t:=(x,xw)) (s:=true) hlt h);obtain⟨⟨t,tw⟩,ht⟩:∃y,T[k]=y:=⟨_,rfl⟩;rw[ht]at c0 c1 HS HY htl;have HR:=fun W=>a_ (q69 t x tw xw W htl HXL.out);simp only[M_]at c0 c1;clear hc ht htl HA;subst e;have HE:Hid (oneT true (x,xw) (t,tw)=k34 (t,tw) (x,xw)):=rfl;obtain⟨z,hz⟩:∃z,k34 (t,tw) (x,xw)=z:=⟨_,rfl⟩;rw[hz]at HR HE;clear hz;cases z with
    |true=>have HV:=a_ (HY.out HE.out);clear HY HS;go_wp2_with(go_at_call 124;refine(HR _).out.mono ?_;rintro e w1⟨rfl,hb1⟩);go_ret;exact⟨by rw[HV.out];rfl,q12 (q12 hb1 (q11 HB.out _)) HB0.out⟩
    |false=>
     have HV:=a_ (HS.out HE.out);clear HY HS;go_wp2_with(go_at_call 124;refine(HR _).out.mono ?_;rintro e w1⟨rfl,hb1⟩);go_roundw;case rel=>exact⟨k+1,by omega,by go_num,HV.out,q12 hb1 (q11 HB.out _)⟩
     case measure=>simp[intOf];omega
  ·have HV:Hid (inT T (x,xw) true=false):=by have h:=HA.out;rw[t_ (by omega)]at h;exact h
   clear HA;go_wp2_with fail;go_ret;exact⟨by rw[HV.out];rfl,q12 HB.out HB0.out⟩
theorem rone_s(A:Option Addr)(c:Nat)(T:List TagL)(x:List UInt8)(xw:Bool)(w:World)(h:SpG q27 2 w A c T)(hl:T.length≤1000000)(hx:w54 T)(hxl:x.length≤1000000):Calls Tryz.prog 141 #[.slice A T.length c,.agg #[.string ⟨x.toArray⟩,.bool xw],.bool true] w fun e w'=>e=.returned (.bool (inT T (x,xw) true))∧Below w.heap.size w w':=by
 have HK:=a_ h;have HX:=a_ hx;have HXL:=a_ hxl;clear h hx hxl;go_enter Tryz.func141,Tryz.ntmps141;go_upto_region 1 with fail;obtain⟨W0,hW0⟩:∃W,(w.alloc (.cells #[.string ⟨x.toArray⟩,.bool xw] 43))=W:=⟨_,rfl⟩;have X0:Hid (W0.heap[w.heap.size]?=some (.cells #[.string ⟨x.toArray⟩,.bool xw] 43 (0,0))):=by rw[←hW0];exact j17 rfl
 have HB0:Hid (Below w.heap.size w W0):=by rw[←hW0];exact q11 (c_ _ _) _
 rw[hW0];clear hW0;go_wp2_with fail;go_loopw[8,11](fun _ i wr=>∃k:Nat,k≤T.length∧i=.int .i64 (k:Int)∧inT (T.take k) (x,xw) true=false∧Below W0.heap.size W0 wr)(fun _ i _=>T.length-(intOf i).toNat);case atStart=>exact⟨0,s_ _,rfl,rfl,c_ _ _⟩
 case round=>
  obtain⟨k,hk,rfl,hall,hbw⟩:=hrel;have HA:=a_ hall;have HB:=a_ hbw;clear hall hbw;have Y0:=a_ (j3 HB.out X0.out);obtain⟨v0,v1⟩:=bc2 Y0.out rfl rfl;have vz:=q14 Y0.out;by_cases hlt:k<T.length;·
   obtain⟨b,off,e,hb,hc⟩:=((HK.out.below HB0.out).below HB.out).at' k hlt;have c0:=hc 0 _ rfl;have c1:=hc 1 _ rfl;have htl:=HX.out _ (A_ hlt);have HS:=a_ (fun h=>y66 (t:=(x,xw)) (s:=true) hlt HA.out h);have HY:=a_ (fun h=>q79 (t:=(x,xw)) (s:=true) hlt h);obtain⟨⟨t,tw⟩,ht⟩:∃y,T[k]=y:=⟨_,rfl⟩;rw[ht]at c0 c1 HS HY htl;have HR:=fun W=>a_ (x63 t x tw xw W htl HXL.out);simp only[M_]at c0 c1;clear hc ht htl HA;subst e;have HE:Hid (oneT true (x,xw) (t,tw)=k34 (t,tw) (x,xw)):=rfl;obtain⟨z,hz⟩:∃z,k34 (t,tw) (x,xw)=z:=⟨_,rfl⟩;rw[hz]at HR HE;clear hz;cases z with
    |true=>have HV:=a_ (HY.out HE.out);clear HY HS;go_wp2_with(go_at_call 142;refine(HR _).out.mono ?_;rintro e w1⟨rfl,hb1⟩);go_ret;exact⟨by rw[HV.out];rfl,q12 (q12 hb1 (q11 HB.out _)) HB0.out⟩
    |false=>
     have HV:=a_ (HS.out HE.out);clear HY HS;go_wp2_with(go_at_call 142;refine(HR _).out.mono ?_;rintro e w1⟨rfl,hb1⟩);go_roundw;case rel=>exact⟨k+1,by omega,by go_num,HV.out,q12 hb1 (q11 HB.out _)⟩
     case measure=>simp[intOf];omega
  ·have HV:Hid (inT T (x,xw) true=false):=by have h:=HA.out;rw[t_ (by omega)]at h;exact h
   clear HA;go_wp2_with fail;go_ret;exact⟨by rw[HV.out];rfl,q12 HB.out HB0.out⟩
theorem tagIn_w(A:Option Addr)(c:Nat)(T:List TagL)(x:List UInt8)(xw:Bool)(w:World)(h:SpG q27 2 w A c T)(hl:T.length≤1000000)(hx:w54 T)(hxl:x.length≤1000000):Calls Tryz.prog 123 #[.slice A T.length c,.agg #[.string ⟨x.toArray⟩,.bool xw],.bool false] w fun e w'=>e=.returned (.bool (inT T (x,xw) false))∧Below w.heap.size w w':=by
 have HK:=a_ h;have HX:=a_ hx;have HXL:=a_ hxl;clear h hx hxl;go_enter Tryz.func123,Tryz.ntmps123;go_upto_region 1 with fail;obtain⟨W0,hW0⟩:∃W,(w.alloc (.cells #[.string ⟨x.toArray⟩,.bool xw] 43))=W:=⟨_,rfl⟩;have X0:Hid (W0.heap[w.heap.size]?=some (.cells #[.string ⟨x.toArray⟩,.bool xw] 43 (0,0))):=by rw[←hW0];exact j17 rfl
 have HB0:Hid (Below w.heap.size w W0):=by rw[←hW0];exact q11 (c_ _ _) _
 rw[hW0];clear hW0;go_wp2_with fail;go_loopw[8,11](fun _ i wr=>∃k:Nat,k≤T.length∧i=.int .i64 (k:Int)∧inT (T.take k) (x,xw) false=false∧Below W0.heap.size W0 wr)(fun _ i _=>T.length-(intOf i).toNat);case atStart=>exact⟨0,s_ _,rfl,rfl,c_ _ _⟩
 case round=>
  obtain⟨k,hk,rfl,hall,hbw⟩:=hrel;have HA:=a_ hall;have HB:=a_ hbw;clear hall hbw;have Y0:=a_ (j3 HB.out X0.out);obtain⟨v0,v1⟩:=bc2 Y0.out rfl rfl;have vz:=q14 Y0.out;by_cases hlt:k<T.length;·
   obtain⟨b,off,e,hb,hc⟩:=((HK.out.below HB0.out).below HB.out).at' k hlt;have c0:=hc 0 _ rfl;have c1:=hc 1 _ rfl;have htl:=HX.out _ (A_ hlt);have HS:=a_ (fun h=>y66 (t:=(x,xw)) (s:=false) hlt HA.out h);have HY:=a_ (fun h=>q79 (t:=(x,xw)) (s:=false) hlt h);obtain⟨⟨t,tw⟩,ht⟩:∃y,T[k]=y:=⟨_,rfl⟩;rw[ht]at c0 c1 HS HY htl;have HR:=fun W=>a_ (k82 t x tw xw W htl HXL.out);simp only[M_]at c0 c1;clear hc ht htl HA;subst e;have HE:Hid (oneT false (x,xw) (t,tw)=k38 (t,tw) (x,xw)):=rfl;obtain⟨z,hz⟩:∃z,k38 (t,tw) (x,xw)=z:=⟨_,rfl⟩;rw[hz]at HR HE;clear hz;cases z with
    |true=>have HV:=a_ (HY.out HE.out);clear HY HS;go_wp2_with(go_at_call 192;refine(HR _).out.mono ?_;rintro e w1⟨rfl,hb1⟩);go_ret;exact⟨by rw[HV.out];rfl,q12 (q12 hb1 (q11 HB.out _)) HB0.out⟩
    |false=>
     have HV:=a_ (HS.out HE.out);clear HY HS;go_wp2_with(go_at_call 192;refine(HR _).out.mono ?_;rintro e w1⟨rfl,hb1⟩);go_roundw;case rel=>exact⟨k+1,by omega,by go_num,HV.out,q12 hb1 (q11 HB.out _)⟩
     case measure=>simp[intOf];omega
  ·have HV:Hid (inT T (x,xw) false=false):=by have h:=HA.out;rw[t_ (by omega)]at h;exact h
   clear HA;go_wp2_with fail;go_ret;exact⟨by rw[HV.out];rfl,q12 HB.out HB0.out⟩
theorem rone_w(A:Option Addr)(c:Nat)(T:List TagL)(x:List UInt8)(xw:Bool)(w:World)(h:SpG q27 2 w A c T)(hl:T.length≤1000000)(hx:w54 T)(hxl:x.length≤1000000):Calls Tryz.prog 141 #[.slice A T.length c,.agg #[.string ⟨x.toArray⟩,.bool xw],.bool false] w fun e w'=>e=.returned (.bool (inT T (x,xw) false))∧Below w.heap.size w w':=by
 have HK:=a_ h;have HX:=a_ hx;have HXL:=a_ hxl;clear h hx hxl;go_enter Tryz.func141,Tryz.ntmps141;go_upto_region 1 with fail;obtain⟨W0,hW0⟩:∃W,(w.alloc (.cells #[.string ⟨x.toArray⟩,.bool xw] 43))=W:=⟨_,rfl⟩;have X0:Hid (W0.heap[w.heap.size]?=some (.cells #[.string ⟨x.toArray⟩,.bool xw] 43 (0,0))):=by rw[←hW0];exact j17 rfl
 have HB0:Hid (Below w.heap.size w W0):=by rw[←hW0];exact q11 (c_ _ _) _
 rw[hW0];clear hW0;go_wp2_with fail;go_loopw[8,11](fun _ i wr=>∃k:Nat,k≤T.length∧i=.int .i64 (k:Int)∧inT (T.take k) (x,xw) false=false∧Below W0.heap.size W0 wr)(fun _ i _=>T.length-(intOf i).toNat);case atStart=>exact⟨0,s_ _,rfl,rfl,c_ _ _⟩
 case round=>
  obtain⟨k,hk,rfl,hall,hbw⟩:=hrel;have HA:=a_ hall;have HB:=a_ hbw;clear hall hbw;have Y0:=a_ (j3 HB.out X0.out);obtain⟨v0,v1⟩:=bc2 Y0.out rfl rfl;have vz:=q14 Y0.out;by_cases hlt:k<T.length;·
   obtain⟨b,off,e,hb,hc⟩:=((HK.out.below HB0.out).below HB.out).at' k hlt;have c0:=hc 0 _ rfl;have c1:=hc 1 _ rfl;have htl:=HX.out _ (A_ hlt);have HS:=a_ (fun h=>y66 (t:=(x,xw)) (s:=false) hlt HA.out h);have HY:=a_ (fun h=>q79 (t:=(x,xw)) (s:=false) hlt h);obtain⟨⟨t,tw⟩,ht⟩:∃y,T[k]=y:=⟨_,rfl⟩;rw[ht]at c0 c1 HS HY htl;have HR:=fun W=>a_ (j74 t x tw xw W htl HXL.out);simp only[M_]at c0 c1;clear hc ht htl HA;subst e;have HE:Hid (oneT false (x,xw) (t,tw)=k38 (t,tw) (x,xw)):=rfl;obtain⟨z,hz⟩:∃z,k38 (t,tw) (x,xw)=z:=⟨_,rfl⟩;rw[hz]at HR HE;clear hz;cases z with
    |true=>have HV:=a_ (HY.out HE.out);clear HY HS;go_wp2_with(go_at_call 206;refine(HR _).out.mono ?_;rintro e w1⟨rfl,hb1⟩);go_ret;exact⟨by rw[HV.out];rfl,q12 (q12 hb1 (q11 HB.out _)) HB0.out⟩
    |false=>
     have HV:=a_ (HS.out HE.out);clear HY HS;go_wp2_with(go_at_call 206;refine(HR _).out.mono ?_;rintro e w1⟨rfl,hb1⟩);go_roundw;case rel=>exact⟨k+1,by omega,by go_num,HV.out,q12 hb1 (q11 HB.out _)⟩
     case measure=>simp[intOf];omega
  ·have HV:Hid (inT T (x,xw) false=false):=by have h:=HA.out;rw[t_ (by omega)]at h;exact h
   clear HA;go_wp2_with fail;go_ret;exact⟨by rw[HV.out];rfl,q12 HB.out HB0.out⟩
theorem j35(n:Int):(twoD n).length=2:=rfl
theorem j113(t:List UInt8)(k:Int)(h0:0≤k):(⟨t.toArray⟩:ByteArray).extract (3*k).toNat (3*k+3).toNat=⟨(x18 t k).toArray⟩:=by
 have e:(⟨t.toArray⟩:ByteArray).extract (3*k).toNat (3*k+3).toNat=⟨((t.drop (3*k).toNat).take ((3*k+3).toNat-(3*k).toNat)).toArray⟩:=q73 (by rw[cb_,bD_]);have e1:(3*k).toNat=3*k.toNat:=by omega
 have e2:(3*k+3).toNat-(3*k).toNat=3:=by omega
 rw[e,e2,e1];rfl
def j158(v:List UInt8)(w:World)(e:Ending)(w':World):Prop:=e=.returned (.tuple #[.string ⟨v.toArray⟩,.int .i64 0])∧Below w.heap.size w w'
theorem j69(n:Int)(w:World)(h0:0≤n)(h1:n≤253402300799):Calls Tryz.prog 195 #[.int .i64 n] w (j158 (q42 n) w):=by
 obtain⟨b1,b2,b3,b4,b5,b6,b7,b8⟩:=y125 (n:=n/86400) (by omega) (by omega);have HT:Hid (q42 n=x18 weekT (dayN (n/86400)).week++[44,32]++twoD (dayN (n/86400)).date++[32]++x18 yearT ((dayN (n/86400)).month-1)++[32]++twoD ((dayN (n/86400)).year/100)++twoD ((dayN (n/86400)).year%100)++[32]++twoD (n%86400/3600)++[58]++twoD (n%86400/60%60)++[58]++twoD (n%86400%60)++[32,71,77,84]):=by simp only[Hid];unfold q42;rw[←x154];simp
 obtain⟨s,hs⟩:∃s,n%86400=s:=⟨_,rfl⟩;have hs1:0≤s∧s<86400:=by omega
 rw[hs]at HT;obtain⟨y,m,d,k,hday⟩:∃y m d k,dayN (n/86400)=⟨y,m,d,k⟩:=⟨_,_,_,_,rfl⟩;have HD:∀W,Hid (Calls Tryz.prog 248 #[.int .i64 n] W fun e w'=>e=.returned (.tuple #[.agg #[.int .i64 y,.int .i64 m,.int .i64 d,.int .i64 k],.int .i64 s])∧Below W.heap.size W w'):=fun W=>a_ ((q120 n W h0 h1).mono fun e w' h=>by rw[j58,hday,hs]at h;exact h);rw[hday]at HT b1 b2 b3 b4 b5 b6 b7 b8;simp only at HT b1 b2 b3 b4 b5 b6 b7 b8;have hn1:(x18 weekT k).length=3:=q60 b7 (by show 3*k+3≤((21:Nat):Int);omega);have hn2:(x18 yearT (m-1)).length=3:=q60 (by omega) (by show 3*(m-1)+3≤((36:Nat):Int);omega);have hx1:=j113 weekT k b7;have hx2:(⟨yearT.toArray⟩:ByteArray).extract (3*m-3).toNat (3*m).toNat=⟨(x18 yearT (m-1)).toArray⟩:=by
  have h:=j113 yearT (m-1) (by omega);have e1:3*(m-1)=3*m-3:=by omega
  have e2:3*(m-1)+3=3*m:=by omega
  rw[e2,e1]at h;exact h
 have hz1:(⟨weekT.toArray⟩:ByteArray).size=21:=by decide
 have hz2:(⟨yearT.toArray⟩:ByteArray).size=36:=by decide
 have hl1:weekT.length=21:=rfl;have hl2:yearT.length=36:=rfl;have R1:=fun W=>a_ (y51 d W (by omega) (by omega));have R2:=fun W=>a_ (y51 (y/100) W (by omega) (by omega));have R3:=fun W=>a_ (y51 (y%100) W (by omega) (by omega));have R4:=fun W=>a_ (y51 (s/3600) W (by omega) (by omega));have R5:=fun W=>a_ (y51 (s/60%60) W (by omega) (by omega));have R6:=fun W=>a_ (y51 (s%60) W (by omega) (by omega));have RW:=fun W=>a_ (j133 W);have RM:=fun W=>a_ (x120 W);have k0:=catE (a:=x18 weekT k) (b:=[44,32]) (by simp only[hn1,g_,i_];omega);have k1:=catE (a:=x18 weekT k++[44,32]) (b:=twoD d) (by simp only[f_,hn1,j35,g_,i_];omega);have k2:=catE (a:=x18 weekT k++[44,32]++twoD d) (b:=[32]) (by simp only[f_,hn1,j35,g_,i_];omega);have k3:=catE (a:=x18 weekT k++[44,32]++twoD d++[32]) (b:=x18 yearT (m-1)) (by simp only[f_,hn1,hn2,j35,g_,i_];omega);have k4:=catE (a:=x18 weekT k++[44,32]++twoD d++[32]++x18 yearT (m-1)) (b:=[32]) (by simp only[f_,hn1,hn2,j35,g_,i_];omega);have k5:=catE (a:=x18 weekT k++[44,32]++twoD d++[32]++x18 yearT (m-1)++[32]) (b:=twoD (y/100)) (by simp only[f_,hn1,hn2,j35,g_,i_];omega);have k6:=catE (a:=x18 weekT k++[44,32]++twoD d++[32]++x18 yearT (m-1)++[32]++twoD (y/100)) (b:=twoD (y%100)) (by simp only[f_,hn1,hn2,j35,g_,i_];omega);have k7:=catE (a:=x18 weekT k++[44,32]++twoD d++[32]++x18 yearT (m-1)++[32]++twoD (y/100)++twoD (y%100)) (b:=[32]) (by simp only[f_,hn1,hn2,j35,g_,i_];omega);have k8:=catE (a:=x18 weekT k++[44,32]++twoD d++[32]++x18 yearT (m-1)++[32]++twoD (y/100)++twoD (y%100)++[32]) (b:=twoD (s/3600)) (by simp only[f_,hn1,hn2,j35,g_,i_];omega);have k9:=catE (a:=x18 weekT k++[44,32]++twoD d++[32]++x18 yearT (m-1)++[32]++twoD (y/100)++twoD (y%100)++[32]++twoD (s/3600)) (b:=[58]) (by simp only[f_,hn1,hn2,j35,g_,i_];omega);have k10:=catE (a:=x18 weekT k++[44,32]++twoD d++[32]++x18 yearT (m-1)++[32]++twoD (y/100)++twoD (y%100)++[32]++twoD (s/3600)++[58]) (b:=twoD (s/60%60)) (by simp only[f_,hn1,hn2,j35,g_,i_];omega);have k11:=catE (a:=x18 weekT k++[44,32]++twoD d++[32]++x18 yearT (m-1)++[32]++twoD (y/100)++twoD (y%100)++[32]++twoD (s/3600)++[58]++twoD (s/60%60)) (b:=[58]) (by simp only[f_,hn1,hn2,j35,g_,i_];omega);have k12:=catE (a:=x18 weekT k++[44,32]++twoD d++[32]++x18 yearT (m-1)++[32]++twoD (y/100)++twoD (y%100)++[32]++twoD (s/3600)++[58]++twoD (s/60%60)++[58]) (b:=twoD (s%60)) (by simp only[f_,hn1,hn2,j35,g_,i_];omega);have k13:=catE (a:=x18 weekT k++[44,32]++twoD d++[32]++x18 yearT (m-1)++[32]++twoD (y/100)++twoD (y%100)++[32]++twoD (s/3600)++[58]++twoD (s/60%60)++[58]++twoD (s%60)) (b:=[32,71,77,84]) (by simp only[f_,hn1,hn2,j35,g_,i_];omega);generalize x18 weekT k++[44,32]++twoD d++[32]++x18 yearT (m-1)++[32]++twoD (y/100)++twoD (y%100)++[32]++twoD (s/3600)++[58]++twoD (s/60%60)++[58]++twoD (s%60)++[32,71,77,84]=t14 at k13 HT;generalize x18 weekT k++[44,32]++twoD d++[32]++x18 yearT (m-1)++[32]++twoD (y/100)++twoD (y%100)++[32]++twoD (s/3600)++[58]++twoD (s/60%60)++[58]++twoD (s%60)=t13 at k12 k13;generalize x18 weekT k++[44,32]++twoD d++[32]++x18 yearT (m-1)++[32]++twoD (y/100)++twoD (y%100)++[32]++twoD (s/3600)++[58]++twoD (s/60%60)++[58]=t12 at k11 k12;generalize x18 weekT k++[44,32]++twoD d++[32]++x18 yearT (m-1)++[32]++twoD (y/100)++twoD (y%100)++[32]++twoD (s/3600)++[58]++twoD (s/60%60)=t11 at k10 k11;generalize x18 weekT k++[44,32]++twoD d++[32]++x18 yearT (m-1)++[32]++twoD (y/100)++twoD (y%100)++[32]++twoD (s/3600)++[58]=t10 at k9 k10;generalize x18 weekT k++[44,32]++twoD d++[32]++x18 yearT (m-1)++[32]++twoD (y/100)++twoD (y%100)++[32]++twoD (s/3600)=t9 at k8 k9;generalize x18 weekT k++[44,32]++twoD d++[32]++x18 yearT (m-1)++[32]++twoD (y/100)++twoD (y%100)++[32]=t8 at k7 k8;generalize x18 weekT k++[44,32]++twoD d++[32]++x18 yearT (m-1)++[32]++twoD (y/100)++twoD (y%100)=t7 at k6 k7;generalize x18 weekT k++[44,32]++twoD d++[32]++x18 yearT (m-1)++[32]++twoD (y/100)=t6 at k5 k6;generalize x18 weekT k++[44,32]++twoD d++[32]++x18 yearT (m-1)++[32]=t5 at k4 k5;generalize x18 weekT k++[44,32]++twoD d++[32]++x18 yearT (m-1)=t4 at k3 k4;generalize x18 weekT k++[44,32]++twoD d++[32]=t3 at k2 k3;generalize x18 weekT k++[44,32]++twoD d=t2 at k1 k2;generalize x18 weekT k++[44,32]=t1 at k0 k1;generalize x18 weekT k=t0 at hx1 k0;generalize x18 yearT (m-1)=tm at hx2 k3;generalize twoD d=q1 at R1 k1;generalize twoD (y/100)=q2 at R2 k5;generalize twoD (y%100)=q3 at R3 k6;generalize twoD (s/3600)=q4 at R4 k8;generalize twoD (s/60%60)=q5 at R5 k10;generalize twoD (s%60)=q6 at R6 k12;generalize weekT=wt at RW hx1 hz1 hl1;generalize yearT=yt at RM hx2 hz2 hl2;have g0:(0:Int)≤3*k:=by omega
 have g1:3*k≤3*k+3:=by omega
 have g2:3*k+3≤(wt.length:Int):=by omega
 have g3:3*k+3≤21:=by omega
 have g4:(0:Int)≤3*m-3:=by omega
 have g5:3*m-3≤3*m:=by omega
 have g6:3*m≤(yt.length:Int):=by omega
 have g7:3*m≤36:=by omega
 have g8:(3:Int)≤3*m:=by omega
 have g9:¬3*m-3<0:=by omega
 have g10:(3*m).toNat≤yt.length:=by omega
 have g11:(3*m-3).toNat≤(3*m).toNat:=by omega
 have p1:IntKind.i64.wrap (3*k)=3*k:=N_ _ (by omega);have p2:IntKind.i64.wrap (3*k+3)=3*k+3:=N_ _ (by omega);have p3:IntKind.i64.wrap (3*m)=3*m:=N_ _ (by omega);have p4:IntKind.i64.wrap (3*m-3)=3*m-3:=N_ _ (by omega);have p5:IntKind.i64.wrap (y.tdiv 100)=y/100:=IntWalk.i64_quo y 100 ⟨by omega,by omega,by omega⟩;have p6:y.tmod 100=y%100:=IntWalk.rem_in y 100 (by omega);clear hday hs hn1 hn2;go_enter Tryz.func195,Tryz.ntmps195;go_wp2_with fail;refine(HD _).out.mono ?_;rintro e w1⟨rfl,hb1⟩;clear HD;go_wp2_with fail;obtain⟨W0,hW0⟩:∃W0,w1.alloc (.cells #[.int .i64 y,.int .i64 m,.int .i64 d,.int .i64 k] 287)=W0:=⟨_,rfl⟩;have HW0:Hid (W0.heap[w1.heap.size]?=some (.cells #[.int .i64 y,.int .i64 m,.int .i64 d,.int .i64 k] 287 (0,0))):=by rw[←hW0];exact j17 rfl
 have HWB:Hid (Below w.heap.size w W0):=by rw[←hW0];exact q11 hb1 _
 obtain⟨db,hdb⟩:∃db,w1.heap.size=db:=⟨_,rfl⟩;rw[hdb]at HW0;rw[hW0];try rw[hdb]
 clear hW0 hdb hb1;have v0:W0.cell? ⟨db,0,none⟩=some (.int .i64 y):=bc 0 HW0.out rfl;have v1:W0.cell? ⟨db,1,none⟩=some (.int .i64 m):=bc 1 HW0.out rfl;have v2:W0.cell? ⟨db,2,none⟩=some (.int .i64 d):=bc 2 HW0.out rfl;have v3:W0.cell? ⟨db,3,none⟩=some (.int .i64 k):=bc 3 HW0.out rfl;have vz:=q14 HW0.out;clear HW0;go_region_held3(fun w'=>w'.cell? ⟨db,0,none⟩=some (.int .i64 y)∧w'.cell? ⟨db,1,none⟩=some (.int .i64 m)∧w'.cell? ⟨db,2,none⟩=some (.int .i64 d)∧w'.cell? ⟨db,3,none⟩=some (.int .i64 k))(first|exact⟨u0,u1,u2,u3⟩|exact⟨v0,v1,v2,v3⟩|fail)(first|(go_at_call 249;refine(RW _).out.mono ?_;rintro e w2⟨rfl,rfl⟩)|(go_at_call 251;refine(RM _).out.mono ?_;rintro e w2⟨rfl,rfl⟩)|(go_at_call_of 250(Value.int .i64 d);refine(R1 _).out.mono ?_;rintro e w3⟨rfl,hb3⟩;first|(replace u0:=x16 hb3 u0;replace u1:=x16 hb3 u1;replace u2:=x16 hb3 u2;replace u3:=x16 hb3 u3)|(have u0:=x16 hb3 v0;have u1:=x16 hb3 v1;have u2:=x16 hb3 v2;have u3:=x16 hb3 v3))|(go_at_call_has 250(Value.int .i64 (y/100));refine(R2 _).out.mono ?_;rintro e w4⟨rfl,hb4⟩;first|(replace u0:=x16 hb4 u0;replace u1:=x16 hb4 u1;replace u2:=x16 hb4 u2;replace u3:=x16 hb4 u3)|(have u0:=x16 hb4 v0;have u1:=x16 hb4 v1;have u2:=x16 hb4 v2;have u3:=x16 hb4 v3))|(go_at_call_has 250(Value.int .i64 (y%100));refine(R3 _).out.mono ?_;rintro e w5⟨rfl,hb5⟩;first|(replace u0:=x16 hb5 u0;replace u1:=x16 hb5 u1;replace u2:=x16 hb5 u2;replace u3:=x16 hb5 u3)|(have u0:=x16 hb5 v0;have u1:=x16 hb5 v1;have u2:=x16 hb5 v2;have u3:=x16 hb5 v3)));clear u0 u1 u2 u3 v0 v1 v2 v3 vz;go_wp2_with(first|(go_at_call_has 250(Value.int .i64 (s/3600));refine(R4 _).out.mono ?_;rintro e w6⟨rfl,hb6⟩)|(go_at_call_has 250(Value.int .i64 (s/60%60));refine(R5 _).out.mono ?_;rintro e w7⟨rfl,hb7⟩)|(go_at_call_has 250(Value.int .i64 (s%60));refine(R6 _).out.mono ?_;rintro e w8⟨rfl,hb8⟩));refine u_ (by simp[results,Tryz.results195,go_sem];try rfl) rfl ?_;refine⟨by rw[HT.out],?_⟩;refine q12 hb8 (q12 hb7 (q12 hb6 ?_));first|exact q12 hb3 (q12 hb4 (q12 hb5 (by first|exact HWB.out|exact x15 HWB.out|exact q15 HWB.out _)))|exact q12 hb3 (q12 hb5 (q12 hb4 (by first|exact HWB.out|exact x15 HWB.out|exact q15 HWB.out _)))|exact q12 hb4 (q12 hb3 (q12 hb5 (by first|exact HWB.out|exact x15 HWB.out|exact q15 HWB.out _)))|exact q12 hb4 (q12 hb5 (q12 hb3 (by first|exact HWB.out|exact x15 HWB.out|exact q15 HWB.out _)))|exact q12 hb5 (q12 hb3 (q12 hb4 (by first|exact HWB.out|exact x15 HWB.out|exact q15 HWB.out _)))|exact q12 hb5 (q12 hb4 (q12 hb3 (by first|exact HWB.out|exact x15 HWB.out|exact q15 HWB.out _)))
def k33(n:Int):Bool:=decide (n=-1)||(decide (0≤n)&&decide (n≤253402300799))
structure CondL where
 M:List TagL
 N:List TagL
 am:Bool
 an:Bool
 si:Int
 un:Int
 rt:List UInt8
 rw:Bool
def w39(k:CondL):Bool:=k47 k.am k.M&&k47 k.an k.N&&k33 k.si&&k33 k.un&&(decide (k.rt=[])||j20 k.rt)
theorem w121(n:Int)(w:World)(h:n<0∨253402300799<n):Calls Tryz.prog 181 #[.int .i64 n] w fun e w'=>e=.returned (.tuple #[.string ⟨#[]⟩,.int .i64 1])∧Below w.heap.size w w':=by
 by_cases h0:n<0;·clear h;go_enter Tryz.func181,Tryz.ntmps181;go_wp2_with fail;go_ret2;exact⟨rfl,by(repeat(first|exact c_ _ _|refine q15 ?_ _|refine x15 ?_|refine q11 ?_ _|refine w14 ?_ (by simp) _))⟩
 ·have h1:(253402300799:Int)<n:=by omega
  clear h;go_enter Tryz.func181,Tryz.ntmps181;go_wp2_with fail;go_ret2;exact⟨rfl,by(repeat(first|exact c_ _ _|refine q15 ?_ _|refine x15 ?_|refine q11 ?_ _|refine w14 ?_ (by simp) _))⟩
theorem v113(n:Int)(w:World)(h:n<0∨253402300799<n):Calls Tryz.prog 195 #[.int .i64 n] w fun e w'=>e=.returned (.tuple #[.string ⟨#[]⟩,.int .i64 1])∧Below w.heap.size w w':=by
 by_cases h0:n<0;·clear h;go_enter Tryz.func195,Tryz.ntmps195;go_wp2_with fail;go_ret2;exact⟨rfl,by(repeat(first|exact c_ _ _|refine q15 ?_ _|refine x15 ?_|refine q11 ?_ _|refine w14 ?_ (by simp) _))⟩
 ·have h1:(253402300799:Int)<n:=by omega
  clear h;go_enter Tryz.func195,Tryz.ntmps195;go_wp2_with fail;go_ret2;exact⟨rfl,by(repeat(first|exact c_ _ _|refine q15 ?_ _|refine x15 ?_|refine q11 ?_ _|refine w14 ?_ (by simp) _))⟩
theorem k102(n:Int)(w:World):Calls Tryz.prog 170 #[.int .i64 n] w fun e w'=>e=.returned (.bool (k33 n))∧Below w.heap.size w w':=by
 by_cases h:n<0∨253402300799<n;·
  have HT:=fun W=>a_ (w121 n W h);by_cases h1:n=-1;·
   have hb:(n==-1)=true:=by rw[aM_];exact h1
   have HV:Hid (k33 n=true):=by simp only[Hid];unfold k33;rw[r_ h1];rfl
   clear h h1;go_enter Tryz.func170,Tryz.ntmps170;go_wp2_with(go_at_call 181;refine(HT _).out.mono ?_;rintro e w1⟨rfl,hb1⟩);go_ret;exact⟨by rw[HV.out];rfl,hb1⟩
  ·have hb:(n==-1)=false:=by rw[l_];exact h1
   have HV:Hid (k33 n=false):=by
    simp only[Hid];unfold k33;rw[j_ h1];rcases h with h|h;·rw[j_ (show¬0≤n by omega)];rfl
    ·rw[j_ (show¬n≤253402300799 by omega)];simp
   clear h h1;go_enter Tryz.func170,Tryz.ntmps170;go_wp2_with(go_at_call 181;refine(HT _).out.mono ?_;rintro e w1⟨rfl,hb1⟩);go_ret;exact⟨by rw[HV.out];rfl,hb1⟩
 ·have HT:=fun W=>a_ (x72 n W (by omega) (by omega));have hb:(n==-1)=false:=by rw[l_];omega
  have HV:Hid (k33 n=true):=by simp only[Hid];unfold k33;rw[r_ (show 0≤n by omega),r_ (show n≤253402300799 by omega)];simp
  clear h;go_enter Tryz.func170,Tryz.ntmps170;go_wp2_with(go_at_call 181;refine(HT _).out.mono ?_;rintro e w1⟨rfl,hb1⟩);go_ret;exact⟨by rw[HV.out];rfl,hb1⟩
theorem w102(n:Int)(w:World):Calls Tryz.prog 229 #[.int .i64 n] w fun e w'=>e=.returned (.bool (k33 n))∧Below w.heap.size w w':=by
 by_cases h:n<0∨253402300799<n;·
  have HT:=fun W=>a_ (v113 n W h);by_cases h1:n=-1;·
   have hb:(n==-1)=true:=by rw[aM_];exact h1
   have HV:Hid (k33 n=true):=by simp only[Hid];unfold k33;rw[r_ h1];rfl
   clear h h1;go_enter Tryz.func229,Tryz.ntmps229;go_wp2_with(go_at_call 195;refine(HT _).out.mono ?_;rintro e w1⟨rfl,hb1⟩);go_ret;exact⟨by rw[HV.out];rfl,hb1⟩
  ·have hb:(n==-1)=false:=by rw[l_];exact h1
   have HV:Hid (k33 n=false):=by
    simp only[Hid];unfold k33;rw[j_ h1];rcases h with h|h;·rw[j_ (show¬0≤n by omega)];rfl
    ·rw[j_ (show¬n≤253402300799 by omega)];simp
   clear h h1;go_enter Tryz.func229,Tryz.ntmps229;go_wp2_with(go_at_call 195;refine(HT _).out.mono ?_;rintro e w1⟨rfl,hb1⟩);go_ret;exact⟨by rw[HV.out];rfl,hb1⟩
 ·have HT:=fun W=>a_ (j69 n W (by omega) (by omega));have hb:(n==-1)=false:=by rw[l_];omega
  have HV:Hid (k33 n=true):=by simp only[Hid];unfold k33;rw[r_ (show 0≤n by omega),r_ (show n≤253402300799 by omega)];simp
  clear h;go_enter Tryz.func229,Tryz.ntmps229;go_wp2_with(go_at_call 195;refine(HT _).out.mono ?_;rintro e w1⟨rfl,hb1⟩);go_ret;exact⟨by rw[HV.out];rfl,hb1⟩
def j57(k:CondL)(A1:Option Addr)(c1:Nat)(A2:Option Addr)(c2:Nat):Value:=.agg #[.slice A1 k.M.length c1,.slice A2 k.N.length c2,.bool k.am,.bool k.an,.int .i64 k.si,.int .i64 k.un,.string ⟨k.rt.toArray⟩,.bool k.rw]
structure ShortC(k:CondL):Prop where
 m:k.M.length≤1000000
 n:k.N.length≤1000000
 tm:w54 k.M
 tn:w54 k.N
 rt:k.rt.length≤1000000
theorem j30(l:List UInt8):(l=[]∧(l==[])=true)∨(¬l=[]∧(l==[])=false):=by cases l with|nil=>exact .inl ⟨rfl,rfl⟩|cons a r=>exact .inr ⟨by simp,rfl⟩
theorem v106(k:CondL)(A1:Option Addr)(c1:Nat)(A2:Option Addr)(c2:Nat)(w:World)(h1:SpG q27 2 w A1 c1 k.M)(h2:SpG q27 2 w A2 c2 k.N)(hs:ShortC k):Calls Tryz.prog 109 #[j57 k A1 c1 A2 c2] w fun e w'=>e=.returned (.bool (w39 k))∧Below w.heap.size w w':=by
 obtain⟨M,N,am,an,si,un,rt,rw⟩:=k;obtain⟨l1,l2,l3,l4,l5⟩:=hs;simp only at l1 l2 l3 l4 l5 h1 h2;have HM:=a_ h1;have HN:=a_ h2;have H1:=fun W h=>a_ (k74 A1 c1 M am W h l1 l3);have H2:=fun W h=>a_ (k74 A2 c2 N an W h l2 l4);have H3:=fun W=>a_ (k102 si W);have H4:=fun W=>a_ (k102 un W);have H5:=fun W=>a_ (k39 rt rw W l5);have HV:Hid (w39 ⟨M,N,am,an,si,un,rt,rw⟩=(k47 am M&&k47 an N&&k33 si&&k33 un&&(decide (rt=[])||j20 rt))):=rfl;obtain⟨V,hV⟩:∃V,w39 ⟨M,N,am,an,si,un,rt,rw⟩=V:=⟨_,rfl⟩;rw[hV]at HV⊢;unfold j57;simp only;clear hV h1 h2 l1 l2 l3 l4 l5;obtain⟨b1,e1⟩:∃b,k47 am M=b:=⟨_,rfl⟩;obtain⟨b2,e2⟩:∃b,k47 an N=b:=⟨_,rfl⟩;obtain⟨b3,e3⟩:∃b,k33 si=b:=⟨_,rfl⟩;obtain⟨b4,e4⟩:∃b,k33 un=b:=⟨_,rfl⟩;obtain⟨b5,e5⟩:∃b,j20 rt=b:=⟨_,rfl⟩;rw[e1,e2,e3,e4,e5]at HV;rw[e1]at H1;rw[e2]at H2;rw[e3]at H3;rw[e4]at H4;rw[e5]at H5;clear e1 e2 e3 e4 e5;go_enter Tryz.func109,Tryz.ntmps109;go_upto_region 1 with fail;obtain⟨W0,hW0⟩:∃W,(w.alloc (.cells #[.slice A1 M.length c1,.slice A2 N.length c2,.bool am,.bool an,.int .i64 si,.int .i64 un,.string ⟨rt.toArray⟩,.bool rw] 45))=W:=⟨_,rfl⟩;have X0:Hid (W0.heap[w.heap.size]?=some (.cells #[.slice A1 M.length c1,.slice A2 N.length c2,.bool am,.bool an,.int .i64 si,.int .i64 un,.string ⟨rt.toArray⟩,.bool rw] 45 (0,0))):=by rw[←hW0];exact j17 rfl
 have HB0:Hid (Below w.heap.size w W0):=by rw[←hW0];exact q11 (c_ _ _) _
 rw[hW0];clear hW0;obtain⟨v0,v1,v2,v3,v4,v5,v6,v7⟩:=bc8 X0.out;have vz:=q14 X0.out;cases b1 with
  |false=>go_wp2_with(first|(go_at_call_of 169(Value.slice A1 M.length c1);refine(H1 _ (HM.out.below HB0.out)).out.mono ?_;rintro e w1⟨rfl,hb1⟩;have Y1:=a_ (j3 hb1 X0.out);obtain⟨v0,v1,v2,v3,v4,v5,v6,v7⟩:=bc8 Y1.out;have vz:=q14 Y1.out));go_ret;exact⟨by rw[HV.out];first|rfl|(cases b2<;>cases b3<;>cases b4<;>cases b5<;>simp),q12 hb1 (HB0.out)⟩
  |true=>
   cases b2 with
    |false=>go_wp2_with(first|(go_at_call_of 169(Value.slice A2 N.length c2);refine(H2 _ ((HN.out.below HB0.out).below hb1)).out.mono ?_;rintro e w2⟨rfl,hb2⟩;have Y2:=a_ (j3 hb2 Y1.out);obtain⟨v0,v1,v2,v3,v4,v5,v6,v7⟩:=bc8 Y2.out;have vz:=q14 Y2.out)|(go_at_call_of 169(Value.slice A1 M.length c1);refine(H1 _ (HM.out.below HB0.out)).out.mono ?_;rintro e w1⟨rfl,hb1⟩;have Y1:=a_ (j3 hb1 X0.out);obtain⟨v0,v1,v2,v3,v4,v5,v6,v7⟩:=bc8 Y1.out;have vz:=q14 Y1.out));go_ret;exact⟨by rw[HV.out];first|rfl|(cases b2<;>cases b3<;>cases b4<;>cases b5<;>simp),q12 hb2 (q12 hb1 (HB0.out))⟩
    |true=>
     cases b3 with
      |false=>go_wp2_with(first|(go_at_call_of 170(Value.int .i64 si);refine(H3 _).out.mono ?_;rintro e w3⟨rfl,hb3⟩;have Y3:=a_ (j3 hb3 Y2.out);obtain⟨v0,v1,v2,v3,v4,v5,v6,v7⟩:=bc8 Y3.out;have vz:=q14 Y3.out)|(go_at_call_of 169(Value.slice A2 N.length c2);refine(H2 _ ((HN.out.below HB0.out).below hb1)).out.mono ?_;rintro e w2⟨rfl,hb2⟩;have Y2:=a_ (j3 hb2 Y1.out);obtain⟨v0,v1,v2,v3,v4,v5,v6,v7⟩:=bc8 Y2.out;have vz:=q14 Y2.out)|(go_at_call_of 169(Value.slice A1 M.length c1);refine(H1 _ (HM.out.below HB0.out)).out.mono ?_;rintro e w1⟨rfl,hb1⟩;have Y1:=a_ (j3 hb1 X0.out);obtain⟨v0,v1,v2,v3,v4,v5,v6,v7⟩:=bc8 Y1.out;have vz:=q14 Y1.out));go_ret;exact⟨by rw[HV.out];first|rfl|(cases b2<;>cases b3<;>cases b4<;>cases b5<;>simp),q12 hb3 (q12 hb2 (q12 hb1 (HB0.out)))⟩
      |true=>
       cases b4 with
        |false=>go_wp2_with(first|(go_at_call_of 170(Value.int .i64 un);refine(H4 _).out.mono ?_;rintro e w4⟨rfl,hb4⟩;have Y4:=a_ (j3 hb4 Y3.out);obtain⟨v0,v1,v2,v3,v4,v5,v6,v7⟩:=bc8 Y4.out;have vz:=q14 Y4.out)|(go_at_call_of 170(Value.int .i64 si);refine(H3 _).out.mono ?_;rintro e w3⟨rfl,hb3⟩;have Y3:=a_ (j3 hb3 Y2.out);obtain⟨v0,v1,v2,v3,v4,v5,v6,v7⟩:=bc8 Y3.out;have vz:=q14 Y3.out)|(go_at_call_of 169(Value.slice A2 N.length c2);refine(H2 _ ((HN.out.below HB0.out).below hb1)).out.mono ?_;rintro e w2⟨rfl,hb2⟩;have Y2:=a_ (j3 hb2 Y1.out);obtain⟨v0,v1,v2,v3,v4,v5,v6,v7⟩:=bc8 Y2.out;have vz:=q14 Y2.out)|(go_at_call_of 169(Value.slice A1 M.length c1);refine(H1 _ (HM.out.below HB0.out)).out.mono ?_;rintro e w1⟨rfl,hb1⟩;have Y1:=a_ (j3 hb1 X0.out);obtain⟨v0,v1,v2,v3,v4,v5,v6,v7⟩:=bc8 Y1.out;have vz:=q14 Y1.out));go_ret;exact⟨by rw[HV.out];first|rfl|(cases b2<;>cases b3<;>cases b4<;>cases b5<;>simp),q12 hb4 (q12 hb3 (q12 hb2 (q12 hb1 (HB0.out))))⟩
        |true=>
         rcases j30 rt with⟨rfl,hq⟩|⟨hne,hq⟩;·go_wp2_with(first|(go_at_call_of 170(Value.int .i64 un);refine(H4 _).out.mono ?_;rintro e w4⟨rfl,hb4⟩;have Y4:=a_ (j3 hb4 Y3.out);obtain⟨v0,v1,v2,v3,v4,v5,v6,v7⟩:=bc8 Y4.out;have vz:=q14 Y4.out)|(go_at_call_of 170(Value.int .i64 si);refine(H3 _).out.mono ?_;rintro e w3⟨rfl,hb3⟩;have Y3:=a_ (j3 hb3 Y2.out);obtain⟨v0,v1,v2,v3,v4,v5,v6,v7⟩:=bc8 Y3.out;have vz:=q14 Y3.out)|(go_at_call_of 169(Value.slice A2 N.length c2);refine(H2 _ ((HN.out.below HB0.out).below hb1)).out.mono ?_;rintro e w2⟨rfl,hb2⟩;have Y2:=a_ (j3 hb2 Y1.out);obtain⟨v0,v1,v2,v3,v4,v5,v6,v7⟩:=bc8 Y2.out;have vz:=q14 Y2.out)|(go_at_call_of 169(Value.slice A1 M.length c1);refine(H1 _ (HM.out.below HB0.out)).out.mono ?_;rintro e w1⟨rfl,hb1⟩;have Y1:=a_ (j3 hb1 X0.out);obtain⟨v0,v1,v2,v3,v4,v5,v6,v7⟩:=bc8 Y1.out;have vz:=q14 Y1.out));go_ret;exact⟨by rw[HV.out];simp,q12 hb4 (q12 hb3 (q12 hb2 (q12 hb1 (HB0.out))))⟩
         ·rw[j_ hne]at HV;clear hne;go_wp2_with(first|(go_at_call 115;refine(H5 _).out.mono ?_;rintro e w5⟨rfl,hb5⟩)|(go_at_call_of 170(Value.int .i64 un);refine(H4 _).out.mono ?_;rintro e w4⟨rfl,hb4⟩;have Y4:=a_ (j3 hb4 Y3.out);obtain⟨v0,v1,v2,v3,v4,v5,v6,v7⟩:=bc8 Y4.out;have vz:=q14 Y4.out)|(go_at_call_of 170(Value.int .i64 si);refine(H3 _).out.mono ?_;rintro e w3⟨rfl,hb3⟩;have Y3:=a_ (j3 hb3 Y2.out);obtain⟨v0,v1,v2,v3,v4,v5,v6,v7⟩:=bc8 Y3.out;have vz:=q14 Y3.out)|(go_at_call_of 169(Value.slice A2 N.length c2);refine(H2 _ ((HN.out.below HB0.out).below hb1)).out.mono ?_;rintro e w2⟨rfl,hb2⟩;have Y2:=a_ (j3 hb2 Y1.out);obtain⟨v0,v1,v2,v3,v4,v5,v6,v7⟩:=bc8 Y2.out;have vz:=q14 Y2.out)|(go_at_call_of 169(Value.slice A1 M.length c1);refine(H1 _ (HM.out.below HB0.out)).out.mono ?_;rintro e w1⟨rfl,hb1⟩;have Y1:=a_ (j3 hb1 X0.out);obtain⟨v0,v1,v2,v3,v4,v5,v6,v7⟩:=bc8 Y1.out;have vz:=q14 Y1.out));go_ret;exact⟨by rw[HV.out];cases b5<;>rfl,q12 hb5 (q12 hb4 (q12 hb3 (q12 hb2 (q12 hb1 (HB0.out)))))⟩
theorem v158(l:List UInt8)(wk:Bool)(w:World):Calls Tryz.prog 230 #[.agg #[.string ⟨l.toArray⟩,.bool wk]] w fun e w'=>e=.returned (.bool (decide (l=[])&&wk))∧Below w.heap.size w w':=by
 rcases j30 l with⟨rfl,hq⟩|⟨hne,hq⟩;·go_enter Tryz.func230,Tryz.ntmps230;go_wp2_with fail;go_ret;exact⟨by simp,by(repeat(first|exact c_ _ _|refine q15 ?_ _|refine x15 ?_|refine q11 ?_ _|refine w14 ?_ (by simp) _))⟩
 ·rw[j_ hne];go_enter Tryz.func230,Tryz.ntmps230;go_wp2_with fail;go_ret;exact⟨rfl,by(repeat(first|exact c_ _ _|refine q15 ?_ _|refine x15 ?_|refine q11 ?_ _|refine w14 ?_ (by simp) _))⟩
theorem j135{k:CondL}(h:(k.am&&decide (0<k.M.length))=true∨(k.an&&decide (0<k.N.length))=true):w39 k=false:=by unfold w39 k47;rcases h with h|h<;>rw[h]<;>simp
theorem z122{k:CondL}(h1:(k.am&&decide (0<k.M.length))=false)(h2:(k.an&&decide (0<k.N.length))=false):w39 k=(j61 k.M&&j61 k.N&&k33 k.si&&k33 k.un&&(decide (k.rt=[])||j20 k.rt)):=by unfold w39 k47 j61;rw[h1,h2];cases tgs k.M<;>cases tgs k.N<;>simp
theorem w97(k:CondL)(A1:Option Addr)(c1:Nat)(A2:Option Addr)(c2:Nat)(w:World)(h1:SpG q27 2 w A1 c1 k.M)(h2:SpG q27 2 w A2 c2 k.N)(hs:ShortC k):Calls Tryz.prog 174 #[j57 k A1 c1 A2 c2] w fun e w'=>e=.returned (.bool (w39 k))∧Below w.heap.size w w':=by
 have HBAD:=a_ (j135 (k:=k));have HGOOD:=a_ (z122 (k:=k));obtain⟨M,N,am,an,si,un,rt,rw⟩:=k;obtain⟨l1,l2,l3,l4,l5⟩:=hs;simp only at l1 l2 l3 l4 l5 h1 h2 HBAD HGOOD;have HM:=a_ h1;have HN:=a_ h2;have H1:=fun W h=>a_ (v102 A1 c1 M W h l1 l3);have H2:=fun W h=>a_ (v102 A2 c2 N W h l2 l4);have H3:=fun W=>a_ (w102 si W);have H4:=fun W=>a_ (w102 un W);have H5:=fun W=>a_ (j37 rt rw W l5);have H6:=fun W=>a_ (v158 rt rw W);obtain⟨V,hV⟩:∃V,w39 ⟨M,N,am,an,si,un,rt,rw⟩=V:=⟨_,rfl⟩;rw[hV]at HBAD HGOOD⊢;unfold j57;simp only;obtain⟨b1,e1⟩:∃b,j61 M=b:=⟨_,rfl⟩;obtain⟨b2,e2⟩:∃b,j61 N=b:=⟨_,rfl⟩;obtain⟨b3,e3⟩:∃b,k33 si=b:=⟨_,rfl⟩;obtain⟨b4,e4⟩:∃b,k33 un=b:=⟨_,rfl⟩;obtain⟨b5,e5⟩:∃b,j20 rt=b:=⟨_,rfl⟩;rw[e1,e2,e3,e4,e5]at HGOOD;rw[e1]at H1;rw[e2]at H2;rw[e3]at H3;rw[e4]at H4;rw[e5]at H5;obtain⟨ml,q7⟩:∃x,M.length=x:=⟨_,rfl⟩;obtain⟨nl,q8⟩:∃x,N.length=x:=⟨_,rfl⟩;rw[q7]at H1 HBAD HGOOD⊢;rw[q8]at H2 HBAD HGOOD⊢;clear hV h1 h2 l1 l2 l3 l4 l5 e1 e2 e3 e4 e5 q7 q8;go_enter Tryz.func174,Tryz.ntmps174;go_upto_region 1 with fail;obtain⟨W0,hW0⟩:∃W,(w.alloc (.cells #[.slice A1 ml c1,.slice A2 nl c2,.bool am,.bool an,.int .i64 si,.int .i64 un,.string ⟨rt.toArray⟩,.bool rw] 45))=W:=⟨_,rfl⟩;have X0:Hid (W0.heap[w.heap.size]?=some (.cells #[.slice A1 ml c1,.slice A2 nl c2,.bool am,.bool an,.int .i64 si,.int .i64 un,.string ⟨rt.toArray⟩,.bool rw] 45 (0,0))):=by rw[←hW0];exact j17 rfl
 have HB0:Hid (Below w.heap.size w W0):=by rw[←hW0];exact q11 (c_ _ _) _
 rw[hW0];clear hW0;obtain⟨v0,v1,v2,v3,v4,v5,v6,v7⟩:=bc8 X0.out;have vz:=q14 X0.out;go_cut[21](fun s wx=>s=.bool ((am&&decide (0<ml))||(an&&decide (0<nl)))∧wx=W0);case first=>
  cases am<;>cases an<;>by_cases hm:0<ml<;>by_cases hn:0<nl;all_goals
   first|(have hm':(0:Int)<(ml:Int):=by omega)|(have hm':¬(0:Int)<(ml:Int):=by omega)
   first|(have hn':(0:Int)<(nl:Int):=by omega)|(have hn':¬(0:Int)<(nl:Int):=by omega)
   go_wp2_with fail;go_meet;exact⟨by simp[hm,hn],rfl⟩
 case rest=>
  obtain⟨rfl,rfl⟩:=hcut;obtain⟨x1,y1⟩:∃z,(am&&decide (0<ml))=z:=⟨_,rfl⟩;obtain⟨x2,y2⟩:∃z,(an&&decide (0<nl))=z:=⟨_,rfl⟩;rw[y1,y2]at HBAD HGOOD⊢;clear y1 y2;obtain⟨z,hz⟩:∃z,(x1||x2)=z:=⟨_,rfl⟩;rw[hz];cases z with
   |true=>have HV:Hid (V=false):=HBAD.out (by simpa using hz);clear HBAD HGOOD hz;go_wp2_with fail;go_ret;exact⟨by rw[HV.out];rfl,HB0.out⟩
   |false=>
    rw[Bool.or_eq_false_iff]at hz;have HV:=a_ (HGOOD.out hz.1 hz.2);clear HBAD HGOOD hz;cases b1 with
     |false=>
      rcases j30 rt with⟨rfl,hq⟩|⟨hne,hq⟩;·
       cases rw<;>(go_wp2_with(first|(go_at_call_of 228(Value.slice A1 ml c1);refine(H1 _ (HM.out.below HB0.out)).out.mono ?_;rintro e w1⟨rfl,hb1⟩;have Y1:=a_ (j3 hb1 X0.out);obtain⟨v0,v1,v2,v3,v4,v5,v6,v7⟩:=bc8 Y1.out;have vz:=q14 Y1.out));go_ret;exact⟨by rw[HV.out];simp,q12 hb1 (HB0.out)⟩)
      ·go_wp2_with(first|(go_at_call_of 228(Value.slice A1 ml c1);refine(H1 _ (HM.out.below HB0.out)).out.mono ?_;rintro e w1⟨rfl,hb1⟩;have Y1:=a_ (j3 hb1 X0.out);obtain⟨v0,v1,v2,v3,v4,v5,v6,v7⟩:=bc8 Y1.out;have vz:=q14 Y1.out));go_ret;exact⟨by rw[HV.out];simp,q12 hb1 (HB0.out)⟩
     |true=>
      cases b2 with
       |false=>
        rcases j30 rt with⟨rfl,hq⟩|⟨hne,hq⟩;·
         cases rw<;>(go_wp2_with(first|(go_at_call_of 228(Value.slice A2 nl c2);refine(H2 _ ((HN.out.below HB0.out).below hb1)).out.mono ?_;rintro e w2⟨rfl,hb2⟩;have Y2:=a_ (j3 hb2 Y1.out);obtain⟨v0,v1,v2,v3,v4,v5,v6,v7⟩:=bc8 Y2.out;have vz:=q14 Y2.out)|(go_at_call_of 228(Value.slice A1 ml c1);refine(H1 _ (HM.out.below HB0.out)).out.mono ?_;rintro e w1⟨rfl,hb1⟩;have Y1:=a_ (j3 hb1 X0.out);obtain⟨v0,v1,v2,v3,v4,v5,v6,v7⟩:=bc8 Y1.out;have vz:=q14 Y1.out));go_ret;exact⟨by rw[HV.out];simp,q12 hb2 (q12 hb1 (HB0.out))⟩)
        ·go_wp2_with(first|(go_at_call_of 228(Value.slice A2 nl c2);refine(H2 _ ((HN.out.below HB0.out).below hb1)).out.mono ?_;rintro e w2⟨rfl,hb2⟩;have Y2:=a_ (j3 hb2 Y1.out);obtain⟨v0,v1,v2,v3,v4,v5,v6,v7⟩:=bc8 Y2.out;have vz:=q14 Y2.out)|(go_at_call_of 228(Value.slice A1 ml c1);refine(H1 _ (HM.out.below HB0.out)).out.mono ?_;rintro e w1⟨rfl,hb1⟩;have Y1:=a_ (j3 hb1 X0.out);obtain⟨v0,v1,v2,v3,v4,v5,v6,v7⟩:=bc8 Y1.out;have vz:=q14 Y1.out));go_ret;exact⟨by rw[HV.out];simp,q12 hb2 (q12 hb1 (HB0.out))⟩
       |true=>
        cases b3 with
         |false=>
          rcases j30 rt with⟨rfl,hq⟩|⟨hne,hq⟩;·
           cases rw<;>(go_wp2_with(first|(go_at_call_of 229(Value.int .i64 si);refine(H3 _).out.mono ?_;rintro e w3⟨rfl,hb3⟩;have Y3:=a_ (j3 hb3 Y2.out);obtain⟨v0,v1,v2,v3,v4,v5,v6,v7⟩:=bc8 Y3.out;have vz:=q14 Y3.out)|(go_at_call_of 228(Value.slice A2 nl c2);refine(H2 _ ((HN.out.below HB0.out).below hb1)).out.mono ?_;rintro e w2⟨rfl,hb2⟩;have Y2:=a_ (j3 hb2 Y1.out);obtain⟨v0,v1,v2,v3,v4,v5,v6,v7⟩:=bc8 Y2.out;have vz:=q14 Y2.out)|(go_at_call_of 228(Value.slice A1 ml c1);refine(H1 _ (HM.out.below HB0.out)).out.mono ?_;rintro e w1⟨rfl,hb1⟩;have Y1:=a_ (j3 hb1 X0.out);obtain⟨v0,v1,v2,v3,v4,v5,v6,v7⟩:=bc8 Y1.out;have vz:=q14 Y1.out));go_ret;exact⟨by rw[HV.out];simp,q12 hb3 (q12 hb2 (q12 hb1 (HB0.out)))⟩)
          ·go_wp2_with(first|(go_at_call_of 229(Value.int .i64 si);refine(H3 _).out.mono ?_;rintro e w3⟨rfl,hb3⟩;have Y3:=a_ (j3 hb3 Y2.out);obtain⟨v0,v1,v2,v3,v4,v5,v6,v7⟩:=bc8 Y3.out;have vz:=q14 Y3.out)|(go_at_call_of 228(Value.slice A2 nl c2);refine(H2 _ ((HN.out.below HB0.out).below hb1)).out.mono ?_;rintro e w2⟨rfl,hb2⟩;have Y2:=a_ (j3 hb2 Y1.out);obtain⟨v0,v1,v2,v3,v4,v5,v6,v7⟩:=bc8 Y2.out;have vz:=q14 Y2.out)|(go_at_call_of 228(Value.slice A1 ml c1);refine(H1 _ (HM.out.below HB0.out)).out.mono ?_;rintro e w1⟨rfl,hb1⟩;have Y1:=a_ (j3 hb1 X0.out);obtain⟨v0,v1,v2,v3,v4,v5,v6,v7⟩:=bc8 Y1.out;have vz:=q14 Y1.out));go_ret;exact⟨by rw[HV.out];simp,q12 hb3 (q12 hb2 (q12 hb1 (HB0.out)))⟩
         |true=>
          cases b4 with
           |false=>
            rcases j30 rt with⟨rfl,hq⟩|⟨hne,hq⟩;·
             cases rw<;>(go_wp2_with(first|(go_at_call_of 229(Value.int .i64 un);refine(H4 _).out.mono ?_;rintro e w4⟨rfl,hb4⟩;have Y4:=a_ (j3 hb4 Y3.out);obtain⟨v0,v1,v2,v3,v4,v5,v6,v7⟩:=bc8 Y4.out;have vz:=q14 Y4.out)|(go_at_call_of 229(Value.int .i64 si);refine(H3 _).out.mono ?_;rintro e w3⟨rfl,hb3⟩;have Y3:=a_ (j3 hb3 Y2.out);obtain⟨v0,v1,v2,v3,v4,v5,v6,v7⟩:=bc8 Y3.out;have vz:=q14 Y3.out)|(go_at_call_of 228(Value.slice A2 nl c2);refine(H2 _ ((HN.out.below HB0.out).below hb1)).out.mono ?_;rintro e w2⟨rfl,hb2⟩;have Y2:=a_ (j3 hb2 Y1.out);obtain⟨v0,v1,v2,v3,v4,v5,v6,v7⟩:=bc8 Y2.out;have vz:=q14 Y2.out)|(go_at_call_of 228(Value.slice A1 ml c1);refine(H1 _ (HM.out.below HB0.out)).out.mono ?_;rintro e w1⟨rfl,hb1⟩;have Y1:=a_ (j3 hb1 X0.out);obtain⟨v0,v1,v2,v3,v4,v5,v6,v7⟩:=bc8 Y1.out;have vz:=q14 Y1.out));go_ret;exact⟨by rw[HV.out];simp,q12 hb4 (q12 hb3 (q12 hb2 (q12 hb1 (HB0.out))))⟩)
            ·go_wp2_with(first|(go_at_call_of 229(Value.int .i64 un);refine(H4 _).out.mono ?_;rintro e w4⟨rfl,hb4⟩;have Y4:=a_ (j3 hb4 Y3.out);obtain⟨v0,v1,v2,v3,v4,v5,v6,v7⟩:=bc8 Y4.out;have vz:=q14 Y4.out)|(go_at_call_of 229(Value.int .i64 si);refine(H3 _).out.mono ?_;rintro e w3⟨rfl,hb3⟩;have Y3:=a_ (j3 hb3 Y2.out);obtain⟨v0,v1,v2,v3,v4,v5,v6,v7⟩:=bc8 Y3.out;have vz:=q14 Y3.out)|(go_at_call_of 228(Value.slice A2 nl c2);refine(H2 _ ((HN.out.below HB0.out).below hb1)).out.mono ?_;rintro e w2⟨rfl,hb2⟩;have Y2:=a_ (j3 hb2 Y1.out);obtain⟨v0,v1,v2,v3,v4,v5,v6,v7⟩:=bc8 Y2.out;have vz:=q14 Y2.out)|(go_at_call_of 228(Value.slice A1 ml c1);refine(H1 _ (HM.out.below HB0.out)).out.mono ?_;rintro e w1⟨rfl,hb1⟩;have Y1:=a_ (j3 hb1 X0.out);obtain⟨v0,v1,v2,v3,v4,v5,v6,v7⟩:=bc8 Y1.out;have vz:=q14 Y1.out));go_ret;exact⟨by rw[HV.out];simp,q12 hb4 (q12 hb3 (q12 hb2 (q12 hb1 (HB0.out))))⟩
           |true=>
            rcases j30 rt with⟨rfl,hq⟩|⟨hne,hq⟩;·
             cases rw with
              |false=>go_wp2_with(first|(go_at_call_of 229(Value.int .i64 un);refine(H4 _).out.mono ?_;rintro e w4⟨rfl,hb4⟩;have Y4:=a_ (j3 hb4 Y3.out);obtain⟨v0,v1,v2,v3,v4,v5,v6,v7⟩:=bc8 Y4.out;have vz:=q14 Y4.out)|(go_at_call_of 229(Value.int .i64 si);refine(H3 _).out.mono ?_;rintro e w3⟨rfl,hb3⟩;have Y3:=a_ (j3 hb3 Y2.out);obtain⟨v0,v1,v2,v3,v4,v5,v6,v7⟩:=bc8 Y3.out;have vz:=q14 Y3.out)|(go_at_call_of 228(Value.slice A2 nl c2);refine(H2 _ ((HN.out.below HB0.out).below hb1)).out.mono ?_;rintro e w2⟨rfl,hb2⟩;have Y2:=a_ (j3 hb2 Y1.out);obtain⟨v0,v1,v2,v3,v4,v5,v6,v7⟩:=bc8 Y2.out;have vz:=q14 Y2.out)|(go_at_call_of 228(Value.slice A1 ml c1);refine(H1 _ (HM.out.below HB0.out)).out.mono ?_;rintro e w1⟨rfl,hb1⟩;have Y1:=a_ (j3 hb1 X0.out);obtain⟨v0,v1,v2,v3,v4,v5,v6,v7⟩:=bc8 Y1.out;have vz:=q14 Y1.out));go_ret;exact⟨by rw[HV.out];simp,q12 hb4 (q12 hb3 (q12 hb2 (q12 hb1 (HB0.out))))⟩
              |true=>go_wp2_with(first|(go_at_call 230;refine(H6 _).out.mono ?_;rintro e w5⟨rfl,hb5⟩;have Y5:=a_ (j3 hb5 Y4.out);obtain⟨v0,v1,v2,v3,v4,v5,v6,v7⟩:=bc8 Y5.out;have vz:=q14 Y5.out)|(go_at_call_of 229(Value.int .i64 un);refine(H4 _).out.mono ?_;rintro e w4⟨rfl,hb4⟩;have Y4:=a_ (j3 hb4 Y3.out);obtain⟨v0,v1,v2,v3,v4,v5,v6,v7⟩:=bc8 Y4.out;have vz:=q14 Y4.out)|(go_at_call_of 229(Value.int .i64 si);refine(H3 _).out.mono ?_;rintro e w3⟨rfl,hb3⟩;have Y3:=a_ (j3 hb3 Y2.out);obtain⟨v0,v1,v2,v3,v4,v5,v6,v7⟩:=bc8 Y3.out;have vz:=q14 Y3.out)|(go_at_call_of 228(Value.slice A2 nl c2);refine(H2 _ ((HN.out.below HB0.out).below hb1)).out.mono ?_;rintro e w2⟨rfl,hb2⟩;have Y2:=a_ (j3 hb2 Y1.out);obtain⟨v0,v1,v2,v3,v4,v5,v6,v7⟩:=bc8 Y2.out;have vz:=q14 Y2.out)|(go_at_call_of 228(Value.slice A1 ml c1);refine(H1 _ (HM.out.below HB0.out)).out.mono ?_;rintro e w1⟨rfl,hb1⟩;have Y1:=a_ (j3 hb1 X0.out);obtain⟨v0,v1,v2,v3,v4,v5,v6,v7⟩:=bc8 Y1.out;have vz:=q14 Y1.out));go_ret;exact⟨by rw[HV.out];simp,q12 hb5 (q12 hb4 (q12 hb3 (q12 hb2 (q12 hb1 (HB0.out)))))⟩
            ·rw[j_ hne]at HV H6;clear hne;go_wp2_with(first|(go_at_call 128;refine(H5 _).out.mono ?_;rintro e w6⟨rfl,hb6⟩)|(go_at_call 230;refine(H6 _).out.mono ?_;rintro e w5⟨rfl,hb5⟩;have Y5:=a_ (j3 hb5 Y4.out);obtain⟨v0,v1,v2,v3,v4,v5,v6,v7⟩:=bc8 Y5.out;have vz:=q14 Y5.out)|(go_at_call_of 229(Value.int .i64 un);refine(H4 _).out.mono ?_;rintro e w4⟨rfl,hb4⟩;have Y4:=a_ (j3 hb4 Y3.out);obtain⟨v0,v1,v2,v3,v4,v5,v6,v7⟩:=bc8 Y4.out;have vz:=q14 Y4.out)|(go_at_call_of 229(Value.int .i64 si);refine(H3 _).out.mono ?_;rintro e w3⟨rfl,hb3⟩;have Y3:=a_ (j3 hb3 Y2.out);obtain⟨v0,v1,v2,v3,v4,v5,v6,v7⟩:=bc8 Y3.out;have vz:=q14 Y3.out)|(go_at_call_of 228(Value.slice A2 nl c2);refine(H2 _ ((HN.out.below HB0.out).below hb1)).out.mono ?_;rintro e w2⟨rfl,hb2⟩;have Y2:=a_ (j3 hb2 Y1.out);obtain⟨v0,v1,v2,v3,v4,v5,v6,v7⟩:=bc8 Y2.out;have vz:=q14 Y2.out)|(go_at_call_of 228(Value.slice A1 ml c1);refine(H1 _ (HM.out.below HB0.out)).out.mono ?_;rintro e w1⟨rfl,hb1⟩;have Y1:=a_ (j3 hb1 X0.out);obtain⟨v0,v1,v2,v3,v4,v5,v6,v7⟩:=bc8 Y1.out;have vz:=q14 Y1.out));go_ret;exact⟨by rw[HV.out];cases b5<;>rfl,q12 hb6 (q12 hb5 (q12 hb4 (q12 hb3 (q12 hb2 (q12 hb1 (HB0.out))))))⟩
structure FewC(k:CondL):Prop where
 m:k.M.length≤40
 n:k.N.length≤40
 tm:∀t∈k.M,t.1.length≤400
 tn:∀t∈k.N,t.1.length≤400
 rt:k.rt.length≤400
theorem FewC.short{k:CondL}(h:FewC k):ShortC k:=⟨by have:=h.m;omega,by have:=h.n;omega,fun t ht=>by have:=h.tm t ht;omega,fun t ht=>by have:=h.tn t ht;omega,by have:=h.rt;omega⟩
theorem k148(k:CondL)(A1:Option Addr)(c1:Nat)(A2:Option Addr)(c2:Nat)(w:World)(h1:SpG q27 2 w A1 c1 k.M)(h2:SpG q27 2 w A2 c2 k.N)(hrt:k.rt.length≤4611686018427387904):Calls Tryz.prog 107 #[j57 k A1 c1 A2 c2] w (w51 (FewC k) w):=by
 obtain⟨M,N,am,an,si,un,rt,rw⟩:=k;simp only at h1 h2 hrt;have HM:=a_ h1;have HN:=a_ h2;have hsz:(⟨rt.toArray⟩:ByteArray).size=rt.length:=q19 rt;unfold j57;simp only;clear h1 h2;go_enter Tryz.func107,Tryz.ntmps107;go_upto_region 1 with fail;obtain⟨W0,hW0⟩:∃W,(w.alloc (.cells #[.slice A1 M.length c1,.slice A2 N.length c2,.bool am,.bool an,.int .i64 si,.int .i64 un,.string ⟨rt.toArray⟩,.bool rw] 45))=W:=⟨_,rfl⟩;have X0:Hid (W0.heap[w.heap.size]?=some (.cells #[.slice A1 M.length c1,.slice A2 N.length c2,.bool am,.bool an,.int .i64 si,.int .i64 un,.string ⟨rt.toArray⟩,.bool rw] 45 (0,0))):=by rw[←hW0];exact j17 rfl
 have HB0:Hid (Below w.heap.size w W0):=by rw[←hW0];exact q11 (c_ _ _) _
 rw[hW0];clear hW0;obtain⟨v0,v1,v2,v3,v4,v5,v6,v7⟩:=bc8 X0.out;have vz:=q14 X0.out;go_wp2_with fail;obtain⟨BW,hBW⟩:∃W,W0.alloc (.cells #[.slice A1 M.length c1,.slice A2 N.length c2] 41)=W:=⟨_,rfl⟩;have XR:Hid (BW.heap[W0.heap.size]?=some (.cells #[.slice A1 M.length c1,.slice A2 N.length c2] 41 (0,0))):=by rw[←hBW];exact j17 rfl
 have HBW:Hid (Below w.heap.size w BW):=by rw[←hBW];exact q11 HB0.out _
 rw[hBW];clear hBW X0 HB0 v0 v1 v2 v3 v4 v5 v6 v7 vz;go_loopw[3,5,7,18,27](fun n _ _ i _ wr=>∃(k:Nat)(m:Int),k≤2∧i=.int .i64 (k:Int)∧n=.int .i64 m∧(rt.length:Int)≤m∧m≤(rt.length:Int)+(k:Int)*16000∧(0<k→M.length≤40∧∀t∈M,t.1.length≤400)∧(1<k→N.length≤40∧∀t∈N,t.1.length≤400)∧Below BW.heap.size BW wr)(fun _ _ _ i _ _=>2-(intOf i).toNat);case atStart=>exact⟨0,rt.length,by omega,rfl,by first|rfl|(rw[hsz]),by omega,by omega,by omega,by omega,c_ _ _⟩
 case round=>
  obtain⟨k,m,hk,rfl,rfl,hm1,hm2,hM,hN,hbw⟩:=hrel;have HB:=a_ hbw;have HMF:=a_ hM;have HNF:=a_ hN;have YR:=a_ (j3 hbw XR.out);have yz:=q14 YR.out;clear hbw hM hN;by_cases hlt:k<2;·
   have hcases:∃(A:Option Addr)(c:Nat)(T:List TagL),SpG q27 2 wr A c T∧(#[.slice A1 M.length c1,.slice A2 N.length c2]:Array Value)[k]?=some (.slice A T.length c)∧(T.length≤40→(∀t∈T,t.1.length≤400)→(0<k+1→M.length≤40∧∀t∈M,t.1.length≤400)∧(1<k+1→N.length≤40∧∀t∈N,t.1.length≤400)):=by
    have hk2:k=0∨k=1:=by omega
    rcases hk2 with rfl|rfl;·exact⟨A1,c1,M,HM.out.below (q12 HB.out HBW.out),rfl,fun h1 h2=>⟨fun _=>⟨h1,h2⟩,fun h=>absurd h (by omega)⟩⟩
    ·exact⟨A2,c2,N,HN.out.below (q12 HB.out HBW.out),rfl,fun h1 h2=>⟨fun _=>HMF.out (by omega),fun _=>⟨h1,h2⟩⟩⟩
   obtain⟨A,c,T,hT,hc,hF⟩:=hcases;have HT:=a_ hT;have HF:=a_ hF;have c0:=(j14 YR.out hc);clear hT hF hc HMF HNF;have hk2:(k:Int)<2:=by omega
   by_cases h40:40<T.length;·
    have h40':(40:Int)<(T.length:Int):=by omega
    go_wp2_with fail;go_ret;exact j181 (q12 HB.out HBW.out)
   have h40':¬(40:Int)<(T.length:Int):=by omega
   go_wp2_with fail;go_loopw[3,7,27](fun n _ j wq=>∃(q:Nat)(u:Int),q≤T.length∧j=.int .i64 (q:Int)∧n=.int .i64 u∧m≤u∧u≤m+(q:Int)*400∧(∀t∈T.take q,t.1.length≤400)∧Below wr.heap.size wr wq)(fun _ _ j _=>T.length-(intOf j).toNat);case atStart=>exact⟨0,m,s_ _,rfl,rfl,by omega,by omega,by simp,c_ _ _⟩
   case round=>
    obtain⟨q,u,hq,rfl,rfl,hu1,hu2,hall,hbq⟩:=hrel;have HBQ:=a_ hbq;have HA:=a_ hall;clear hbq hall;by_cases hlq:q<T.length;·
     obtain⟨b,off,e,hb,hc⟩:=(HT.out.below HBQ.out).at' q hlq;have d0:=hc 0 _ rfl;have d1:=hc 1 _ rfl;have HST:Hid (T[q].1.length≤400→∀t∈T.take (q+1),t.1.length≤400):=by
      intro h t ht;rw[m_ hlq]at ht;rcases z_.1 ht with ht|ht;·exact HA.out t ht
      ·rw[G_.1 ht];exact h
     obtain⟨⟨t,tw⟩,ht⟩:∃y,T[q]=y:=⟨_,rfl⟩;rw[ht]at d0 d1 HST;have htz:(⟨t.toArray⟩:ByteArray).size=t.length:=q19 t;simp only[M_]at d0 d1 HST;clear hc ht HA;subst e;have hk20:(k:Int)*16000≤16000:=by omega
     have hq16:(q:Int)*400≤16000:=by omega
     by_cases h4:400<t.length;·
      have h4':(400:Int)<(t.length:Int):=by omega
      go_wp2_with fail;go_ret;exact j181 (q12 (q11 HBQ.out _) (q12 HB.out HBW.out))
     ·have h4':¬(400:Int)<(t.length:Int):=by omega
      have HAN:=a_ (HST.out (by omega));go_wp2_with fail;go_roundw;case rel=>exact⟨q+1,u+t.length,by omega,by go_num,by first|rfl|go_num,by omega,by omega,HAN.out,q11 HBQ.out _⟩
      case measure=>simp[intOf];omega
    ·have hqe:q=T.length:=by omega
     have hAL:=HA.out;rw[hqe,U_]at hAL;have HFF:=a_ (HF.out (by omega) hAL);clear HA hAL;go_wp2_with fail;go_roundw;case rel=>exact⟨k+1,u,by omega,by go_num,rfl,by omega,by omega,HFF.out.1,HFF.out.2,q12 HBQ.out HB.out⟩
     case measure=>simp[intOf];omega
  ·have hk2:k=2:=by omega
   subst hk2;by_cases h4:m≤400;·have HF:Hid (FewC ⟨M,N,am,an,si,un,rt,rw⟩):=⟨(HMF.out (by omega)).1,(HNF.out (by omega)).1,(HMF.out (by omega)).2,(HNF.out (by omega)).2,by simp only;omega⟩;go_wp2_with fail;go_ret;exact x97 HF.out (q12 HB.out HBW.out)
   ·go_wp2_with fail;go_ret;exact j181 (q12 HB.out HBW.out)
end Go.Proofs.YtbphndihjdiiiaaGreatDoor
