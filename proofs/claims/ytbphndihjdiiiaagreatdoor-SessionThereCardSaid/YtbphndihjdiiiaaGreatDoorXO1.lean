/- Contracts of objects' names: head's Object, the document's. Contracts of .. -/
import Derived.Test.YtbphndihjdiiiaaGreatDoorXI5
import Derived.Test.YtbphndihjdiiiaaGreatDoorXB11
import Derived.Deep.RegionHeld3
import Derived.Test.YtbphndihjdiiiaaGreatDoorXI4
set_option maxHeartbeats 16000000
set_option maxRecDepth 100000
set_option linter.all false
namespace Go.Proofs.YtbphndihjdiiiaaGreatDoor
open Go.RowKit
def j33(l:List UInt8):Bool:=decide (1≤l.length)&&decide (l.length≤200)&&decide (l.headD 0=47)&&l.all keyB
theorem w112{l:List UInt8}(h:l.all keyB=false):j33 l=false:=by unfold j33;rw[h,Bool.and_false]
theorem j102{l:List UInt8}(h1:1≤l.length)(h2:l.length≤200)(h3:l.headD 0=47)(h:l.all keyB=true):j33 l=true:=by unfold j33;rw[h,decide_eq_true h1,decide_eq_true h2,decide_eq_true h3];rfl
theorem k66{l:List UInt8}(h:0<l.length):l.headD 0=l[0]:=by cases l with|nil=>simp at h|cons a r=>rfl
theorem z135(l:List UInt8)(w:World)(hl:l.length≤1000000):Calls Tryz.prog 108 #[.string ⟨l.toArray⟩] w fun e w'=>e=.returned (.bool (j33 l))∧w'=w:=by
 have hsz:(⟨l.toArray⟩:ByteArray).size=l.length:=q19 l;by_cases h1:l.length<1;·
  have HV:Hid (j33 l=false):=by simp only[Hid];unfold j33;rw[decide_eq_false (by omega)];rfl
  have h1':(l.length:Int)<1:=by omega
  clear h1;go_enter Tryz.func108,Tryz.ntmps108;go_wp2_with fail;go_ret;exact⟨q17 HV.out.symm,rfl⟩
 by_cases h2:200<l.length;·
  have HV:Hid (j33 l=false):=by simp only[Hid];unfold j33;rw[decide_eq_false (show¬l.length≤200 by omega)];simp
  have h1':¬(l.length:Int)<1:=by omega
  have h2':(200:Int)<(l.length:Int):=by omega
  clear h1 h2;go_enter Tryz.func108,Tryz.ntmps108;go_wp2_with fail;go_ret;exact⟨q17 HV.out.symm,rfl⟩
 have h1':¬(l.length:Int)<1:=by omega
 have h2':¬(200:Int)<(l.length:Int):=by omega
 have hp0:(0:Nat)<l.length:=by omega
 have H12:Hid (1≤l.length∧l.length≤200):=by simp only[Hid];omega
 clear h1 h2;by_cases h3:l.headD 0=47;rotate_left;·
  have HV:Hid (j33 l=false):=by simp only[Hid];unfold j33;rw[decide_eq_false h3];simp
  have HD:=Lib.hid h3;obtain⟨c0,hc0⟩:∃c,(⟨l.toArray⟩:ByteArray)[0]'(by rw[hsz];exact hp0)=c:=⟨_,rfl⟩;have hcl:l[0]=c0:=hc0;have h3':¬(c0.toNat:Int)=47:=by intro h;apply HD.out;rw[k66 hp0,hcl];exact UInt8.toNat_inj.1 (by rw[show c0.toNat=47 by omega];rfl)
  have h4':((c0.toNat:Int)!=47)=true:=by rw[bne_iff_ne];exact h3'
  clear h3 hcl HD;go_enter Tryz.func108,Tryz.ntmps108;go_wp2_with fail;go_ret;exact⟨q17 HV.out.symm,rfl⟩
 have HD:=Lib.hid h3;obtain⟨c0,hc0⟩:∃c,(⟨l.toArray⟩:ByteArray)[0]'(by rw[hsz];exact hp0)=c:=⟨_,rfl⟩;have hcl:l[0]=c0:=hc0;have h3':(c0.toNat:Int)=47:=by rw[←hcl,←k66 hp0,h3];rfl
 have h4':((c0.toNat:Int)!=47)=false:=by rw[bne_eq_false_iff_eq];exact h3'
 clear h3 hcl;go_enter Tryz.func108,Tryz.ntmps108;go_wp2_with fail;clear hc0 h3' h4' h1' h2';go_loopw[3,19](fun _ i wr=>wr=w∧∃k:Nat,k≤l.length∧i=.int .i64 (k:Int)∧(l.take k).all keyB=true)(fun _ i _=>l.length-(intOf i).toNat);case atStart=>exact⟨rfl,0,Nat.zero_le _,rfl,rfl⟩
 case round=>
  obtain⟨rfl,k,hk,rfl,hall⟩:=hrel;have HA:=Lib.hid hall;clear hall;by_cases hlt:k<l.length;·
   have HS:=Lib.hid (fun h=>q34 hlt HA.out h);have HN:=Lib.hid (fun h=>w112 (j41 hlt h));obtain⟨c,hc⟩:∃c,(⟨l.toArray⟩:ByteArray)[k]'(by rw[hsz];exact hlt)=c:=⟨_,rfl⟩;have hcl:l[k]=c:=hc;rw[hcl]at HS HN;have hcb:c.toNat<256:=UInt8.toNat_lt _;clear hcl HA;by_cases d1:c.toNat<33;·
    have HV:=Lib.hid (HN.out (by unfold keyB;rw[decide_eq_false (show¬33≤c.toNat by omega)];rfl));have e1:(c.toNat:Int)<33:=by omega
    have e2:(c.toNat:Int)≤32:=by omega
    clear HN HS d1;go_wp2_with fail;go_ret;exact⟨q17 HV.out.symm,rfl⟩
   have e1:¬(c.toNat:Int)<33:=by omega
   have e2:¬(c.toNat:Int)≤32:=by omega
   by_cases d3:126<c.toNat;·
    have HV:=Lib.hid (HN.out (by unfold keyB;rw[decide_eq_false (show¬c.toNat≤126 by omega)];simp));have e3:(126:Int)<(c.toNat:Int):=by omega
    clear HN HS d1 d3;go_wp2_with fail;go_ret;exact⟨q17 HV.out.symm,rfl⟩
   have e3:¬(126:Int)<(c.toNat:Int):=by omega
   have HV:=Lib.hid (HS.out (by unfold keyB;rw[decide_eq_true (show 33≤c.toNat by omega),decide_eq_true (show c.toNat≤126 by omega)];rfl));clear HN HS d1 d3;go_wp2_with fail;go_roundw;case rel=>exact⟨by first|trivial|rfl,k+1,by omega,by go_num,HV.out⟩
   case measure=>simp[intOf];omega
  ·have HV:Hid (j33 l=true):=by have h:=HA.out;rw[List.take_of_length_le (by omega)]at h;exact j102 H12.out.1 H12.out.2 HD.out h
   go_wp2_with fail;go_ret;exact⟨q17 HV.out.symm,rfl⟩
theorem y121(l:List UInt8)(w:World)(hl:l.length≤1000000):Calls Tryz.prog 172 #[.string ⟨l.toArray⟩] w fun e w'=>e=.returned (.bool (j33 l))∧w'=w:=by
 have hsz:(⟨l.toArray⟩:ByteArray).size=l.length:=q19 l;by_cases h1:l.length<1;·
  have HV:Hid (j33 l=false):=by simp only[Hid];unfold j33;rw[decide_eq_false (by omega)];rfl
  have h1':(l.length:Int)<1:=by omega
  clear h1;go_enter Tryz.func172,Tryz.ntmps172;go_wp2_with fail;go_ret;exact⟨q17 HV.out.symm,rfl⟩
 by_cases h2:200<l.length;·
  have HV:Hid (j33 l=false):=by simp only[Hid];unfold j33;rw[decide_eq_false (show¬l.length≤200 by omega)];simp
  have h1':¬(l.length:Int)<1:=by omega
  have h2':(200:Int)<(l.length:Int):=by omega
  clear h1 h2;go_enter Tryz.func172,Tryz.ntmps172;go_wp2_with fail;go_ret;exact⟨q17 HV.out.symm,rfl⟩
 have h1':¬(l.length:Int)<1:=by omega
 have h2':¬(200:Int)<(l.length:Int):=by omega
 have hp0:(0:Nat)<l.length:=by omega
 have H12:Hid (1≤l.length∧l.length≤200):=by simp only[Hid];omega
 clear h1 h2;by_cases h3:l.headD 0=47;rotate_left;·
  have HV:Hid (j33 l=false):=by simp only[Hid];unfold j33;rw[decide_eq_false h3];simp
  have HD:=Lib.hid h3;obtain⟨c0,hc0⟩:∃c,(⟨l.toArray⟩:ByteArray)[0]'(by rw[hsz];exact hp0)=c:=⟨_,rfl⟩;have hcl:l[0]=c0:=hc0;have h3':¬(c0.toNat:Int)=47:=by intro h;apply HD.out;rw[k66 hp0,hcl];exact UInt8.toNat_inj.1 (by rw[show c0.toNat=47 by omega];rfl)
  have h4':((c0.toNat:Int)!=47)=true:=by rw[bne_iff_ne];exact h3'
  clear h3 hcl HD;go_enter Tryz.func172,Tryz.ntmps172;go_wp2_with fail;go_ret;exact⟨q17 HV.out.symm,rfl⟩
 have HD:=Lib.hid h3;obtain⟨c0,hc0⟩:∃c,(⟨l.toArray⟩:ByteArray)[0]'(by rw[hsz];exact hp0)=c:=⟨_,rfl⟩;have hcl:l[0]=c0:=hc0;have h3':(c0.toNat:Int)=47:=by rw[←hcl,←k66 hp0,h3];rfl
 have h4':((c0.toNat:Int)!=47)=false:=by rw[bne_eq_false_iff_eq];exact h3'
 clear h3 hcl;go_enter Tryz.func172,Tryz.ntmps172;go_wp2_with fail;clear hc0 h3' h4' h1' h2';go_loopw[3](fun i wr=>wr=w∧∃k:Nat,k≤l.length∧i=.int .i64 (k:Int)∧(l.take k).all keyB=true)(fun i _=>l.length-(intOf i).toNat);case atStart=>exact⟨rfl,0,Nat.zero_le _,rfl,rfl⟩
 case round=>
  obtain⟨rfl,k,hk,rfl,hall⟩:=hrel;have HA:=Lib.hid hall;clear hall;by_cases hlt:k<l.length;·
   have HS:=Lib.hid (fun h=>q34 hlt HA.out h);have HN:=Lib.hid (fun h=>w112 (j41 hlt h));obtain⟨c,hc⟩:∃c,(⟨l.toArray⟩:ByteArray)[k]'(by rw[hsz];exact hlt)=c:=⟨_,rfl⟩;have hcl:l[k]=c:=hc;rw[hcl]at HS HN;have hcb:c.toNat<256:=UInt8.toNat_lt _;clear hcl HA;by_cases d1:c.toNat<33;·
    have HV:=Lib.hid (HN.out (by unfold keyB;rw[decide_eq_false (show¬33≤c.toNat by omega)];rfl));have e1:(c.toNat:Int)<33:=by omega
    have e2:(c.toNat:Int)≤32:=by omega
    clear HN HS d1;go_wp2_with fail;go_ret;exact⟨q17 HV.out.symm,rfl⟩
   have e1:¬(c.toNat:Int)<33:=by omega
   have e2:¬(c.toNat:Int)≤32:=by omega
   by_cases d3:126<c.toNat;·
    have HV:=Lib.hid (HN.out (by unfold keyB;rw[decide_eq_false (show¬c.toNat≤126 by omega)];simp));have e3:(126:Int)<(c.toNat:Int):=by omega
    clear HN HS d1 d3;go_wp2_with fail;go_ret;exact⟨q17 HV.out.symm,rfl⟩
   have e3:¬(126:Int)<(c.toNat:Int):=by omega
   have HV:=Lib.hid (HS.out (by unfold keyB;rw[decide_eq_true (show 33≤c.toNat by omega),decide_eq_true (show c.toNat≤126 by omega)];rfl));clear HN HS d1 d3;go_wp2_with fail;go_roundw;case rel=>exact⟨by first|trivial|rfl,k+1,by omega,by go_num,HV.out⟩
   case measure=>simp[intOf];omega
  ·have HV:Hid (j33 l=true):=by have h:=HA.out;rw[List.take_of_length_le (by omega)]at h;exact j102 H12.out.1 H12.out.2 HD.out h
   go_wp2_with fail;go_ret;exact⟨q17 HV.out.symm,rfl⟩
abbrev TagL:=List UInt8×Bool
def q27(t:TagL):List Value:=[.string ⟨t.1.toArray⟩,.bool t.2]
def tgs(T:List TagL):Bool:=T.all fun t=>j20 t.1
theorem z113{T:List TagL}{k:Nat}(hk:k<T.length)(h:tgs (T.take k)=true)(h2:j20 T[k].1=true):tgs (T.take (k+1))=true:=by unfold tgs at*;rw[List.take_succ_eq_append_getElem hk,List.all_append,h];simp[h2]
theorem tgs_no{T:List TagL}{k:Nat}(hk:k<T.length)(h2:j20 T[k].1=false):tgs T=false:=by unfold tgs;rw[List.all_eq_false];exact⟨T[k],List.getElem_mem hk,by rw[h2];simp⟩
def k47(any:Bool)(T:List TagL):Bool:=decide (T.length≤32)&&!(any&&decide (0<T.length))&&tgs T
def j61(T:List TagL):Bool:=tgs T&&decide (T.length≤32)
def k38(a b:TagL):Bool:=j20 a.1&&j20 b.1&&decide (a.1=b.1)
def k34(a b:TagL):Bool:=!a.2&&!b.2&&k38 a b
def oneT(s:Bool)(t x:TagL):Bool:=if s=true then k34 x t else k38 x t
def inT(T:List TagL)(t:TagL)(s:Bool):Bool:=T.any (oneT s t)
theorem y66{T:List TagL}{t:TagL}{s:Bool}{k:Nat}(hk:k<T.length)(h:inT (T.take k) t s=false)(h2:oneT s t T[k]=false):inT (T.take (k+1)) t s=false:=by unfold inT at*;rw[List.take_succ_eq_append_getElem hk,List.any_append,h];simp[h2]
theorem q79{T:List TagL}{t:TagL}{s:Bool}{k:Nat}(hk:k<T.length)(h2:oneT s t T[k]=true):inT T t s=true:=by unfold inT;rw[List.any_eq_true];exact⟨T[k],List.getElem_mem hk,h2⟩
theorem q135(a b:TagL):k38 a b=k38 b a:=by unfold k38;rw[show decide (a.1=b.1)=decide (b.1=a.1)by rw[decide_eq_decide];exact eq_comm,Bool.and_comm (j20 a.1)]
theorem q113(a b:TagL):k34 a b=k34 b a:=by unfold k34;rw[q135 a b,Bool.and_comm (!a.2)]
def w54(T:List TagL):Prop:=∀t∈T,t.1.length≤1000000
theorem k82(a b:List UInt8)(ak bk:Bool)(w:World)(ha:a.length≤1000000)(hb:b.length≤1000000):Calls Tryz.prog 192 #[.agg #[.string ⟨a.toArray⟩,.bool ak],.agg #[.string ⟨b.toArray⟩,.bool bk]] w fun e w'=>e=.returned (.bool (k38 (a,ak) (b,bk)))∧Below w.heap.size w w':=by
 have HA:=fun W=>Lib.hid (k39 a ak W ha);have HB:=fun W=>Lib.hid (k39 b bk W hb);have HV:Hid (k38 (a,ak) (b,bk)=(j20 a&&j20 b&&decide (a=b))):=rfl;obtain⟨V,hV⟩:∃V,k38 (a,ak) (b,bk)=V:=⟨_,rfl⟩;rw[hV]at HV⊢;clear hV;go_enter Tryz.func192,Tryz.ntmps192;go_upto_region 1 with fail;obtain⟨W0,hW0,X0,X1,HB0⟩:=box2 w #[.string ⟨a.toArray⟩,.bool ak] 43 #[.string ⟨b.toArray⟩,.bool bk] 43;rw[hW0];clear hW0;have v0:=bc 0 X0.out rfl;have v1:=bc 1 X0.out rfl;have vz:=q14 X0.out;have u0:=bc 0 X1.out rfl;have u1:=bc 1 X1.out rfl;have uz:=q14 X1.out;obtain⟨ta,hta⟩:∃x,j20 a=x:=⟨_,rfl⟩;rw[hta]at HA HV;clear hta;cases ta with
  |false=>go_wp2_with(go_at_call_of 115(Value.agg #[.string ⟨a.toArray⟩,.bool ak]);refine(HA _).out.mono ?_;rintro e w1⟨rfl,hb1⟩;have Y0:=Lib.hid (j3 hb1 X0.out);have Y1:=Lib.hid (j3 hb1 X1.out);have k0:=bc 0 Y0.out rfl;have k1:=bc 1 Y0.out rfl;have m0:=bc 0 Y1.out rfl;have m1:=bc 1 Y1.out rfl;have kz:=q14 Y0.out;have mz:=q14 Y1.out);go_ret;exact⟨by rw[HV.out];rfl,q12 hb1 HB0.out⟩
  |true=>
   obtain⟨tb,htb⟩:∃x,j20 b=x:=⟨_,rfl⟩;rw[htb]at HB HV;clear htb;cases tb with
    |false=>go_wp2_with(first|(go_at_call_of 115(Value.agg #[.string ⟨b.toArray⟩,.bool bk]);refine(HB _).out.mono ?_;rintro e w2⟨rfl,hb2⟩;have Z0:=Lib.hid (j3 hb2 Y0.out);have Z1:=Lib.hid (j3 hb2 Y1.out);have k0:=bc 0 Z0.out rfl;have m0:=bc 0 Z1.out rfl;have kz:=q14 Z0.out;have mz:=q14 Z1.out)|(go_at_call_of 115(Value.agg #[.string ⟨a.toArray⟩,.bool ak]);refine(HA _).out.mono ?_;rintro e w1⟨rfl,hb1⟩;have Y0:=Lib.hid (j3 hb1 X0.out);have Y1:=Lib.hid (j3 hb1 X1.out);have k0:=bc 0 Y0.out rfl;have k1:=bc 1 Y0.out rfl;have m0:=bc 0 Y1.out rfl;have m1:=bc 1 Y1.out rfl;have kz:=q14 Y0.out;have mz:=q14 Y1.out));go_ret;exact⟨by rw[HV.out];rfl,q12 hb2 (q12 hb1 HB0.out)⟩
    |true=>
     by_cases he:a=b;·
      have hq:(a==b)=true:=by rw[he];exact beq_self_eq_true b
      rw[decide_eq_true he]at HV;clear he;go_wp2_with(first|(go_at_call_of 115(Value.agg #[.string ⟨b.toArray⟩,.bool bk]);refine(HB _).out.mono ?_;rintro e w2⟨rfl,hb2⟩;have Z0:=Lib.hid (j3 hb2 Y0.out);have Z1:=Lib.hid (j3 hb2 Y1.out);have k0:=bc 0 Z0.out rfl;have m0:=bc 0 Z1.out rfl;have kz:=q14 Z0.out;have mz:=q14 Z1.out)|(go_at_call_of 115(Value.agg #[.string ⟨a.toArray⟩,.bool ak]);refine(HA _).out.mono ?_;rintro e w1⟨rfl,hb1⟩;have Y0:=Lib.hid (j3 hb1 X0.out);have Y1:=Lib.hid (j3 hb1 X1.out);have k0:=bc 0 Y0.out rfl;have k1:=bc 1 Y0.out rfl;have m0:=bc 0 Y1.out rfl;have m1:=bc 1 Y1.out rfl;have kz:=q14 Y0.out;have mz:=q14 Y1.out));go_ret;exact⟨by rw[HV.out];rfl,q12 hb2 (q12 hb1 HB0.out)⟩
     ·have hq:(a==b)=false:=beq_eq_false_iff_ne.2 he;rw[decide_eq_false he]at HV;clear he;go_wp2_with(first|(go_at_call_of 115(Value.agg #[.string ⟨b.toArray⟩,.bool bk]);refine(HB _).out.mono ?_;rintro e w2⟨rfl,hb2⟩;have Z0:=Lib.hid (j3 hb2 Y0.out);have Z1:=Lib.hid (j3 hb2 Y1.out);have k0:=bc 0 Z0.out rfl;have m0:=bc 0 Z1.out rfl;have kz:=q14 Z0.out;have mz:=q14 Z1.out)|(go_at_call_of 115(Value.agg #[.string ⟨a.toArray⟩,.bool ak]);refine(HA _).out.mono ?_;rintro e w1⟨rfl,hb1⟩;have Y0:=Lib.hid (j3 hb1 X0.out);have Y1:=Lib.hid (j3 hb1 X1.out);have k0:=bc 0 Y0.out rfl;have k1:=bc 1 Y0.out rfl;have m0:=bc 0 Y1.out rfl;have m1:=bc 1 Y1.out rfl;have kz:=q14 Y0.out;have mz:=q14 Y1.out));go_ret;exact⟨by rw[HV.out];rfl,q12 hb2 (q12 hb1 HB0.out)⟩
theorem j74(a b:List UInt8)(ak bk:Bool)(w:World)(ha:a.length≤1000000)(hb:b.length≤1000000):Calls Tryz.prog 206 #[.agg #[.string ⟨a.toArray⟩,.bool ak],.agg #[.string ⟨b.toArray⟩,.bool bk]] w fun e w'=>e=.returned (.bool (k38 (a,ak) (b,bk)))∧Below w.heap.size w w':=by
 have HA:=fun W=>Lib.hid (j37 a ak W ha);have HB:=fun W=>Lib.hid (j37 b bk W hb);have HV:Hid (k38 (a,ak) (b,bk)=(j20 a&&j20 b&&decide (a=b))):=rfl;obtain⟨V,hV⟩:∃V,k38 (a,ak) (b,bk)=V:=⟨_,rfl⟩;rw[hV]at HV⊢;clear hV;go_enter Tryz.func206,Tryz.ntmps206;go_upto_region 1 with fail;obtain⟨W0,hW0,X0,X1,HB0⟩:=box2 w #[.string ⟨a.toArray⟩,.bool ak] 43 #[.string ⟨b.toArray⟩,.bool bk] 43;rw[hW0];clear hW0;have v0:=bc 0 X0.out rfl;have v1:=bc 1 X0.out rfl;have vz:=q14 X0.out;have u0:=bc 0 X1.out rfl;have u1:=bc 1 X1.out rfl;have uz:=q14 X1.out;obtain⟨ta,hta⟩:∃x,j20 a=x:=⟨_,rfl⟩;rw[hta]at HA HV;clear hta;cases ta with
  |false=>go_wp2_with(go_at_call_of 128(Value.agg #[.string ⟨a.toArray⟩,.bool ak]);refine(HA _).out.mono ?_;rintro e w1⟨rfl,hb1⟩;have Y0:=Lib.hid (j3 hb1 X0.out);have Y1:=Lib.hid (j3 hb1 X1.out);have k0:=bc 0 Y0.out rfl;have k1:=bc 1 Y0.out rfl;have m0:=bc 0 Y1.out rfl;have m1:=bc 1 Y1.out rfl;have kz:=q14 Y0.out;have mz:=q14 Y1.out);go_ret;exact⟨by rw[HV.out];rfl,q12 hb1 HB0.out⟩
  |true=>
   obtain⟨tb,htb⟩:∃x,j20 b=x:=⟨_,rfl⟩;rw[htb]at HB HV;clear htb;cases tb with
    |false=>go_wp2_with(first|(go_at_call_of 128(Value.agg #[.string ⟨b.toArray⟩,.bool bk]);refine(HB _).out.mono ?_;rintro e w2⟨rfl,hb2⟩;have Z0:=Lib.hid (j3 hb2 Y0.out);have Z1:=Lib.hid (j3 hb2 Y1.out);have k0:=bc 0 Z0.out rfl;have m0:=bc 0 Z1.out rfl;have kz:=q14 Z0.out;have mz:=q14 Z1.out)|(go_at_call_of 128(Value.agg #[.string ⟨a.toArray⟩,.bool ak]);refine(HA _).out.mono ?_;rintro e w1⟨rfl,hb1⟩;have Y0:=Lib.hid (j3 hb1 X0.out);have Y1:=Lib.hid (j3 hb1 X1.out);have k0:=bc 0 Y0.out rfl;have k1:=bc 1 Y0.out rfl;have m0:=bc 0 Y1.out rfl;have m1:=bc 1 Y1.out rfl;have kz:=q14 Y0.out;have mz:=q14 Y1.out));go_ret;exact⟨by rw[HV.out];rfl,q12 hb2 (q12 hb1 HB0.out)⟩
    |true=>
     by_cases he:a=b;·
      have hq:(a==b)=true:=by rw[he];exact beq_self_eq_true b
      rw[decide_eq_true he]at HV;clear he;go_wp2_with(first|(go_at_call_of 128(Value.agg #[.string ⟨b.toArray⟩,.bool bk]);refine(HB _).out.mono ?_;rintro e w2⟨rfl,hb2⟩;have Z0:=Lib.hid (j3 hb2 Y0.out);have Z1:=Lib.hid (j3 hb2 Y1.out);have k0:=bc 0 Z0.out rfl;have m0:=bc 0 Z1.out rfl;have kz:=q14 Z0.out;have mz:=q14 Z1.out)|(go_at_call_of 128(Value.agg #[.string ⟨a.toArray⟩,.bool ak]);refine(HA _).out.mono ?_;rintro e w1⟨rfl,hb1⟩;have Y0:=Lib.hid (j3 hb1 X0.out);have Y1:=Lib.hid (j3 hb1 X1.out);have k0:=bc 0 Y0.out rfl;have k1:=bc 1 Y0.out rfl;have m0:=bc 0 Y1.out rfl;have m1:=bc 1 Y1.out rfl;have kz:=q14 Y0.out;have mz:=q14 Y1.out));go_ret;exact⟨by rw[HV.out];rfl,q12 hb2 (q12 hb1 HB0.out)⟩
     ·have hq:(a==b)=false:=beq_eq_false_iff_ne.2 he;rw[decide_eq_false he]at HV;clear he;go_wp2_with(first|(go_at_call_of 128(Value.agg #[.string ⟨b.toArray⟩,.bool bk]);refine(HB _).out.mono ?_;rintro e w2⟨rfl,hb2⟩;have Z0:=Lib.hid (j3 hb2 Y0.out);have Z1:=Lib.hid (j3 hb2 Y1.out);have k0:=bc 0 Z0.out rfl;have m0:=bc 0 Z1.out rfl;have kz:=q14 Z0.out;have mz:=q14 Z1.out)|(go_at_call_of 128(Value.agg #[.string ⟨a.toArray⟩,.bool ak]);refine(HA _).out.mono ?_;rintro e w1⟨rfl,hb1⟩;have Y0:=Lib.hid (j3 hb1 X0.out);have Y1:=Lib.hid (j3 hb1 X1.out);have k0:=bc 0 Y0.out rfl;have k1:=bc 1 Y0.out rfl;have m0:=bc 0 Y1.out rfl;have m1:=bc 1 Y1.out rfl;have kz:=q14 Y0.out;have mz:=q14 Y1.out));go_ret;exact⟨by rw[HV.out];rfl,q12 hb2 (q12 hb1 HB0.out)⟩
theorem q69(a b:List UInt8)(ak bk:Bool)(w:World)(ha:a.length≤1000000)(hb:b.length≤1000000):Calls Tryz.prog 124 #[.agg #[.string ⟨a.toArray⟩,.bool ak],.agg #[.string ⟨b.toArray⟩,.bool bk]] w fun e w'=>e=.returned (.bool (k34 (a,ak) (b,bk)))∧Below w.heap.size w w':=by
 have HW:=fun W=>Lib.hid (k82 a b ak bk W ha hb);have HV:Hid (k34 (a,ak) (b,bk)=(!ak&&!bk&&k38 (a,ak) (b,bk))):=rfl;obtain⟨V,hV⟩:∃V,k34 (a,ak) (b,bk)=V:=⟨_,rfl⟩;rw[hV]at HV⊢;obtain⟨U,hU⟩:∃U,k38 (a,ak) (b,bk)=U:=⟨_,rfl⟩;rw[hU]at HV HW;clear hV hU;go_enter Tryz.func124,Tryz.ntmps124;go_upto_region 1 with fail;obtain⟨W0,hW0,X0,X1,HB0⟩:=box2 w #[.string ⟨a.toArray⟩,.bool ak] 43 #[.string ⟨b.toArray⟩,.bool bk] 43;rw[hW0];clear hW0;have v0:=bc 0 X0.out rfl;have v1:=bc 1 X0.out rfl;have vz:=q14 X0.out;have u0:=bc 0 X1.out rfl;have u1:=bc 1 X1.out rfl;have uz:=q14 X1.out;cases ak<;>cases bk<;>cases U;all_goals go_wp2_with(go_at_call 192;refine(HW _).out.mono ?_;rintro e w1⟨rfl,hb1⟩;have Y0:=Lib.hid (j3 hb1 X0.out);have Y1:=Lib.hid (j3 hb1 X1.out);have k0:=bc 0 Y0.out rfl;have k1:=bc 1 Y0.out rfl;have m0:=bc 0 Y1.out rfl;have m1:=bc 1 Y1.out rfl;have kz:=q14 Y0.out;have mz:=q14 Y1.out);go_ret;exact⟨by rw[HV.out];rfl,by first|exact q12 hb1 HB0.out|exact HB0.out⟩
theorem x63(a b:List UInt8)(ak bk:Bool)(w:World)(ha:a.length≤1000000)(hb:b.length≤1000000):Calls Tryz.prog 142 #[.agg #[.string ⟨a.toArray⟩,.bool ak],.agg #[.string ⟨b.toArray⟩,.bool bk]] w fun e w'=>e=.returned (.bool (k34 (a,ak) (b,bk)))∧Below w.heap.size w w':=by
 have HW:=fun W=>Lib.hid (j74 a b ak bk W ha hb);have HV:Hid (k34 (a,ak) (b,bk)=(!ak&&!bk&&k38 (a,ak) (b,bk))):=rfl;obtain⟨V,hV⟩:∃V,k34 (a,ak) (b,bk)=V:=⟨_,rfl⟩;rw[hV]at HV⊢;obtain⟨U,hU⟩:∃U,k38 (a,ak) (b,bk)=U:=⟨_,rfl⟩;rw[hU]at HV HW;clear hV hU;go_enter Tryz.func142,Tryz.ntmps142;go_upto_region 1 with fail;obtain⟨W0,hW0,X0,X1,HB0⟩:=box2 w #[.string ⟨a.toArray⟩,.bool ak] 43 #[.string ⟨b.toArray⟩,.bool bk] 43;rw[hW0];clear hW0;have v0:=bc 0 X0.out rfl;have v1:=bc 1 X0.out rfl;have vz:=q14 X0.out;have u0:=bc 0 X1.out rfl;have u1:=bc 1 X1.out rfl;have uz:=q14 X1.out;cases ak<;>cases bk<;>cases U;all_goals go_wp2_with(go_at_call 206;refine(HW _).out.mono ?_;rintro e w1⟨rfl,hb1⟩;have Y0:=Lib.hid (j3 hb1 X0.out);have Y1:=Lib.hid (j3 hb1 X1.out);have k0:=bc 0 Y0.out rfl;have k1:=bc 1 Y0.out rfl;have m0:=bc 0 Y1.out rfl;have m1:=bc 1 Y1.out rfl;have kz:=q14 Y0.out;have mz:=q14 Y1.out);go_ret;exact⟨by rw[HV.out];rfl,by first|exact q12 hb1 HB0.out|exact HB0.out⟩
theorem k74(A:Option Addr)(c:Nat)(T:List TagL)(am:Bool)(w:World)(h:SpG q27 2 w A c T)(hl:T.length≤1000000)(hx:w54 T):Calls Tryz.prog 169 #[.slice A T.length c,.bool am] w fun e w'=>e=.returned (.bool (k47 am T))∧Below w.heap.size w w':=by
 have HK:=Lib.hid h;have HX:=Lib.hid hx;clear h hx;have HL:Hid (k47 am T=(decide (T.length≤32)&&!(am&&decide (0<T.length))&&tgs T)):=rfl;obtain⟨V,hV⟩:∃V,k47 am T=V:=⟨_,rfl⟩;rw[hV]at HL⊢;clear hV;by_cases h1:32<T.length;·
  rw[decide_eq_false (show¬T.length≤32 by omega)]at HL;have h1':(32:Int)<(T.length:Int):=by omega
  clear h1;go_enter Tryz.func169,Tryz.ntmps169;go_wp2_with fail;go_ret;exact⟨by rw[HL.out];rfl,by(repeat(first|exact Below.refl _ _|refine q15 ?_ _|refine x15 ?_|refine q11 ?_ _|refine w14 ?_ (by simp) _))⟩
 rw[decide_eq_true (show T.length≤32 by omega)]at HL;have h1':¬(32:Int)<(T.length:Int):=by omega
 clear h1;have hcs:(am&&decide (0<T.length))=true∧am=true∧0<T.length∨(am&&decide (0<T.length))=false∧(am=false∨T.length=0):=by
  by_cases h:0<T.length;·rw[decide_eq_true h];cases am<;>simp[h]
  ·rw[decide_eq_false h];right;exact⟨by simp,.inr (by omega)⟩
 rcases hcs with⟨h2,rfl,h3⟩|⟨h2,h3⟩;·
  rw[h2]at HL;have h3':(0:Int)<(T.length:Int):=by omega
  clear h2 h3;go_enter Tryz.func169,Tryz.ntmps169;go_wp2_with fail;go_ret;exact⟨by rw[HL.out];rfl,by(repeat(first|exact Below.refl _ _|refine q15 ?_ _|refine x15 ?_|refine q11 ?_ _|refine w14 ?_ (by simp) _))⟩
 rw[h2]at HL;clear h2;have hcases:am=false∨(am=true∧¬(0:Int)<(T.length:Int)):=by cases am with|false=>exact .inl rfl|true=>exact .inr ⟨rfl,by have:=h3.resolve_left (by simp);omega⟩
 clear h3;rcases hcases with rfl|⟨rfl,h4'⟩;·
  go_enter Tryz.func169,Tryz.ntmps169;go_wp2_with fail;go_loopw[6,20](fun _ i wr=>∃k:Nat,k≤T.length∧i=.int .i64 (k:Int)∧tgs (T.take k)=true∧Below w.heap.size w wr)(fun _ i _=>T.length-(intOf i).toNat);case atStart=>exact⟨0,Nat.zero_le _,rfl,rfl,by(repeat(first|exact Below.refl _ _|refine q15 ?_ _|refine x15 ?_|refine q11 ?_ _|refine w14 ?_ (by simp) _))⟩
  case round=>
   obtain⟨k,hk,rfl,hall,hbw⟩:=hrel;have HA:=Lib.hid hall;have HB:=Lib.hid hbw;clear hall hbw;by_cases hlt:k<T.length;·
    obtain⟨b,off,e,hb,hc⟩:=(HK.out.below HB.out).at' k hlt;have c0:=hc 0 _ rfl;have c1:=hc 1 _ rfl;have hxl:=HX.out _ (List.getElem_mem hlt);have HS:=Lib.hid (fun h=>z113 hlt HA.out h);have HN:=Lib.hid (fun h=>tgs_no hlt h);obtain⟨⟨t,tw⟩,ht⟩:∃x,T[k]=x:=⟨_,rfl⟩;rw[ht]at c0 c1 HS HN hxl;have HR:=fun W=>Lib.hid (k39 t tw W hxl);simp only[Nat.add_zero]at c0 c1 HS HN;clear hc ht hxl HA;subst e;obtain⟨z,hz⟩:∃z,j20 t=z:=⟨_,rfl⟩;rw[hz]at HR HS HN;clear hz;cases z with
     |false=>have HV:=Lib.hid (HN.out rfl);clear HN HS;go_wp2_with(go_at_call 115;refine(HR _).out.mono ?_;rintro e w1⟨rfl,hb1⟩);go_ret;exact⟨by rw[HL.out,HV.out];rfl,q12 hb1 (q11 HB.out _)⟩
     |true=>
      have HV:=Lib.hid (HS.out rfl);clear HN HS;go_wp2_with(go_at_call 115;refine(HR _).out.mono ?_;rintro e w1⟨rfl,hb1⟩);go_roundw;case rel=>exact⟨k+1,by omega,by go_num,HV.out,q12 hb1 (q11 HB.out _)⟩
      case measure=>simp[intOf];omega
   ·have HV:Hid (tgs T=true):=by have h:=HA.out;rw[List.take_of_length_le (by omega)]at h;exact h
    clear HA;go_wp2_with fail;go_ret;exact⟨by rw[HL.out,HV.out];rfl,HB.out⟩
 ·go_enter Tryz.func169,Tryz.ntmps169;go_wp2_with fail;go_loopw[6,20](fun _ i wr=>∃k:Nat,k≤T.length∧i=.int .i64 (k:Int)∧tgs (T.take k)=true∧Below w.heap.size w wr)(fun _ i _=>T.length-(intOf i).toNat);case atStart=>exact⟨0,Nat.zero_le _,rfl,rfl,by(repeat(first|exact Below.refl _ _|refine q15 ?_ _|refine x15 ?_|refine q11 ?_ _|refine w14 ?_ (by simp) _))⟩
  case round=>
   obtain⟨k,hk,rfl,hall,hbw⟩:=hrel;have HA:=Lib.hid hall;have HB:=Lib.hid hbw;clear hall hbw;by_cases hlt:k<T.length;·exfalso;omega
   ·have HV:Hid (tgs T=true):=by have h:=HA.out;rw[List.take_of_length_le (by omega)]at h;exact h
    clear HA;go_wp2_with fail;go_ret;exact⟨by rw[HL.out,HV.out];rfl,HB.out⟩
theorem v102(A:Option Addr)(c:Nat)(T:List TagL)(w:World)(h:SpG q27 2 w A c T)(hl:T.length≤1000000)(hx:w54 T):Calls Tryz.prog 228 #[.slice A T.length c] w fun e w'=>e=.returned (.bool (j61 T))∧Below w.heap.size w w':=by
 have HK:=Lib.hid h;have HX:=Lib.hid hx;clear h hx;have HL:Hid (j61 T=(tgs T&&decide (T.length≤32))):=rfl;obtain⟨V,hV⟩:∃V,j61 T=V:=⟨_,rfl⟩;rw[hV]at HL⊢;clear hV;go_enter Tryz.func228,Tryz.ntmps228;go_wp2_with fail;go_loopw[4,7](fun _ i wr=>∃k:Nat,k≤T.length∧i=.int .i64 (k:Int)∧tgs (T.take k)=true∧Below w.heap.size w wr)(fun _ i _=>T.length-(intOf i).toNat);case atStart=>exact⟨0,Nat.zero_le _,rfl,rfl,by(repeat(first|exact Below.refl _ _|refine q15 ?_ _|refine x15 ?_|refine q11 ?_ _|refine w14 ?_ (by simp) _))⟩
 case round=>
  obtain⟨k,hk,rfl,hall,hbw⟩:=hrel;have HA:=Lib.hid hall;have HB:=Lib.hid hbw;clear hall hbw;by_cases hlt:k<T.length;·
   obtain⟨b,off,e,hb,hc⟩:=(HK.out.below HB.out).at' k hlt;have c0:=hc 0 _ rfl;have c1:=hc 1 _ rfl;have hxl:=HX.out _ (List.getElem_mem hlt);have HS:=Lib.hid (fun h=>z113 hlt HA.out h);have HN:=Lib.hid (fun h=>tgs_no hlt h);obtain⟨⟨t,tw⟩,ht⟩:∃x,T[k]=x:=⟨_,rfl⟩;rw[ht]at c0 c1 HS HN hxl;have HR:=fun W=>Lib.hid (j37 t tw W hxl);simp only[Nat.add_zero]at c0 c1 HS HN;clear hc ht hxl HA;subst e;obtain⟨z,hz⟩:∃z,j20 t=z:=⟨_,rfl⟩;rw[hz]at HR HS HN;clear hz;cases z with
    |false=>have HV:=Lib.hid (HN.out rfl);clear HN HS;go_wp2_with(go_at_call 128;refine(HR _).out.mono ?_;rintro e w1⟨rfl,hb1⟩);go_ret;exact⟨by rw[HL.out,HV.out];rfl,q12 hb1 (q11 HB.out _)⟩
    |true=>
     have HV:=Lib.hid (HS.out rfl);clear HN HS;go_wp2_with(go_at_call 128;refine(HR _).out.mono ?_;rintro e w1⟨rfl,hb1⟩);go_roundw;case rel=>exact⟨k+1,by omega,by go_num,HV.out,q12 hb1 (q11 HB.out _)⟩
     case measure=>simp[intOf];omega
  ·have HV:Hid (tgs T=true):=by have h:=HA.out;rw[List.take_of_length_le (by omega)]at h;exact h
   clear HA;by_cases h1:T.length≤32;·
    rw[decide_eq_true h1]at HL;have h1':(T.length:Int)≤32:=by omega
    clear h1;go_wp2_with fail;go_ret;exact⟨by rw[HL.out,HV.out];rfl,HB.out⟩
   ·rw[decide_eq_false h1]at HL;have h1':¬(T.length:Int)≤32:=by omega
    clear h1;go_wp2_with fail;go_ret;exact⟨by rw[HL.out,HV.out];rfl,HB.out⟩
theorem tagIn_s(A:Option Addr)(c:Nat)(T:List TagL)(x:List UInt8)(xw:Bool)(w:World)(h:SpG q27 2 w A c T)(hl:T.length≤1000000)(hx:w54 T)(hxl:x.length≤1000000):Calls Tryz.prog 123 #[.slice A T.length c,.agg #[.string ⟨x.toArray⟩,.bool xw],.bool true] w fun e w'=>e=.returned (.bool (inT T (x,xw) true))∧Below w.heap.size w w':=by
 have HK:=Lib.hid h;have HX:=Lib.hid hx;have HXL:=Lib.hid hxl;clear h hx hxl;go_enter Tryz.func123,Tryz.ntmps123;go_upto_region 1 with fail;obtain⟨W0,hW0⟩:∃W,(w.alloc (.cells #[.string ⟨x.toArray⟩,.bool xw] 43))=W:=⟨_,rfl⟩;have X0:Hid (W0.heap[w.heap.size]?=some (.cells #[.string ⟨x.toArray⟩,.bool xw] 43 (0,0))):=by simp only[Hid];rw[←hW0];exact j17 rfl
 have HB0:Hid (Below w.heap.size w W0):=by simp only[Hid];rw[←hW0];exact q11 (Below.refl _ _) _
 rw[hW0];clear hW0;go_wp2_with fail;go_loopw[8,11](fun _ i wr=>∃k:Nat,k≤T.length∧i=.int .i64 (k:Int)∧inT (T.take k) (x,xw) true=false∧Below W0.heap.size W0 wr)(fun _ i _=>T.length-(intOf i).toNat);case atStart=>exact⟨0,Nat.zero_le _,rfl,rfl,Below.refl _ _⟩
 case round=>
  obtain⟨k,hk,rfl,hall,hbw⟩:=hrel;have HA:=Lib.hid hall;have HB:=Lib.hid hbw;clear hall hbw;have Y0:=Lib.hid (j3 HB.out X0.out);have v0:=bc 0 Y0.out rfl;have v1:=bc 1 Y0.out rfl;have vz:=q14 Y0.out;by_cases hlt:k<T.length;·
   obtain⟨b,off,e,hb,hc⟩:=((HK.out.below HB0.out).below HB.out).at' k hlt;have c0:=hc 0 _ rfl;have c1:=hc 1 _ rfl;have htl:=HX.out _ (List.getElem_mem hlt);have HS:=Lib.hid (fun h=>y66 (t:=(x,xw)) (s:=true) hlt HA.out h);have HY:=Lib.hid (fun h=>q79 (t:=(x,xw)) (s:=true) hlt h);obtain⟨⟨t,tw⟩,ht⟩:∃y,T[k]=y:=⟨_,rfl⟩;rw[ht]at c0 c1 HS HY htl;have HR:=fun W=>Lib.hid (q69 t x tw xw W htl HXL.out);simp only[Nat.add_zero]at c0 c1;clear hc ht htl HA;subst e;have HE:Hid (oneT true (x,xw) (t,tw)=k34 (t,tw) (x,xw)):=rfl;obtain⟨z,hz⟩:∃z,k34 (t,tw) (x,xw)=z:=⟨_,rfl⟩;rw[hz]at HR HE;clear hz;cases z with
    |true=>have HV:=Lib.hid (HY.out HE.out);clear HY HS;go_wp2_with(go_at_call 124;refine(HR _).out.mono ?_;rintro e w1⟨rfl,hb1⟩);go_ret;exact⟨by rw[HV.out];rfl,q12 (q12 hb1 (q11 HB.out _)) HB0.out⟩
    |false=>
     have HV:=Lib.hid (HS.out HE.out);clear HY HS;go_wp2_with(go_at_call 124;refine(HR _).out.mono ?_;rintro e w1⟨rfl,hb1⟩);go_roundw;case rel=>exact⟨k+1,by omega,by go_num,HV.out,q12 hb1 (q11 HB.out _)⟩
     case measure=>simp[intOf];omega
  ·have HV:Hid (inT T (x,xw) true=false):=by have h:=HA.out;rw[List.take_of_length_le (by omega)]at h;exact h
   clear HA;go_wp2_with fail;go_ret;exact⟨by rw[HV.out];rfl,q12 HB.out HB0.out⟩
theorem rone_s(A:Option Addr)(c:Nat)(T:List TagL)(x:List UInt8)(xw:Bool)(w:World)(h:SpG q27 2 w A c T)(hl:T.length≤1000000)(hx:w54 T)(hxl:x.length≤1000000):Calls Tryz.prog 141 #[.slice A T.length c,.agg #[.string ⟨x.toArray⟩,.bool xw],.bool true] w fun e w'=>e=.returned (.bool (inT T (x,xw) true))∧Below w.heap.size w w':=by
 have HK:=Lib.hid h;have HX:=Lib.hid hx;have HXL:=Lib.hid hxl;clear h hx hxl;go_enter Tryz.func141,Tryz.ntmps141;go_upto_region 1 with fail;obtain⟨W0,hW0⟩:∃W,(w.alloc (.cells #[.string ⟨x.toArray⟩,.bool xw] 43))=W:=⟨_,rfl⟩;have X0:Hid (W0.heap[w.heap.size]?=some (.cells #[.string ⟨x.toArray⟩,.bool xw] 43 (0,0))):=by simp only[Hid];rw[←hW0];exact j17 rfl
 have HB0:Hid (Below w.heap.size w W0):=by simp only[Hid];rw[←hW0];exact q11 (Below.refl _ _) _
 rw[hW0];clear hW0;go_wp2_with fail;go_loopw[8,11](fun _ i wr=>∃k:Nat,k≤T.length∧i=.int .i64 (k:Int)∧inT (T.take k) (x,xw) true=false∧Below W0.heap.size W0 wr)(fun _ i _=>T.length-(intOf i).toNat);case atStart=>exact⟨0,Nat.zero_le _,rfl,rfl,Below.refl _ _⟩
 case round=>
  obtain⟨k,hk,rfl,hall,hbw⟩:=hrel;have HA:=Lib.hid hall;have HB:=Lib.hid hbw;clear hall hbw;have Y0:=Lib.hid (j3 HB.out X0.out);have v0:=bc 0 Y0.out rfl;have v1:=bc 1 Y0.out rfl;have vz:=q14 Y0.out;by_cases hlt:k<T.length;·
   obtain⟨b,off,e,hb,hc⟩:=((HK.out.below HB0.out).below HB.out).at' k hlt;have c0:=hc 0 _ rfl;have c1:=hc 1 _ rfl;have htl:=HX.out _ (List.getElem_mem hlt);have HS:=Lib.hid (fun h=>y66 (t:=(x,xw)) (s:=true) hlt HA.out h);have HY:=Lib.hid (fun h=>q79 (t:=(x,xw)) (s:=true) hlt h);obtain⟨⟨t,tw⟩,ht⟩:∃y,T[k]=y:=⟨_,rfl⟩;rw[ht]at c0 c1 HS HY htl;have HR:=fun W=>Lib.hid (x63 t x tw xw W htl HXL.out);simp only[Nat.add_zero]at c0 c1;clear hc ht htl HA;subst e;have HE:Hid (oneT true (x,xw) (t,tw)=k34 (t,tw) (x,xw)):=rfl;obtain⟨z,hz⟩:∃z,k34 (t,tw) (x,xw)=z:=⟨_,rfl⟩;rw[hz]at HR HE;clear hz;cases z with
    |true=>have HV:=Lib.hid (HY.out HE.out);clear HY HS;go_wp2_with(go_at_call 142;refine(HR _).out.mono ?_;rintro e w1⟨rfl,hb1⟩);go_ret;exact⟨by rw[HV.out];rfl,q12 (q12 hb1 (q11 HB.out _)) HB0.out⟩
    |false=>
     have HV:=Lib.hid (HS.out HE.out);clear HY HS;go_wp2_with(go_at_call 142;refine(HR _).out.mono ?_;rintro e w1⟨rfl,hb1⟩);go_roundw;case rel=>exact⟨k+1,by omega,by go_num,HV.out,q12 hb1 (q11 HB.out _)⟩
     case measure=>simp[intOf];omega
  ·have HV:Hid (inT T (x,xw) true=false):=by have h:=HA.out;rw[List.take_of_length_le (by omega)]at h;exact h
   clear HA;go_wp2_with fail;go_ret;exact⟨by rw[HV.out];rfl,q12 HB.out HB0.out⟩
theorem tagIn_w(A:Option Addr)(c:Nat)(T:List TagL)(x:List UInt8)(xw:Bool)(w:World)(h:SpG q27 2 w A c T)(hl:T.length≤1000000)(hx:w54 T)(hxl:x.length≤1000000):Calls Tryz.prog 123 #[.slice A T.length c,.agg #[.string ⟨x.toArray⟩,.bool xw],.bool false] w fun e w'=>e=.returned (.bool (inT T (x,xw) false))∧Below w.heap.size w w':=by
 have HK:=Lib.hid h;have HX:=Lib.hid hx;have HXL:=Lib.hid hxl;clear h hx hxl;go_enter Tryz.func123,Tryz.ntmps123;go_upto_region 1 with fail;obtain⟨W0,hW0⟩:∃W,(w.alloc (.cells #[.string ⟨x.toArray⟩,.bool xw] 43))=W:=⟨_,rfl⟩;have X0:Hid (W0.heap[w.heap.size]?=some (.cells #[.string ⟨x.toArray⟩,.bool xw] 43 (0,0))):=by simp only[Hid];rw[←hW0];exact j17 rfl
 have HB0:Hid (Below w.heap.size w W0):=by simp only[Hid];rw[←hW0];exact q11 (Below.refl _ _) _
 rw[hW0];clear hW0;go_wp2_with fail;go_loopw[8,11](fun _ i wr=>∃k:Nat,k≤T.length∧i=.int .i64 (k:Int)∧inT (T.take k) (x,xw) false=false∧Below W0.heap.size W0 wr)(fun _ i _=>T.length-(intOf i).toNat);case atStart=>exact⟨0,Nat.zero_le _,rfl,rfl,Below.refl _ _⟩
 case round=>
  obtain⟨k,hk,rfl,hall,hbw⟩:=hrel;have HA:=Lib.hid hall;have HB:=Lib.hid hbw;clear hall hbw;have Y0:=Lib.hid (j3 HB.out X0.out);have v0:=bc 0 Y0.out rfl;have v1:=bc 1 Y0.out rfl;have vz:=q14 Y0.out;by_cases hlt:k<T.length;·
   obtain⟨b,off,e,hb,hc⟩:=((HK.out.below HB0.out).below HB.out).at' k hlt;have c0:=hc 0 _ rfl;have c1:=hc 1 _ rfl;have htl:=HX.out _ (List.getElem_mem hlt);have HS:=Lib.hid (fun h=>y66 (t:=(x,xw)) (s:=false) hlt HA.out h);have HY:=Lib.hid (fun h=>q79 (t:=(x,xw)) (s:=false) hlt h);obtain⟨⟨t,tw⟩,ht⟩:∃y,T[k]=y:=⟨_,rfl⟩;rw[ht]at c0 c1 HS HY htl;have HR:=fun W=>Lib.hid (k82 t x tw xw W htl HXL.out);simp only[Nat.add_zero]at c0 c1;clear hc ht htl HA;subst e;have HE:Hid (oneT false (x,xw) (t,tw)=k38 (t,tw) (x,xw)):=rfl;obtain⟨z,hz⟩:∃z,k38 (t,tw) (x,xw)=z:=⟨_,rfl⟩;rw[hz]at HR HE;clear hz;cases z with
    |true=>have HV:=Lib.hid (HY.out HE.out);clear HY HS;go_wp2_with(go_at_call 192;refine(HR _).out.mono ?_;rintro e w1⟨rfl,hb1⟩);go_ret;exact⟨by rw[HV.out];rfl,q12 (q12 hb1 (q11 HB.out _)) HB0.out⟩
    |false=>
     have HV:=Lib.hid (HS.out HE.out);clear HY HS;go_wp2_with(go_at_call 192;refine(HR _).out.mono ?_;rintro e w1⟨rfl,hb1⟩);go_roundw;case rel=>exact⟨k+1,by omega,by go_num,HV.out,q12 hb1 (q11 HB.out _)⟩
     case measure=>simp[intOf];omega
  ·have HV:Hid (inT T (x,xw) false=false):=by have h:=HA.out;rw[List.take_of_length_le (by omega)]at h;exact h
   clear HA;go_wp2_with fail;go_ret;exact⟨by rw[HV.out];rfl,q12 HB.out HB0.out⟩
theorem rone_w(A:Option Addr)(c:Nat)(T:List TagL)(x:List UInt8)(xw:Bool)(w:World)(h:SpG q27 2 w A c T)(hl:T.length≤1000000)(hx:w54 T)(hxl:x.length≤1000000):Calls Tryz.prog 141 #[.slice A T.length c,.agg #[.string ⟨x.toArray⟩,.bool xw],.bool false] w fun e w'=>e=.returned (.bool (inT T (x,xw) false))∧Below w.heap.size w w':=by
 have HK:=Lib.hid h;have HX:=Lib.hid hx;have HXL:=Lib.hid hxl;clear h hx hxl;go_enter Tryz.func141,Tryz.ntmps141;go_upto_region 1 with fail;obtain⟨W0,hW0⟩:∃W,(w.alloc (.cells #[.string ⟨x.toArray⟩,.bool xw] 43))=W:=⟨_,rfl⟩;have X0:Hid (W0.heap[w.heap.size]?=some (.cells #[.string ⟨x.toArray⟩,.bool xw] 43 (0,0))):=by simp only[Hid];rw[←hW0];exact j17 rfl
 have HB0:Hid (Below w.heap.size w W0):=by simp only[Hid];rw[←hW0];exact q11 (Below.refl _ _) _
 rw[hW0];clear hW0;go_wp2_with fail;go_loopw[8,11](fun _ i wr=>∃k:Nat,k≤T.length∧i=.int .i64 (k:Int)∧inT (T.take k) (x,xw) false=false∧Below W0.heap.size W0 wr)(fun _ i _=>T.length-(intOf i).toNat);case atStart=>exact⟨0,Nat.zero_le _,rfl,rfl,Below.refl _ _⟩
 case round=>
  obtain⟨k,hk,rfl,hall,hbw⟩:=hrel;have HA:=Lib.hid hall;have HB:=Lib.hid hbw;clear hall hbw;have Y0:=Lib.hid (j3 HB.out X0.out);have v0:=bc 0 Y0.out rfl;have v1:=bc 1 Y0.out rfl;have vz:=q14 Y0.out;by_cases hlt:k<T.length;·
   obtain⟨b,off,e,hb,hc⟩:=((HK.out.below HB0.out).below HB.out).at' k hlt;have c0:=hc 0 _ rfl;have c1:=hc 1 _ rfl;have htl:=HX.out _ (List.getElem_mem hlt);have HS:=Lib.hid (fun h=>y66 (t:=(x,xw)) (s:=false) hlt HA.out h);have HY:=Lib.hid (fun h=>q79 (t:=(x,xw)) (s:=false) hlt h);obtain⟨⟨t,tw⟩,ht⟩:∃y,T[k]=y:=⟨_,rfl⟩;rw[ht]at c0 c1 HS HY htl;have HR:=fun W=>Lib.hid (j74 t x tw xw W htl HXL.out);simp only[Nat.add_zero]at c0 c1;clear hc ht htl HA;subst e;have HE:Hid (oneT false (x,xw) (t,tw)=k38 (t,tw) (x,xw)):=rfl;obtain⟨z,hz⟩:∃z,k38 (t,tw) (x,xw)=z:=⟨_,rfl⟩;rw[hz]at HR HE;clear hz;cases z with
    |true=>have HV:=Lib.hid (HY.out HE.out);clear HY HS;go_wp2_with(go_at_call 206;refine(HR _).out.mono ?_;rintro e w1⟨rfl,hb1⟩);go_ret;exact⟨by rw[HV.out];rfl,q12 (q12 hb1 (q11 HB.out _)) HB0.out⟩
    |false=>
     have HV:=Lib.hid (HS.out HE.out);clear HY HS;go_wp2_with(go_at_call 206;refine(HR _).out.mono ?_;rintro e w1⟨rfl,hb1⟩);go_roundw;case rel=>exact⟨k+1,by omega,by go_num,HV.out,q12 hb1 (q11 HB.out _)⟩
     case measure=>simp[intOf];omega
  ·have HV:Hid (inT T (x,xw) false=false):=by have h:=HA.out;rw[List.take_of_length_le (by omega)]at h;exact h
   clear HA;go_wp2_with fail;go_ret;exact⟨by rw[HV.out];rfl,q12 HB.out HB0.out⟩
theorem j35(n:Int):(twoD n).length=2:=rfl
theorem j113(t:List UInt8)(k:Int)(h0:0≤k):(⟨t.toArray⟩:ByteArray).extract (3*k).toNat (3*k+3).toNat=⟨(x18 t k).toArray⟩:=by
 have e:(⟨t.toArray⟩:ByteArray).extract (3*k).toNat (3*k+3).toNat=⟨((t.drop (3*k).toNat).take ((3*k+3).toNat-(3*k).toNat)).toArray⟩:=q73 (by rw[ByteArray.data_extract,Array.toList_extract]);have e1:(3*k).toNat=3*k.toNat:=by omega
 have e2:(3*k+3).toNat-(3*k).toNat=3:=by omega
 rw[e,e2,e1];rfl
def j158(v:List UInt8)(w:World)(e:Ending)(w':World):Prop:=e=.returned (.tuple #[.string ⟨v.toArray⟩,.int .i64 0])∧Below w.heap.size w w'
theorem j69(n:Int)(w:World)(h0:0≤n)(h1:n≤253402300799):Calls Tryz.prog 195 #[.int .i64 n] w (j158 (q42 n) w):=by
 obtain⟨b1,b2,b3,b4,b5,b6,b7,b8⟩:=y125 (n:=n/86400) (by omega) (by omega);have HT:Hid (q42 n=x18 weekT (dayN (n/86400)).week++[44,32]++twoD (dayN (n/86400)).date++[32]++x18 yearT ((dayN (n/86400)).month-1)++[32]++twoD ((dayN (n/86400)).year/100)++twoD ((dayN (n/86400)).year%100)++[32]++twoD (n%86400/3600)++[58]++twoD (n%86400/60%60)++[58]++twoD (n%86400%60)++[32,71,77,84]):=by simp only[Hid];unfold q42;rw[←x154];simp
 obtain⟨s,hs⟩:∃s,n%86400=s:=⟨_,rfl⟩;have hs1:0≤s∧s<86400:=by omega
 rw[hs]at HT;obtain⟨y,m,d,k,hday⟩:∃y m d k,dayN (n/86400)=⟨y,m,d,k⟩:=⟨_,_,_,_,rfl⟩;have HD:∀W,Hid (Calls Tryz.prog 248 #[.int .i64 n] W fun e w'=>e=.returned (.tuple #[.agg #[.int .i64 y,.int .i64 m,.int .i64 d,.int .i64 k],.int .i64 s])∧Below W.heap.size W w'):=fun W=>Lib.hid ((q120 n W h0 h1).mono fun e w' h=>by rw[j58,hday,hs]at h;exact h);rw[hday]at HT b1 b2 b3 b4 b5 b6 b7 b8;simp only at HT b1 b2 b3 b4 b5 b6 b7 b8;have hn1:(x18 weekT k).length=3:=q60 b7 (by show 3*k+3≤((21:Nat):Int);omega);have hn2:(x18 yearT (m-1)).length=3:=q60 (by omega) (by show 3*(m-1)+3≤((36:Nat):Int);omega);have hx1:=j113 weekT k b7;have hx2:(⟨yearT.toArray⟩:ByteArray).extract (3*m-3).toNat (3*m).toNat=⟨(x18 yearT (m-1)).toArray⟩:=by
  have h:=j113 yearT (m-1) (by omega);have e1:3*(m-1)=3*m-3:=by omega
  have e2:3*(m-1)+3=3*m:=by omega
  rw[e2,e1]at h;exact h
 have hz1:(⟨weekT.toArray⟩:ByteArray).size=21:=by decide
 have hz2:(⟨yearT.toArray⟩:ByteArray).size=36:=by decide
 have hl1:weekT.length=21:=rfl;have hl2:yearT.length=36:=rfl;have R1:=fun W=>Lib.hid (y51 d W (by omega) (by omega));have R2:=fun W=>Lib.hid (y51 (y/100) W (by omega) (by omega));have R3:=fun W=>Lib.hid (y51 (y%100) W (by omega) (by omega));have R4:=fun W=>Lib.hid (y51 (s/3600) W (by omega) (by omega));have R5:=fun W=>Lib.hid (y51 (s/60%60) W (by omega) (by omega));have R6:=fun W=>Lib.hid (y51 (s%60) W (by omega) (by omega));have RW:=fun W=>Lib.hid (j133 W);have RM:=fun W=>Lib.hid (x120 W);have k0:=catE (a:=x18 weekT k) (b:=[44,32]) (by simp only[hn1,List.length_cons,List.length_nil];omega);have k1:=catE (a:=x18 weekT k++[44,32]) (b:=twoD d) (by simp only[List.length_append,hn1,j35,List.length_cons,List.length_nil];omega);have k2:=catE (a:=x18 weekT k++[44,32]++twoD d) (b:=[32]) (by simp only[List.length_append,hn1,j35,List.length_cons,List.length_nil];omega);have k3:=catE (a:=x18 weekT k++[44,32]++twoD d++[32]) (b:=x18 yearT (m-1)) (by simp only[List.length_append,hn1,hn2,j35,List.length_cons,List.length_nil];omega);have k4:=catE (a:=x18 weekT k++[44,32]++twoD d++[32]++x18 yearT (m-1)) (b:=[32]) (by simp only[List.length_append,hn1,hn2,j35,List.length_cons,List.length_nil];omega);have k5:=catE (a:=x18 weekT k++[44,32]++twoD d++[32]++x18 yearT (m-1)++[32]) (b:=twoD (y/100)) (by simp only[List.length_append,hn1,hn2,j35,List.length_cons,List.length_nil];omega);have k6:=catE (a:=x18 weekT k++[44,32]++twoD d++[32]++x18 yearT (m-1)++[32]++twoD (y/100)) (b:=twoD (y%100)) (by simp only[List.length_append,hn1,hn2,j35,List.length_cons,List.length_nil];omega);have k7:=catE (a:=x18 weekT k++[44,32]++twoD d++[32]++x18 yearT (m-1)++[32]++twoD (y/100)++twoD (y%100)) (b:=[32]) (by simp only[List.length_append,hn1,hn2,j35,List.length_cons,List.length_nil];omega);have k8:=catE (a:=x18 weekT k++[44,32]++twoD d++[32]++x18 yearT (m-1)++[32]++twoD (y/100)++twoD (y%100)++[32]) (b:=twoD (s/3600)) (by simp only[List.length_append,hn1,hn2,j35,List.length_cons,List.length_nil];omega);have k9:=catE (a:=x18 weekT k++[44,32]++twoD d++[32]++x18 yearT (m-1)++[32]++twoD (y/100)++twoD (y%100)++[32]++twoD (s/3600)) (b:=[58]) (by simp only[List.length_append,hn1,hn2,j35,List.length_cons,List.length_nil];omega);have k10:=catE (a:=x18 weekT k++[44,32]++twoD d++[32]++x18 yearT (m-1)++[32]++twoD (y/100)++twoD (y%100)++[32]++twoD (s/3600)++[58]) (b:=twoD (s/60%60)) (by simp only[List.length_append,hn1,hn2,j35,List.length_cons,List.length_nil];omega);have k11:=catE (a:=x18 weekT k++[44,32]++twoD d++[32]++x18 yearT (m-1)++[32]++twoD (y/100)++twoD (y%100)++[32]++twoD (s/3600)++[58]++twoD (s/60%60)) (b:=[58]) (by simp only[List.length_append,hn1,hn2,j35,List.length_cons,List.length_nil];omega);have k12:=catE (a:=x18 weekT k++[44,32]++twoD d++[32]++x18 yearT (m-1)++[32]++twoD (y/100)++twoD (y%100)++[32]++twoD (s/3600)++[58]++twoD (s/60%60)++[58]) (b:=twoD (s%60)) (by simp only[List.length_append,hn1,hn2,j35,List.length_cons,List.length_nil];omega);have k13:=catE (a:=x18 weekT k++[44,32]++twoD d++[32]++x18 yearT (m-1)++[32]++twoD (y/100)++twoD (y%100)++[32]++twoD (s/3600)++[58]++twoD (s/60%60)++[58]++twoD (s%60)) (b:=[32,71,77,84]) (by simp only[List.length_append,hn1,hn2,j35,List.length_cons,List.length_nil];omega);generalize x18 weekT k++[44,32]++twoD d++[32]++x18 yearT (m-1)++[32]++twoD (y/100)++twoD (y%100)++[32]++twoD (s/3600)++[58]++twoD (s/60%60)++[58]++twoD (s%60)++[32,71,77,84]=t14 at k13 HT;generalize x18 weekT k++[44,32]++twoD d++[32]++x18 yearT (m-1)++[32]++twoD (y/100)++twoD (y%100)++[32]++twoD (s/3600)++[58]++twoD (s/60%60)++[58]++twoD (s%60)=t13 at k12 k13;generalize x18 weekT k++[44,32]++twoD d++[32]++x18 yearT (m-1)++[32]++twoD (y/100)++twoD (y%100)++[32]++twoD (s/3600)++[58]++twoD (s/60%60)++[58]=t12 at k11 k12;generalize x18 weekT k++[44,32]++twoD d++[32]++x18 yearT (m-1)++[32]++twoD (y/100)++twoD (y%100)++[32]++twoD (s/3600)++[58]++twoD (s/60%60)=t11 at k10 k11;generalize x18 weekT k++[44,32]++twoD d++[32]++x18 yearT (m-1)++[32]++twoD (y/100)++twoD (y%100)++[32]++twoD (s/3600)++[58]=t10 at k9 k10;generalize x18 weekT k++[44,32]++twoD d++[32]++x18 yearT (m-1)++[32]++twoD (y/100)++twoD (y%100)++[32]++twoD (s/3600)=t9 at k8 k9;generalize x18 weekT k++[44,32]++twoD d++[32]++x18 yearT (m-1)++[32]++twoD (y/100)++twoD (y%100)++[32]=t8 at k7 k8;generalize x18 weekT k++[44,32]++twoD d++[32]++x18 yearT (m-1)++[32]++twoD (y/100)++twoD (y%100)=t7 at k6 k7;generalize x18 weekT k++[44,32]++twoD d++[32]++x18 yearT (m-1)++[32]++twoD (y/100)=t6 at k5 k6;generalize x18 weekT k++[44,32]++twoD d++[32]++x18 yearT (m-1)++[32]=t5 at k4 k5;generalize x18 weekT k++[44,32]++twoD d++[32]++x18 yearT (m-1)=t4 at k3 k4;generalize x18 weekT k++[44,32]++twoD d++[32]=t3 at k2 k3;generalize x18 weekT k++[44,32]++twoD d=t2 at k1 k2;generalize x18 weekT k++[44,32]=t1 at k0 k1;generalize x18 weekT k=t0 at hx1 k0;generalize x18 yearT (m-1)=tm at hx2 k3;generalize twoD d=q1 at R1 k1;generalize twoD (y/100)=q2 at R2 k5;generalize twoD (y%100)=q3 at R3 k6;generalize twoD (s/3600)=q4 at R4 k8;generalize twoD (s/60%60)=q5 at R5 k10;generalize twoD (s%60)=q6 at R6 k12;generalize weekT=wt at RW hx1 hz1 hl1;generalize yearT=yt at RM hx2 hz2 hl2;have g0:(0:Int)≤3*k:=by omega
 have g1:3*k≤3*k+3:=by omega
 have g2:3*k+3≤(wt.length:Int):=by omega
 have g3:3*k+3≤21:=by omega
 have g4:(0:Int)≤3*m-3:=by omega
 have g5:3*m-3≤3*m:=by omega
 have g6:3*m≤(yt.length:Int):=by omega
 have g7:3*m≤36:=by omega
 have g8:(3:Int)≤3*m:=by omega
 have g9:¬3*m-3<0:=by omega
 have g10:(3*m).toNat≤yt.length:=by omega
 have g11:(3*m-3).toNat≤(3*m).toNat:=by omega
 have p1:IntKind.i64.wrap (3*k)=3*k:=IntWalk.i64_in _ (by omega);have p2:IntKind.i64.wrap (3*k+3)=3*k+3:=IntWalk.i64_in _ (by omega);have p3:IntKind.i64.wrap (3*m)=3*m:=IntWalk.i64_in _ (by omega);have p4:IntKind.i64.wrap (3*m-3)=3*m-3:=IntWalk.i64_in _ (by omega);have p5:IntKind.i64.wrap (y.tdiv 100)=y/100:=IntWalk.i64_quo y 100 ⟨by omega,by omega,by omega⟩;have p6:y.tmod 100=y%100:=IntWalk.rem_in y 100 (by omega);clear hday hs hn1 hn2;go_enter Tryz.func195,Tryz.ntmps195;go_wp2_with fail;refine(HD _).out.mono ?_;rintro e w1⟨rfl,hb1⟩;clear HD;go_wp2_with fail;obtain⟨W0,hW0⟩:∃W0,w1.alloc (.cells #[.int .i64 y,.int .i64 m,.int .i64 d,.int .i64 k] 287)=W0:=⟨_,rfl⟩;have HW0:Hid (W0.heap[w1.heap.size]?=some (.cells #[.int .i64 y,.int .i64 m,.int .i64 d,.int .i64 k] 287 (0,0))):=by simp only[Hid];rw[←hW0];exact j17 rfl
 have HWB:Hid (Below w.heap.size w W0):=by simp only[Hid];rw[←hW0];exact q11 hb1 _
 obtain⟨db,hdb⟩:∃db,w1.heap.size=db:=⟨_,rfl⟩;rw[hdb]at HW0;rw[hW0];try rw[hdb]
 clear hW0 hdb hb1;have v0:W0.cell? ⟨db,0,none⟩=some (.int .i64 y):=bc 0 HW0.out rfl;have v1:W0.cell? ⟨db,1,none⟩=some (.int .i64 m):=bc 1 HW0.out rfl;have v2:W0.cell? ⟨db,2,none⟩=some (.int .i64 d):=bc 2 HW0.out rfl;have v3:W0.cell? ⟨db,3,none⟩=some (.int .i64 k):=bc 3 HW0.out rfl;have vz:=q14 HW0.out;clear HW0;go_region_held3(fun w'=>w'.cell? ⟨db,0,none⟩=some (.int .i64 y)∧w'.cell? ⟨db,1,none⟩=some (.int .i64 m)∧w'.cell? ⟨db,2,none⟩=some (.int .i64 d)∧w'.cell? ⟨db,3,none⟩=some (.int .i64 k))(first|exact⟨u0,u1,u2,u3⟩|exact⟨v0,v1,v2,v3⟩|fail)(first|(go_at_call 249;refine(RW _).out.mono ?_;rintro e w2⟨rfl,rfl⟩)|(go_at_call 251;refine(RM _).out.mono ?_;rintro e w2⟨rfl,rfl⟩)|(go_at_call_of 250(Value.int .i64 d);refine(R1 _).out.mono ?_;rintro e w3⟨rfl,hb3⟩;first|(replace u0:=x16 hb3 u0;replace u1:=x16 hb3 u1;replace u2:=x16 hb3 u2;replace u3:=x16 hb3 u3)|(have u0:=x16 hb3 v0;have u1:=x16 hb3 v1;have u2:=x16 hb3 v2;have u3:=x16 hb3 v3))|(go_at_call_has 250(Value.int .i64 (y/100));refine(R2 _).out.mono ?_;rintro e w4⟨rfl,hb4⟩;first|(replace u0:=x16 hb4 u0;replace u1:=x16 hb4 u1;replace u2:=x16 hb4 u2;replace u3:=x16 hb4 u3)|(have u0:=x16 hb4 v0;have u1:=x16 hb4 v1;have u2:=x16 hb4 v2;have u3:=x16 hb4 v3))|(go_at_call_has 250(Value.int .i64 (y%100));refine(R3 _).out.mono ?_;rintro e w5⟨rfl,hb5⟩;first|(replace u0:=x16 hb5 u0;replace u1:=x16 hb5 u1;replace u2:=x16 hb5 u2;replace u3:=x16 hb5 u3)|(have u0:=x16 hb5 v0;have u1:=x16 hb5 v1;have u2:=x16 hb5 v2;have u3:=x16 hb5 v3)));clear u0 u1 u2 u3 v0 v1 v2 v3 vz;go_wp2_with(first|(go_at_call_has 250(Value.int .i64 (s/3600));refine(R4 _).out.mono ?_;rintro e w6⟨rfl,hb6⟩)|(go_at_call_has 250(Value.int .i64 (s/60%60));refine(R5 _).out.mono ?_;rintro e w7⟨rfl,hb7⟩)|(go_at_call_has 250(Value.int .i64 (s%60));refine(R6 _).out.mono ?_;rintro e w8⟨rfl,hb8⟩));refine bodyPost_ret (by simp[results,Tryz.results195,go_sem];try rfl) rfl ?_;refine⟨by rw[HT.out],?_⟩;refine q12 hb8 (q12 hb7 (q12 hb6 ?_));first|exact q12 hb3 (q12 hb4 (q12 hb5 (by first|exact HWB.out|exact x15 HWB.out|exact q15 HWB.out _)))|exact q12 hb3 (q12 hb5 (q12 hb4 (by first|exact HWB.out|exact x15 HWB.out|exact q15 HWB.out _)))|exact q12 hb4 (q12 hb3 (q12 hb5 (by first|exact HWB.out|exact x15 HWB.out|exact q15 HWB.out _)))|exact q12 hb4 (q12 hb5 (q12 hb3 (by first|exact HWB.out|exact x15 HWB.out|exact q15 HWB.out _)))|exact q12 hb5 (q12 hb3 (q12 hb4 (by first|exact HWB.out|exact x15 HWB.out|exact q15 HWB.out _)))|exact q12 hb5 (q12 hb4 (q12 hb3 (by first|exact HWB.out|exact x15 HWB.out|exact q15 HWB.out _)))
def k33(n:Int):Bool:=decide (n=-1)||(decide (0≤n)&&decide (n≤253402300799))
structure CondL where
 M:List TagL
 N:List TagL
 am:Bool
 an:Bool
 si:Int
 un:Int
 rt:List UInt8
 rw:Bool
def w39(k:CondL):Bool:=k47 k.am k.M&&k47 k.an k.N&&k33 k.si&&k33 k.un&&(decide (k.rt=[])||j20 k.rt)
theorem w121(n:Int)(w:World)(h:n<0∨253402300799<n):Calls Tryz.prog 181 #[.int .i64 n] w fun e w'=>e=.returned (.tuple #[.string ⟨#[]⟩,.int .i64 1])∧Below w.heap.size w w':=by
 by_cases h0:n<0;·clear h;go_enter Tryz.func181,Tryz.ntmps181;go_wp2_with fail;go_ret2;exact⟨rfl,by(repeat(first|exact Below.refl _ _|refine q15 ?_ _|refine x15 ?_|refine q11 ?_ _|refine w14 ?_ (by simp) _))⟩
 ·have h1:(253402300799:Int)<n:=by omega
  clear h;go_enter Tryz.func181,Tryz.ntmps181;go_wp2_with fail;go_ret2;exact⟨rfl,by(repeat(first|exact Below.refl _ _|refine q15 ?_ _|refine x15 ?_|refine q11 ?_ _|refine w14 ?_ (by simp) _))⟩
theorem v113(n:Int)(w:World)(h:n<0∨253402300799<n):Calls Tryz.prog 195 #[.int .i64 n] w fun e w'=>e=.returned (.tuple #[.string ⟨#[]⟩,.int .i64 1])∧Below w.heap.size w w':=by
 by_cases h0:n<0;·clear h;go_enter Tryz.func195,Tryz.ntmps195;go_wp2_with fail;go_ret2;exact⟨rfl,by(repeat(first|exact Below.refl _ _|refine q15 ?_ _|refine x15 ?_|refine q11 ?_ _|refine w14 ?_ (by simp) _))⟩
 ·have h1:(253402300799:Int)<n:=by omega
  clear h;go_enter Tryz.func195,Tryz.ntmps195;go_wp2_with fail;go_ret2;exact⟨rfl,by(repeat(first|exact Below.refl _ _|refine q15 ?_ _|refine x15 ?_|refine q11 ?_ _|refine w14 ?_ (by simp) _))⟩
theorem k102(n:Int)(w:World):Calls Tryz.prog 170 #[.int .i64 n] w fun e w'=>e=.returned (.bool (k33 n))∧Below w.heap.size w w':=by
 by_cases h:n<0∨253402300799<n;·
  have HT:=fun W=>Lib.hid (w121 n W h);by_cases h1:n=-1;·
   have hb:(n==-1)=true:=by rw[beq_iff_eq];exact h1
   have HV:Hid (k33 n=true):=by simp only[Hid];unfold k33;rw[decide_eq_true h1];rfl
   clear h h1;go_enter Tryz.func170,Tryz.ntmps170;go_wp2_with(go_at_call 181;refine(HT _).out.mono ?_;rintro e w1⟨rfl,hb1⟩);go_ret;exact⟨by rw[HV.out];rfl,hb1⟩
  ·have hb:(n==-1)=false:=by rw[beq_eq_false_iff_ne];exact h1
   have HV:Hid (k33 n=false):=by
    simp only[Hid];unfold k33;rw[decide_eq_false h1];rcases h with h|h;·rw[decide_eq_false (show¬0≤n by omega)];rfl
    ·rw[decide_eq_false (show¬n≤253402300799 by omega)];simp
   clear h h1;go_enter Tryz.func170,Tryz.ntmps170;go_wp2_with(go_at_call 181;refine(HT _).out.mono ?_;rintro e w1⟨rfl,hb1⟩);go_ret;exact⟨by rw[HV.out];rfl,hb1⟩
 ·have HT:=fun W=>Lib.hid (x72 n W (by omega) (by omega));have hb:(n==-1)=false:=by rw[beq_eq_false_iff_ne];omega
  have HV:Hid (k33 n=true):=by simp only[Hid];unfold k33;rw[decide_eq_true (show 0≤n by omega),decide_eq_true (show n≤253402300799 by omega)];simp
  clear h;go_enter Tryz.func170,Tryz.ntmps170;go_wp2_with(go_at_call 181;refine(HT _).out.mono ?_;rintro e w1⟨rfl,hb1⟩);go_ret;exact⟨by rw[HV.out];rfl,hb1⟩
theorem w102(n:Int)(w:World):Calls Tryz.prog 229 #[.int .i64 n] w fun e w'=>e=.returned (.bool (k33 n))∧Below w.heap.size w w':=by
 by_cases h:n<0∨253402300799<n;·
  have HT:=fun W=>Lib.hid (v113 n W h);by_cases h1:n=-1;·
   have hb:(n==-1)=true:=by rw[beq_iff_eq];exact h1
   have HV:Hid (k33 n=true):=by simp only[Hid];unfold k33;rw[decide_eq_true h1];rfl
   clear h h1;go_enter Tryz.func229,Tryz.ntmps229;go_wp2_with(go_at_call 195;refine(HT _).out.mono ?_;rintro e w1⟨rfl,hb1⟩);go_ret;exact⟨by rw[HV.out];rfl,hb1⟩
  ·have hb:(n==-1)=false:=by rw[beq_eq_false_iff_ne];exact h1
   have HV:Hid (k33 n=false):=by
    simp only[Hid];unfold k33;rw[decide_eq_false h1];rcases h with h|h;·rw[decide_eq_false (show¬0≤n by omega)];rfl
    ·rw[decide_eq_false (show¬n≤253402300799 by omega)];simp
   clear h h1;go_enter Tryz.func229,Tryz.ntmps229;go_wp2_with(go_at_call 195;refine(HT _).out.mono ?_;rintro e w1⟨rfl,hb1⟩);go_ret;exact⟨by rw[HV.out];rfl,hb1⟩
 ·have HT:=fun W=>Lib.hid (j69 n W (by omega) (by omega));have hb:(n==-1)=false:=by rw[beq_eq_false_iff_ne];omega
  have HV:Hid (k33 n=true):=by simp only[Hid];unfold k33;rw[decide_eq_true (show 0≤n by omega),decide_eq_true (show n≤253402300799 by omega)];simp
  clear h;go_enter Tryz.func229,Tryz.ntmps229;go_wp2_with(go_at_call 195;refine(HT _).out.mono ?_;rintro e w1⟨rfl,hb1⟩);go_ret;exact⟨by rw[HV.out];rfl,hb1⟩
def j57(k:CondL)(A1:Option Addr)(c1:Nat)(A2:Option Addr)(c2:Nat):Value:=.agg #[.slice A1 k.M.length c1,.slice A2 k.N.length c2,.bool k.am,.bool k.an,.int .i64 k.si,.int .i64 k.un,.string ⟨k.rt.toArray⟩,.bool k.rw]
structure ShortC(k:CondL):Prop where
 m:k.M.length≤1000000
 n:k.N.length≤1000000
 tm:w54 k.M
 tn:w54 k.N
 rt:k.rt.length≤1000000
theorem j30(l:List UInt8):(l=[]∧(l==[])=true)∨(¬l=[]∧(l==[])=false):=by cases l with|nil=>exact .inl ⟨rfl,rfl⟩|cons a r=>exact .inr ⟨by simp,rfl⟩
theorem v106(k:CondL)(A1:Option Addr)(c1:Nat)(A2:Option Addr)(c2:Nat)(w:World)(h1:SpG q27 2 w A1 c1 k.M)(h2:SpG q27 2 w A2 c2 k.N)(hs:ShortC k):Calls Tryz.prog 109 #[j57 k A1 c1 A2 c2] w fun e w'=>e=.returned (.bool (w39 k))∧Below w.heap.size w w':=by
 obtain⟨M,N,am,an,si,un,rt,rw⟩:=k;obtain⟨l1,l2,l3,l4,l5⟩:=hs;simp only at l1 l2 l3 l4 l5 h1 h2;have HM:=Lib.hid h1;have HN:=Lib.hid h2;have H1:=fun W h=>Lib.hid (k74 A1 c1 M am W h l1 l3);have H2:=fun W h=>Lib.hid (k74 A2 c2 N an W h l2 l4);have H3:=fun W=>Lib.hid (k102 si W);have H4:=fun W=>Lib.hid (k102 un W);have H5:=fun W=>Lib.hid (k39 rt rw W l5);have HV:Hid (w39 ⟨M,N,am,an,si,un,rt,rw⟩=(k47 am M&&k47 an N&&k33 si&&k33 un&&(decide (rt=[])||j20 rt))):=rfl;obtain⟨V,hV⟩:∃V,w39 ⟨M,N,am,an,si,un,rt,rw⟩=V:=⟨_,rfl⟩;rw[hV]at HV⊢;unfold j57;simp only;clear hV h1 h2 l1 l2 l3 l4 l5;obtain⟨b1,e1⟩:∃b,k47 am M=b:=⟨_,rfl⟩;obtain⟨b2,e2⟩:∃b,k47 an N=b:=⟨_,rfl⟩;obtain⟨b3,e3⟩:∃b,k33 si=b:=⟨_,rfl⟩;obtain⟨b4,e4⟩:∃b,k33 un=b:=⟨_,rfl⟩;obtain⟨b5,e5⟩:∃b,j20 rt=b:=⟨_,rfl⟩;rw[e1,e2,e3,e4,e5]at HV;rw[e1]at H1;rw[e2]at H2;rw[e3]at H3;rw[e4]at H4;rw[e5]at H5;clear e1 e2 e3 e4 e5;go_enter Tryz.func109,Tryz.ntmps109;go_upto_region 1 with fail;obtain⟨W0,hW0⟩:∃W,(w.alloc (.cells #[.slice A1 M.length c1,.slice A2 N.length c2,.bool am,.bool an,.int .i64 si,.int .i64 un,.string ⟨rt.toArray⟩,.bool rw] 45))=W:=⟨_,rfl⟩;have X0:Hid (W0.heap[w.heap.size]?=some (.cells #[.slice A1 M.length c1,.slice A2 N.length c2,.bool am,.bool an,.int .i64 si,.int .i64 un,.string ⟨rt.toArray⟩,.bool rw] 45 (0,0))):=by simp only[Hid];rw[←hW0];exact j17 rfl
 have HB0:Hid (Below w.heap.size w W0):=by simp only[Hid];rw[←hW0];exact q11 (Below.refl _ _) _
 rw[hW0];clear hW0;have v0:=bc 0 X0.out rfl;have v1:=bc 1 X0.out rfl;have v2:=bc 2 X0.out rfl;have v3:=bc 3 X0.out rfl;have v4:=bc 4 X0.out rfl;have v5:=bc 5 X0.out rfl;have v6:=bc 6 X0.out rfl;have v7:=bc 7 X0.out rfl;have vz:=q14 X0.out;cases b1 with
  |false=>go_wp2_with(first|(go_at_call_of 169(Value.slice A1 M.length c1);refine(H1 _ (HM.out.below HB0.out)).out.mono ?_;rintro e w1⟨rfl,hb1⟩;have Y1:=Lib.hid (j3 hb1 X0.out);have v0:=bc 0 Y1.out rfl;have v1:=bc 1 Y1.out rfl;have v2:=bc 2 Y1.out rfl;have v3:=bc 3 Y1.out rfl;have v4:=bc 4 Y1.out rfl;have v5:=bc 5 Y1.out rfl;have v6:=bc 6 Y1.out rfl;have v7:=bc 7 Y1.out rfl;have vz:=q14 Y1.out));go_ret;exact⟨by rw[HV.out];first|rfl|(cases b2<;>cases b3<;>cases b4<;>cases b5<;>simp),q12 hb1 (HB0.out)⟩
  |true=>
   cases b2 with
    |false=>go_wp2_with(first|(go_at_call_of 169(Value.slice A2 N.length c2);refine(H2 _ ((HN.out.below HB0.out).below hb1)).out.mono ?_;rintro e w2⟨rfl,hb2⟩;have Y2:=Lib.hid (j3 hb2 Y1.out);have v0:=bc 0 Y2.out rfl;have v1:=bc 1 Y2.out rfl;have v2:=bc 2 Y2.out rfl;have v3:=bc 3 Y2.out rfl;have v4:=bc 4 Y2.out rfl;have v5:=bc 5 Y2.out rfl;have v6:=bc 6 Y2.out rfl;have v7:=bc 7 Y2.out rfl;have vz:=q14 Y2.out)|(go_at_call_of 169(Value.slice A1 M.length c1);refine(H1 _ (HM.out.below HB0.out)).out.mono ?_;rintro e w1⟨rfl,hb1⟩;have Y1:=Lib.hid (j3 hb1 X0.out);have v0:=bc 0 Y1.out rfl;have v1:=bc 1 Y1.out rfl;have v2:=bc 2 Y1.out rfl;have v3:=bc 3 Y1.out rfl;have v4:=bc 4 Y1.out rfl;have v5:=bc 5 Y1.out rfl;have v6:=bc 6 Y1.out rfl;have v7:=bc 7 Y1.out rfl;have vz:=q14 Y1.out));go_ret;exact⟨by rw[HV.out];first|rfl|(cases b2<;>cases b3<;>cases b4<;>cases b5<;>simp),q12 hb2 (q12 hb1 (HB0.out))⟩
    |true=>
     cases b3 with
      |false=>go_wp2_with(first|(go_at_call_of 170(Value.int .i64 si);refine(H3 _).out.mono ?_;rintro e w3⟨rfl,hb3⟩;have Y3:=Lib.hid (j3 hb3 Y2.out);have v0:=bc 0 Y3.out rfl;have v1:=bc 1 Y3.out rfl;have v2:=bc 2 Y3.out rfl;have v3:=bc 3 Y3.out rfl;have v4:=bc 4 Y3.out rfl;have v5:=bc 5 Y3.out rfl;have v6:=bc 6 Y3.out rfl;have v7:=bc 7 Y3.out rfl;have vz:=q14 Y3.out)|(go_at_call_of 169(Value.slice A2 N.length c2);refine(H2 _ ((HN.out.below HB0.out).below hb1)).out.mono ?_;rintro e w2⟨rfl,hb2⟩;have Y2:=Lib.hid (j3 hb2 Y1.out);have v0:=bc 0 Y2.out rfl;have v1:=bc 1 Y2.out rfl;have v2:=bc 2 Y2.out rfl;have v3:=bc 3 Y2.out rfl;have v4:=bc 4 Y2.out rfl;have v5:=bc 5 Y2.out rfl;have v6:=bc 6 Y2.out rfl;have v7:=bc 7 Y2.out rfl;have vz:=q14 Y2.out)|(go_at_call_of 169(Value.slice A1 M.length c1);refine(H1 _ (HM.out.below HB0.out)).out.mono ?_;rintro e w1⟨rfl,hb1⟩;have Y1:=Lib.hid (j3 hb1 X0.out);have v0:=bc 0 Y1.out rfl;have v1:=bc 1 Y1.out rfl;have v2:=bc 2 Y1.out rfl;have v3:=bc 3 Y1.out rfl;have v4:=bc 4 Y1.out rfl;have v5:=bc 5 Y1.out rfl;have v6:=bc 6 Y1.out rfl;have v7:=bc 7 Y1.out rfl;have vz:=q14 Y1.out));go_ret;exact⟨by rw[HV.out];first|rfl|(cases b2<;>cases b3<;>cases b4<;>cases b5<;>simp),q12 hb3 (q12 hb2 (q12 hb1 (HB0.out)))⟩
      |true=>
       cases b4 with
        |false=>go_wp2_with(first|(go_at_call_of 170(Value.int .i64 un);refine(H4 _).out.mono ?_;rintro e w4⟨rfl,hb4⟩;have Y4:=Lib.hid (j3 hb4 Y3.out);have v0:=bc 0 Y4.out rfl;have v1:=bc 1 Y4.out rfl;have v2:=bc 2 Y4.out rfl;have v3:=bc 3 Y4.out rfl;have v4:=bc 4 Y4.out rfl;have v5:=bc 5 Y4.out rfl;have v6:=bc 6 Y4.out rfl;have v7:=bc 7 Y4.out rfl;have vz:=q14 Y4.out)|(go_at_call_of 170(Value.int .i64 si);refine(H3 _).out.mono ?_;rintro e w3⟨rfl,hb3⟩;have Y3:=Lib.hid (j3 hb3 Y2.out);have v0:=bc 0 Y3.out rfl;have v1:=bc 1 Y3.out rfl;have v2:=bc 2 Y3.out rfl;have v3:=bc 3 Y3.out rfl;have v4:=bc 4 Y3.out rfl;have v5:=bc 5 Y3.out rfl;have v6:=bc 6 Y3.out rfl;have v7:=bc 7 Y3.out rfl;have vz:=q14 Y3.out)|(go_at_call_of 169(Value.slice A2 N.length c2);refine(H2 _ ((HN.out.below HB0.out).below hb1)).out.mono ?_;rintro e w2⟨rfl,hb2⟩;have Y2:=Lib.hid (j3 hb2 Y1.out);have v0:=bc 0 Y2.out rfl;have v1:=bc 1 Y2.out rfl;have v2:=bc 2 Y2.out rfl;have v3:=bc 3 Y2.out rfl;have v4:=bc 4 Y2.out rfl;have v5:=bc 5 Y2.out rfl;have v6:=bc 6 Y2.out rfl;have v7:=bc 7 Y2.out rfl;have vz:=q14 Y2.out)|(go_at_call_of 169(Value.slice A1 M.length c1);refine(H1 _ (HM.out.below HB0.out)).out.mono ?_;rintro e w1⟨rfl,hb1⟩;have Y1:=Lib.hid (j3 hb1 X0.out);have v0:=bc 0 Y1.out rfl;have v1:=bc 1 Y1.out rfl;have v2:=bc 2 Y1.out rfl;have v3:=bc 3 Y1.out rfl;have v4:=bc 4 Y1.out rfl;have v5:=bc 5 Y1.out rfl;have v6:=bc 6 Y1.out rfl;have v7:=bc 7 Y1.out rfl;have vz:=q14 Y1.out));go_ret;exact⟨by rw[HV.out];first|rfl|(cases b2<;>cases b3<;>cases b4<;>cases b5<;>simp),q12 hb4 (q12 hb3 (q12 hb2 (q12 hb1 (HB0.out))))⟩
        |true=>
         rcases j30 rt with⟨rfl,hq⟩|⟨hne,hq⟩;·go_wp2_with(first|(go_at_call_of 170(Value.int .i64 un);refine(H4 _).out.mono ?_;rintro e w4⟨rfl,hb4⟩;have Y4:=Lib.hid (j3 hb4 Y3.out);have v0:=bc 0 Y4.out rfl;have v1:=bc 1 Y4.out rfl;have v2:=bc 2 Y4.out rfl;have v3:=bc 3 Y4.out rfl;have v4:=bc 4 Y4.out rfl;have v5:=bc 5 Y4.out rfl;have v6:=bc 6 Y4.out rfl;have v7:=bc 7 Y4.out rfl;have vz:=q14 Y4.out)|(go_at_call_of 170(Value.int .i64 si);refine(H3 _).out.mono ?_;rintro e w3⟨rfl,hb3⟩;have Y3:=Lib.hid (j3 hb3 Y2.out);have v0:=bc 0 Y3.out rfl;have v1:=bc 1 Y3.out rfl;have v2:=bc 2 Y3.out rfl;have v3:=bc 3 Y3.out rfl;have v4:=bc 4 Y3.out rfl;have v5:=bc 5 Y3.out rfl;have v6:=bc 6 Y3.out rfl;have v7:=bc 7 Y3.out rfl;have vz:=q14 Y3.out)|(go_at_call_of 169(Value.slice A2 N.length c2);refine(H2 _ ((HN.out.below HB0.out).below hb1)).out.mono ?_;rintro e w2⟨rfl,hb2⟩;have Y2:=Lib.hid (j3 hb2 Y1.out);have v0:=bc 0 Y2.out rfl;have v1:=bc 1 Y2.out rfl;have v2:=bc 2 Y2.out rfl;have v3:=bc 3 Y2.out rfl;have v4:=bc 4 Y2.out rfl;have v5:=bc 5 Y2.out rfl;have v6:=bc 6 Y2.out rfl;have v7:=bc 7 Y2.out rfl;have vz:=q14 Y2.out)|(go_at_call_of 169(Value.slice A1 M.length c1);refine(H1 _ (HM.out.below HB0.out)).out.mono ?_;rintro e w1⟨rfl,hb1⟩;have Y1:=Lib.hid (j3 hb1 X0.out);have v0:=bc 0 Y1.out rfl;have v1:=bc 1 Y1.out rfl;have v2:=bc 2 Y1.out rfl;have v3:=bc 3 Y1.out rfl;have v4:=bc 4 Y1.out rfl;have v5:=bc 5 Y1.out rfl;have v6:=bc 6 Y1.out rfl;have v7:=bc 7 Y1.out rfl;have vz:=q14 Y1.out));go_ret;exact⟨by rw[HV.out];simp,q12 hb4 (q12 hb3 (q12 hb2 (q12 hb1 (HB0.out))))⟩
         ·rw[decide_eq_false hne]at HV;clear hne;go_wp2_with(first|(go_at_call 115;refine(H5 _).out.mono ?_;rintro e w5⟨rfl,hb5⟩)|(go_at_call_of 170(Value.int .i64 un);refine(H4 _).out.mono ?_;rintro e w4⟨rfl,hb4⟩;have Y4:=Lib.hid (j3 hb4 Y3.out);have v0:=bc 0 Y4.out rfl;have v1:=bc 1 Y4.out rfl;have v2:=bc 2 Y4.out rfl;have v3:=bc 3 Y4.out rfl;have v4:=bc 4 Y4.out rfl;have v5:=bc 5 Y4.out rfl;have v6:=bc 6 Y4.out rfl;have v7:=bc 7 Y4.out rfl;have vz:=q14 Y4.out)|(go_at_call_of 170(Value.int .i64 si);refine(H3 _).out.mono ?_;rintro e w3⟨rfl,hb3⟩;have Y3:=Lib.hid (j3 hb3 Y2.out);have v0:=bc 0 Y3.out rfl;have v1:=bc 1 Y3.out rfl;have v2:=bc 2 Y3.out rfl;have v3:=bc 3 Y3.out rfl;have v4:=bc 4 Y3.out rfl;have v5:=bc 5 Y3.out rfl;have v6:=bc 6 Y3.out rfl;have v7:=bc 7 Y3.out rfl;have vz:=q14 Y3.out)|(go_at_call_of 169(Value.slice A2 N.length c2);refine(H2 _ ((HN.out.below HB0.out).below hb1)).out.mono ?_;rintro e w2⟨rfl,hb2⟩;have Y2:=Lib.hid (j3 hb2 Y1.out);have v0:=bc 0 Y2.out rfl;have v1:=bc 1 Y2.out rfl;have v2:=bc 2 Y2.out rfl;have v3:=bc 3 Y2.out rfl;have v4:=bc 4 Y2.out rfl;have v5:=bc 5 Y2.out rfl;have v6:=bc 6 Y2.out rfl;have v7:=bc 7 Y2.out rfl;have vz:=q14 Y2.out)|(go_at_call_of 169(Value.slice A1 M.length c1);refine(H1 _ (HM.out.below HB0.out)).out.mono ?_;rintro e w1⟨rfl,hb1⟩;have Y1:=Lib.hid (j3 hb1 X0.out);have v0:=bc 0 Y1.out rfl;have v1:=bc 1 Y1.out rfl;have v2:=bc 2 Y1.out rfl;have v3:=bc 3 Y1.out rfl;have v4:=bc 4 Y1.out rfl;have v5:=bc 5 Y1.out rfl;have v6:=bc 6 Y1.out rfl;have v7:=bc 7 Y1.out rfl;have vz:=q14 Y1.out));go_ret;exact⟨by rw[HV.out];cases b5<;>rfl,q12 hb5 (q12 hb4 (q12 hb3 (q12 hb2 (q12 hb1 (HB0.out)))))⟩
end Go.Proofs.YtbphndihjdiiiaaGreatDoor
