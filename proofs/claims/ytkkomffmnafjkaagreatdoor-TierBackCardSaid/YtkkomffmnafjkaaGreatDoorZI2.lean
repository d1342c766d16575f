/- Contracts of the day of a tick: the program's and the document's. Rows of .. -/
import Derived.Test.YtkkomffmnafjkaaGreatDoorZV1
import Derived.Sort.AtCall
set_option maxHeartbeats 16000000
set_option maxRecDepth 100000
set_option linter.all false
namespace Go.Proofs.YtkkomffmnafjkaaGreatDoor
open Go.RowKit
theorem q81{l:Bool}{f:Nat}{r m:Int}(h:w37 l m≤r):y181 l (f+1) r m=y181 l f (r-w37 l m) (m+1):=by rw[y181,if_pos h]
theorem j81{l:Bool}{f:Nat}{r m:Int}(h:¬w37 l m≤r):y181 l (f+1) r m=(r,m):=by rw[y181,if_neg h]
theorem w71{d y:Int}(h1:d≤2932896)(hy:y≤9999)(h:¬y<9999):¬befY (y+1)≤d:=by
 have e:y+1=10000:=by omega
 have e2:befY 10000=2932897:=by decide
 rw[e,e2];omega
def j58(n:Int)(w:World)(e:Ending)(w':World):Prop:=e=.returned (.tuple #[.agg #[.int .i64 (dayN (n/86400)).year,.int .i64 (dayN (n/86400)).month,.int .i64 (dayN (n/86400)).date,.int .i64 (dayN (n/86400)).week],.int .i64 (n%86400)])∧Below w.heap.size w w'
theorem w126{n y m r k s:Int}{w w':World}(h:dayN (n/86400)=⟨y,m,r,k⟩)(hs:n%86400=s)(hb:Below w.heap.size w w'):j58 n w (.returned (.tuple #[.agg #[.int .i64 y,.int .i64 m,.int .i64 r,.int .i64 k],.int .i64 s])) w':=by unfold j58;rw[h,hs];exact⟨rfl,hb⟩
theorem x132(n:Int)(w:World)(h0:0≤n)(h1:n≤253402300799):Calls Tryz.prog 182 #[.int .i64 n] w (j58 n w):=by
 obtain⟨d,hd⟩:∃d,n/86400=d:=⟨_,rfl⟩;have hd0:0≤d∧d≤2932896:=by omega
 have HS:=Lib.hid (w64 hd0.1);have HD0:=Lib.hid hd0;have HD:=Lib.hid hd;have HA:=fun y W h h'=>Lib.hid (k153 y W h h');have HL:=fun y m W h h'=>Lib.hid (j164 y m W h h');have hn86:0≤n%86400∧n%86400<86400:=by omega
 go_enter Tryz.func182,Tryz.ntmps182;go_wp2_with fail;rw[hd];go_loopw[5](fun y wr=>wr=w.alloc (.cells #[.int .i64 0,.int .i64 0,.int .i64 0,.int .i64 0] 232)∧∃yr:Int,y=.int .i64 yr∧1970≤yr∧yr≤9999∧befY yr≤d)(fun y _=>(10000-intOf y).toNat);case atStart=>exact⟨rfl,_,rfl,by omega,by omega,HS.out⟩
 case round=>
  obtain⟨rfl,yr,rfl,hyr0,hyr1,hbe⟩:=hrel;have HBE:=Lib.hid hbe;clear hbe HS;by_cases hy:yr<9999∧befY (yr+1)≤d;·
   obtain⟨hy1,hy2⟩:=hy;have HY2:=Lib.hid hy2;have HA1:=fun W=>HA (yr+1) W (by omega) (by omega);obtain⟨b1,hb1⟩:∃b1,befY (yr+1)=b1:=⟨_,rfl⟩;rw[hb1]at hy2 HA1;have HB1:=Lib.hid hb1;clear hb1 HA HL hd;go_wp2_with(go_at_call 244;refine(HA1 _).out.mono ?_;rintro e w3⟨rfl,rfl⟩);go_roundw;case rel=>exact⟨by first|trivial|rfl,yr+1,by go_num,by omega,by omega,HY2.out⟩
   case measure=>simp[intOf];omega
  ·have hcase:(¬yr<9999)∨(yr<9999∧¬befY (yr+1)≤d):=by
    rcases Int.lt_or_le yr 9999 with h|h;·exact .inr ⟨h,fun h2=>hy ⟨h,h2⟩⟩
    ·exact .inl (by omega)
   rcases hcase with hc1|⟨hc1,hc2⟩;all_goals
    have HYR:Hid (x42 d=yr):=by simp only[Hid];exact(x125 HD0.out.1 HD0.out.2 HBE.out (by first|exact hc2|exact hc1|exact w71 HD0.out.2 hyr1 hc1)).symm
    have HRB:=Lib.hid (j96 hd0.1 hd0.2);rw[HYR.out]at HRB;have HMB:=Lib.hid (y86 HRB.out.1 HRB.out.2);have HFI:Hid (dayN (n/86400)=⟨yr,(j27 (w28 yr) (d-befY yr)).2,(j27 (w28 yr) (d-befY yr)).1+1,(d+4)%7⟩):=by simp only[Hid];rw[HD.out];unfold dayN;rw[HYR.out]
    have HA1:=fun W=>HA yr W (by omega) (by omega);have HA2:=fun W=>HA (yr+1) W (by omega) (by omega);have HL1:=fun m W=>HL yr m W (by omega) (by omega);obtain⟨b0,hb0⟩:∃b0,befY yr=b0:=⟨_,rfl⟩;obtain⟨b1,hb1⟩:∃b1,befY (yr+1)=b1:=⟨_,rfl⟩;obtain⟨l,hl⟩:∃l,w28 yr=l:=⟨_,rfl⟩;rw[hb0]at HA1 HRB HMB HFI;rw[hb1]at HA2;try rw[hb1]at hc2
    try rw[hb1]at hc1
    rw[hl]at HL1 HRB HMB HFI;have hr0:0≤d-b0∧d-b0<366:=by have h:=HRB.out;split at h<;>omega
    have hbb:-1000000≤b0∧b0≤4000000:=by omega
    clear HA HL hb0 hb1 hl HRB hy HBE HYR;go_wp2_with(first|(go_at_call_has 244(Value.int .i64 (yr+1));refine(HA2 _).out.mono ?_;rintro e w3⟨rfl,rfl⟩)|(go_at_call_of 244(Value.int .i64 yr);refine(HA1 _).out.mono ?_;rintro e w3⟨rfl,rfl⟩));obtain⟨r0,hr⟩:∃r0,d-b0=r0:=⟨_,rfl⟩;rw[hr]at HMB HFI hr0;try rw[hr]
    clear HA1 HA2;go_loopw[6,7](fun rv mv wr=>wr=w.alloc (.cells #[.int .i64 0,.int .i64 0,.int .i64 0,.int .i64 0] 232)∧∃(f:Nat)(r m:Int),rv=.int .i64 r∧mv=.int .i64 m∧f≤13∧m+(f:Int)≤14∧14≤m+(f:Int)∧0≤r∧r<366∧y181 l f r m=j27 l r0)(fun _ mv _=>(14-intOf mv).toNat);case atStart=>exact⟨rfl,13,r0,1,rfl,rfl,by omega,by omega,by omega,by omega,by omega,rfl⟩
    case round=>
     obtain⟨rfl,f,r,m,rfl,rfl,hf,hm,hm',hr1,hr2,he⟩:=hrel;cases f with
      |zero=>exfalso;have h4:=HMB.out.2.2.2;rw[←he]at h4;simp only[y181]at h4;omega
      |succ f=>
       have hlb:=j108 l m;have HLm:=fun W=>HL1 m W;have HE:=Lib.hid he;have HST:=Lib.hid (q81 (l:=l) (f:=f) (r:=r) (m:=m));have HSP:=Lib.hid (j81 (l:=l) (f:=f) (r:=r) (m:=m));obtain⟨q,hq⟩:∃q,w37 l m=q:=⟨_,rfl⟩;rw[hq]at hlb HLm HST HSP;clear he hq;by_cases hqr:q≤r;·
        have HN:Hid (y181 l f (r-q) (m+1)=j27 l r0):=by simp only[Hid];rw[←HST.out hqr];exact HE.out
        clear HST HSP HE;go_wp2_with(go_at_call 243;refine(HLm _).out.mono ?_;rintro e w3⟨rfl,rfl⟩);go_roundw;case rel=>exact⟨by first|trivial|rfl,f,r-q,m+1,by go_num,by go_num,by omega,by omega,by omega,by omega,by omega,HN.out⟩
        case measure=>simp[intOf];omega
       ·have HN:Hid (j27 l r0=(r,m)):=by simp only[Hid];rw[←HE.out];exact HSP.out hqr
        clear HST HSP HE;rw[HN.out]at HFI;go_wp2_with(go_at_call 243;refine(HLm _).out.mono ?_;rintro e w3⟨rfl,rfl⟩);refine bodyPost_ret (by simp[results,Tryz.results182,go_sem];try rfl) rfl ?_;exact w126 HFI.out rfl (by(repeat(first|exact Below.refl _ _|refine q15 ?_ _|refine x15 ?_|refine q11 ?_ _|refine w14 ?_ (by simp) _)))
def encB(c:UInt8):List Value:=[.int .u8 (c.toNat:Int)]
theorem elemB:ElemK Tryz.prog encB 1 5 243 1 where
 und:=Tryz.underlying243
 info:=by obtain⟨i0,hi,hz0,hz1,hz2⟩:=info_parts Tryz.infoByte;exact⟨i0,_,hi,hz0,hz1,hz2,rfl⟩
 pos:=by decide
 small:=by decide
 len _:=rfl
 one _ v hv:=by simp[encB]at hv;rw[hv];rfl
theorem q72(t:List UInt8):w180 encB t=t.map fun c=>Value.int .u8 (c.toNat:Int):=by unfold w180 encB;induction t with|nil=>rfl|cons a r ih=>rw[List.flatMap_cons,ih];rfl
theorem v97(t:List UInt8):Lib.strCells ⟨t.toArray⟩=w180 encB t:=by rw[q72];simp[Lib.strCells]
abbrev OwnB(w:World)(base:Nat)(A:Option Addr)(c:Nat)(L:List UInt8):Prop:=OwnG 5 encB 1 w base A c L
theorem y87{ops:Array Oper}{rest:List Oper}{o:Oper}{a:Act}{Q:Exit→Act→World→Prop}{w w0:World}(hgd:o.guard=none)(s x:Operand)(ho:o.op=.call {callee:=.builtin .append,args:=#[s,x],argTypes:=#[243,9]})(A:Option Addr)(c ln:Nat)(L:List UInt8)(hln:ln=L.length)(hs:a.eval s=.slice A ln c)(hown:OwnB w w0.heap.size A c L)(t:List UInt8)(sb:ByteArray)(hst:sb=⟨t.toArray⟩)(hx:a.eval x=.string sb)(m:Nat)(hm:m=ln+t.length)(hl:m≤1000000)(hbel:Below w0.heap.size w0 w)(h:∀A' c' w',OwnB w' w0.heap.size A' c' (L++t)→Below w0.heap.size w0 w'→w.grownBy w' (Value.slice A L.length c).ownBlock→wpList Tryz.prog ops Q rest (a.put o.dst (.slice A' m c')) w'):wpList Tryz.prog ops Q (o::rest) a w:=by
 obtain⟨i0,hi,hz0,hz1,hz2⟩:=info_parts Tryz.infoByte;subst hst hln;have hsz:(⟨t.toArray⟩:ByteArray).size=t.length:=q19 t;refine Lib.wpList_append_own_string w hgd s x 243 9 ho w0.heap.size 5 i0 Tryz.underlying243 Tryz.underlying9 hi hz0 hz1 hz2 _ _ _ hs hown ⟨t.toArray⟩ hx ?_ ?_ hbel.size ?_;·rw[hsz];simp only[maxLen];omega
 ·rw[hsz];omega
 ·intro v' w' h1 h2 h3;have hlt:=World.ownsRow.lt hown;have hbel':Below w0.heap.size w0 w':=hbel.grown h2 hbel.size (fun k hk=>(hlt k hk).1);rw[v97,←x68,hsz]at h1;have hform:∃A' c',v'=.slice A' m c'∧OwnB w' w0.heap.size A' c' (L++t):=by
   have hml:L.length+t.length=m:=hm.symm;have hmm:(L++t).length=m:=by rw[List.length_append];exact hml
   rw[hml]at h1;rcases h1.2 with⟨hv,hn⟩|⟨g',cap,cur,hv,_⟩;·refine⟨none,0,by rw[hv,hn],?_⟩;unfold OwnB OwnG;rw[hmm];rw[hv]at h1;rw[hn]at h1⊢;exact h1
   ·refine⟨_,_,hv,?_⟩;unfold OwnB OwnG;rw[hmm];rw[hv]at h1;exact h1
  obtain⟨A',c',rfl,ho'⟩:=hform;exact h A' c' w' ho' hbel' h2
theorem w47{ops:Array Oper}{rest:List Oper}{o:Oper}{a:Act}{Q:Exit→Act→World→Prop}{w w0:World}(hgd:o.guard=none)(s x:Operand)(ho:o.op=.call {callee:=.builtin .append,args:=#[s,x],argTypes:=#[243,243]})(A:Option Addr)(c ln:Nat)(L:List UInt8)(hln:ln=L.length)(cs:Array Value)(T:TypeId)(hs:a.eval s=.slice A ln c)(hown:OwnB w w0.heap.size A c L)(t:List UInt8)(k:Nat)(hk:k=t.length)(hx:a.eval x=.slice (some ⟨w.heap.size,0,none⟩) k k)(hcs:cs.toList=w180 encB t)(h0:0<t.length)(m:Nat)(hm:m=ln+t.length)(hl:m≤1000000)(hbel:Below w0.heap.size w0 w)(h:∀A' c' w',OwnB w' w0.heap.size A' c' (L++t)→Below w0.heap.size w0 w'→(w.alloc (.cells cs T)).grownBy w' (Value.slice A L.length c).ownBlock→wpList Tryz.prog ops Q rest (a.put o.dst (.slice A' m c')) w'):wpList Tryz.prog ops Q (o::rest) a (w.alloc (.cells cs T)):=by subst hln hk hm;exact k53 (w0:=w0) elemB hgd s x ho A c L hs (hown.alloc _) (some ⟨w.heap.size,0,none⟩) _ t hx (SpG.built (enc:=encB) (n:=1) elemB.len w t cs hcs T) h0 hl (q11 hbel _) h
theorem convB(w:World)(base:Nat)(A:Option Addr)(c m:Nat)(L:List UInt8)(hm:m=L.length)(h0:0<L.length)(h:OwnB w base A c L):(convert 243 9 (.slice A m c)).run Tryz.prog w=.ok (.string ⟨L.toArray⟩) w:=by
 subst hm;obtain⟨g,rfl,_,_⟩:=h.at_ h0;refine run_convert_bytes_back w _ _ 5 _ c L Tryz.underlying243 Tryz.underlying5 Tryz.underlying9 fun j hj=>?_;obtain⟨b,off,e,_,h1⟩:=(h.spg elemB.len).at' j hj;injection e with e;injection e with e1 e2;subst e1 e2;have:=h1 0 _ rfl;have hadd:(⟨g,0,none⟩:Addr).add j=⟨g,0+j,none⟩:=by unfold Addr.add;split<;>simp_all
 rw[hadd];simpa using this
def digK(n:Int):Nat→List UInt8|0=>[]|r+1=>dgt (n/((10^r:Nat):Int))::digK n r
theorem j51(n:Int):∀k,(digK n k).length=k|0=>rfl|k+1=>by rw[digK,List.length_cons,j51 n k]
theorem y155(n:Int):digK n 2=twoD n:=by simp[digK,twoD]
theorem x145(n:Int):digK n 4=j90 n:=by simp[digK,j90]
def x53:Nat→Int|0=>0|r+1=>((10^r:Nat):Int)
theorem j92:∀r,r≤9→x53 (r+1)/10=x53 r∧1≤x53 (r+1)∧x53 (r+1)≤1000000000
 |0,_=>by decide
 |r+1,h=>by have hb:10^(r+1)≤10^9:=Nat.pow_le_pow_right (by omega) (by omega);have hp:1≤10^(r+1):=Nat.one_le_pow _ _ (by omega);simp only[x53];have e:(10:Nat)^(r+1)=10^r*10:=Nat.pow_succ ..;omega
def DigPost(w0:World)(L:List UInt8)(ln:Nat)(n:Int)(k:Nat)(e:Ending)(w':World):Prop:=∃A' c',e=.returned (.slice A' (ln+k) c')∧OwnB w' w0.heap.size A' c' (L++digK n k)∧Below w0.heap.size w0 w'
theorem k49{w0 w:World}{A:Option Addr}{c ln:Nat}{L:List UInt8}(hown:OwnB w w0.heap.size A c L)(hln:ln=L.length)(hb:Below w0.heap.size w0 w)(n:Int)(k:Nat)(h0:0≤n)(h1:n≤1000000)(hk:1≤k∧k≤9)(hl:L.length≤1000):Calls Tryz.prog 183 #[.slice A ln c,.int .i64 n,.int .i64 (k:Int)] w (DigPost w0 L ln n k):=by
 obtain⟨k,rfl⟩:∃j,k=j+1:=⟨k-1,by omega⟩;have HO:=Lib.hid hown;have HB:=Lib.hid hb;subst hln;clear hown hb;have hkc:((k+1:Nat):Int)-1=(k:Int):=by omega
 have HP:=fun W=>Lib.hid (j154 k (by omega) W);have hu:=j92 k (by omega);have hpb:((10^k:Nat):Int)=x53 (k+1):=rfl;rw[hpb]at HP;clear hpb;go_enter Tryz.func183,Tryz.ntmps183;go_wp2_with(go_at_call 251;refine(HP _).out.mono ?_;rintro e w1⟨rfl,rfl⟩);go_loopw[0,7](fun bv uv wr=>∃(r:Nat)(D:List UInt8)(A':Option Addr)(c' m:Nat),r≤k+1∧m+r=L.length+(k+1)∧m=L.length+D.length∧uv=.int .i64 (x53 r)∧bv=.slice A' m c'∧D++digK n r=digK n (k+1)∧OwnB wr w0.heap.size A' c' (L++D)∧Below w0.heap.size w0 wr)(fun _ uv _=>(intOf uv).toNat);case atStart=>exact⟨k+1,[],A,c,L.length,Nat.le_refl _,rfl,rfl,rfl,rfl,rfl,by rw[List.append_nil];exact HO.out,HB.out⟩
 case round=>
  obtain⟨r,D,A',c',m,hr,hmr,hm,rfl,rfl,hD,ho,hbw⟩:=hrel;have HO:=Lib.hid ho;have HB:=Lib.hid hbw;have HD:=Lib.hid hD;have HM:=Lib.hid hm;have HMR:=Lib.hid hmr;clear ho hbw hD;cases r with
   |zero=>
    have hu0:x53 0=0:=rfl;rw[hu0];have HF:Hid (D=digK n (k+1)):=by simp only[Hid];rw[←HD.out];simp[digK]
    clear HP hu hm hmr;go_wp2_with fail;go_ret;have e:m=L.length+(k+1):=by have:=HMR.out;omega
    rw[e];exact⟨A',c',rfl,by rw[←HF.out];exact HO.out,HB.out⟩
   |succ r=>
    obtain⟨hu1,hu2,hu3⟩:=j92 r (by omega);have HDG:Hid (digK n (r+1)=dgt (n/x53 (r+1))::digK n r):=rfl;have HU1:=Lib.hid hu1;obtain⟨u,hue⟩:∃u,x53 (r+1)=u:=⟨_,rfl⟩;rw[hue]at hu1 hu2 hu3 HDG HU1⊢;have hq1:0≤n/u:=Int.ediv_nonneg h0 (by omega);have hq2:n/u≤n:=(IntWalk.tdiv_le n u h0 hu2).2;have HV:=Lib.hid (v96 (n/u));have hd0:0≤n/u%10∧n/u%10<10:=by omega
    have hml:m≤1100:=by omega
    clear hue hu1 hm hmr HP hu;go_wp2_with(at_builtin;go_must(refine w47 (w0:=w0) rfl (.tmp 15) (.tmp 22) rfl A' c' m (L++D) (by rw[List.length_append];exact HM.out) _ _ rfl HO.out [dgt (n/u)] 1 rfl rfl (by rw[q72];simp[HV.out]) (by simp) (m+1) rfl (by omega) HB.out ?_;intro A5 c5 w5 hown5 hbw5 hg5));go_roundw;case rel=>exact⟨r,D++[dgt (n/u)],A5,c5,m+1,by omega,by have:=HMR.out;omega,by rw[List.length_append];have:=HM.out;simp;omega,by rw[←HU1.out],rfl,by rw[List.append_assoc,List.singleton_append,←HDG.out];exact HD.out,by rw[←List.append_assoc];exact hown5,hbw5⟩
    case measure=>simp[intOf];omega
end Go.Proofs.YtkkomffmnafjkaaGreatDoor
