/- Contracts of control.within, Apply of a rule to a version of which nothing .. -/
import Derived.Test.YtkkomffmnafjkaaGreatDoorZP12
import Derived.Test.YtkkomffmnafjkaaGreatDoorZS9
import Derived.BigRegion
import Derived.Test.YtkkomffmnafjkaaGreatDoorZI20
import Derived.Test.YtkkomffmnafjkaaGreatDoorZB1
set_option maxHeartbeats 16000000
set_option maxRecDepth 100000
set_option linter.all false
namespace Go.Proofs.YtkkomffmnafjkaaGreatDoor
open Go.RowKit
theorem k196{α:Type}{P:Program}{enc:α→List Value}{n:Nat}{T ST:TypeId}{bytes:Nat}(K:ElemK P enc n T ST bytes){ops:Array Oper}{rest:List Oper}{o:Oper}{a:Act}{Q:Exit→Act→World→Prop}{w:World}(hgd:o.guard=none)(s x:Operand)(ho:o.op=.call {callee:=.builtin .append,args:=#[s,x],argTypes:=#[ST,ST]})(hs:a.eval s=.slice none 0 0)(hx:a.eval x=.slice none 0 0)(h:wpList P ops Q rest (a.put o.dst (.slice none 0 0)) w):wpList P ops Q (o::rest) a w:=by obtain⟨i0,z,hi,hz,hsz,hby,hzs⟩:=K.info;refine wpList_append_own_none hgd s x _ ho w.heap.size T i0 n K.und hi (.slice none 0 0) 0 [] hs (OwnG.nil (enc:=enc) _ _) hx ?_;simpa using h
theorem x190(n:Int)(w:World)(h:y49 n):Calls Tryz.prog 169 #[.int .i64 n] w fun e w'=>e=.returned (.int .i64 (y36 n))∧w'=w:=by obtain⟨h0,h1⟩:=h;go_enter Tryz.func169,Tryz.ntmps169;go_wp2_with fail;go_ret;exact⟨rfl,rfl⟩
theorem age_any(w:World):Calls Tryz.prog 110 #[.string ⟨#[48]⟩] w fun e w'=>e=.returned (.tuple #[.int .i64 0,.int .i64 0])∧Below w.heap.size w w':=by have HT:=fun W=>Lib.hid (w162 [48] W (by decide));rw[w219]at HT;have HN:=fun W=>Lib.hid (k194 [48] 0 W (by decide) (by decide) (by decide) (by decide));go_enter Tryz.func110,Tryz.ntmps110;go_wp2_with(first|(go_at_call 171;refine(HT _).out.mono ?_;rintro e w1⟨rfl,hb1⟩)|(go_at_call 175;refine(HN _).out.mono ?_;rintro e w2⟨rfl,rfl⟩));go_ret2;exact⟨rfl,hb1⟩
def appC(r:RuleL):Array Value:=#[.string ⟨#[]⟩,.bool false,.int .i64 0,.int .i64 0,.int .i64 0,.int .i64 (y36 r.sh),.int .i64 (y36 r.wh),.int .i64 (y36 r.er),.slice none 0 0,.string ⟨#[]⟩,.bool (!r.ns)]
theorem w212(sh wh er:Int)(ns:Bool)(w:World)(h1:0≤sh∧sh≤1099511627776)(h2:y49 wh)(h3:y49 er):Calls Tryz.prog 105 #[.agg #[.string ⟨#[]⟩,.bool false,.int .i64 0,.int .i64 0,.int .i64 0,.int .i64 0,.int .i64 0,.int .i64 0,.slice none 0 0,.string ⟨#[]⟩,.bool false],.agg (x188 ⟨-1,sh,wh,er,ns,false,false⟩)] w fun e w'=>e=.returned (.agg (appC ⟨-1,sh,wh,er,ns,false,false⟩))∧Below w.heap.size w w':=by
 have H1:=fun W=>Lib.hid (x190 sh W ⟨by omega,h1.2⟩);have H2:=fun W=>Lib.hid (x190 wh W h2);have H3:=fun W=>Lib.hid (x190 er W h3);unfold x188 appC;simp only;generalize y36 sh=s1 at*;generalize y36 wh=s2 at*;generalize y36 er=s3 at*;obtain⟨h1a,h1b⟩:=h1;have q0:decide (0≤sh)=true:=decide_eq_true h1a;clear h2 h3;cases ns;all_goals
  go_enter Tryz.func105,Tryz.ntmps105;go_upto_region 9 with(
   first
    |(at_builtin;refine k196 elemT rfl (.const (.slice none 0 0)) (.tmp 6) rfl rfl rfl ?_)
    |(go_at_call 169;refine(H1 _).out.mono ?_;rintro e w3⟨rfl,rfl⟩));go_region_with(first|(go_at_call_of 169(Value.int .i64 wh);refine(H2 _).out.mono ?_;rintro e w3⟨rfl,rfl⟩)|(go_at_call_of 169(Value.int .i64 er);refine(H3 _).out.mono ?_;rintro e w4⟨rfl,rfl⟩));all_goals go_wp2_with fail
  all_goals refine bodyPost_ret (by simp[results,Tryz.results105,go_sem];try rfl) rfl ?_;exact⟨rfl,by(repeat(first|exact Below.refl _ _|refine q15 ?_ _|refine x15 ?_|refine q11 ?_ _|refine w14 ?_ (by simp) _))⟩
def z188(v:List UInt8)(b k:Nat)(D:List DirL):Prop:=(segF ((v.drop b).take (k-b)) (v.drop k)).map q36=D.map DirL.T
theorem left_step{v:List UInt8}{b k:Nat}{D:List DirL}(hk:k<v.length)(hb:b≤k)(hc:v[k]≠44)(h:z188 v b k D):z188 v b (k+1) D:=by
 unfold z188 at*;rw[List.drop_eq_getElem_cons hk,segF,if_neg hc]at h;have e:(v.drop b).take (k+1-b)=(v.drop b).take (k-b)++[v[k]]:=by rw[show k+1-b=k-b+1 by omega,List.take_succ_eq_append_getElem (by rw[List.length_drop];omega),List.getElem_drop];congr 2;congr 1;omega
 rw[e];exact h
theorem q208{v:List UInt8}{b k:Nat}{D:List DirL}(hk:k<v.length)(hc:v[k]=44)(h:z188 v b k D):∃d D',D=d::D'∧q36 ((v.drop b).take (k-b))=d.T∧z188 v (k+1) (k+1) D':=by
 unfold z188 at*;rw[List.drop_eq_getElem_cons hk,segF,if_pos hc,List.map_cons]at h;cases D with
  |nil=>cases h
  |cons d D'=>injection h with h1 h2;exact⟨d,D',rfl,h1,by rw[Nat.sub_self,List.take_zero];exact h2⟩
theorem x216{v:List UInt8}{b:Nat}{D:List DirL}(h:z188 v b v.length D):∃d,D=[d]∧q36 ((v.drop b).take (v.length-b))=d.T:=by
 unfold z188 at h;rw[List.drop_eq_nil_of_le (Nat.le_refl _),segF,List.map_cons,List.map_nil]at h;cases D with
  |nil=>cases h
  |cons d D'=>injection h with h1 h2;exact⟨d,by rw[List.map_eq_nil_iff.1 h2.symm],h1⟩
def zeroR:Array Value:=#[.int .i64 0,.int .i64 0,.int .i64 0,.int .i64 0,.bool false,.bool false,.bool false]
structure ParSt(w:World)(r:RuleL)(wr:World):Prop where
 z:wr.heap[w.heap.size]?=some (.cells zeroR 164 (0,0))
 rl:k189 wr (w.heap.size+1) r
 ok:RuleOk r
 bel:Below w.heap.size w wr
theorem ParSt.step{w wr w1 w2:World}{r:RuleL}{d:DirL}(h:ParSt w r wr)(hb:Below wr.heap.size wr w1)(hd:d.Ok)(hr:k189 w2 (w.heap.size+1) (d.on r))(hm:Mut [w.heap.size+1] w1 w2):ParSt w (d.on r) w2:=⟨hm.blk _ _ (j3 hb h.z) (by simp),hr,h.ok.on hd,(q12 hb h.bel).trans (hm.below (by simp) (by have:=h.bel.size;have:=hb.size;omega))⟩
theorem j208(A:Option Addr)(c:Nat)(v:List UInt8)(D:List DirL)(w:World)(hsp:SpG encT 1 w A c [v])(hD:∀d∈D,d.Ok)(hv:(segF [] v).map q36=D.map DirL.T)(hq:∀c∈v,c≠34)(hl:v.length≤1000)(hE:EnvR w):Calls Tryz.prog 106 #[.slice A 1 c] w fun e w'=>e=.returned (.agg (x188 (D.foldl DirL.on q191)))∧Below w.heap.size w w':=by
 have HTR:=fun(l:List UInt8)(h:l.length≤1000000)W=>Lib.hid (w162 l W h);have HHE:=fun(d:DirL)(r:RuleL)W hd hr hx hE=>Lib.hid (v216 d (w.heap.size+1) r W hd hr hx hE);have HSP:=Lib.hid hsp;have HE:=Lib.hid hE;have HD:=Lib.hid hD;have HV:Hid (z188 v 0 0 D):=by simp only[Hid];unfold z188;simpa using hv
 have HQ:=Lib.hid hq;have hsz:(⟨v.toArray⟩:ByteArray).size=v.length:=q19 v;have HX:∀a b,Hid ((⟨v.toArray⟩:ByteArray).extract a b=⟨((v.drop a).take (b-a)).toArray⟩):=fun a b=>Lib.hid (y62 v a b);obtain⟨R,hR⟩:∃R,D.foldl DirL.on q191=R:=⟨_,rfl⟩;rw[hR];have HR:=Lib.hid hR;obtain⟨s,hs⟩:∃s:ByteArray,(⟨v.toArray⟩:ByteArray)=s:=⟨_,rfl⟩;rw[hs]at hsz;simp only[hs]at HX;have HS:=Lib.hid hs;have HG:∀k(h:k<v.length)(h2:k<s.size),Hid (s[k]=v[k]):=fun k h h2=>Lib.hid (by subst hs;rfl);clear hs hR hsp hE hD hv hq;go_enter Tryz.func106,Tryz.ntmps106;go_wp2_with fail;go_loopw[5,6,7,8,12](fun _ _ _ _ k wr=>(k=.int .i64 0∧ParSt w q191 wr)∨(k=.int .i64 1∧ParSt w R wr))(fun _ _ _ _ k _=>1-(intOf k).toNat);case atStart=>exact .inl ⟨rfl,j3 (q11 (Below.refl _ _) _) (j17 rfl),j17 (by simp),⟨by unfold y49;decide,by unfold y49;decide,by unfold y49;decide⟩,by(repeat(first|exact Below.refl _ _|refine q15 ?_ _|refine x15 ?_|refine q11 ?_ _|refine w14 ?_ (by simp) _))⟩
 case round=>
  rcases hrel with⟨rfl,hst⟩|⟨rfl,hst⟩;·
   have HST:=Lib.hid hst;obtain⟨b,off,e,hb,hc⟩:=(HSP.out.below hst.bel).at' 0 (by simp);have c0:=hc 0 _ rfl;simp only[Nat.add_zero,Nat.zero_mul,List.getElem_cons_zero]at c0;subst e;clear hc hst;rw[HS.out]at c0;go_wp2_with fail;go_loopw[6,7,8](fun b q i wr=>∃(bb k:Nat)(r:RuleL),b=.int .i64 (bb:Int)∧q=.bool false∧i=.int .i64 (k:Int)∧ParSt w r wr∧((k≤v.length∧bb≤k∧∃D',(∀d∈D',d.Ok)∧z188 v bb k D'∧D'.foldl DirL.on r=R)∨(k=v.length+1∧r=R)))(fun _ _ i _=>v.length+2-(intOf i).toNat);case atStart=>exact⟨0,0,q191,rfl,rfl,rfl,HST.out,.inl ⟨Nat.zero_le _,Nat.le_refl _,D,HD.out,HV.out,HR.out⟩⟩
   case round=>
    obtain⟨bb,k,r,rfl,rfl,rfl,hsr,⟨hk,hbk,D',hD',hL,hF⟩|⟨rfl,rfl⟩⟩:=hrel;·
     have HSR:=Lib.hid hsr;have HL:=Lib.hid hL;have HF:=Lib.hid hF;have HD':=Lib.hid hD';have HLT:∀a b,Hid (((v.drop a).take (b-a)).length≤1000000):=fun a b=>Lib.hid (by rw[List.length_take,List.length_drop];omega);clear hsr hL hF hD' c0;by_cases hlt:k<v.length;·
      have hlt2:k<s.size:=by omega
      have hgk:=(HG k hlt hlt2).out;have h34:((s[k].toNat:Int)==34)=false:=by rw[hgk,beq_eq_false_iff_ne];intro e;exact HQ.out v[k] (List.getElem_mem hlt) (UInt8.toNat_inj.1 (by show v[k].toNat=34;omega))
      have hne:((k:Int)==(v.length:Int))=false:=by rw[beq_eq_false_iff_ne];omega
      by_cases hc:v[k]=44;·
       have h44:((s[k].toNat:Int)==44)=true:=by rw[hgk,hc];rfl
       obtain⟨d,D2,rfl,htr,hL2⟩:=q208 hlt hc HL.out;have hx:=(HX bb k).out;have HT:=fun W=>Lib.hid (HTR _ (HLT bb k).out W).out;rw[htr]at HT;have HDD:=Lib.hid (HD'.out d (by simp));have HL2:=Lib.hid hL2;clear htr hL2 hgk hc HL;go_wp2_with(first|(go_at_call 171;refine(HT _).out.mono ?_;rintro e w1⟨rfl,hb1⟩)|(go_at_call 170;refine(HHE d r _ HDD.out HSR.out.ok (j3 hb1 HSR.out.rl) (HE.out.below (q12 hb1 HSR.out.bel))).out.mono ?_;rintro e w2⟨rfl,hr2,hm2⟩));go_roundw;case rel=>exact⟨k+1,k+1,d.on r,by go_num,rfl,by go_num,HSR.out.step hb1 HDD.out hr2 hm2,.inl ⟨by omega,Nat.le_refl _,D2,fun x hx=>HD'.out x (by simp[hx]),HL2.out,HF.out⟩⟩
       case measure=>simp[intOf];omega
      ·have h44:((s[k].toNat:Int)==44)=false:=by rw[hgk,beq_eq_false_iff_ne];intro e;exact hc (UInt8.toNat_inj.1 (by show v[k].toNat=44;omega))
       have HL2:=Lib.hid (left_step hlt hbk hc HL.out);clear hgk hc HL;go_wp2_with fail;go_roundw;case rel=>exact⟨bb,k+1,r,rfl,rfl,by go_num,HSR.out,.inl ⟨by omega,by omega,D',HD'.out,HL2.out,HF.out⟩⟩
       case measure=>simp[intOf];omega
     ·obtain rfl:k=v.length:=by omega
      obtain⟨d,rfl,htr⟩:=x216 HL.out;have hx:=(HX bb v.length).out;have HT:=fun W=>Lib.hid (HTR _ (HLT bb v.length).out W).out;rw[htr]at HT;have HDD:=Lib.hid (HD'.out d (by simp));clear htr HL;go_wp2_with(first|(go_at_call 171;refine(HT _).out.mono ?_;rintro e w1⟨rfl,hb1⟩)|(go_at_call 170;refine(HHE d r _ HDD.out HSR.out.ok (j3 hb1 HSR.out.rl) (HE.out.below (q12 hb1 HSR.out.bel))).out.mono ?_;rintro e w2⟨rfl,hr2,hm2⟩));go_roundw;case rel=>exact⟨v.length+1,v.length+1,d.on r,by go_num,rfl,by go_num,HSR.out.step hb1 HDD.out hr2 hm2,.inr ⟨rfl,HF.out⟩⟩
      case measure=>simp[intOf]
    ·go_wp2_with fail;go_roundw;case rel=>exact .inr ⟨by go_num,hsr⟩
     case measure=>simp[intOf]
  ·have z0:=hst.z;have r0:wr.heap[w.heap.size+1]?=some (.cells #[.int .i64 R.mx,.int .i64 R.sh,.int .i64 R.wh,.int .i64 R.er,.bool R.ns,.bool R.nc,.bool R.pr] 164 (0,0)):=hst.rl;have HB:=Lib.hid hst.bel;clear hst;have c0:=bc 0 r0 rfl;have c1:=bc 1 r0 rfl;have c2:=bc 2 r0 rfl;have c3:=bc 3 r0 rfl;have c4:=bc 4 r0 rfl;have c5:=bc 5 r0 rfl;have c6:=bc 6 r0 rfl;have f0:wr.frozen? ⟨w.heap.size,0,none⟩=false:=q13 z0;have f1:wr.frozen? ⟨w.heap.size,1,none⟩=false:=q13 z0;have f2:wr.frozen? ⟨w.heap.size,2,none⟩=false:=q13 z0;have f3:wr.frozen? ⟨w.heap.size,3,none⟩=false:=q13 z0;have f4:wr.frozen? ⟨w.heap.size,4,none⟩=false:=q13 z0;have f5:wr.frozen? ⟨w.heap.size,5,none⟩=false:=q13 z0;have f6:wr.frozen? ⟨w.heap.size,6,none⟩=false:=q13 z0;have d0:=bc 0 z0 rfl;have d1:=bc 1 z0 rfl;have d2:=bc 2 z0 rfl;have d3:=bc 3 z0 rfl;have d4:=bc 4 z0 rfl;have d5:=bc 5 z0 rfl;have d6:=bc 6 z0 rfl;have fz:=q14 z0;clear HTR HHE HSP HE HD HV HQ HX HS HG HR;go_upto_region 15 with fail;go_cut[](fun wx=>wx.heap[w.heap.size]?=some (.cells (x188 R) 164 (0,0))∧Below w.heap.size w wx);case first=>go_wp2_with fail;go_meet;have h0:=j15 (i:=0) (v:=.int .i64 R.mx) z0;have h1:=j15 (i:=1) (v:=.int .i64 R.sh) h0;have h2:=j15 (i:=2) (v:=.int .i64 R.wh) h1;have h3:=j15 (i:=3) (v:=.int .i64 R.er) h2;have h4:=j15 (i:=4) (v:=.bool R.ns) h3;have h5:=j15 (i:=5) (v:=.bool R.nc) h4;have h6:=j15 (i:=6) (v:=.bool R.pr) h5;exact⟨h6,w14 (w14 (w14 (w14 (w14 (w14 (w14 (HB.out) (Nat.le_refl _) _) (Nat.le_refl _) _) (Nat.le_refl _) _) (Nat.le_refl _) _) (Nat.le_refl _) _) (Nat.le_refl _) _) (Nat.le_refl _) _⟩
   case rest=>obtain⟨hx,hb⟩:=hcut;have e0:wc.cell? ⟨w.heap.size,0,none⟩=some (.int .i64 R.mx):=j14 hx rfl;have e1:wc.cell? ⟨w.heap.size,1,none⟩=some (.int .i64 R.sh):=j14 hx rfl;have e2:wc.cell? ⟨w.heap.size,2,none⟩=some (.int .i64 R.wh):=j14 hx rfl;have e3:wc.cell? ⟨w.heap.size,3,none⟩=some (.int .i64 R.er):=j14 hx rfl;have e4:wc.cell? ⟨w.heap.size,4,none⟩=some (.bool R.ns):=j14 hx rfl;have e5:wc.cell? ⟨w.heap.size,5,none⟩=some (.bool R.nc):=j14 hx rfl;have e6:wc.cell? ⟨w.heap.size,6,none⟩=some (.bool R.pr):=j14 hx rfl;go_wp2_with fail;refine bodyPost_ret (by simp[results,Tryz.results106,go_sem,e0,e1,e2,e3,e4,e5,e6];try rfl) rfl ?_;exact⟨rfl,hb⟩
theorem k208(m:MetaL):∀f∈x21 m,f.1.length≤20:=by
 intro f hf;unfold x21 at hf;simp only[List.mem_append]at hf;have e:∀(p:Prop) [Decidable p](a b:List j36),f∈(if p then a else b)→f∈a∨f∈b:=fun p _ a b h=>by split at h<;>simp[h]
 rcases hf with(((((hf|hf)|hf)|hf)|hf)|hf)|hf;·
  rcases e _ _ _ hf with h|h;·cases h
  ·obtain rfl:=List.mem_singleton.1 h;exact(by decide:nETag.length≤20)
 ·rcases e _ _ _ hf with h|h;·cases h
  ·obtain rfl:=List.mem_singleton.1 h;exact(by decide:nMod.length≤20)
 ·obtain rfl:=List.mem_singleton.1 hf;exact(by decide:nCtl.length≤20)
 ·obtain rfl:=List.mem_singleton.1 hf;exact(by decide:nAge.length≤20)
 ·rcases e _ _ _ hf with h|h;·cases h
  ·obtain rfl:=List.mem_singleton.1 h;exact(by decide:nKey.length≤20)
 ·rcases e _ _ _ hf with h|h;·cases h
  ·obtain rfl:=List.mem_singleton.1 h;exact(by decide:nTen.length≤20)
 ·rcases e _ _ _ hf with h|h;·
   rcases List.mem_cons.1 h with rfl|h;·exact(by decide:nLen.length≤20)
   ·obtain rfl:=List.mem_singleton.1 h;exact(by decide:nHave.length≤20)
  ·obtain rfl:=List.mem_singleton.1 h;exact(by decide:nLen.length≤20)
theorem y198(m:MetaL)(cr:Option (List UInt8)):(z13 m cr).length≤100000∧∀f∈z13 m cr,f.1.length≤1000000:=by
 have h1:=y53 m;have h2:=k208 m;unfold z13;refine⟨?_,fun f hf=>?_⟩;·rw[List.length_append];cases cr<;>simp only[List.length_cons,List.length_nil]<;>omega
 ·rcases List.mem_append.1 hf with hf|hf;·have:=h2 f hf;omega
  ·cases cr with|none=>cases hf|some v=>obtain rfl:=List.mem_singleton.1 hf;exact(by decide:nCR.length≤1000000)
theorem j205(m:MetaL)(cr:Option (List UInt8))(FA:Option Addr)(fc fk:Nat)(X:Nat)(a0 a1 a2 a4 a5 a6 a7 a8 a9 a10:Value)(w:World)(hfk:fk=(z13 m cr).length)(hf:SpG w18 2 w FA fc (z13 m cr))(hok:MetaOk m)(hne:∀a,FA=some a→a.block≠X)(hx:w.heap[X]?=some (.cells #[a0,a1,a2,.int .i64 (-1),a4,a5,a6,a7,a8,a9,a10] 45 (0,0))):Calls Tryz.prog 113 #[.slice FA fk fc,.pointer (some ⟨X,0,none⟩)] w fun e w'=>e=.returned (.bool true)∧w'.heap[X]?=some (.cells #[a0,a1,a2,.int .i64 m.len,.int .i64 m.hv,a5,a6,a7,a8,a9,a10] 45 (0,0))∧Mut [X] w w':=by
 have hb:=y198 m cr;have HG1:=fun W(hW:SpG w18 2 W FA fc (z13 m cr))=>Lib.hid (x191 FA fc fk (z13 m cr) nLen W hfk hW hb.1 (by decide) hb.2);have HG2:=fun W(hW:SpG w18 2 W FA fc (z13 m cr))=>Lib.hid (x191 FA fc fk (z13 m cr) nHave W hfk hW hb.1 (by decide) hb.2);unfold q189 at HG1 HG2;rw[x219]at HG1;rw[y213]at HG2;have HF:=Lib.hid hf;have HX:=Lib.hid hx;have hln:=hok.ln;have hhv:=hok.hv;have heq:=hok.eq;have xz:=q14 hx;clear hf hx hb hok;subst hfk;by_cases hl:m.len=-1;·rw[if_pos hl]at HG1 HG2;have HN:=fun W=>Lib.hid (q194 m.hv W hhv.1 hhv.2);rw[hl];generalize m.hv=n at*;obtain⟨v,hv⟩:∃v:ByteArray,(⟨(digN n).toArray⟩:ByteArray)=v:=⟨_,rfl⟩;unfold optT at HG1 HG2;simp only[Option.getD_some,Option.isSome_some]at HG1 HG2;rw[hv]at HN HG2;have x2:=bc 3 HX.out rfl;clear hv heq hln hl;go_enter Tryz.func113,Tryz.ntmps113;go_wp2_with(first|(go_at_call_of 68(Value.string ⟨#[88,45,76,101,110,103,116,104]⟩);refine(HG1 _ HF.out).out.mono ?_;rintro e w1⟨rfl,hb1⟩;have X1:=j3 hb1 HX.out;have HF1:=Lib.hid (HF.out.below hb1);have c3:=bc 3 X1 rfl;have c4:=bc 4 X1 rfl;have f3:w1.frozen? ⟨X,3,none⟩=false:=q13 X1;have f4:w1.frozen? ⟨X,4,none⟩=false:=q13 X1;have z1:=q14 X1)|(go_at_call_of 68(Value.string ⟨#[88,45,72,97,118,101]⟩);refine(HG2 _ (HF1.out.set_ne hne)).out.mono ?_;rintro e w2⟨rfl,hb2⟩;have X2:=j3 hb2 (j15 (i:=4) (v:=.int .i64 0) X1);have d3:=bc 3 X2 rfl;have d4:=bc 4 X2 rfl;have g4:w2.frozen? ⟨X,4,none⟩=false:=q13 X2;have z2:=q14 X2)|(go_at_call 176;refine(HN _).out.mono ?_;rintro e w3⟨rfl,rfl⟩));go_ret;exact⟨rfl,j15 X2,(((Mut.of_below hb1).set (by simp) _).trans (.of_below hb2)).set (by simp) _⟩
 ·rw[if_neg hl]at HG1 HG2;have hlen:0≤m.len∧m.len≤1099511627776:=by omega
  have HN:=fun W=>Lib.hid (q194 m.len W hlen.1 hlen.2);have hst:((⟨(digN m.len).toArray⟩:ByteArray).toList==[42])=false:=by
   rw[ByteArray.toList_eq,beq_eq_false_iff_ne];intro e;have h42:(42:UInt8)∈digN m.len:=by have:digN m.len=[42]:=e;rw[this];simp
   have:=y190 m.len.toNat 42 (by unfold digN at h42;exact h42);revert this;decide
  have hmx:max m.len 0=m.len:=by omega
  rw[show m.hv=m.len from heq.resolve_left hl];generalize m.len=n at*;obtain⟨v,hv⟩:∃v:ByteArray,(⟨(digN n).toArray⟩:ByteArray)=v:=⟨_,rfl⟩;unfold optT at HG1 HG2;simp only[Option.getD_some,Option.isSome_some,Option.getD_none,Option.isSome_none]at HG1 HG2;rw[hv]at HN HG1 hst;obtain⟨hl0,hl1⟩:=hlen;clear hv heq hln hl;go_enter Tryz.func113,Tryz.ntmps113;go_wp2_with(first|(go_at_call_of 68(Value.string ⟨#[88,45,76,101,110,103,116,104]⟩);refine(HG1 _ HF.out).out.mono ?_;rintro e w1⟨rfl,hb1⟩;have X1:=j3 hb1 HX.out;have HF1:=Lib.hid (HF.out.below hb1);have c3:=bc 3 X1 rfl;have c4:=bc 4 X1 rfl;have f3:w1.frozen? ⟨X,3,none⟩=false:=q13 X1;have f4:w1.frozen? ⟨X,4,none⟩=false:=q13 X1;have z1:=q14 X1)|(go_at_call_of 68(Value.string ⟨#[88,45,72,97,118,101]⟩);refine(HG2 _ ((HF1.out.set_ne hne).set_ne hne)).out.mono ?_;rintro e w2⟨rfl,hb2⟩;have X2:=j3 hb2 (j15 (i:=4) (v:=.int .i64 n) (j15 (i:=3) (v:=.int .i64 n) X1)))|(go_at_call 176;refine(HN _).out.mono ?_;rintro e w3⟨rfl,rfl⟩));go_ret;exact⟨rfl,X2,(((Mut.of_below hb1).set (by simp) _).set (by simp) _).trans (.of_below hb2)⟩
theorem v205(f x t:Int)(w:World)(h0:0≤f)(h1:f<x)(h2:x≤t)(h3:t≤4611686018427387904):Calls Tryz.prog 70 #[.agg #[.int .i64 f,.int .i64 x],.agg #[.int .i64 f,.int .i64 t]] w fun e w'=>e=.returned (.bool true)∧Below w.heap.size w w':=by
 have HR1:=fun W=>Lib.hid (y45 f x W);have HR2:=fun W=>Lib.hid (y45 f t W);rw[show y37 f x=true by unfold y37;simp;omega]at HR1;rw[show y37 f t=true by unfold y37;simp;omega]at HR2;have hq:(f==x)=false:=by rw[beq_eq_false_iff_ne];omega
 go_enter Tryz.func70,Tryz.ntmps70;go_wp2_with(first|(go_at_call_of 64(Value.agg #[.int .i64 f,.int .i64 x]);refine(HR1 _).out.mono ?_;rintro e w1⟨rfl,rfl⟩)|(go_at_call_of 64(Value.agg #[.int .i64 f,.int .i64 t]);refine(HR2 _).out.mono ?_;rintro e w2⟨rfl,rfl⟩));go_ret;exact⟨rfl,by(repeat(first|exact Below.refl _ _|refine q15 ?_ _|refine x15 ?_|refine q11 ?_ _|refine w14 ?_ (by simp) _))⟩
structure TwoSt(w:World)(C D:Array Value)(T:TypeId)(W:World):Prop where
 a:W.heap[w.heap.size]?=some (.cells C T (0,0))
 b:W.heap[w.heap.size+1]?=some (.cells D T (0,0))
 bel:Below w.heap.size w W
theorem x196(m:MetaL)(A:Option Addr)(c:Nat)(B:Option Addr)(d:Nat)(w:World)(h1:SpG encT 1 w A c m.keys)(h2:SpG encT 1 w B d m.keys)(hl:m.keys.length≤1000):Calls Tryz.prog 22 #[j25 m A c,j25 m B d] w fun e w'=>e=.returned (.bool true)∧Below w.heap.size w w':=by
 obtain⟨tg,wk,mo,ln,hv,fr,wh,er,ks,tn,kp⟩:=m;simp only[j25]at h1 h2 hl⊢;have H1:=Lib.hid h1;have H2:=Lib.hid h2;clear h1 h2;obtain⟨t1,ht1⟩:∃s:ByteArray,(⟨tg.toArray⟩:ByteArray)=s:=⟨_,rfl⟩;obtain⟨t2,ht2⟩:∃s:ByteArray,(⟨tn.toArray⟩:ByteArray)=s:=⟨_,rfl⟩;rw[ht1,ht2];clear ht1 ht2;go_enter Tryz.func22,Tryz.ntmps22;go_wp2_with fail;go_loopw[5](fun i wr=>∃k:Nat,k≤ks.length∧i=.int .i64 (k:Int)∧TwoSt w #[.string t1,.bool wk,.int .i64 mo,.int .i64 ln,.int .i64 hv,.int .i64 fr,.int .i64 wh,.int .i64 er,.slice A ks.length c,.string t2,.bool kp] #[.string t1,.bool wk,.int .i64 mo,.int .i64 ln,.int .i64 hv,.int .i64 fr,.int .i64 wh,.int .i64 er,.slice B ks.length d,.string t2,.bool kp] 45 wr)(fun i _=>ks.length-(intOf i).toNat);case atStart=>exact⟨0,Nat.zero_le _,rfl,⟨j3 (q11 (Below.refl _ _) _) (j17 rfl),j17 (by simp),by(repeat(first|exact Below.refl _ _|refine q15 ?_ _|refine x15 ?_|refine q11 ?_ _|refine w14 ?_ (by simp) _))⟩⟩
 case round=>
  obtain⟨k,hk,rfl,hst⟩:=hrel;have HST:=Lib.hid hst;clear hst;have x8:=bc 8 HST.out.a rfl;have y8:=bc 8 HST.out.b rfl;have z0:=q14 HST.out.a;have z1:=q14 HST.out.b;by_cases hlt:k<ks.length;·
   obtain⟨b1,o1,e1,hb1,hc1⟩:=(H1.out.below HST.out.bel).at' k hlt;obtain⟨b2,o2,e2,hb2,hc2⟩:=(H2.out.below HST.out.bel).at' k hlt;have c1:=hc1 0 _ rfl;have c2:=hc2 0 _ rfl;simp only[Nat.mul_one,Nat.add_zero]at c1 c2;rw[e1]at x8;rw[e2]at y8;obtain⟨v,hv⟩:∃s:ByteArray,(⟨ks[k].toArray⟩:ByteArray)=s:=⟨_,rfl⟩;rw[hv]at c1 c2;clear hc1 hc2 e1 e2 hv;go_upto_region 6 with fail;go_quiet(fail);go_wp2_with fail;go_roundw;case rel=>exact⟨k+1,by omega,by go_num,⟨HST.out.a,HST.out.b,q15 HST.out.bel _⟩⟩
   case measure=>simp[intOf];omega
  ·go_wp2_with fail;go_ret;exact⟨rfl,HST.out.bel⟩
theorem y200(st sf se ag:Int)(m:MetaL)(A:Option Addr)(c:Nat)(B:Option Addr)(d:Nat)(w:World)(h1:SpG encT 1 w A c m.keys)(h2:SpG encT 1 w B d m.keys)(hl:m.keys.length≤1000):Calls Tryz.prog 23 #[.agg #[.int .i64 st,.string ⟨m.tag.toArray⟩,.bool m.weak,.int .i64 m.mo,.int .i64 m.len,.int .i64 m.hv,.int .i64 m.fresh,.int .i64 m.wh,.int .i64 m.er,.slice A m.keys.length c,.string ⟨m.ten.toArray⟩,.bool m.keep,.int .i64 sf,.int .i64 se,.int .i64 ag],.agg #[.int .i64 st,.string ⟨m.tag.toArray⟩,.bool m.weak,.int .i64 m.mo,.int .i64 m.len,.int .i64 m.hv,.int .i64 m.fresh,.int .i64 m.wh,.int .i64 m.er,.slice B m.keys.length d,.string ⟨m.ten.toArray⟩,.bool m.keep,.int .i64 sf,.int .i64 se,.int .i64 ag]] w fun e w'=>e=.returned (.bool true)∧Below w.heap.size w w':=by have HS:=fun W h1 h2=>Lib.hid (x196 m A c B d W h1 h2 hl);have H1:=Lib.hid h1;have H2:=Lib.hid h2;clear h1 h2;unfold j25 at HS;go_enter Tryz.func23,Tryz.ntmps23;go_wp2_with(go_at_call 22;refine(HS _ ((H1.out.alloc _).alloc _) ((H2.out.alloc _).alloc _)).out.mono ?_;rintro e w1⟨rfl,hb1⟩);go_ret;exact⟨rfl,q12 hb1 (by(repeat(first|exact Below.refl _ _|refine q15 ?_ _|refine x15 ?_|refine q11 ?_ _|refine w14 ?_ (by simp) _)))⟩
end Go.Proofs.YtkkomffmnafjkaaGreatDoor
