/- Contract of the document's Next. Printed by gen_o29.py. Contract of law44's .. -/
import Derived.Test.YtbphndihjdiiiaaGreatDoorXO30
import Derived.Test.YtbphndihjdiiiaaGreatDoorXO41
import Derived.BigRegion
import Derived.Test.YtbphndihjdiiiaaGreatDoorXQ3
set_option maxHeartbeats 16000000
set_option maxRecDepth 100000
set_option linter.all false
namespace Go.Proofs.YtbphndihjdiiiaaGreatDoor
open Go.RowKit
def w98(r:ReqC)(g:CfgL)(S:List Nat)(b:Nat)(s:SesL)(H:List (Int×Int))(w:World)(e:Ending)(w':World):Prop:=(s.nextS H g.j9=none→e=.returned (.tuple #[ptV ([],(0,0)),.bool false])∧SexAt r g S w' b s∧Below w.heap.size w w')∧(∀p s',s.nextS H g.j9=some (p,s')→e=.returned (.tuple #[ptV p,.bool true])∧SexAt r g S w' b s'∧Mut [b] w w')
theorem SpG.of_tail{w:World}{b off c:Nat}{p:w17}{q:List w17}(h:SpG j18 3 w (some ⟨b,off,none⟩) c (p::q)):SpG j18 3 w (if c=1 then some ⟨b,off,none⟩else some ⟨b,off+3,none⟩) (c-1) q:=by
 by_cases hc:c=1;·have hq:q=[]:=n_ (by have:=h.le;simp only[g_]at this;omega);rw[B_ hc,hq];exact SpG.of_nil _ _
 ·rw[w_ hc];exact q88 h
theorem j138(w:World)(n:Nat)(h:n≤w.heap.size):∃v:World,v.heap.size=n∧Below n v w:=⟨{w with heap:=w.heap.extract 0 n},by simp;omega,rfl,rfl,rfl,by simp;omega,fun k hk=>by simp[Array.getElem?_extract];omega⟩
theorem j161{n m:Nat}{w v a c:World}(h:Below n w a)(hv:Below m v a)(hc:Below m v c)(hn:n≤m)(hs:w.heap.size≤v.heap.size):Below n w c:=⟨hc.os.trans (hv.os.symm.trans h.os),hc.tape.trans (hv.tape.symm.trans h.tape),hc.output.trans (hv.output.symm.trans h.output),ag_ hs hc.size,fun k hk=>(hc.block k (P_ hk hn)).trans ((hv.block k (P_ hk hn)).symm.trans (h.block k hk))⟩
structure ToI(H:List (Int×Int))(cs f t e:Int):Prop where
 lo:f≤e
 hi:e≤t
 most:e≤f+cs
 there:∀j,f≤j→j<e→inB H j=true
theorem ToI.step{H:List (Int×Int)}{cs f t e:Int}(h:ToI H cs f t e)(h1:e<t)(h2:e-f<cs)(h3:inB H e=true):ToI H cs f t (e+1):=⟨by have:=h.lo;omega,by omega,by omega,fun j a b=>by
 by_cases hj:j=e;·rw[hj];exact h3
 ·exact h.there j a (by omega)⟩
theorem ToI.done{H:List (Int×Int)}{cs f t e:Int}(h:ToI H cs f t e)(h1:e=t∨e=f+cs∨inB H e=false):ToP H cs f t e:=⟨h.lo,h.hi,h.most,h.there,h1⟩
theorem j84(r:ReqC)(g:CfgL)(S:List Nat)(b:Nat)(s:SesL)(w:World)(h:SexAt r g S w b s)(hok:s.st=2→j29 s.lf)(HA:Option Addr)(hc:Nat)(H:List (Int×Int))(hsp:Sp w HA hc H)(hcan:Canon H)(hl:H.length≤10000)(hcs:1≤g.j9∧g.j9≤4611686018427387904)(hlf:s.lf.length≤10000):Calls Tryz.prog 32 #[.pointer (some ⟨b,0,none⟩),.slice HA H.length hc] w (w98 r g S b s H w):=by
 have H0:=a_ h;obtain⟨A,c,A1,c1,A2,c2,B,d,n,hb,hrq,hT⟩:=h.blk;have HB:=a_ hb;have HR:=a_ hrq;have HI:=a_ h.in_;have HL:=a_ h.lt;have HS:=a_ hsp;have HCN:=a_ hcan;have HC:=a_ hcs;have c24:w.cell? ⟨b,24,none⟩=some (.int .i64 s.st):=j14 hb rfl;have cz:=q14 hb;clear hb hrq h hsp hcan hcs;by_cases hst:s.st=2;rotate_left;·
  have hq:(s.st !=2)=true:=by rw[y_];exact hst
  have HN:Hid (s.nextS H g.j9=none):=w_ hst;clear hst hT hok;go_enter Tryz.func32,Tryz.ntmps32;go_wp2_with fail;refine u_ (by simp[results,Tryz.results32,go_sem];try rfl) rfl ?_;have hbz:Below w.heap.size w (w.alloc (.cells #[.string ⟨#[]⟩,.int .i64 0,.int .i64 0] 82)):=q11 (c_ _ _) _;exact⟨fun _=>⟨rfl,H0.out.alloc hbz,hbz⟩,fun p s' h=>by rw[HN.out]at h;cases h⟩
 have hq:(s.st !=2)=false:=by rw[C_];exact hst
 have HST:=a_ hst;obtain⟨hn,hne,hsl,hBS⟩:=hT hst;have HNX:Hid (s.nextS H g.j9=(w43 H g.j9 s.lf).map fun x=>(x.1,if x.2=[]then{s with st:=3,en:=0,lf:=[],told:=true}else{s with lf:=x.2,told:=true})):=B_ hst;have hbo:=hok hst;have HBS:=a_ hBS;obtain⟨lf,hlfe⟩:∃l,s.lf=l:=⟨_,rfl⟩;rw[hlfe]at hn hne hsl hbo HNX HBS hlf;cases lf with
  |nil=>exact absurd rfl hne
  |cons q rr=>
   subst hn;obtain⟨t,x1,x2⟩:=q;obtain⟨bl,off,hB,hbl,hcell⟩:=hsl.at' 0 (by simp);subst hB;have HLR:=a_ hsl;have HPO:=a_ hbo.1;have HLF:=a_ hlf;have HBL:=a_ hbl;have HE:=a_ hlfe;have c29:w.cell? ⟨b,29,none⟩=some (.slice (some ⟨bl,off,none⟩) (rr.length+1) d):=j14 HB.out rfl;have d0:w.cell? ⟨bl,off,none⟩=some (.string ⟨t.toArray⟩):=by have:=hcell 0 _ rfl;simpa using this
   have d1:w.cell? ⟨bl,off+1,none⟩=some (.int .i64 x1):=by have:=hcell 1 _ rfl;simpa using this
   have d2:w.cell? ⟨bl,off+2,none⟩=some (.int .i64 x2):=by have:=hcell 2 _ rfl;simpa using this
   have hk0:(0:Int)<(rr.length:Int)+1:=by omega
   have dz:=hbl;have hr0:((rr.length:Int)+1==0)=false:=by rw[l_];omega
   clear hst hT hne hsl hBS hbo hcell hlf hok hbl hlfe;go_enter Tryz.func32,Tryz.ntmps32;go_upto_region 4 with fail;obtain⟨W0,hW0⟩:∃W,(w.alloc (.cells #[.string ⟨#[]⟩,.int .i64 0,.int .i64 0] 82)).alloc (.cells #[.string ⟨t.toArray⟩,.int .i64 x1,.int .i64 x2] 82)=W:=⟨_,rfl⟩;have X0:Hid (W0.heap[w.heap.size]?=some (.cells #[.string ⟨#[]⟩,.int .i64 0,.int .i64 0] 82 (0,0))):=by rw[←hW0];exact j16 (j17 rfl)
   have X1:Hid (W0.heap[w.heap.size+1]?=some (.cells #[.string ⟨t.toArray⟩,.int .i64 x1,.int .i64 x2] 82 (0,0))):=by rw[←hW0];exact j17 (by simp)
   have HB0:Hid (Below w.heap.size w W0):=by rw[←hW0];exact q11 (q11 (c_ _ _) _) _
   have HS0:Hid (W0.heap.size=w.heap.size+2):=by simp only[Hid];rw[←hW0];show(Array.push (Array.push _ _) _).size=_;rw[Array.size_push,Array.size_push]
   rw[hW0];clear hW0 c24 c29 d0 d1 d2 cz dz;have KB:=a_ (j3 HB0.out HB.out);have k23:W0.cell? ⟨b,23,none⟩=some (.int .i64 g.j9):=j14 KB.out rfl;have kz:=q14 KB.out;have p0:W0.cell? ⟨w.heap.size+1,0,none⟩=some (.string ⟨t.toArray⟩):=j14 X1.out rfl;have p1:W0.cell? ⟨w.heap.size+1,1,none⟩=some (.int .i64 x1):=j14 X1.out rfl;have p2:W0.cell? ⟨w.heap.size+1,2,none⟩=some (.int .i64 x2):=j14 X1.out rfl;have pf0:W0.frozen? ⟨w.heap.size+1,0,none⟩=false:=q13 X1.out;have pf2:W0.frozen? ⟨w.heap.size+1,2,none⟩=false:=q13 X1.out;have pz:=q14 X1.out;go_upto_if 32 with fail;obtain⟨tb,htb⟩:∃x,(!t.isEmpty)=x:=⟨_,rfl⟩;rw[htb];have HTB:=a_ htb;clear htb;go_cut[7](fun s7 wx=>∃(p:w17)(Lr:List w17)(A7:Option Addr)(c7:Nat),s7=.slice A7 Lr.length c7∧OwnG 82 j18 3 wx W0.heap.size A7 c7 Lr∧wx.heap[w.heap.size+1]?=some (.cells #[.string ⟨p.1.toArray⟩,.int .i64 p.2.1,.int .i64 p.2.2] 82 (0,0))∧w43 H g.j9 ((t,(x1,x2))::rr)=some (p,Lr++rr)∧Below w.heap.size w wx∧Lr.length≤1∧wx.heap[w.heap.size]?=some (.cells #[.string ⟨#[]⟩,.int .i64 0,.int .i64 0] 82 (0,0)));case first=>
    have hcs:=HC.out;cases tb with
     |true=>
      have ht:t≠[]:=fun e=>by have h:=HTB.out;rw[e]at h;cases h
      have htx:=HPO.out.resolve_right (fun h=>ht h.1);have hx1:x1=0:=R_ Prod.fst htx.2;have hx2:x2=0:=R_ Prod.snd htx.2;subst hx1 hx2;have hsz:(⟨t.toArray⟩:ByteArray).size=t.length:=q19 t;have HV:=a_ (j94 (H:=H) (cs:=g.j9) (p:=(t,(0,0))) (r:=rr) ht);clear ht htx;by_cases hle:(t.length:Int)≤g.j9;·
       have hgt:¬g.j9<(t.length:Int):=by omega
       have ex1:(⟨t.toArray⟩:ByteArray).extract 0 t.length=⟨t.toArray⟩:=by rw[y62];simp
       go_wp2_with fail;go_meet;refine⟨(t,(0,0)),[],none,0,rfl,OwnG.nil _ _,j15 X1.out,?_,w14 HB0.out (D_ _) _,by simp,w15 (by simp) X0.out⟩;refine HV.out.trans ?_;try simp only
       rw[B_ (by omega),t_ (by omega),ba_]
      ·have hgt:g.j9<(t.length:Int):=by omega
       obtain⟨N,hN⟩:∃N:Nat,g.j9.toNat=N:=⟨_,rfl⟩;have hjN:g.j9=(N:Int):=by omega
       obtain⟨u,hu⟩:∃u,t.take N=u:=⟨_,rfl⟩;obtain⟨v,hv⟩:∃v,t.drop N=v:=⟨_,rfl⟩;have ex1:(⟨t.toArray⟩:ByteArray).extract 0 N=⟨u.toArray⟩:=by rw[y62,←hu];simp
       have ex2:(⟨t.toArray⟩:ByteArray).extract N t.length=⟨v.toArray⟩:=by rw[y62,←hv,t_ (by simp)]
       have hN1:(N:Int)≤(t.length:Int):=by omega
       have hN0:(0:Int)≤(N:Int):=by omega
       have HV2:Hid (w43 H g.j9 ((t,(0,0))::rr)=some ((u,(0,0)),[(v,(0,0))]++rr)):=by
        refine HV.out.trans ?_;try simp only
        rw[w_ (by omega),hN,hu,hv];rfl
       clear hu hv hN;rw[hjN]at k23 hgt;go_wp2_with(at_builtin;refine k30 (w0:=W0) elemPt rfl (.tmp 48) (.tmp 54) rfl none 0 [] rfl (OwnG.nil _ _) (some ⟨_,0,none⟩) 1 [(v,(0,0))] rfl (SpG.built (enc:=j18) (n:=3) elemPt.len _ [(v,(0,0))] #[.string ⟨v.toArray⟩,.int .i64 0,.int .i64 0] rfl 82) (by simp) (by exact q11 (c_ _ _) _) ?_;intro A7 c7 w7 hown hbw hgw;have Y1:=a_ (w20 (j16 X1.out) hgw (by simp[Value.ownBlock]));have p0:w7.cell? ⟨w.heap.size+1,0,none⟩=some (.string ⟨t.toArray⟩):=j14 Y1.out rfl;have pf0:w7.frozen? ⟨w.heap.size+1,0,none⟩=false:=q13 Y1.out;have pz:=q14 Y1.out);go_meet;have hpw:=q14 X1.out;exact⟨(u,(0,0)),[(v,(0,0))],A7,c7,rfl,hown.off (q181 w7 ⟨w.heap.size+1,0,none⟩ (.string ⟨u.toArray⟩)) hpw,j15 Y1.out,HV2.out,w14 (q12 hbw HB0.out) (D_ _) _,by simp,w15 (by simp) (j3 hbw X0.out)⟩
     |false=>
      have ht:t=[]:=by have h:=HTB.out;cases t with|nil=>rfl|cons a r=>cases h
      subst ht;have hpo:okS (x1,x2)=true∧x1<x2:=by
       rcases HPO.out with⟨h1,_⟩|⟨_,h2,h3⟩;·exact absurd rfl h1
       ·exact⟨h2,h3⟩
      have hok:=(j19 _).1 hpo.1;simp only at hok;have hlt:=hpo.2;have HOX:=a_ hok;have HLT:=a_ hlt;clear hpo hok;go_wp2_with fail;go_loopw[9](fun i wr=>∃ee:Int,i=.int .i64 ee∧ToI H g.j9 x1 x2 ee∧Below W0.heap.size W0 wr)(fun i _=>(x2-intOf i).toNat);case atStart=>exact⟨x1,rfl,⟨an_ _,by omega,by omega,fun j a b=>by omega⟩,c_ _ _⟩
      case round=>
       obtain⟨ee,rfl,hto,hbw⟩:=hrel;have HTO:=a_ hto;have HBW:=a_ hbw;have hlo:=hto.lo;have hhi:=hto.hi;have hmo:=hto.most;have hx:=HOX.out;have Y1:=a_ (j3 hbw X1.out);have YB:=a_ (j3 hbw KB.out);clear hto hbw k23 kz p0 p1 p2 pf0 pf2 pz;have p1:wr.cell? ⟨w.heap.size+1,1,none⟩=some (.int .i64 x1):=j14 Y1.out rfl;have p2:wr.cell? ⟨w.heap.size+1,2,none⟩=some (.int .i64 x2):=j14 Y1.out rfl;have k23:wr.cell? ⟨b,23,none⟩=some (.int .i64 g.j9):=j14 YB.out rfl;have kz:=q14 YB.out;have pz:=q14 Y1.out;obtain⟨df,hdf⟩:∃d,ee-x1=d:=⟨_,rfl⟩;have HDF:=a_ hdf;have hw1:wrap64 (ee-x1)=df:=by rw[←hdf];unfold wrap64;omega
       have hw1b:IntKind.i64.wrap (ee-x1)=df:=(IntWalk.i64_left _).trans hw1;clear hdf;have hw2:wrap64 (ee+1)=ee+1:=by unfold wrap64;omega
       go_upto_region 12 with fail;by_cases e1:ee<x2;rotate_left;·
        go_quiet(fail);have hex:ee=x2:=by omega
        have HTP:Hid (toN H g.j9 x1 x2=ee):=(q109 HCN.out hcs.1 HLT.out (HTO.out.done (.inl hex))).symm;have q1:ee≠x1:=by have:=HLT.out;omega
        have HE2:Hid (ee=x2):=hex;clear hex;have HBX:=a_ (q15 HBW.out nq);clear hw1 hw1b hw2;have U1:=a_ (j32 (n:=nq) Y1.out);have p1:=bc 1 U1.out rfl;have p2:=bc 2 U1.out rfl;have pf2:=q13 (i:=2) U1.out;have pz:=q14 U1.out;have q1b:(ee==x1)=false:=by rw[l_];exact q1
        have HTE:=a_ (x57 (r:=rr) (p:=([],(x1,x2))) rfl HTP.out q1);clear q1;have q2:¬ee<x2:=e1;go_wp2_with fail;go_meet;refine⟨([],(x1,ee)),[],none,0,rfl,OwnG.nil _ _,j15 U1.out,?_,w14 (q12 HBX.out HB0.out) (D_ _) _,by simp,w15 (by simp) (j3 HBX.out X0.out)⟩;refine HTE.out.trans ?_;rw[B_ (by have:=HE2.out;(try simp only);omega)];rfl
       have e1d:decide (ee<x2)=true:=r_ e1;by_cases e2:df<g.j9;rotate_left;·
        have e2d:decide (df<g.j9)=false:=j_ e2;go_quiet(fail);have hex:ee=x1+g.j9:=by have:=HDF.out;omega
        have HTP:Hid (toN H g.j9 x1 x2=ee):=(q109 HCN.out hcs.1 HLT.out (HTO.out.done (.inr (.inl hex)))).symm;have q1:ee≠x1:=by have:=hcs.1;omega
        clear hex;have HBX:=a_ (q15 HBW.out nq);clear hw1 hw1b hw2;have U1:=a_ (j32 (n:=nq) Y1.out);have p1:=bc 1 U1.out rfl;have p2:=bc 2 U1.out rfl;have pf2:=q13 (i:=2) U1.out;have pz:=q14 U1.out;have q1b:(ee==x1)=false:=by rw[l_];exact q1
        have HTE:=a_ (x57 (r:=rr) (p:=([],(x1,x2))) rfl HTP.out q1);clear q1;have q2:ee<x2:=e1;go_wp2_with(at_builtin;refine k30 (w0:=W0) elemPt rfl (.tmp 100) (.tmp 107) rfl none 0 [] rfl (OwnG.nil _ _) (some ⟨_,0,none⟩) 1 [([],(ee,x2))] rfl (SpG.built (enc:=j18) (n:=3) elemPt.len _ [([],(ee,x2))] #[.string ⟨#[]⟩,.int .i64 ee,.int .i64 x2] rfl 82) (by simp) (by exact q11 HBX.out _) ?_;intro A7 c7 w7 hown hbw7 hgw;have V1:=a_ (w20 (j16 U1.out) hgw (by simp[Value.ownBlock]));have p2:w7.cell? ⟨w.heap.size+1,2,none⟩=some (.int .i64 x2):=j14 V1.out rfl;have pf2:w7.frozen? ⟨w.heap.size+1,2,none⟩=false:=q13 V1.out;have pz:=q14 V1.out);go_meet;have hpw:=q14 X1.out;refine⟨([],(x1,ee)),[([],(ee,x2))],A7,c7,rfl,hown.off (q181 w7 ⟨w.heap.size+1,2,none⟩ (.int .i64 ee)) hpw,j15 V1.out,?_,w14 (q12 hbw7 HB0.out) (D_ _) _,by simp,w15 (by simp) (j3 hbw7 X0.out)⟩;refine HTE.out.trans ?_;rw[w_ (by have:=q2;(try simp only);omega)];rfl
       have e2d:decide (df<g.j9)=true:=r_ e2;have HIN:=fun W h=>a_ (j152 HA hc H ee W h (by omega));obtain⟨ib,hib⟩:∃x,inB H ee=x:=⟨_,rfl⟩;rw[hib]at HIN;have HIB:=a_ hib;clear hib;have HWR:=a_ (HS.out.below (q12 HBW.out HB0.out));go_region_held3(fun w'=>w'.cell? ⟨w.heap.size+1,1,none⟩=some (.int .i64 x1)∧w'.cell? ⟨w.heap.size+1,2,none⟩=some (.int .i64 x2)∧w'.cell? ⟨b,23,none⟩=some (.int .i64 g.j9))(first|exact⟨bc 1 Z1.out rfl,bc 2 Z1.out rfl,bc 23 ZB.out rfl⟩|exact⟨bc 1 (q18 Y1.out) rfl,bc 2 (q18 Y1.out) rfl,bc 23 (q18 YB.out) rfl⟩)((go_at_call 76;refine(HIN _ HWR.out.drew).out.mono ?_;rintro e w8⟨rfl,hb8⟩;have Z1:=a_ (j3 hb8 (q18 Y1.out));have ZB:=a_ (j3 hb8 (q18 YB.out));have HBX:=a_ (q12 hb8 (x15 HBW.out));clear hb8));cases ib with
        |true=>
         go_wp2_with fail;go_roundw;case rel=>exact⟨ee+1,by go_num,HTO.out.step e1 (by have:=HDF.out;omega) HIB.out,HBX.out⟩
         case measure=>simp[intOf];omega
        |false=>
         have HTP:Hid (toN H g.j9 x1 x2=ee):=(q109 HCN.out hcs.1 HLT.out (HTO.out.done (.inr (.inr HIB.out)))).symm;clear hw1 hw1b hw2;have U1:=a_ (Z1.out);have p1:=bc 1 U1.out rfl;have p2:=bc 2 U1.out rfl;have pf2:=q13 (i:=2) U1.out;have pz:=q14 U1.out;have U0:=a_ (j3 HBX.out X0.out);by_cases q1:ee=x1;·
          have q1b:(ee==x1)=true:=by rw[aM_];exact q1
          have HN:Hid (s.nextS H g.j9=none):=by
           have h1:w43 H g.j9 (([],(x1,x2))::rr)=none:=by show j182 H g.j9 ([],(x1,x2)) rr=none;unfold j182;rw[B_ rfl,B_ (by rw[HTP.out];exact q1)]
           exact HNX.out.trans (by rw[h1];rfl)
          clear q1;obtain⟨z0,z1,z2⟩:=bc3 U0.out rfl rfl rfl;have zf0:=q13 (i:=0) U0.out;have zf1:=q13 (i:=1) U0.out;have zf2:=q13 (i:=2) U0.out;have zz:=q14 U0.out;go_wp2_with fail;obtain⟨W4,hW4⟩:∃W,((w8.setCell ⟨w.heap.size,0,none⟩ (.string ⟨#[]⟩)).setCell ⟨w.heap.size,1,none⟩ (.int .i64 0)).setCell ⟨w.heap.size,2,none⟩ (.int .i64 0)=W:=⟨_,rfl⟩;have X4:Hid (W4.heap[w.heap.size]?=some (.cells #[.string ⟨#[]⟩,.int .i64 0,.int .i64 0] 82 (0,0))):=by rw[←hW4];exact j15 (j15 (j15 U0.out))
          have HB4:Hid (Below w.heap.size w W4):=by rw[←hW4];exact w14 (w14 (w14 (q12 HBX.out HB0.out) (v_ _) _) (v_ _) _) (v_ _) _
          rw[hW4];clear hW4 z0 z1 z2 zz zf0 zf1 zf2;obtain⟨z0,z1,z2⟩:=bc3 X4.out rfl rfl rfl;refine u_ (by simp[results,Tryz.results32,go_sem,z0,z1,z2];try rfl) rfl ?_;exact⟨fun _=>⟨rfl,H0.out.alloc HB4.out,HB4.out⟩,fun p s' h=>by rw[HN.out]at h;cases h⟩
         ·have q1b:(ee==x1)=false:=by rw[l_];exact q1
          have HTE:=a_ (x57 (r:=rr) (p:=([],(x1,x2))) rfl HTP.out q1);clear q1;have q2:ee<x2:=e1;go_wp2_with(at_builtin;refine k30 (w0:=W0) elemPt rfl (.tmp 100) (.tmp 107) rfl none 0 [] rfl (OwnG.nil _ _) (some ⟨_,0,none⟩) 1 [([],(ee,x2))] rfl (SpG.built (enc:=j18) (n:=3) elemPt.len _ [([],(ee,x2))] #[.string ⟨#[]⟩,.int .i64 ee,.int .i64 x2] rfl 82) (by simp) (by exact q11 HBX.out _) ?_;intro A7 c7 w7 hown hbw7 hgw;have V1:=a_ (w20 (j16 U1.out) hgw (by simp[Value.ownBlock]));have p2:w7.cell? ⟨w.heap.size+1,2,none⟩=some (.int .i64 x2):=j14 V1.out rfl;have pf2:w7.frozen? ⟨w.heap.size+1,2,none⟩=false:=q13 V1.out;have pz:=q14 V1.out);go_meet;have hpw:=q14 X1.out;refine⟨([],(x1,ee)),[([],(ee,x2))],A7,c7,rfl,hown.off (q181 w7 ⟨w.heap.size+1,2,none⟩ (.int .i64 ee)) hpw,j15 V1.out,?_,w14 (q12 hbw7 HB0.out) (D_ _) _,by simp,w15 (by simp) (j3 hbw7 X0.out)⟩;refine HTE.out.trans ?_;rw[w_ (by have:=q2;(try simp only);omega)];rfl
   case rest=>
    obtain⟨p,Lr,A7,c7,rfl,hown,hpb,htell,hbx,hl1,hx0⟩:=hcut;have HX0:=a_ hx0;have HPB:=a_ hpb;have HTL:=a_ htell;have HBX:=a_ hbx;have hpl:=q14 hpb;have hs0:=HS0.out;obtain⟨V0,hV1,hV2⟩:=j138 wc W0.heap.size (by omega);rw[←hV1]at hown hV2;have HOW:=a_ hown;have HV1:=a_ hV1;have HV2:=a_ hV2;have KC:=a_ (j3 hbx HB.out);have HTR:=a_ (HLR.out.below hbx).of_tail;have hcl:(rr.length:Int)+1≤(d:Int):=by have:=HLR.out.le;simp only[g_]at this;omega
    have HLL:Hid (Lr.length+rr.length≤1000000):=by have h:=HLF.out;simp only[g_]at h;simp only[Hid];omega
    clear hx0 hown hpb htell hbx hV1 hV2 pz hpl hs0 hl1;have k29:wc.cell? ⟨b,29,none⟩=some (.slice (some ⟨bl,off,none⟩) (rr.length+1) d):=j14 KC.out rfl;have kf29:wc.frozen? ⟨b,29,none⟩=false:=q13 KC.out;have kz:=q14 KC.out;go_upto_region 20 with(at_builtin;refine k30 (w0:=V0) elemPt rfl (.tmp 113) (.tmp 118) rfl A7 c7 Lr rfl HOW.out _ (d-1) rr (by rfl) HTR.out HLL.out HV2.out ?_;intro A8 c8 w8 hown8 hb8 hg8;have hb9:=j161 HBX.out HV2.out hb8 (by have:=HS0.out;have:=HV1.out;omega) (by have:=HS0.out;have:=HV1.out;omega);have K8:=a_ (j3 hb9 HB.out);have k29:w8.cell? ⟨b,29,none⟩=some (.slice (some ⟨bl,off,none⟩) (rr.length+1) d):=j14 K8.out rfl;have kf29:w8.frozen? ⟨b,29,none⟩=false:=q13 K8.out;have kz:=q14 K8.out;have P8:Hid (w8.heap[w.heap.size+1]?=some (.cells #[.string ⟨p.1.toArray⟩,.int .i64 p.2.1,.int .i64 p.2.2] 82 (0,0))):=((hb8.block _ (by have:=HS0.out;have:=HV1.out;omega)).trans (HV2.out.block _ (by have:=HS0.out;have:=HV1.out;omega)).symm).trans HPB.out;have X8:Hid (w8.heap[w.heap.size]?=some (.cells #[.string ⟨#[]⟩,.int .i64 0,.int .i64 0] 82 (0,0))):=((hb8.block _ (by have:=HS0.out;have:=HV1.out;omega)).trans (HV2.out.block _ (by have:=HS0.out;have:=HV1.out;omega)).symm).trans HX0.out);all_goals
     obtain⟨B1,hB1⟩:∃A:Option Addr,(if d=1 then some (⟨bl,off,none⟩:Addr)else some ⟨bl,off+3,none⟩)=A:=⟨_,rfl⟩;rw[hB1];clear hB1 HTR;have HOW8:=a_ hown8;have HB9:=a_ hb9;obtain⟨LL,hLL⟩:∃L,Lr++rr=L:=⟨_,rfl⟩;have hlen:Lr.length+rr.length=LL.length:=by rw[←hLL,f_]
     rw[hLL]at HOW8 HTL;rw[hlen];obtain⟨W5,hW5⟩:∃W,w8.setCell ⟨b,29,none⟩ (.slice A8 LL.length c8)=W:=⟨_,rfl⟩;have K5:Hid (W5.heap[b]?=some (.cells (sexC r A c A1 c1 A2 c2 g s (.slice A8 LL.length c8)) 98 (0,0))):=by rw[←hW5];exact j15 K8.out
     have hn1:w.heap.size+1≠b:=by have:=q14 HB.out;omega
     have hn0:w.heap.size≠b:=by have:=q14 HB.out;omega
     have P5:Hid (W5.heap[w.heap.size+1]?=some (.cells #[.string ⟨p.1.toArray⟩,.int .i64 p.2.1,.int .i64 p.2.2] 82 (0,0))):=by rw[←hW5];exact w15 hn1 P8.out
     have X5:Hid (W5.heap[w.heap.size]?=some (.cells #[.string ⟨#[]⟩,.int .i64 0,.int .i64 0] 82 (0,0))):=by rw[←hW5];exact w15 hn0 X8.out
     have M5:Hid (Mut [b] w8 W5):=by rw[←hW5];exact Mut.set (p:=⟨b,29,none⟩) (by simp) _ (Mut.refl _ _)
     rw[hW5];have HN1:=a_ hn1;have HN0:=a_ hn0;clear hW5 k29 kf29 kz hown8 hg8 hb8 hb9 K8 P8 X8 hcl hn1 hn0 hLL hlen HX0 HPB;have k25:W5.cell? ⟨b,25,none⟩=some (.int .i64 (if s.told then 1 else 0)):=j14 K5.out rfl;have kf25:W5.frozen? ⟨b,25,none⟩=false:=q13 K5.out;have kz:=q14 K5.out;go_upto_region 21 with fail;obtain⟨sn,hsn⟩:∃x,(if LL=[]then{s with st:=3,en:=0,lf:=[],told:=true}else{s with lf:=LL,told:=true})=x:=⟨_,rfl⟩;have hv:s.nextS H g.j9=some (p,sn):=HNX.out.trans (by rw[HTL.out,←hsn];rfl);obtain⟨W6,hW6⟩:∃W,W5.setCell ⟨b,25,none⟩ (.int .i64 1)=W:=⟨_,rfl⟩;have K6:Hid (W6.heap[b]?=some (.cells (sexC r A c A1 c1 A2 c2 g {s with told:=true} (.slice A8 LL.length c8)) 98 (0,0))):=by rw[←hW6];exact j15 K5.out
     have P6:Hid (W6.heap[w.heap.size+1]?=some (.cells #[.string ⟨p.1.toArray⟩,.int .i64 p.2.1,.int .i64 p.2.2] 82 (0,0))):=by rw[←hW6];exact w15 HN1.out P5.out
     have X6:Hid (W6.heap[w.heap.size]?=some (.cells #[.string ⟨#[]⟩,.int .i64 0,.int .i64 0] 82 (0,0))):=by rw[←hW6];exact w15 HN0.out X5.out
     have M6:Hid (Mut [b] w8 W6):=by rw[←hW6];exact Mut.set (p:=⟨b,25,none⟩) (by simp) _ M5.out
     rw[hW6];have HV:=a_ hv;obtain⟨W9,h9,k9,m9,t9⟩:∃W9,(if LL.length=0 then(W6.setCell ⟨b,24,none⟩ (.int .i64 3)).setCell ⟨b,28,none⟩ (.int .i64 0)else W6)=W9∧W9.heap[b]?=some (.cells (sexC r A c A1 c1 A2 c2 g sn (.slice A8 LL.length c8)) 98 (0,0))∧Mut [b] W6 W9∧((sn.st=2∧sn.lf=LL∧LL≠[])∨(sn.st≠2∧sn.en=0)):=by
      by_cases hp:LL=[];·rw[B_ hp]at hsn;rw[←hsn];exact⟨_,B_ (by rw[hp];rfl),j15 (j15 K6.out),Mut.set (p:=⟨b,28,none⟩) (by simp) _ (Mut.set (p:=⟨b,24,none⟩) (by simp) _ (Mut.refl _ _)),.inr ⟨by simp,rfl⟩⟩
      ·rw[w_ hp]at hsn;rw[←hsn];exact⟨_,w_ (fun h=>hp (n_ h)),K6.out,Mut.refl _ _,.inl ⟨HST.out,rfl,hp⟩⟩
     have HE9:Hid (Calls Tryz.prog 73 #[.pointer (some ⟨b,0,none⟩)] W6 fun e w'=>e=.returned (.tuple #[])∧w'=W9):=by have h:=j62 b _ A8 c8 LL.length W6 K6.out (by show some (Value.int .i64 s.st)=_;rw[HST.out]) rfl ⟨_,rfl⟩;rw[h9]at h;exact h
     have K9:=a_ k9;have M9:Hid (Mut [b] w8 W9):=M6.out.trans m9;have T9:=a_ t9;have P9:Hid (W9.heap[w.heap.size+1]?=some (.cells #[.string ⟨p.1.toArray⟩,.int .i64 p.2.1,.int .i64 p.2.2] 82 (0,0))):=m9.blk _ _ P6.out (by simpa using HN1.out);have X9:Hid (W9.heap[w.heap.size]?=some (.cells #[.string ⟨#[]⟩,.int .i64 0,.int .i64 0] 82 (0,0))):=m9.blk _ _ X6.out (by simpa using HN0.out);clear h9 k9 m9 t9 hsn hv hW6 K6 P6 X6 K5 P5 X5 k25 kf25 kz;go_upto_region 22 with(go_at_call 73;refine HE9.out.mono ?_;rintro e w9⟨rfl,hw9⟩;obtain rfl:W9=w9:=hw9.symm);obtain⟨p0,p1,p2⟩:=bc3 P9.out rfl rfl rfl;have pz:=q14 P9.out;obtain⟨z0,z1,z2⟩:=bc3 X9.out rfl rfl rfl;have zf0:=q13 (i:=0) X9.out;have zf1:=q13 (i:=1) X9.out;have zf2:=q13 (i:=2) X9.out;have zz:=q14 X9.out;go_wp2_with fail;obtain⟨W4,hW4⟩:∃W,((W9.setCell ⟨w.heap.size,0,none⟩ (.string ⟨p.1.toArray⟩)).setCell ⟨w.heap.size,1,none⟩ (.int .i64 p.2.1)).setCell ⟨w.heap.size,2,none⟩ (.int .i64 p.2.2)=W:=⟨_,rfl⟩;have X4:Hid (W4.heap[w.heap.size]?=some (.cells #[.string ⟨p.1.toArray⟩,.int .i64 p.2.1,.int .i64 p.2.2] 82 (0,0))):=by rw[←hW4];exact j15 (j15 (j15 X9.out))
     have K4:Hid (W4.heap[b]?=some (.cells (sexC r A c A1 c1 A2 c2 g sn (.slice A8 LL.length c8)) 98 (0,0))):=by have hb:=HN0.out;simp only[Hid];rw[←hW4];exact w15 (by simp only;omega) (w15 (by simp only;omega) (w15 (by simp only;omega) K9.out))
     have M4:Hid (Mut [b,w.heap.size] w8 W4):=by rw[←hW4];exact Mut.set (p:=⟨w.heap.size,2,none⟩) (by simp) _ (Mut.set (p:=⟨w.heap.size,1,none⟩) (by simp) _ (Mut.set (p:=⟨w.heap.size,0,none⟩) (by simp) _ (M9.out.mono (by simp))))
     rw[hW4];clear hW4 p0 p1 p2 pz z0 z1 z2 zf0 zf1 zf2 zz;obtain⟨z0,z1,z2⟩:=bc3 X4.out rfl rfl rfl;refine u_ (by simp[results,Tryz.results32,go_sem,z0,z1,z2];try rfl) rfl ?_;have hm:Mut [b] w W4:=(Mut.of_below HB9.out).trans_new M4.out (fun k hk=>by
      simp only[E_,O_,aL_]at hk;rcases hk with rfl|rfl;·exact .inl (by simp)
      ·exact .inr (v_ _));have hbl:=q14 HB.out;have hv1:=HV1.out;have hs0:=HS0.out;have hvn:=HV.out;refine⟨fun h=>absurd (h.symm.trans hvn) (by simp),fun p' s' h=>?_⟩;have hps:=h_ (hvn.symm.trans h);injection hps with hp1 hp2;subst hp1 hp2;refine⟨rfl,⟨HI.out,fun k hk=>P_ (HL.out k hk) hm.size,fun hst=>?_,A,c,A1,c1,A2,c2,A8,c8,LL.length,K4.out,HR.out.mut1 HI.out hm,fun hst=>?_⟩,hm⟩;·
      rcases T9.out with⟨h,_⟩|⟨_,h⟩;·exact absurd h hst
      ·exact h
     ·rcases T9.out with⟨_,h2,h3⟩|⟨h,_⟩;·
       rw[h2];obtain⟨gr,hg1,hg2,hg3⟩:=j79 HOW8.out h3 M4.out (fun k hk=>by simp only[E_,O_,aL_]at hk;rcases hk with rfl|rfl<;>omega);have hpr:=hg3 [gr] (by simp);refine⟨rfl,h3,hpr.sp,fun h0 a ha hi=>?_⟩;obtain⟨g',off,cs,e1,_,e3⟩:=hpr.own h0;rw[ha]at e1;injection e1 with e1;rw[G_]at e3;have:=HL.out _ hi;rw[e1]at this;simp only at this;omega
      ·exact absurd hst h
theorem Mut.bel{S:List Nat}{w W W':World}(h:Mut S w W)(hb:Below W.heap.size W W'):Mut S w W':=h.trans (.of_below hb)
theorem Mut.ses{b2:Nat}{S:List Nat}{w W W':World}(h:Mut (b2::S) w W)(hm:Mut S W W'):Mut (b2::S) w W':=h.trans (hm.mono fun _ hk=>as_ _ hk)
theorem Mut.sex{b2:Nat}{S:List Nat}{w W W':World}(h:Mut (b2::S) w W)(hm:Mut [b2] W W'):Mut (b2::S) w W':=h.trans (hm.mono fun k hk=>by rw[G_]at hk;rw[hk];exact aT_ ..)
structure DoQ(r:ReqC)(g:CfgL)(w0:World)(b b2:Nat)(p:Nat)(o:OpX)(S0:List Nat)(v:World)(W:World)(s x:SesL):Prop where
 ex:∃S D,Both r g w0 S D W b b2 s x∧p∉S∧∀k∈S,k∈S0∨v.heap.size≤k
 ne:p≠b2
 blk:W.heap[p]?=some (.cells (w19 o).toArray 78 (0,0))
 mt:Mut (b2::S0) v W
section
variable{r:ReqC}{g:CfgL}{w0:World}{b b2 p:Nat}{o:OpX}{S0:List Nat}{v W W':World}{s s' x x':SesL}{S D:List Nat}
theorem DoQ.below(h:DoQ r g w0 b b2 p o S0 v W s x)(hb:Below W.heap.size W W'):DoQ r g w0 b b2 p o S0 v W' s x:=by obtain⟨S,D,h1,h2,h3⟩:=h.ex;exact⟨⟨S,D,h1.below hb,h2,h3⟩,h.ne,j3 hb h.blk,h.mt.bel hb⟩
theorem DoQ.ses(hq:DoQ r g w0 b b2 p o S0 v W s x)(h:Both r g w0 S D W b b2 s x)(hp:p∉S)(hS:∀k∈S,k∈S0∨v.heap.size≤k)(hs:k35 r g S b s' W W'):DoQ r g w0 b b2 p o S0 v W' s' x:=by
 obtain⟨S1,h1,h2,_,hm⟩:=hs;refine⟨⟨S1,_,h.step h1 h2 hm,fun hin=>?_,fun k hk=>?_⟩,hq.ne,hm.blk _ _ hq.blk hp,hq.mt.trans_new hm fun k hk=>(hS k hk).imp_left (as_ _)⟩;·
  rcases h2 _ hin with h3|h3;·exact hp h3
  ·have:=q14 hq.blk;omega
 ·rcases h2 _ hk with h3|h3;·exact hS k h3
  ·have:=hq.mt.size;exact .inr (by omega)
theorem DoQ.sex(hq:DoQ r g w0 b b2 p o S0 v W s x)(h:Both r g w0 S D W b b2 s x)(hp:p∉S)(hS:∀k∈S,k∈S0∨v.heap.size≤k)(hx:SexAt r g D W' b2 x')(hm:Mut [b2] W W'):DoQ r g w0 b b2 p o S0 v W' s x':=⟨⟨S,D,h.doc hx hm,hp,hS⟩,hq.ne,hm.blk _ _ hq.blk (by have:=hq.ne;simpa using this),hq.mt.sex hm⟩
theorem DoQ.cell(h:DoQ r g w0 b b2 p o S0 v W s x):W.cell? ⟨p,18,none⟩=some (.int .i64 o.a1)∧W.cell? ⟨p,19,none⟩=some (.int .i64 o.a2)∧W.cell? ⟨p,20,none⟩=some (.int .i64 o.a3):=⟨j14 h.blk rfl,j14 h.blk rfl,j14 h.blk rfl⟩
end
@[go_sem] theorem w164(x0 x1 x2 x3 x4:Value)(w:World):(Instr.field 87 (.agg #[x0,x1,x2,x3,x4]) 0).run Tryz.prog w=.ok x0 w:=by unfold Instr.field;go_simp;rfl
theorem w106{ops:Array Oper}{rest:List Oper}{op:Oper}{a:Act}{w:World}{Q:Exit→Act→World→Prop}(hgd:op.guard=none)(x:Operand)(ho:op.op=.fieldAddr 78 x 1)(b:Nat)(hx:a.eval x=.pointer (some ⟨b,0,none⟩))(h:wpList Tryz.prog ops Q rest (a.put op.dst (.pointer (some ⟨b,1,none⟩))) w):wpList Tryz.prog ops Q (op::rest) a w:=wpList_plain hgd fun _ hK=>by
 have hr:(execOp a.eval op).run Tryz.prog w=.ok (.value (.pointer (some ⟨b,1,none⟩))) w:=by unfold execOp;rw[ho];simp only[hx];go_simp
 unfold Oper.wp;rw[hr,Oper.upon_value];exact hK _ _ h
def j143:Array Value:=#[.bool false,.string ⟨#[]⟩,.slice none 0 0,.slice none 0 0,.slice none 0 0,.bool false,.bool false,.int .i64 0,.int .i64 0,.string ⟨#[]⟩,.bool false]
theorem w166{w:World}{p:Nat}{C:Array Value}(h:w.heap[p]?=some (.cells j143 47 (0,0)))(hC:∃r A c A1 c1 A2 c2,reqC r A c A1 c1 A2 c2=C):∃W,(storeCells ⟨p,0,none⟩ C.toList).run Tryz.prog w=.ok () W∧Stored w p C 47 W:=by
 obtain⟨r,A,c,A1,c1,A2,c2,rfl⟩:=hC;refine⟨_,?_,k150 h rfl⟩;have hl:(reqC r A c A1 c1 A2 c2).toList.length=11:=rfl;have:=run_storeCells_cells (P:=Tryz.prog) p 0 (reqC r A c A1 c1 A2 c2).toList 0 w (fun j hj=>by rw[hl]at hj;rw[j14 (i:=0+0+j) (v:=j143[j]'(by simp[j143];omega)) h (by simp[j143])];rfl) (fun j _=>q13 h) (fun v hv=>by simp only[reqC,E_,O_,aL_]at hv;rcases hv with rfl|rfl|rfl|rfl|rfl|rfl|rfl|rfl|rfl|rfl|rfl<;>rfl);simpa using this
theorem j153(r:ReqC)(g:CfgL)(S:List Nat)(b:Nat)(s:SesL)(w:World)(h:SesAt r g S w b s)(hl:r.L.length≤1000∧r.k.M.length≤1000∧r.k.N.length≤1000):Calls Tryz.prog 77 #[.pointer (some ⟨b,0,none⟩)] w fun e w'=>(∃A c A1 c1 A2 c2,e=.returned (.tuple #[.agg (reqC r A c A1 c1 A2 c2),.agg #[.int .i64 s.a1,.int .i64 s.a2,.int .i64 s.a3]]))∧Below w.heap.size w w':=by
 have H0:=a_ h;obtain⟨A,c,A1,c1,A2,c2,en,bd,hb,hrq,hT,hN⟩:=h.blk;have HNE0:w.heap.size≠b∧w.heap.size+1≠b∧b<w.heap.size:=by have:=q14 hb;omega
 have HB:=a_ hb;have HRQ:=a_ hrq.at_;have HCP:=fun W h=>a_ (k135 r A c A1 c1 A2 c2 W h hl.1 hl.2.1 hl.2.2);clear h hb hrq hT hN hl;go_enter Tryz.func77,Tryz.ntmps77;go_upto_region 1 with fail;obtain⟨W0,hW0,X0,X1,HB0⟩:=box2 w #[.bool false,.string ⟨#[]⟩,.slice none 0 0,.slice none 0 0,.slice none 0 0,.bool false,.bool false,.int .i64 0,.int .i64 0,.string ⟨#[]⟩,.bool false] 47 #[.int .i64 0,.int .i64 0,.int .i64 0] 49;rw[hW0];clear hW0;have YB:=a_ (j3 HB0.out HB.out);have HRA:=a_ (HRQ.out.below HB0.out);have HD0:Hid (Below W0.heap.size W0 W0.drew):=x15 (c_ _ _);have HCP:=HCP _ (HRA.out.below HD0.out);obtain⟨hd,ob,L,⟨M,N,am,an,si,un,rt,rw⟩⟩:=r;obtain⟨st,a1,a2,a3,en0,lf,ag,told,cut⟩:=s;unfold reqC at HCP;simp only at HCP;have xz:=q14 X0.out;have zz:=q14 X1.out;have bz:=q14 YB.out;have hn1:=HNE0.1;have hn2:=HNE0.2.1;have hn3:b≠w.heap.size:=fun e=>hn1 e.symm;have hn4:b≠w.heap.size+1:=fun e=>hn2 e.symm;have b0:W0.cell? ⟨b,0,none⟩=some (.bool hd):=j14 YB.out rfl;have b1:W0.cell? ⟨b,1,none⟩=some (.string ⟨ob.toArray⟩):=j14 YB.out rfl;have b2:W0.cell? ⟨b,2,none⟩=some (.slice A L.length c):=j14 YB.out rfl;have b3:W0.cell? ⟨b,3,none⟩=some (.slice A1 M.length c1):=j14 YB.out rfl;have b4:W0.cell? ⟨b,4,none⟩=some (.slice A2 N.length c2):=j14 YB.out rfl;have b5:W0.cell? ⟨b,5,none⟩=some (.bool am):=j14 YB.out rfl;have b6:W0.cell? ⟨b,6,none⟩=some (.bool an):=j14 YB.out rfl;have b7:W0.cell? ⟨b,7,none⟩=some (.int .i64 si):=j14 YB.out rfl;have b8:W0.cell? ⟨b,8,none⟩=some (.int .i64 un):=j14 YB.out rfl;have b9:W0.cell? ⟨b,9,none⟩=some (.string ⟨rt.toArray⟩):=j14 YB.out rfl;have b10:W0.cell? ⟨b,10,none⟩=some (.bool rw):=j14 YB.out rfl;have b11:W0.cell? ⟨b,11,none⟩=some (.int .i64 a1):=j14 YB.out rfl;have b12:W0.cell? ⟨b,12,none⟩=some (.int .i64 a2):=j14 YB.out rfl;have b13:W0.cell? ⟨b,13,none⟩=some (.int .i64 a3):=j14 YB.out rfl;have x0:=bc 0 X0.out rfl;have xf0:=q13 (i:=0) X0.out;have x1:=bc 1 X0.out rfl;have xf1:=q13 (i:=1) X0.out;have x2:=bc 2 X0.out rfl;have xf2:=q13 (i:=2) X0.out;have x3:=bc 3 X0.out rfl;have xf3:=q13 (i:=3) X0.out;have x4:=bc 4 X0.out rfl;have xf4:=q13 (i:=4) X0.out;have x5:=bc 5 X0.out rfl;have xf5:=q13 (i:=5) X0.out;have x6:=bc 6 X0.out rfl;have xf6:=q13 (i:=6) X0.out;have x7:=bc 7 X0.out rfl;have xf7:=q13 (i:=7) X0.out;have x8:=bc 8 X0.out rfl;have xf8:=q13 (i:=8) X0.out;have x9:=bc 9 X0.out rfl;have xf9:=q13 (i:=9) X0.out;have x10:=bc 10 X0.out rfl;have xf10:=q13 (i:=10) X0.out;have z0:=bc 0 X1.out rfl;have zf0:=q13 (i:=0) X1.out;have z1:=bc 1 X1.out rfl;have zf1:=q13 (i:=1) X1.out;have z2:=bc 2 X1.out rfl;have zf2:=q13 (i:=2) X1.out;go_cut[](fun wx=>∃C,wx.heap[w.heap.size]?=some (.cells C 47 (0,0))∧(∃A c A1 c1 A2 c2,C=reqC ⟨hd,ob,L,⟨M,N,am,an,si,un,rt,rw⟩⟩ A c A1 c1 A2 c2)∧wx.heap[w.heap.size+1]?=some (.cells #[.int .i64 a1,.int .i64 a2,.int .i64 a3] 49 (0,0))∧Below w.heap.size w wx);case first=>
  go_region_with(
   go_at_call 112;refine(HCP.out).mono ?_;rintro e w5⟨E0,f0,E1,f1,E2,f2,rfl,_,hb5⟩;have y5:=j3 hb5 (q18 YB.out);have hxx:=j3 hb5 (q18 X0.out);have hzz:=j3 hb5 (q18 X1.out);obtain⟨C5,hC5⟩:∃C,reqC ⟨hd,ob,L,⟨M,N,am,an,si,un,rt,rw⟩⟩ E0 f0 E1 f1 E2 f2=C:=⟨_,rfl⟩;have HC5:=a_ hC5;have hsz:C5.size=11:=by rw[←hC5];rfl
   obtain⟨W6,hs,hst⟩:=w166 hxx ⟨_,_,_,_,_,_,_,hC5⟩;have HST:=a_ hst;have y6:W6.heap[b]?=some (.cells (sesC ⟨hd,ob,L,⟨M,N,am,an,si,un,rt,rw⟩⟩ A c A1 c1 A2 c2 g ⟨st,a1,a2,a3,en0,lf,ag,told,cut⟩ en bd) 132 (0,0)):=(q136 HST.out).blk _ _ y5 (by simpa using hn3);have hz6:W6.heap[w.heap.size+1]?=some (.cells #[.int .i64 0,.int .i64 0,.int .i64 0] 49 (0,0)):=(q136 HST.out).blk _ _ hzz (by simp);rw[hC5];clear hC5 hst hxx hzz;have d11:w5.cell? ⟨b,11,none⟩=some (.int .i64 a1):=j14 y5 rfl;have d12:w5.cell? ⟨b,12,none⟩=some (.int .i64 a2):=j14 y5 rfl;have d13:w5.cell? ⟨b,13,none⟩=some (.int .i64 a3):=j14 y5 rfl;have g11:W6.cell? ⟨b,11,none⟩=some (.int .i64 a1):=j14 y6 rfl;have g12:W6.cell? ⟨b,12,none⟩=some (.int .i64 a2):=j14 y6 rfl;have g13:W6.cell? ⟨b,13,none⟩=some (.int .i64 a3):=j14 y6 rfl;have v0:=bc 0 hz6 rfl;have vf0:=q13 (i:=0) hz6;have v1:=bc 1 hz6 rfl;have vf1:=q13 (i:=1) hz6;have v2:=bc 2 hz6 rfl;have vf2:=q13 (i:=2) hz6;have vz:=q14 hz6);all_goals go_wp2_with fail
  all_goals go_meet
  all_goals exact⟨C5,w15 (aE_ (az_ _)) (w15 (aE_ (az_ _)) (w15 (aE_ (az_ _)) HST.out.blk)),⟨_,_,_,_,_,_,HC5.out.symm⟩,j15 (j15 (j15 hz6)),w14 (w14 (w14 (HST.out.bel w (q12 hb5 (x15 HB0.out)) (v_ _)) (D_ _) _) (D_ _) _) (D_ _) _⟩
 case rest=>obtain⟨C5,hx,⟨E0,f0,E1,f1,E2,f2,rfl⟩,hz,hb⟩:=hcut;clear xz zz bz;have z0:wc.cell? ⟨w.heap.size,0,none⟩=some (.bool hd):=j14 hx rfl;have z1:wc.cell? ⟨w.heap.size,1,none⟩=some (.string ⟨ob.toArray⟩):=j14 hx rfl;have z2:wc.cell? ⟨w.heap.size,2,none⟩=some (.slice E0 L.length f0):=j14 hx rfl;have z3:wc.cell? ⟨w.heap.size,3,none⟩=some (.slice E1 M.length f1):=j14 hx rfl;have z4:wc.cell? ⟨w.heap.size,4,none⟩=some (.slice E2 N.length f2):=j14 hx rfl;have z5:wc.cell? ⟨w.heap.size,5,none⟩=some (.bool am):=j14 hx rfl;have z6:wc.cell? ⟨w.heap.size,6,none⟩=some (.bool an):=j14 hx rfl;have z7:wc.cell? ⟨w.heap.size,7,none⟩=some (.int .i64 si):=j14 hx rfl;have z8:wc.cell? ⟨w.heap.size,8,none⟩=some (.int .i64 un):=j14 hx rfl;have z9:wc.cell? ⟨w.heap.size,9,none⟩=some (.string ⟨rt.toArray⟩):=j14 hx rfl;have z10:wc.cell? ⟨w.heap.size,10,none⟩=some (.bool rw):=j14 hx rfl;have y0:wc.cell? ⟨w.heap.size+1,0,none⟩=some (.int .i64 a1):=j14 hz rfl;have y1:wc.cell? ⟨w.heap.size+1,1,none⟩=some (.int .i64 a2):=j14 hz rfl;have y2:wc.cell? ⟨w.heap.size+1,2,none⟩=some (.int .i64 a3):=j14 hz rfl;have hxl:=q14 hx;have hzl:=q14 hz;clear HCP HB0 X0 X1;go_wp2_with fail;refine u_ (by simp[results,Tryz.results77,go_sem,z0,z1,z2,z3,z4,z5,z6,z7,z8,z9,z10,y0,y1,y2];try rfl) rfl ?_;exact⟨⟨E0,f0,E1,f1,E2,f2,rfl⟩,hb⟩
structure SmQ(r:ReqC)(g:CfgL)(w0:World)(S D:List Nat)(b b2 p:Nat)(s:SesL)(W:World):Prop where
 both:Both r g w0 S D W b b2 s s
 blk:W.heap[p]?=some (.cells #[.int .i64 s.a1,.int .i64 s.a2,.int .i64 s.a3] 49 (0,0))
theorem SmQ.below{r:ReqC}{g:CfgL}{w0:World}{S D:List Nat}{b b2 p:Nat}{s:SesL}{W W':World}(h:SmQ r g w0 S D b b2 p s W)(hb:Below W.heap.size W W'):SmQ r g w0 S D b b2 p s W':=⟨h.both.below hb,j3 hb h.blk⟩
theorem SmQ.cells{r:ReqC}{g:CfgL}{w0:World}{S D:List Nat}{b b2 p:Nat}{s:SesL}{W:World}{t z:Int}(h:SmQ r g w0 S D b b2 p s W)(ht:s.st=t)(hz:b2n s.cut=z):W.cell? ⟨b2,24,none⟩=some (.int .i64 t)∧W.cell? ⟨b2,28,none⟩=some (.int .i64 s.en)∧W.cell? ⟨b2,27,none⟩=some (.int .i64 z)∧W.cell? ⟨b2,11,none⟩=some (.int .i64 s.a1)∧W.cell? ⟨b2,12,none⟩=some (.int .i64 s.a2)∧W.cell? ⟨b2,13,none⟩=some (.int .i64 s.a3)∧W.cell? ⟨p,0,none⟩=some (.int .i64 s.a1)∧W.cell? ⟨p,1,none⟩=some (.int .i64 s.a2)∧W.cell? ⟨p,2,none⟩=some (.int .i64 s.a3):=by obtain⟨A,c,A1,c1,A2,c2,B,d,n,hk,_,_⟩:=h.both.d.blk;subst ht hz;exact⟨j14 hk rfl,j14 hk rfl,j14 hk rfl,j14 hk rfl,j14 hk rfl,j14 hk rfl,j14 h.blk rfl,j14 h.blk rfl,j14 h.blk rfl⟩
def smG(s:SesL)(b b2:Nat)(t z:Int)(c3 cz:Bool):List (Value→World→Prop):=[fun v _=>v=.pointer (some ⟨b,0,none⟩),fun v _=>v=.int .i64 t,fun v _=>v=.pointer (some ⟨b2,0,none⟩),fun v _=>v=.pointer (some ⟨b2,0,none⟩),fun v _=>v=.pointer (some ⟨b2,24,none⟩),fun v _=>v=.int .i64 t,fun v _=>v=.bool true,fun v _=>v=.bool true,fun v _=>v=.pointer (some ⟨b,0,none⟩),fun v _=>v=.int .i64 s.en,fun v _=>v=.pointer (some ⟨b2,0,none⟩),fun v _=>v=.pointer (some ⟨b2,0,none⟩),fun v _=>v=.pointer (some ⟨b2,28,none⟩),fun v _=>v=.int .i64 s.en,fun v _=>v=.bool true,fun v _=>v=.bool true,fun v _=>v=.bool true,fun v _=>v=.pointer (some ⟨b,0,none⟩),fun v _=>v=.bool (c3&&cz),fun v _=>v=.pointer (some ⟨b2,0,none⟩),fun v _=>v=.pointer (some ⟨b2,0,none⟩),fun v _=>v=.pointer (some ⟨b2,24,none⟩),fun v _=>v=.int .i64 t,fun v _=>v=.bool c3,fun v _=>v=.bool c3,fun v _=>c3=true→v=.pointer (some ⟨b2,0,none⟩),fun v _=>c3=true→v=.pointer (some ⟨b2,0,none⟩),fun v _=>c3=true→v=.pointer (some ⟨b2,27,none⟩),fun v _=>c3=true→v=.int .i64 z,fun v _=>c3=true→v=.bool cz,fun v _=>v=.bool (c3&&cz),fun v _=>v=.bool true,fun v _=>v=.bool true,fun v _=>v=.bool true,fun v _=>v=.agg #[.int .i64 s.a1,.int .i64 s.a2,.int .i64 s.a3],fun v _=>v=.agg #[.int .i64 s.a1,.int .i64 s.a2,.int .i64 s.a3],fun v _=>v=.pointer (some ⟨b2,0,none⟩),fun v _=>v=.pointer (some ⟨b2,0,none⟩),fun v _=>v=.pointer (some ⟨b2,11,none⟩),fun v _=>v=.agg #[.int .i64 s.a1,.int .i64 s.a2,.int .i64 s.a3],fun v _=>v=.bool true,fun v _=>v=.bool true,fun v _=>v=.bool true,fun v _=>v=.pointer (some ⟨b,0,none⟩),fun v w'=>∃A c,v=.agg #[.slice A s.needS.length c]∧Sp w' A c s.needS,fun v w'=>∃A c,v=.slice A s.needS.length c∧Sp w' A c s.needS,fun v _=>v=.pointer (some ⟨b2,0,none⟩),fun v w'=>∃A c,v=.slice A s.needS.length c∧Sp w' A c s.needS,fun v _=>v=.bool true,fun v _=>v=.bool true,fun v _=>v=.bool true]
theorem q188(s:SesL)(b b2:Nat)(t z:Int)(c3 cz:Bool):∀f∈smG s b b2 t z c3 cz,∀v w w',f v w→Below w.heap.size w w'→f v w':=by intro f hf;simp only[smG,E_,O_,aL_]at hf;rcases hf with rfl|rfl|rfl|rfl|rfl|rfl|rfl|rfl|rfl|rfl|rfl|rfl|rfl|rfl|rfl|rfl|rfl|rfl|rfl|rfl|rfl|rfl|rfl|rfl|rfl|rfl|rfl|rfl|rfl|rfl|rfl|rfl|rfl|rfl|rfl|rfl|rfl|rfl|rfl|rfl|rfl|rfl|rfl|rfl|rfl|rfl|rfl|rfl|rfl|rfl|rfl;all_goals first|exact fun _ _ _ h _=>h|exact(fun v w w' h hb=>h.imp fun A h2=>h2.imp fun c h3=>⟨h3.1,h3.2.below hb⟩)
theorem j167 (r : ReqC) (g : CfgL) (w0 : World) (S D : List Nat) (b b2 : Nat) (s : SesL) (w : World) (h : Both r g w0 S D w b b2 s s) (hs : s.Ok2) (hl : r.L.length ≤ 1000 ∧ r.k.M.length ≤ 1000 ∧ r.k.N.length ≤ 1000) :
    Calls Tryz.prog 37 #[.pointer (some ⟨b, 0, none⟩), .pointer (some ⟨b2, 0, none⟩)] w fun e w' => e = .returned (.bool true) ∧ Below w.heap.size w w' := by
  have HBO := a_ h
  have HL1 := a_ hs.len
  obtain ⟨t, ht⟩ : ∃ t, s.st = t := ⟨_, rfl⟩
  obtain ⟨z, hz⟩ : ∃ z, b2n s.cut = z := ⟨_, rfl⟩
  obtain ⟨c3, hc3⟩ : ∃ c, (t == 3) = c := ⟨_, rfl⟩
  obtain ⟨cz, hcz⟩ : ∃ c, (z == 0) = c := ⟨_, rfl⟩
  have hv : (decide (s.st = 3) && !s.cut) = (c3 && cz) := by
    rw [← hc3, ← hcz, ← hz, ht]
    congr 1
    cases s.cut <;> rfl
  have HT := a_ ht
  have HZ := a_ hz
  have HC3 := a_ hc3
  have HCZ := a_ hcz
  have HNC : Hid (s.needS.length ≤ 1000000) := by
    unfold SesL.needS
    split
    · have h1 := k46 (q25 s.lf)
      have h2 := x67 s.lf
      have h3 := hs.len
      simp only [Hid]; omega
    · simp [Hid]
  have HS1 : Hid (∀ W, SesAt r g S W b s → Hid (Calls Tryz.prog 28 #[.pointer (some ⟨b, 0, none⟩)] W fun e w' => e = .returned (.int .i64 t) ∧ w' = W)) := fun W h => by rw [← ht]; exact a_ (w182 r g S b s W h)
  have HS2 : Hid (∀ W, SesAt r g S W b s → Hid (Calls Tryz.prog 29 #[.pointer (some ⟨b, 0, none⟩)] W fun e w' => e = .returned (.bool (c3 && cz)) ∧ w' = W)) := fun W h => by rw [← hv]; exact a_ (w58 r g S b s W h)
  have HRL := a_ hl
  clear h hs hl ht hz hv hc3 hcz
  go_enter Tryz.func37, Tryz.ntmps37
  go_wp2_with fail
  refine (j153 r g S b s _ HBO.out.p HRL.out).mono ?_
  rintro e w1 ⟨⟨A, c, A1, c1, A2, c2, rfl⟩, hb1⟩
  unfold reqC
  go_upto_region 2 with fail
  obtain ⟨W2, hW2⟩ : ∃ W, (w1.alloc (.cells #[.bool r.hd, .string ⟨r.ob.toArray⟩, .slice A r.L.length c, .slice A1 r.k.M.length c1, .slice A2 r.k.N.length c2, .bool r.k.am, .bool r.k.an, .int .i64 r.k.si, .int .i64 r.k.un, .string ⟨r.k.rt.toArray⟩, .bool r.k.rw] 47)).alloc (.cells #[.int .i64 s.a1, .int .i64 s.a2, .int .i64 s.a3] 49) = W := ⟨_, rfl⟩
  have q : SmQ r g w0 S D b b2 (w1.heap.size + 1) s W2 := ⟨(HBO.out.below hb1).below (by rw [← hW2]; exact q11 (q11 (c_ _ _) _) _), by rw [← hW2]; exact j17 (by simp)⟩
  have HB2 : Hid (Below w.heap.size w W2) := by simp only [Hid]; rw [← hW2]; exact q11 (q11 hb1 _) _
  rw [hW2]
  clear hW2
  have HQ : Hid (SmQ r g w0 S D b b2 (w1.heap.size + 1) s W2.drew) := q.below (x15 (c_ _ _))
  have HBD : Hid (Below w.heap.size w W2.drew) := x15 HB2.out
  have HND := fun W h => a_ (v122 r g S b s W h HL1.out)
  have HXD := fun W h => a_ (z166 r g D b2 s W h HL1.out)
  clear q hb1 HB2
  refine w174 51 rfl rfl (by kernel_rfl) [12, 13, 14, 15, 16, 17, 18, 19, 20, 21, 22, 23, 24, 25, 26, 27, 28, 29, 30, 31, 32, 33, 34, 35, 36, 37, 38, 39, 40, 41, 42, 43, 44, 45, 46, 47, 48, 49, 50, 51, 52, 53, 54, 55, 56, 57, 58, 59, 60, 61, 4] (by decide) rfl (RInv W2.drew (FG (smG s b b2 t z c3 cz) W2.drew.heap.size 26 #[]) (fun _ => false)) rfl (fun _ => RInv.start 51 (c_ _ _)) ?_ ?_
  · intro i oo li vs wx ho hi hu hdep hI K hK
    have hmono : ∀ j vq wq wt, FG (smG s b b2 t z c3 cz) W2.drew.heap.size 26 #[] j vq wq → Below wq.heap.size wq wt → FG (smG s b b2 t z c3 cz) W2.drew.heap.size 26 #[] j vq wt := FG.mono (q188 s b b2 t z c3 cz)
    rcases i with _ | _ | _ | _ | _ | _ | _ | _ | _ | _ | _ | _ | _ | _ | _ | _ | _ | _ | _ | _ | _ | _ | _ | _ | _ | _ | _ | _ | _ | _ | _ | _ | _ | _ | _ | _ | _ | _ | _ | _ | _ | _ | _ | _ | _ | _ | _ | _ | _ | _ | _ | i
    · have ho := h_ ho
      have HI := a_ hI
      have HM := a_ hmono
      clear hI hmono hdep hu
      subst ho
      simp only [puts, Act.put, b_, e_, d_] at hK ⊢
      refine .inl ⟨rfl, ?_⟩
      go_simp
      exact hK.out _ _ (HI.out.step HM.out (c_ _ _) rfl rfl)
    · have ho := h_ ho
      have e0 : vs 0 = .pointer (some ⟨b, 0, none⟩) := hI.facts 0 (hdep ⟨0, .data⟩ (by rw [← ho]; simp) rfl)
      have hq := HQ.out.below hI.bel
      have HC : Hid (Calls Tryz.prog 28 #[vs 0] wx fun e w' => ∃ v, e = .returned v ∧ (fun v _ => v = .int .i64 t) v w' ∧ Below wx.heap.size wx w') := by
        simp only [Hid]; rw [e0]; refine (HS1.out _ hq.both.p).out.mono ?_; rintro e w' ⟨rfl, rfl⟩; exact ⟨_, rfl, rfl, c_ _ _⟩
      have HI := a_ hI
      have HM := a_ hmono
      clear e0 hq hI hmono hdep hu
      subst ho
      simp only [puts, Act.put, b_, e_, d_] at hK ⊢
      refine .inl ⟨rfl, ?_⟩
      go_simp
      refine HC.out.mono ?_
      rintro e wy ⟨v, rfl, hg, hb⟩
      exact hK.out _ _ (HI.out.step HM.out hb rfl hg)
    · have ho := h_ ho
      have HI := a_ hI
      have HM := a_ hmono
      clear hI hmono hdep hu
      subst ho
      simp only [puts, Act.put, b_, e_, d_] at hK ⊢
      refine .inl ⟨rfl, ?_⟩
      go_simp
      exact hK.out _ _ (HI.out.step HM.out (c_ _ _) rfl rfl)
    · have ho := h_ ho
      have e2 : vs 2 = .pointer (some ⟨b2, 0, none⟩) := hI.facts 2 (hdep ⟨2, .data⟩ (by rw [← ho]; simp) rfl)
      have HI := a_ hI
      have HM := a_ hmono
      clear hI hmono hdep hu
      subst ho
      simp only [puts, Act.put, b_, e_, d_] at hK ⊢
      refine .inl ⟨rfl, ?_⟩
      simp only [k_, Nat.reduceAdd, e2] at hK
      go_simp
      exact hK.out _ _ (HI.out.step HM.out (c_ _ _) rfl rfl)
    · have ho := h_ ho
      have e3 : vs 3 = .pointer (some ⟨b2, 0, none⟩) := hI.facts 3 (hdep ⟨3, .data⟩ (by rw [← ho]; simp) rfl)
      have HI := a_ hI
      have HM := a_ hmono
      clear hI hmono hdep hu
      subst ho
      simp only [puts, Act.put, b_, e_, d_] at hK ⊢
      refine .inl ⟨rfl, ?_⟩
      simp only [k_, Nat.reduceAdd, e3] at hK
      go_simp
      exact hK.out _ _ (HI.out.step HM.out (c_ _ _) rfl rfl)
    · have ho := h_ ho
      have e4 : vs 4 = .pointer (some ⟨b2, 24, none⟩) := hI.facts 4 (hdep ⟨4, .data⟩ (by rw [← ho]; simp) rfl)
      obtain ⟨x0, x1, x2, x3, x4, x5, x6, x7, x8⟩ := (HQ.out.below hI.bel).cells HT.out HZ.out
      have HI := a_ hI
      have HM := a_ hmono
      clear hI hmono hdep hu
      subst ho
      simp only [puts, Act.put, b_, e_, d_] at hK ⊢
      refine .inl ⟨rfl, ?_⟩
      simp only [k_, Nat.reduceAdd, e4] at hK
      go_simp
      exact hK.out _ _ (HI.out.step HM.out (c_ _ _) rfl rfl)
    · have ho := h_ ho
      have e1 : vs 1 = .int .i64 t := hI.facts 1 (hdep ⟨1, .data⟩ (by rw [← ho]; simp) rfl)
      have e5 : vs 5 = .int .i64 t := hI.facts 5 (hdep ⟨5, .data⟩ (by rw [← ho]; simp) rfl)
      have HI := a_ hI
      have HM := a_ hmono
      clear hI hmono hdep hu
      subst ho
      simp only [puts, Act.put, b_, e_, d_] at hK ⊢
      refine .inl ⟨rfl, ?_⟩
      simp only [k_, Nat.reduceAdd, e1, e5] at hK
      go_simp
      exact hK.out _ _ (HI.out.step HM.out (c_ _ _) rfl rfl)
    · have ho := h_ ho
      have e6 : vs 6 = .bool true := hI.facts 6 (hdep ⟨6, .data⟩ (by rw [← ho]; simp) rfl)
      have HI := a_ hI
      have HM := a_ hmono
      clear hI hmono hdep hu
      subst ho
      simp only [puts, Act.put, b_, e_, d_] at hK ⊢
      refine .inl ⟨rfl, ?_⟩
      simp only [k_, Nat.reduceAdd, e6] at hK
      go_simp
      exact hK.out _ _ (HI.out.step HM.out (c_ _ _) rfl rfl)
    · have ho := h_ ho
      have e7 : vs 7 = .bool true := hI.facts 7 (hdep ⟨7, .guard⟩ (by rw [← ho]; simp) rfl)
      have HI := a_ hI
      have HM := a_ hmono
      clear hI hmono hdep hu
      subst ho
      simp only [puts, Act.put, b_, e_, d_] at hK ⊢
      refine .inl ⟨by simp only [k_, Nat.reduceAdd, e7]; rfl, ?_⟩
      clear e7
      go_simp
      exact hK.out _ _ (HI.out.step HM.out (c_ _ _) rfl rfl)
    · have ho := h_ ho
      have e8 : vs 8 = .pointer (some ⟨b, 0, none⟩) := hI.facts 8 (hdep ⟨8, .data⟩ (by rw [← ho]; simp) rfl)
      have e7 : vs 7 = .bool true := hI.facts 7 (hdep ⟨7, .guard⟩ (by rw [← ho]; simp) rfl)
      have hq := HQ.out.below hI.bel
      have HC : Hid (Calls Tryz.prog 78 #[vs 8] wx fun e w' => ∃ v, e = .returned v ∧ (fun v _ => v = .int .i64 s.en) v w' ∧ Below wx.heap.size wx w') := by
        simp only [Hid]; rw [e8]; refine (j134 r g S b s _ hq.both.p).mono ?_; rintro e w' ⟨rfl, rfl⟩; exact ⟨_, rfl, rfl, c_ _ _⟩
      have HI := a_ hI
      have HM := a_ hmono
      clear e8 hq hI hmono hdep hu
      subst ho
      simp only [puts, Act.put, b_, e_, d_] at hK ⊢
      refine .inl ⟨by simp only [k_, Nat.reduceAdd, e7]; rfl, ?_⟩
      clear e7
      go_simp
      refine HC.out.mono ?_
      rintro e wy ⟨v, rfl, hg, hb⟩
      exact hK.out _ _ (HI.out.step HM.out hb rfl hg)
    · have ho := h_ ho
      have e7 : vs 7 = .bool true := hI.facts 7 (hdep ⟨7, .guard⟩ (by rw [← ho]; simp) rfl)
      have HI := a_ hI
      have HM := a_ hmono
      clear hI hmono hdep hu
      subst ho
      simp only [puts, Act.put, b_, e_, d_] at hK ⊢
      refine .inl ⟨by simp only [k_, Nat.reduceAdd, e7]; rfl, ?_⟩
      clear e7
      go_simp
      exact hK.out _ _ (HI.out.step HM.out (c_ _ _) rfl rfl)
    · have ho := h_ ho
      have e10 : vs 10 = .pointer (some ⟨b2, 0, none⟩) := hI.facts 10 (hdep ⟨10, .data⟩ (by rw [← ho]; simp) rfl)
      have e7 : vs 7 = .bool true := hI.facts 7 (hdep ⟨7, .guard⟩ (by rw [← ho]; simp) rfl)
      have HI := a_ hI
      have HM := a_ hmono
      clear hI hmono hdep hu
      subst ho
      simp only [puts, Act.put, b_, e_, d_] at hK ⊢
      refine .inl ⟨by simp only [k_, Nat.reduceAdd, e7]; rfl, ?_⟩
      clear e7
      simp only [k_, Nat.reduceAdd, e10] at hK
      go_simp
      exact hK.out _ _ (HI.out.step HM.out (c_ _ _) rfl rfl)
    · have ho := h_ ho
      have e11 : vs 11 = .pointer (some ⟨b2, 0, none⟩) := hI.facts 11 (hdep ⟨11, .data⟩ (by rw [← ho]; simp) rfl)
      have e7 : vs 7 = .bool true := hI.facts 7 (hdep ⟨7, .guard⟩ (by rw [← ho]; simp) rfl)
      have HI := a_ hI
      have HM := a_ hmono
      clear hI hmono hdep hu
      subst ho
      simp only [puts, Act.put, b_, e_, d_] at hK ⊢
      refine .inl ⟨by simp only [k_, Nat.reduceAdd, e7]; rfl, ?_⟩
      clear e7
      simp only [k_, Nat.reduceAdd, e11] at hK
      go_simp
      exact hK.out _ _ (HI.out.step HM.out (c_ _ _) rfl rfl)
    · have ho := h_ ho
      have e12 : vs 12 = .pointer (some ⟨b2, 28, none⟩) := hI.facts 12 (hdep ⟨12, .data⟩ (by rw [← ho]; simp) rfl)
      have e7 : vs 7 = .bool true := hI.facts 7 (hdep ⟨7, .guard⟩ (by rw [← ho]; simp) rfl)
      obtain ⟨x0, x1, x2, x3, x4, x5, x6, x7, x8⟩ := (HQ.out.below hI.bel).cells HT.out HZ.out
      have HI := a_ hI
      have HM := a_ hmono
      clear hI hmono hdep hu
      subst ho
      simp only [puts, Act.put, b_, e_, d_] at hK ⊢
      refine .inl ⟨by simp only [k_, Nat.reduceAdd, e7]; rfl, ?_⟩
      clear e7
      simp only [k_, Nat.reduceAdd, e12] at hK
      go_simp
      exact hK.out _ _ (HI.out.step HM.out (c_ _ _) rfl rfl)
    · have ho := h_ ho
      have e9 : vs 9 = .int .i64 s.en := hI.facts 9 (hdep ⟨9, .data⟩ (by rw [← ho]; simp) rfl)
      have e13 : vs 13 = .int .i64 s.en := hI.facts 13 (hdep ⟨13, .data⟩ (by rw [← ho]; simp) rfl)
      have e7 : vs 7 = .bool true := hI.facts 7 (hdep ⟨7, .guard⟩ (by rw [← ho]; simp) rfl)
      have HI := a_ hI
      have HM := a_ hmono
      clear hI hmono hdep hu
      subst ho
      simp only [puts, Act.put, b_, e_, d_] at hK ⊢
      refine .inl ⟨by simp only [k_, Nat.reduceAdd, e7]; rfl, ?_⟩
      clear e7
      simp only [k_, Nat.reduceAdd, e9, e13] at hK
      go_simp
      exact hK.out _ _ (HI.out.step HM.out (c_ _ _) rfl rfl)
    · have ho := h_ ho
      have e7 : vs 7 = .bool true := hI.facts 7 (hdep ⟨7, .data⟩ (by rw [← ho]; simp) rfl)
      have e14 : vs 14 = .bool true := hI.facts 14 (hdep ⟨14, .data⟩ (by rw [← ho]; simp) rfl)
      have HI := a_ hI
      have HM := a_ hmono
      clear hI hmono hdep hu
      subst ho
      simp only [puts, Act.put, b_, e_, d_] at hK ⊢
      refine .inl ⟨rfl, ?_⟩
      simp only [k_, Nat.reduceAdd, e7, e14] at hK
      go_simp
      exact hK.out _ _ (HI.out.step HM.out (c_ _ _) rfl rfl)
    · have ho := h_ ho
      have e15 : vs 15 = .bool true := hI.facts 15 (hdep ⟨15, .data⟩ (by rw [← ho]; simp) rfl)
      have HI := a_ hI
      have HM := a_ hmono
      clear hI hmono hdep hu
      subst ho
      simp only [puts, Act.put, b_, e_, d_] at hK ⊢
      refine .inl ⟨rfl, ?_⟩
      simp only [k_, Nat.reduceAdd, e15] at hK
      go_simp
      exact hK.out _ _ (HI.out.step HM.out (c_ _ _) rfl rfl)
    · have ho := h_ ho
      have e16 : vs 16 = .bool true := hI.facts 16 (hdep ⟨16, .guard⟩ (by rw [← ho]; simp) rfl)
      have HI := a_ hI
      have HM := a_ hmono
      clear hI hmono hdep hu
      subst ho
      simp only [puts, Act.put, b_, e_, d_] at hK ⊢
      refine .inl ⟨by simp only [k_, Nat.reduceAdd, e16]; rfl, ?_⟩
      clear e16
      go_simp
      exact hK.out _ _ (HI.out.step HM.out (c_ _ _) rfl rfl)
    · have ho := h_ ho
      have e17 : vs 17 = .pointer (some ⟨b, 0, none⟩) := hI.facts 17 (hdep ⟨17, .data⟩ (by rw [← ho]; simp) rfl)
      have e16 : vs 16 = .bool true := hI.facts 16 (hdep ⟨16, .guard⟩ (by rw [← ho]; simp) rfl)
      have hq := HQ.out.below hI.bel
      have HC : Hid (Calls Tryz.prog 29 #[vs 17] wx fun e w' => ∃ v, e = .returned v ∧ (fun v _ => v = .bool (c3 && cz)) v w' ∧ Below wx.heap.size wx w') := by
        simp only [Hid]; rw [e17]; refine (HS2.out _ hq.both.p).out.mono ?_; rintro e w' ⟨rfl, rfl⟩; exact ⟨_, rfl, rfl, c_ _ _⟩
      have HI := a_ hI
      have HM := a_ hmono
      clear e17 hq hI hmono hdep hu
      subst ho
      simp only [puts, Act.put, b_, e_, d_] at hK ⊢
      refine .inl ⟨by simp only [k_, Nat.reduceAdd, e16]; rfl, ?_⟩
      clear e16
      go_simp
      refine HC.out.mono ?_
      rintro e wy ⟨v, rfl, hg, hb⟩
      exact hK.out _ _ (HI.out.step HM.out hb rfl hg)
    · have ho := h_ ho
      have e16 : vs 16 = .bool true := hI.facts 16 (hdep ⟨16, .guard⟩ (by rw [← ho]; simp) rfl)
      have HI := a_ hI
      have HM := a_ hmono
      clear hI hmono hdep hu
      subst ho
      simp only [puts, Act.put, b_, e_, d_] at hK ⊢
      refine .inl ⟨by simp only [k_, Nat.reduceAdd, e16]; rfl, ?_⟩
      clear e16
      go_simp
      exact hK.out _ _ (HI.out.step HM.out (c_ _ _) rfl rfl)
    · have ho := h_ ho
      have e19 : vs 19 = .pointer (some ⟨b2, 0, none⟩) := hI.facts 19 (hdep ⟨19, .data⟩ (by rw [← ho]; simp) rfl)
      have e16 : vs 16 = .bool true := hI.facts 16 (hdep ⟨16, .guard⟩ (by rw [← ho]; simp) rfl)
      have HI := a_ hI
      have HM := a_ hmono
      clear hI hmono hdep hu
      subst ho
      simp only [puts, Act.put, b_, e_, d_] at hK ⊢
      refine .inl ⟨by simp only [k_, Nat.reduceAdd, e16]; rfl, ?_⟩
      clear e16
      simp only [k_, Nat.reduceAdd, e19] at hK
      go_simp
      exact hK.out _ _ (HI.out.step HM.out (c_ _ _) rfl rfl)
    · have ho := h_ ho
      have e20 : vs 20 = .pointer (some ⟨b2, 0, none⟩) := hI.facts 20 (hdep ⟨20, .data⟩ (by rw [← ho]; simp) rfl)
      have e16 : vs 16 = .bool true := hI.facts 16 (hdep ⟨16, .guard⟩ (by rw [← ho]; simp) rfl)
      have HI := a_ hI
      have HM := a_ hmono
      clear hI hmono hdep hu
      subst ho
      simp only [puts, Act.put, b_, e_, d_] at hK ⊢
      refine .inl ⟨by simp only [k_, Nat.reduceAdd, e16]; rfl, ?_⟩
      clear e16
      simp only [k_, Nat.reduceAdd, e20] at hK
      go_simp
      exact hK.out _ _ (HI.out.step HM.out (c_ _ _) rfl rfl)
    · have ho := h_ ho
      have e21 : vs 21 = .pointer (some ⟨b2, 24, none⟩) := hI.facts 21 (hdep ⟨21, .data⟩ (by rw [← ho]; simp) rfl)
      have e16 : vs 16 = .bool true := hI.facts 16 (hdep ⟨16, .guard⟩ (by rw [← ho]; simp) rfl)
      obtain ⟨x0, x1, x2, x3, x4, x5, x6, x7, x8⟩ := (HQ.out.below hI.bel).cells HT.out HZ.out
      have HI := a_ hI
      have HM := a_ hmono
      clear hI hmono hdep hu
      subst ho
      simp only [puts, Act.put, b_, e_, d_] at hK ⊢
      refine .inl ⟨by simp only [k_, Nat.reduceAdd, e16]; rfl, ?_⟩
      clear e16
      simp only [k_, Nat.reduceAdd, e21] at hK
      go_simp
      exact hK.out _ _ (HI.out.step HM.out (c_ _ _) rfl rfl)
    · have ho := h_ ho
      have e22 : vs 22 = .int .i64 t := hI.facts 22 (hdep ⟨22, .data⟩ (by rw [← ho]; simp) rfl)
      have e16 : vs 16 = .bool true := hI.facts 16 (hdep ⟨16, .guard⟩ (by rw [← ho]; simp) rfl)
      have HI := a_ hI
      have HM := a_ hmono
      clear hI hmono hdep hu
      subst ho
      simp only [puts, Act.put, b_, e_, d_] at hK ⊢
      refine .inl ⟨by simp only [k_, Nat.reduceAdd, e16]; rfl, ?_⟩
      clear e16
      simp only [k_, Nat.reduceAdd, e22] at hK
      go_simp
      exact hK.out _ _ (HI.out.step HM.out (c_ _ _) rfl (R_ Value.bool HC3.out))
    · have ho := h_ ho
      have e23 : vs 23 = .bool c3 := hI.facts 23 (hdep ⟨23, .data⟩ (by rw [← ho]; simp) rfl)
      have e16 : vs 16 = .bool true := hI.facts 16 (hdep ⟨16, .guard⟩ (by rw [← ho]; simp) rfl)
      have HI := a_ hI
      have HM := a_ hmono
      clear hI hmono hdep hu
      subst ho
      simp only [puts, Act.put, b_, e_, d_] at hK ⊢
      refine .inl ⟨by simp only [k_, Nat.reduceAdd, e16]; rfl, ?_⟩
      clear e16
      simp only [k_, Nat.reduceAdd, e23] at hK
      go_simp
      exact hK.out _ _ (HI.out.step HM.out (c_ _ _) rfl rfl)
    · have ho := h_ ho
      cases c3 with
      | false =>
        have e24 : vs 24 = .bool false := hI.facts 24 (hdep ⟨24, .guard⟩ (by rw [← ho]; simp) rfl)
        subst ho
        simp only [puts, Act.put, b_, e_, d_] at hK ⊢
        exact .inr ⟨by simp only [k_, Nat.reduceAdd, e24]; rfl, hK.out _ _ (hI.step hmono (c_ _ _) rfl fun h => by cases h)⟩
      | true =>
      have e24 : vs 24 = .bool true := hI.facts 24 (hdep ⟨24, .guard⟩ (by rw [← ho]; simp) rfl)
      have HI := a_ hI
      have HM := a_ hmono
      clear hI hmono hdep hu
      subst ho
      simp only [puts, Act.put, b_, e_, d_] at hK ⊢
      refine .inl ⟨by simp only [k_, Nat.reduceAdd, e24]; rfl, ?_⟩
      clear e24
      go_simp
      exact hK.out _ _ (HI.out.step HM.out (c_ _ _) rfl (fun _ => rfl))
    · have ho := h_ ho
      cases c3 with
      | false =>
        have e24 : vs 24 = .bool false := hI.facts 24 (hdep ⟨24, .guard⟩ (by rw [← ho]; simp) rfl)
        subst ho
        simp only [puts, Act.put, b_, e_, d_] at hK ⊢
        exact .inr ⟨by simp only [k_, Nat.reduceAdd, e24]; rfl, hK.out _ _ (hI.step hmono (c_ _ _) rfl fun h => by cases h)⟩
      | true =>
      have e25 : vs 25 = .pointer (some ⟨b2, 0, none⟩) := hI.facts 25 (hdep ⟨25, .data⟩ (by rw [← ho]; simp) rfl) rfl
      have e24 : vs 24 = .bool true := hI.facts 24 (hdep ⟨24, .guard⟩ (by rw [← ho]; simp) rfl)
      have HI := a_ hI
      have HM := a_ hmono
      clear hI hmono hdep hu
      subst ho
      simp only [puts, Act.put, b_, e_, d_] at hK ⊢
      refine .inl ⟨by simp only [k_, Nat.reduceAdd, e24]; rfl, ?_⟩
      clear e24
      simp only [k_, Nat.reduceAdd, e25] at hK
      go_simp
      exact hK.out _ _ (HI.out.step HM.out (c_ _ _) rfl (fun _ => rfl))
    · have ho := h_ ho
      cases c3 with
      | false =>
        have e24 : vs 24 = .bool false := hI.facts 24 (hdep ⟨24, .guard⟩ (by rw [← ho]; simp) rfl)
        subst ho
        simp only [puts, Act.put, b_, e_, d_] at hK ⊢
        exact .inr ⟨by simp only [k_, Nat.reduceAdd, e24]; rfl, hK.out _ _ (hI.step hmono (c_ _ _) rfl fun h => by cases h)⟩
      | true =>
      have e26 : vs 26 = .pointer (some ⟨b2, 0, none⟩) := hI.facts 26 (hdep ⟨26, .data⟩ (by rw [← ho]; simp) rfl) rfl
      have e24 : vs 24 = .bool true := hI.facts 24 (hdep ⟨24, .guard⟩ (by rw [← ho]; simp) rfl)
      have HI := a_ hI
      have HM := a_ hmono
      clear hI hmono hdep hu
      subst ho
      simp only [puts, Act.put, b_, e_, d_] at hK ⊢
      refine .inl ⟨by simp only [k_, Nat.reduceAdd, e24]; rfl, ?_⟩
      clear e24
      simp only [k_, Nat.reduceAdd, e26] at hK
      go_simp
      exact hK.out _ _ (HI.out.step HM.out (c_ _ _) rfl (fun _ => rfl))
    · have ho := h_ ho
      cases c3 with
      | false =>
        have e24 : vs 24 = .bool false := hI.facts 24 (hdep ⟨24, .guard⟩ (by rw [← ho]; simp) rfl)
        subst ho
        simp only [puts, Act.put, b_, e_, d_] at hK ⊢
        exact .inr ⟨by simp only [k_, Nat.reduceAdd, e24]; rfl, hK.out _ _ (hI.step hmono (c_ _ _) rfl fun h => by cases h)⟩
      | true =>
      have e27 : vs 27 = .pointer (some ⟨b2, 27, none⟩) := hI.facts 27 (hdep ⟨27, .data⟩ (by rw [← ho]; simp) rfl) rfl
      have e24 : vs 24 = .bool true := hI.facts 24 (hdep ⟨24, .guard⟩ (by rw [← ho]; simp) rfl)
      obtain ⟨x0, x1, x2, x3, x4, x5, x6, x7, x8⟩ := (HQ.out.below hI.bel).cells HT.out HZ.out
      have HI := a_ hI
      have HM := a_ hmono
      clear hI hmono hdep hu
      subst ho
      simp only [puts, Act.put, b_, e_, d_] at hK ⊢
      refine .inl ⟨by simp only [k_, Nat.reduceAdd, e24]; rfl, ?_⟩
      clear e24
      simp only [k_, Nat.reduceAdd, e27] at hK
      go_simp
      exact hK.out _ _ (HI.out.step HM.out (c_ _ _) rfl (fun _ => rfl))
    · have ho := h_ ho
      cases c3 with
      | false =>
        have e24 : vs 24 = .bool false := hI.facts 24 (hdep ⟨24, .guard⟩ (by rw [← ho]; simp) rfl)
        subst ho
        simp only [puts, Act.put, b_, e_, d_] at hK ⊢
        exact .inr ⟨by simp only [k_, Nat.reduceAdd, e24]; rfl, hK.out _ _ (hI.step hmono (c_ _ _) rfl fun h => by cases h)⟩
      | true =>
      have e28 : vs 28 = .int .i64 z := hI.facts 28 (hdep ⟨28, .data⟩ (by rw [← ho]; simp) rfl) rfl
      have e24 : vs 24 = .bool true := hI.facts 24 (hdep ⟨24, .guard⟩ (by rw [← ho]; simp) rfl)
      have HI := a_ hI
      have HM := a_ hmono
      clear hI hmono hdep hu
      subst ho
      simp only [puts, Act.put, b_, e_, d_] at hK ⊢
      refine .inl ⟨by simp only [k_, Nat.reduceAdd, e24]; rfl, ?_⟩
      clear e24
      simp only [k_, Nat.reduceAdd, e28] at hK
      go_simp
      exact hK.out _ _ (HI.out.step HM.out (c_ _ _) rfl (fun _ => R_ Value.bool HCZ.out))
    · have ho := h_ ho
      cases c3 with
      | false =>
      have e24 : vs 24 = .bool false := hI.facts 24 (hdep ⟨24, .data⟩ (by rw [← ho]; simp) rfl)
      have e16 : vs 16 = .bool true := hI.facts 16 (hdep ⟨16, .guard⟩ (by rw [← ho]; simp) rfl)
      have HI := a_ hI
      have HM := a_ hmono
      clear hI hmono hdep hu
      subst ho
      simp only [puts, Act.put, b_, e_, d_] at hK ⊢
      refine .inl ⟨by simp only [k_, Nat.reduceAdd, e16]; rfl, ?_⟩
      clear e16
      simp only [k_, Nat.reduceAdd, e24] at hK
      go_simp
      exact hK.out _ _ (HI.out.step HM.out (c_ _ _) rfl rfl)
      | true =>
      have e24 : vs 24 = .bool true := hI.facts 24 (hdep ⟨24, .data⟩ (by rw [← ho]; simp) rfl)
      have e29 : vs 29 = .bool cz := hI.facts 29 (hdep ⟨29, .data⟩ (by rw [← ho]; simp) rfl) rfl
      have e16 : vs 16 = .bool true := hI.facts 16 (hdep ⟨16, .guard⟩ (by rw [← ho]; simp) rfl)
      have HI := a_ hI
      have HM := a_ hmono
      clear hI hmono hdep hu
      subst ho
      simp only [puts, Act.put, b_, e_, d_] at hK ⊢
      refine .inl ⟨by simp only [k_, Nat.reduceAdd, e16]; rfl, ?_⟩
      clear e16
      simp only [k_, Nat.reduceAdd, e24, e29] at hK
      go_simp
      exact hK.out _ _ (HI.out.step HM.out (c_ _ _) rfl rfl)
    · have ho := h_ ho
      have e18 : vs 18 = .bool (c3 && cz) := hI.facts 18 (hdep ⟨18, .data⟩ (by rw [← ho]; simp) rfl)
      have e30 : vs 30 = .bool (c3 && cz) := hI.facts 30 (hdep ⟨30, .data⟩ (by rw [← ho]; simp) rfl)
      have e16 : vs 16 = .bool true := hI.facts 16 (hdep ⟨16, .guard⟩ (by rw [← ho]; simp) rfl)
      have HI := a_ hI
      have HM := a_ hmono
      clear hI hmono hdep hu
      subst ho
      simp only [puts, Act.put, b_, e_, d_] at hK ⊢
      refine .inl ⟨by simp only [k_, Nat.reduceAdd, e16]; rfl, ?_⟩
      clear e16
      simp only [k_, Nat.reduceAdd, e18, e30] at hK
      go_simp
      exact hK.out _ _ (HI.out.step HM.out (c_ _ _) rfl rfl)
    · have ho := h_ ho
      have e16 : vs 16 = .bool true := hI.facts 16 (hdep ⟨16, .data⟩ (by rw [← ho]; simp) rfl)
      have e31 : vs 31 = .bool true := hI.facts 31 (hdep ⟨31, .data⟩ (by rw [← ho]; simp) rfl)
      have HI := a_ hI
      have HM := a_ hmono
      clear hI hmono hdep hu
      subst ho
      simp only [puts, Act.put, b_, e_, d_] at hK ⊢
      refine .inl ⟨rfl, ?_⟩
      simp only [k_, Nat.reduceAdd, e16, e31] at hK
      go_simp
      exact hK.out _ _ (HI.out.step HM.out (c_ _ _) rfl rfl)
    · have ho := h_ ho
      have e32 : vs 32 = .bool true := hI.facts 32 (hdep ⟨32, .data⟩ (by rw [← ho]; simp) rfl)
      have HI := a_ hI
      have HM := a_ hmono
      clear hI hmono hdep hu
      subst ho
      simp only [puts, Act.put, b_, e_, d_] at hK ⊢
      refine .inl ⟨rfl, ?_⟩
      simp only [k_, Nat.reduceAdd, e32] at hK
      go_simp
      exact hK.out _ _ (HI.out.step HM.out (c_ _ _) rfl rfl)
    · have ho := h_ ho
      have e33 : vs 33 = .bool true := hI.facts 33 (hdep ⟨33, .guard⟩ (by rw [← ho]; simp) rfl)
      obtain ⟨x0, x1, x2, x3, x4, x5, x6, x7, x8⟩ := (HQ.out.below hI.bel).cells HT.out HZ.out
      have HI := a_ hI
      have HM := a_ hmono
      clear hI hmono hdep hu
      subst ho
      simp only [puts, Act.put, b_, e_, d_] at hK ⊢
      refine .inl ⟨by simp only [k_, Nat.reduceAdd, e33]; rfl, ?_⟩
      clear e33
      go_simp
      exact hK.out _ _ (HI.out.step HM.out (c_ _ _) rfl rfl)
    · have ho := h_ ho
      have e34 : vs 34 = .agg #[.int .i64 s.a1, .int .i64 s.a2, .int .i64 s.a3] := hI.facts 34 (hdep ⟨34, .data⟩ (by rw [← ho]; simp) rfl)
      have e33 : vs 33 = .bool true := hI.facts 33 (hdep ⟨33, .guard⟩ (by rw [← ho]; simp) rfl)
      have hq := HQ.out.below hI.bel
      have HC : Hid (Calls Tryz.prog 64 #[vs 34] wx fun e w' => ∃ v, e = .returned v ∧ (fun v _ => v = .agg #[.int .i64 s.a1, .int .i64 s.a2, .int .i64 s.a3]) v w' ∧ Below wx.heap.size wx w') := by
        simp only [Hid]; rw [e34]; refine (q103 s.a1 s.a2 s.a3 _).mono ?_; rintro e w' ⟨rfl, h⟩; exact ⟨_, rfl, rfl, h⟩
      have HI := a_ hI
      have HM := a_ hmono
      clear e34 hq hI hmono hdep hu
      subst ho
      simp only [puts, Act.put, b_, e_, d_] at hK ⊢
      refine .inl ⟨by simp only [k_, Nat.reduceAdd, e33]; rfl, ?_⟩
      clear e33
      go_simp
      refine HC.out.mono ?_
      rintro e wy ⟨v, rfl, hg, hb⟩
      exact hK.out _ _ (HI.out.step HM.out hb rfl hg)
    · have ho := h_ ho
      have e33 : vs 33 = .bool true := hI.facts 33 (hdep ⟨33, .guard⟩ (by rw [← ho]; simp) rfl)
      have HI := a_ hI
      have HM := a_ hmono
      clear hI hmono hdep hu
      subst ho
      simp only [puts, Act.put, b_, e_, d_] at hK ⊢
      refine .inl ⟨by simp only [k_, Nat.reduceAdd, e33]; rfl, ?_⟩
      clear e33
      go_simp
      exact hK.out _ _ (HI.out.step HM.out (c_ _ _) rfl rfl)
    · have ho := h_ ho
      have e36 : vs 36 = .pointer (some ⟨b2, 0, none⟩) := hI.facts 36 (hdep ⟨36, .data⟩ (by rw [← ho]; simp) rfl)
      have e33 : vs 33 = .bool true := hI.facts 33 (hdep ⟨33, .guard⟩ (by rw [← ho]; simp) rfl)
      have HI := a_ hI
      have HM := a_ hmono
      clear hI hmono hdep hu
      subst ho
      simp only [puts, Act.put, b_, e_, d_] at hK ⊢
      refine .inl ⟨by simp only [k_, Nat.reduceAdd, e33]; rfl, ?_⟩
      clear e33
      simp only [k_, Nat.reduceAdd, e36] at hK
      go_simp
      exact hK.out _ _ (HI.out.step HM.out (c_ _ _) rfl rfl)
    · have ho := h_ ho
      have e37 : vs 37 = .pointer (some ⟨b2, 0, none⟩) := hI.facts 37 (hdep ⟨37, .data⟩ (by rw [← ho]; simp) rfl)
      have e33 : vs 33 = .bool true := hI.facts 33 (hdep ⟨33, .guard⟩ (by rw [← ho]; simp) rfl)
      have HI := a_ hI
      have HM := a_ hmono
      clear hI hmono hdep hu
      subst ho
      simp only [puts, Act.put, b_, e_, d_] at hK ⊢
      refine .inl ⟨by simp only [k_, Nat.reduceAdd, e33]; rfl, ?_⟩
      clear e33
      simp only [k_, Nat.reduceAdd, e37] at hK
      go_simp
      exact hK.out _ _ (HI.out.step HM.out (c_ _ _) rfl rfl)
    · have ho := h_ ho
      have e38 : vs 38 = .pointer (some ⟨b2, 11, none⟩) := hI.facts 38 (hdep ⟨38, .data⟩ (by rw [← ho]; simp) rfl)
      have e33 : vs 33 = .bool true := hI.facts 33 (hdep ⟨33, .guard⟩ (by rw [← ho]; simp) rfl)
      obtain ⟨x0, x1, x2, x3, x4, x5, x6, x7, x8⟩ := (HQ.out.below hI.bel).cells HT.out HZ.out
      have HI := a_ hI
      have HM := a_ hmono
      clear hI hmono hdep hu
      subst ho
      simp only [puts, Act.put, b_, e_, d_] at hK ⊢
      refine .inl ⟨by simp only [k_, Nat.reduceAdd, e33]; rfl, ?_⟩
      clear e33
      simp only [k_, Nat.reduceAdd, e38] at hK
      go_simp
      exact hK.out _ _ (HI.out.step HM.out (c_ _ _) rfl rfl)
    · have ho := h_ ho
      have e35 : vs 35 = .agg #[.int .i64 s.a1, .int .i64 s.a2, .int .i64 s.a3] := hI.facts 35 (hdep ⟨35, .data⟩ (by rw [← ho]; simp) rfl)
      have e39 : vs 39 = .agg #[.int .i64 s.a1, .int .i64 s.a2, .int .i64 s.a3] := hI.facts 39 (hdep ⟨39, .data⟩ (by rw [← ho]; simp) rfl)
      have e33 : vs 33 = .bool true := hI.facts 33 (hdep ⟨33, .guard⟩ (by rw [← ho]; simp) rfl)
      have HI := a_ hI
      have HM := a_ hmono
      clear hI hmono hdep hu
      subst ho
      simp only [puts, Act.put, b_, e_, d_] at hK ⊢
      refine .inl ⟨by simp only [k_, Nat.reduceAdd, e33]; rfl, ?_⟩
      clear e33
      simp only [k_, Nat.reduceAdd, e35, e39] at hK
      go_simp
      exact hK.out _ _ (HI.out.step HM.out (c_ _ _) rfl rfl)
    · have ho := h_ ho
      have e33 : vs 33 = .bool true := hI.facts 33 (hdep ⟨33, .data⟩ (by rw [← ho]; simp) rfl)
      have e40 : vs 40 = .bool true := hI.facts 40 (hdep ⟨40, .data⟩ (by rw [← ho]; simp) rfl)
      have HI := a_ hI
      have HM := a_ hmono
      clear hI hmono hdep hu
      subst ho
      simp only [puts, Act.put, b_, e_, d_] at hK ⊢
      refine .inl ⟨rfl, ?_⟩
      simp only [k_, Nat.reduceAdd, e33, e40] at hK
      go_simp
      exact hK.out _ _ (HI.out.step HM.out (c_ _ _) rfl rfl)
    · have ho := h_ ho
      have e41 : vs 41 = .bool true := hI.facts 41 (hdep ⟨41, .data⟩ (by rw [← ho]; simp) rfl)
      have HI := a_ hI
      have HM := a_ hmono
      clear hI hmono hdep hu
      subst ho
      simp only [puts, Act.put, b_, e_, d_] at hK ⊢
      refine .inl ⟨rfl, ?_⟩
      simp only [k_, Nat.reduceAdd, e41] at hK
      go_simp
      exact hK.out _ _ (HI.out.step HM.out (c_ _ _) rfl rfl)
    · have ho := h_ ho
      have e42 : vs 42 = .bool true := hI.facts 42 (hdep ⟨42, .guard⟩ (by rw [← ho]; simp) rfl)
      have HI := a_ hI
      have HM := a_ hmono
      clear hI hmono hdep hu
      subst ho
      simp only [puts, Act.put, b_, e_, d_] at hK ⊢
      refine .inl ⟨by simp only [k_, Nat.reduceAdd, e42]; rfl, ?_⟩
      clear e42
      go_simp
      exact hK.out _ _ (HI.out.step HM.out (c_ _ _) rfl rfl)
    · have ho := h_ ho
      have e43 : vs 43 = .pointer (some ⟨b, 0, none⟩) := hI.facts 43 (hdep ⟨43, .data⟩ (by rw [← ho]; simp) rfl)
      have e42 : vs 42 = .bool true := hI.facts 42 (hdep ⟨42, .guard⟩ (by rw [← ho]; simp) rfl)
      have hq := HQ.out.below hI.bel
      have HC : Hid (Calls Tryz.prog 39 #[vs 43] wx fun e w' => ∃ v, e = .returned v ∧ (fun v w' => ∃ A c, v = .agg #[.slice A s.needS.length c] ∧ Sp w' A c s.needS) v w' ∧ Below wx.heap.size wx w') := by
        simp only [Hid]; rw [e43]; refine (HND _ hq.both.p).out.mono ?_; rintro e w' ⟨A, c, rfl, h1, _, h2⟩; exact ⟨_, rfl, ⟨A, c, rfl, h1⟩, h2⟩
      have HI := a_ hI
      have HM := a_ hmono
      clear e43 hq hI hmono hdep hu
      subst ho
      simp only [puts, Act.put, b_, e_, d_] at hK ⊢
      refine .inl ⟨by simp only [k_, Nat.reduceAdd, e42]; rfl, ?_⟩
      clear e42
      go_simp
      refine HC.out.mono ?_
      rintro e wy ⟨v, rfl, hg, hb⟩
      exact hK.out _ _ (HI.out.step HM.out hb rfl hg)
    · have ho := h_ ho
      have e42 : vs 42 = .bool true := hI.facts 42 (hdep ⟨42, .guard⟩ (by rw [← ho]; simp) rfl)
      obtain ⟨A5, c5, e44, h5⟩ : ∃ A c, vs 44 = .agg #[.slice A s.needS.length c] ∧ Sp wx A c s.needS := hI.facts 44 (hdep ⟨44, .data⟩ (by rw [← ho]; simp) rfl)
      have hq := HQ.out.below hI.bel
      have HC : Hid (Calls Tryz.prog 20 #[vs 44] wx fun e w' => ∃ v, e = .returned v ∧ (fun v w' => ∃ A c, v = .slice A s.needS.length c ∧ Sp w' A c s.needS) v w' ∧ Below wx.heap.size wx w') := by
        simp only [Hid]; rw [e44]; refine (q100 A5 c5 s.needS _ h5 HNC.out).mono ?_; rintro e w' ⟨A, c, rfl, h1, h2⟩; exact ⟨_, rfl, ⟨A, c, rfl, h1.sp⟩, h2⟩
      have HI := a_ hI
      have HM := a_ hmono
      clear e44 h5 hq hI hmono hdep hu
      subst ho
      simp only [puts, Act.put, b_, e_, d_] at hK ⊢
      refine .inl ⟨by simp only [k_, Nat.reduceAdd, e42]; rfl, ?_⟩
      clear e42
      go_simp
      refine HC.out.mono ?_
      rintro e wy ⟨v, rfl, hg, hb⟩
      exact hK.out _ _ (HI.out.step HM.out hb rfl hg)
    · have ho := h_ ho
      have e42 : vs 42 = .bool true := hI.facts 42 (hdep ⟨42, .guard⟩ (by rw [← ho]; simp) rfl)
      have HI := a_ hI
      have HM := a_ hmono
      clear hI hmono hdep hu
      subst ho
      simp only [puts, Act.put, b_, e_, d_] at hK ⊢
      refine .inl ⟨by simp only [k_, Nat.reduceAdd, e42]; rfl, ?_⟩
      clear e42
      go_simp
      exact hK.out _ _ (HI.out.step HM.out (c_ _ _) rfl rfl)
    · have ho := h_ ho
      have e46 : vs 46 = .pointer (some ⟨b2, 0, none⟩) := hI.facts 46 (hdep ⟨46, .data⟩ (by rw [← ho]; simp) rfl)
      have e42 : vs 42 = .bool true := hI.facts 42 (hdep ⟨42, .guard⟩ (by rw [← ho]; simp) rfl)
      have hq := HQ.out.below hI.bel
      have HC : Hid (Calls Tryz.prog 80 #[vs 46] wx fun e w' => ∃ v, e = .returned v ∧ (fun v w' => ∃ A c, v = .slice A s.needS.length c ∧ Sp w' A c s.needS) v w' ∧ Below wx.heap.size wx w') := by
        simp only [Hid]; rw [e46]; refine (HXD _ hq.both.d).out.mono ?_; rintro e w' ⟨A, c, rfl, h1, h2⟩; exact ⟨_, rfl, ⟨A, c, rfl, h1.sp⟩, h2⟩
      have HI := a_ hI
      have HM := a_ hmono
      clear e46 hq hI hmono hdep hu
      subst ho
      simp only [puts, Act.put, b_, e_, d_] at hK ⊢
      refine .inl ⟨by simp only [k_, Nat.reduceAdd, e42]; rfl, ?_⟩
      clear e42
      go_simp
      refine HC.out.mono ?_
      rintro e wy ⟨v, rfl, hg, hb⟩
      exact hK.out _ _ (HI.out.step HM.out hb rfl hg)
    · have ho := h_ ho
      have e42 : vs 42 = .bool true := hI.facts 42 (hdep ⟨42, .guard⟩ (by rw [← ho]; simp) rfl)
      obtain ⟨A5, c5, e45, h5⟩ : ∃ A c, vs 45 = .slice A s.needS.length c ∧ Sp wx A c s.needS := hI.facts 45 (hdep ⟨45, .data⟩ (by rw [← ho]; simp) rfl)
      obtain ⟨A6, c6, e47, h6⟩ : ∃ A c, vs 47 = .slice A s.needS.length c ∧ Sp wx A c s.needS := hI.facts 47 (hdep ⟨47, .data⟩ (by rw [← ho]; simp) rfl)
      have hq := HQ.out.below hI.bel
      have HC : Hid (Calls Tryz.prog 79 #[vs 45, vs 47] wx fun e w' => ∃ v, e = .returned v ∧ (fun v _ => v = .bool true) v w' ∧ Below wx.heap.size wx w') := by
        simp only [Hid]; rw [e45, e47]; refine (k139 A5 c5 s.needS A6 c6 s.needS _ h5 h6 HNC.out).mono ?_; rintro e w' ⟨rfl, k, rfl⟩; exact ⟨_, rfl, by simp, q15 (c_ _ _) k⟩
      have HI := a_ hI
      have HM := a_ hmono
      clear e45 e47 h5 h6 hq hI hmono hdep hu
      subst ho
      simp only [puts, Act.put, b_, e_, d_] at hK ⊢
      refine .inl ⟨by simp only [k_, Nat.reduceAdd, e42]; rfl, ?_⟩
      clear e42
      go_simp
      refine HC.out.mono ?_
      rintro e wy ⟨v, rfl, hg, hb⟩
      exact hK.out _ _ (HI.out.step HM.out hb rfl hg)
    · have ho := h_ ho
      have e42 : vs 42 = .bool true := hI.facts 42 (hdep ⟨42, .data⟩ (by rw [← ho]; simp) rfl)
      have e48 : vs 48 = .bool true := hI.facts 48 (hdep ⟨48, .data⟩ (by rw [← ho]; simp) rfl)
      have HI := a_ hI
      have HM := a_ hmono
      clear hI hmono hdep hu
      subst ho
      simp only [puts, Act.put, b_, e_, d_] at hK ⊢
      refine .inl ⟨rfl, ?_⟩
      simp only [k_, Nat.reduceAdd, e42, e48] at hK
      go_simp
      exact hK.out _ _ (HI.out.step HM.out (c_ _ _) rfl rfl)
    · have ho := h_ ho
      have e49 : vs 49 = .bool true := hI.facts 49 (hdep ⟨49, .data⟩ (by rw [← ho]; simp) rfl)
      have HI := a_ hI
      have HM := a_ hmono
      clear hI hmono hdep hu
      subst ho
      simp only [puts, Act.put, b_, e_, d_] at hK ⊢
      refine .inl ⟨rfl, ?_⟩
      simp only [k_, Nat.reduceAdd, e49] at hK
      go_simp
      exact hK.out _ _ (HI.out.step HM.out (c_ _ _) rfl rfl)
    · omega
  intro li vs w6 hall hI
  have e50 : vs 50 = .bool true := hI.facts 50 (hall 50 (by decide))
  have HB6 := a_ (q12 hI.bel HBD.out)
  clear hall hI
  simp only [puts, Act.put, b_, e_, d_, k_, Nat.reduceAdd]
  rw [e50]
  generalize vs 0 = y0
  generalize vs 1 = y1
  generalize vs 2 = y2
  generalize vs 3 = y3
  generalize vs 4 = y4
  generalize vs 5 = y5
  generalize vs 6 = y6
  generalize vs 7 = y7
  generalize vs 8 = y8
  generalize vs 9 = y9
  generalize vs 10 = y10
  generalize vs 11 = y11
  generalize vs 12 = y12
  generalize vs 13 = y13
  generalize vs 14 = y14
  generalize vs 15 = y15
  generalize vs 16 = y16
  generalize vs 17 = y17
  generalize vs 18 = y18
  generalize vs 19 = y19
  generalize vs 20 = y20
  generalize vs 21 = y21
  generalize vs 22 = y22
  generalize vs 23 = y23
  generalize vs 24 = y24
  generalize vs 25 = y25
  generalize vs 26 = y26
  generalize vs 27 = y27
  generalize vs 28 = y28
  generalize vs 29 = y29
  generalize vs 30 = y30
  generalize vs 31 = y31
  generalize vs 32 = y32
  generalize vs 33 = y33
  generalize vs 34 = y34
  generalize vs 35 = y35
  generalize vs 36 = y36
  generalize vs 37 = y37
  generalize vs 38 = y38
  generalize vs 39 = y39
  generalize vs 40 = y40
  generalize vs 41 = y41
  generalize vs 42 = y42
  generalize vs 43 = y43
  generalize vs 44 = y44
  generalize vs 45 = y45
  generalize vs 46 = y46
  generalize vs 47 = y47
  generalize vs 48 = y48
  generalize vs 49 = y49
  clear e50
  go_wp2_with fail
  go_ret
  exact ⟨rfl, HB6.out⟩
theorem k167{L T R:List w17}(h:w13 L T=some R)(k:Nat):∃M,w13 L (T.take k)=some M∧w13 M (T.drop k)=some R:=by
 induction T generalizing L k with
  |nil=>exact⟨L,by simp[w13],by simpa[w13]using h⟩
  |cons p T ih=>
   cases k with
    |zero=>exact⟨L,by simp[w13],h⟩
    |succ k=>
     cases L with
      |nil=>simp[w13]at h
      |cons x r=>
       simp only[w13]at h;cases hs:step1 x r p with
        |none=>rw[hs]at h;cases h
        |some L2=>rw[hs]at h;obtain⟨M,h1,h2⟩:=ih h k;exact⟨M,by simp only[List.take_succ_cons,w13,hs];exact h1,h2⟩
theorem w167{L T R M:List w17}(h:w13 L T=some R){k:Nat}(hk:k<T.length)(hM:w13 L (T.take k)=some M):∃q r M',M=q::r∧step1 q r T[k]=some M'∧w13 L (T.take (k+1))=some M':=by
 obtain⟨M2,h1,h2⟩:=k167 h k;rw[hM]at h1;injection h1 with h1;subst h1;rw[ad_ hk]at h2;cases M with
  |nil=>simp[w13]at h2
  |cons q r=>
   simp only[w13]at h2;cases hs:step1 q r T[k]with
    |none=>rw[hs]at h2;cases h2
    |some L2=>refine⟨q,r,L2,rfl,hs,?_⟩;rw[m_ hk,y146,hM];simp[w13,hs]
structure BRow(base:Nat)(w:World)(A:Option Addr)(c:Nat)(M:List w17):Prop where
 sp:SpG j18 3 w A c M
 own:M≠[]→∃g off C,A=some ⟨g,off,none⟩∧w.heap[g]?=some (.cells C 82 (0,0))∧base≤g
theorem BRow.below{base c:Nat}{w w':World}{A:Option Addr}{M:List w17}(h:BRow base w A c M)(hb:Below w.heap.size w w'):BRow base w' A c M:=⟨h.sp.below hb,fun hn=>by obtain⟨g,off,C,h1,h2,h3⟩:=h.own hn;exact⟨g,off,C,h1,j3 hb h2,h3⟩⟩
theorem q166{w:World}{g off c:Nat}{C:Array Value}{p:w17}{r:List w17}(hb:w.heap[g]?=some (.cells C 82 (0,0)))(h:SpG j18 3 w (some ⟨g,off,none⟩) c (p::r))(t:List UInt8)(y1 y2:Int):SpG j18 3 (((w.setCell ⟨g,off,none⟩ (.string ⟨t.toArray⟩)).setCell ⟨g,off+1,none⟩ (.int .i64 y1)).setCell ⟨g,off+2,none⟩ (.int .i64 y2)) (some ⟨g,off,none⟩) c ((t,(y1,y2))::r):=by obtain⟨t0,x1,x2⟩:=p;have h1:=w158 (t':=t) hb h;have hb1:=j15 (i:=off) (v:=.string ⟨t.toArray⟩) hb;have h2:=q159 (y:=y1) hb1 h1;have hb2:=j15 (i:=off+1) (v:=.int .i64 y1) hb1;have h3:=z98 (L':=(t,(y1,y2))::r) (k:=0) (j:=2) (v:=.int .i64 y2) hb2 h2 rfl (by simp) (by omega) (fun i hi hne=>by cases i with|zero=>exact absurd rfl hne|succ i=>rfl) (fun j' u hu=>by match j',hu with|0,hu=>right;exact⟨by omega,by simpa[j18]using hu⟩|1,hu=>right;exact⟨by omega,by simpa[j18]using hu⟩|2,hu=>left;simp[j18]at hu;exact⟨rfl,hu.symm⟩|j'+3,hu=>simp[j18]at hu);simpa using h3
theorem j166{w:World}{g off:Nat}(a b c:Value):Mut [g] w (((w.setCell ⟨g,off,none⟩ a).setCell ⟨g,off+1,none⟩ b).setCell ⟨g,off+2,none⟩ c):=.set (by simp) _ (.set (by simp) _ (.set (by simp) _ (.refl _ _)))
theorem v166{w:World}{g off:Nat}{C:Array Value}{T:TypeId}(h:w.heap[g]?=some (.cells C T (0,0)))(a b c:Value):∃C',(((w.setCell ⟨g,off,none⟩ a).setCell ⟨g,off+1,none⟩ b).setCell ⟨g,off+2,none⟩ c).heap[g]?=some (.cells C' T (0,0)):=⟨_,j15 (j15 (j15 h))⟩
theorem x164{base c:Nat}{w:World}{g off:Nat}{C:Array Value}{p:w17}{r:List w17}{A7:Option Addr}(hg:base≤g)(h:SpG j18 3 w (some ⟨g,off,none⟩) c (p::r)∧w.heap[g]?=some (.cells C 82 (0,0)))(hA:(if c=1 then some (⟨g,off,none⟩:Addr)else some ⟨g,off+3,none⟩)=A7):BRow base w A7 (c-1) r:=by
 subst hA;refine⟨h.1.of_tail,fun _=>?_⟩;split;·exact⟨g,off,C,rfl,h.2,hg⟩
 ·exact⟨g,off+3,C,rfl,h.2,hg⟩
theorem x165(A:Option Addr)(c:Nat)(L:List w17)(B:Option Addr)(d:Nat)(T:List w17)(all:Bool)(R:List w17)(w:World)(hA:SpG j18 3 w A c L)(hB:SpG j18 3 w B d T)(hb:w13 L T=some R)(hall:all=true→R=[])(hl:L.length≤10000)(ht:T.length≤10000):Calls Tryz.prog 36 #[.slice A L.length c,.slice B T.length d,.bool all] w fun e w'=>e=.returned (.bool true)∧Below w.heap.size w w':=by
 have HA:=a_ hA;have HB:=a_ hB;have HBG:=a_ hb;have HAL:=a_ hall;have HLL:=a_ hl;have HTL:=a_ ht;clear hA hB hb hall;go_enter Tryz.func36,Tryz.ntmps36;go_upto_region 3 with(at_builtin;refine k30 (w0:=w) elemPt rfl (.tmp 11) (.tmp 12) rfl none 0 [] rfl (OwnG.nil _ _) A c L rfl HA.out (by simp;omega) (c_ _ _) ?_;intro A1 c1 w1 hown hbw _);have HR1:Hid (BRow w.heap.size w1 A1 c1 L):=by have ho:OwnG 82 j18 3 w1 w.heap.size A1 c1 L:=hown;refine⟨(OwnG.spt elemPt.len ho).sp,fun hn=>?_⟩;obtain⟨g,h1,h2,h3⟩:=prow_of ho hn;obtain⟨g',off,C,e1,e2,e3⟩:=(h3 [g] (by simp)).own (bb_.2 hn);rw[G_]at e3;exact⟨g',off,C,e1,e2,by rw[e3];exact h1⟩
 have HB1:=a_ hbw;clear hown hbw hl;go_wp2_with fail;go_loopw[7,9,10,16](fun v _ _ i wr=>∃(k n:Nat)(A':Option Addr)(c':Nat)(M:List w17),k≤T.length∧i=.int .i64 (k:Int)∧v=.slice A' n c'∧n=M.length∧BRow w.heap.size wr A' c' M∧M.length≤10000∧w13 L (T.take k)=some M∧Below w.heap.size w wr)(fun _ _ _ i _=>T.length-(intOf i).toNat);case atStart=>exact⟨0,_,A1,c1,L,s_ _,rfl,rfl,rfl,HR1.out,HLL.out,by simp[w13],HB1.out⟩
 case round=>
  obtain⟨k,n,A',c',M,hk,rfl,rfl,rfl,hrow,hml,hM,hbw⟩:=hrel;by_cases hlt:k<T.length;·
   obtain⟨q,r,M',rfl,hs,hM'⟩:=w167 HBG.out hlt hM;obtain⟨bt,ot,e,hbt,hc⟩:=(HB.out.below hbw).at' k hlt;subst e;obtain⟨g,off,C,rfl,hg,hgb⟩:=hrow.own (by simp);have HM':=a_ hM';have HG:=a_ hg;have HGB:=a_ hgb;have HROW:=a_ hrow.sp;have HBW:=a_ hbw;have HLT:=a_ hlt;have hk20:T.length≤10000:=ht;have hkk:(k:Int)<(T.length:Int):=by omega
   have hk0:(0:Int)≤(k:Int):=by omega
   simp only[g_]at hml;have HRL:Hid (r.length≤9999):=by simp only[Hid];omega
   generalize T[k]=p at hc hs;obtain⟨pt,p1,p2⟩:=p;obtain⟨qt,x1,x2⟩:=q;have t0:=hc 0 (.string ⟨pt.toArray⟩) rfl;have t1:=hc 1 (.int .i64 p1) rfl;have t2:=hc 2 (.int .i64 p2) rfl;have HS:=a_ hs;simp only[M_]at t0 t1 t2;clear hc hM' hM hg hgb hrow hbw hs hml;go_upto_region 6 with fail;obtain⟨W2,hW2,P2,HB2⟩:=box1 wr #[.string ⟨pt.toArray⟩,.int .i64 p1,.int .i64 p2] 82;rw[hW2];clear hW2 t0 t1 t2;have hr0:¬((r.length:Int)+1=0):=by omega
   have G2:=a_ (j3 HB2.out HG.out);have R2:=a_ (HROW.out.below HB2.out);have d0:W2.cell? ⟨g,off,none⟩=some (.string ⟨qt.toArray⟩):=by have:=R2.out.cell (k:=0) (j:=0) (v:=.string ⟨qt.toArray⟩) (by simp) rfl;simpa using this
   have d1:W2.cell? ⟨g,off+1,none⟩=some (.int .i64 x1):=by have:=R2.out.cell (k:=0) (j:=1) (v:=.int .i64 x1) (by simp) rfl;simpa using this
   have d2:W2.cell? ⟨g,off+2,none⟩=some (.int .i64 x2):=by have:=R2.out.cell (k:=0) (j:=2) (v:=.int .i64 x2) (by simp) rfl;simpa using this
   have dz:=q14 G2.out;have hn1:(0:Int)<(r.length:Int)+1:=by omega
   go_upto_region 13 with fail;obtain⟨W3,hW3,Q3,HB3⟩:=box1 W2 #[.string ⟨qt.toArray⟩,.int .i64 x1,.int .i64 x2] 82;rw[hW3];clear hW3 d0 d1 d2 dz hr0;have P3:=a_ (j3 HB3.out P2.out);have G3:=a_ (j3 HB3.out G2.out);have R3:=a_ (R2.out.below HB3.out);have HBX:Hid (Below w.heap.size w W3):=q12 HB3.out (q12 HB2.out HBW.out);have HGQ:Hid (g<W2.heap.size∧wr.heap.size<W2.heap.size):=⟨q14 G2.out,q14 P2.out⟩;clear P2 G2 R2 HB3 HB2 HG HROW;obtain⟨p0,p1',p2'⟩:=bc3 P3.out rfl rfl rfl;have pz:=q14 P3.out;obtain⟨y0,y1,y2⟩:=bc3 Q3.out rfl rfl rfl;have yf0:=q13 (i:=0) Q3.out;have yf1:=q13 (i:=1) Q3.out;have yz:=q14 Q3.out;have hs:=HS.out;unfold step1 at hs;by_cases hqt:qt=[];·
    subst hqt;rw[B_ rfl]at hs;split at hs;rotate_left;·cases hs
    ·next hc=>
      obtain⟨e1,e2,e3,e4⟩:=hc;simp only at e1 e2 e3 e4;subst e1 e2;injection hs with hs;have HMN:Hid (w13 L (T.take (k+1))=some (if p2=x2 then r else([],(p2,x2))::r)):=by rw[hs];exact HM'.out
      have h3:¬x2<p2:=by omega
      have h4:¬p2≤p1:=by omega
      have h5:¬p1≥p2:=by omega
      clear hs HS HM' e3 e4;go_upto_region 9 with fail;go_upto_region 10 with fail;obtain⟨W4,hW4⟩:∃W,W3.setCell ⟨W2.heap.size,1,none⟩ (.int .i64 p2)=W:=⟨_,rfl⟩;have Q4:Hid (W4.heap[W2.heap.size]?=some (.cells #[.string ⟨#[]⟩,.int .i64 p2,.int .i64 x2] 82 (0,0))):=by rw[←hW4];exact j15 Q3.out
      have M4:Hid (Mut [W2.heap.size] W3 W4):=by rw[←hW4];exact Mut.set (by simp) _ (Mut.refl _ _)
      have hge:g≠W2.heap.size:=by have:=HGQ.out.1;omega
      have G4:=a_ (M4.out.blk _ _ G3.out (by simpa using hge));have R4:=a_ (R3.out.mut (S:=[W2.heap.size]) (fun _ a ha=>by injection ha with ha;rw[←ha];simpa using hge) M4.out);have P4:=a_ (M4.out.blk _ _ P3.out (by have:=HGQ.out.2;simp;omega));have HB4:Hid (Below w.heap.size w W4):=by rw[←hW4];exact w14 HBX.out (ag_ HBW.out.size (Nat.le_of_lt HGQ.out.2)) _
      rw[hW4];clear hW4 M4 hge p0 p1' p2' pz y0 y1 y2 yf0 yf1 yz Q3 G3 R3 P3 HBX;obtain⟨y0,y1,y2⟩:=bc3 Q4.out rfl rfl rfl;have yz:=q14 Q4.out;by_cases he:p2=x2;·
       have HMR:Hid (w13 L (T.take (k+1))=some r):=by have h:=HMN.out;rw[B_ he]at h;exact h
       clear HMN h3 h4 h5;subst he;have hcl:(r.length:Int)+1≤(c':Int):=by have:=R4.out.le;simp only[g_]at this;omega
       go_wp2_with fail;obtain⟨A7,hA7⟩:∃A:Option Addr,(if c'=1 then some (⟨g,off,none⟩:Addr)else some ⟨g,off+3,none⟩)=A:=⟨_,rfl⟩;rw[hA7];go_roundw;case rel=>exact⟨k+1,r.length,A7,c'-1,r,by have:=HLT.out;omega,by go_num,by simp,rfl,x164 HGB.out ⟨R4.out,G4.out⟩ hA7,by have:=HRL.out;omega,HMR.out,HB4.out⟩
       case measure=>simp[intOf];have:=HLT.out;omega
      ·have HMR:Hid (w13 L (T.take (k+1))=some (([],(p2,x2))::r)):=by have h:=HMN.out;rw[w_ he]at h;exact h
       clear HMN h3 h4 h5;have hhe:Hid (p2≠x2):=he;have d0:W4.cell? ⟨g,off,none⟩=some (.string ⟨([]:List UInt8).toArray⟩):=by have:=R4.out.cell (k:=0) (j:=0) (v:=.string ⟨([]:List UInt8).toArray⟩) (by simp) rfl;simpa using this
       have d1:W4.cell? ⟨g,off+1,none⟩=some (.int .i64 p1):=by have:=R4.out.cell (k:=0) (j:=1) (v:=.int .i64 p1) (by simp) rfl;simpa using this
       have d2:W4.cell? ⟨g,off+2,none⟩=some (.int .i64 x2):=by have:=R4.out.cell (k:=0) (j:=2) (v:=.int .i64 x2) (by simp) rfl;simpa using this
       have gf0:W4.frozen? ⟨g,off,none⟩=false:=q13 G4.out;have gf1:W4.frozen? ⟨g,off+1,none⟩=false:=q13 G4.out;have gf2:W4.frozen? ⟨g,off+2,none⟩=false:=q13 G4.out;have gz:=q14 G4.out;go_wp2_with fail;obtain⟨C7,hC7⟩:=v166 G4.out (off:=off) (.string ⟨([]:List UInt8).toArray⟩) (.int .i64 p2) (.int .i64 x2);have hR7:=q166 G4.out R4.out ([]:List UInt8) p2 x2;have hB7:=HB4.out.trans ((j166 (w:=W4) (g:=g) (off:=off) (.string ⟨([]:List UInt8).toArray⟩) (.int .i64 p2) (.int .i64 x2)).below (n:=w.heap.size) (by have:=HGB.out;simpa using this) HB4.out.size);go_roundw;case rel=>exact⟨k+1,r.length+1,some ⟨g,off,none⟩,c',(([]:List UInt8),(p2,x2))::r,by have:=HLT.out;omega,by go_num,by simp,by simp,⟨hR7,fun _=>⟨g,off,C7,rfl,hC7,HGB.out⟩⟩,by have:=HRL.out;simp only[g_];omega,HMR.out,hB7⟩
       case measure=>simp[intOf];have:=HLT.out;omega
   ·rw[w_ hqt]at hs;split at hs;rotate_left;·cases hs
    ·next hc=>
      obtain⟨e1,e2,e3⟩:=hc;simp only at e1 e2 e3;injection hs with hs;obtain⟨v,hv⟩:∃v,qt.drop pt.length=v:=⟨_,rfl⟩;have HMN:Hid (w13 L (T.take (k+1))=some (if v=[]then r else(v,(x1,x2))::r)):=by rw[←hv,hs];exact HM'.out
      have hte:qt.isEmpty=false:=au_.2 hqt;have hpe:pt.isEmpty=false:=au_.2 e1;have hsz1:(⟨pt.toArray⟩:ByteArray).size=pt.length:=q19 pt;have hsz2:(⟨qt.toArray⟩:ByteArray).size=qt.length:=q19 qt;have hle:¬(qt.length:Int)<(pt.length:Int):=by omega
      have hN0:(0:Int)≤(pt.length:Int):=by omega
      have hN1:(pt.length:Int)≤(qt.length:Int):=by omega
      have ex1:(⟨qt.toArray⟩:ByteArray).extract 0 pt.length=⟨pt.toArray⟩:=by rw[y62];simp[e3]
      have ex2:(⟨qt.toArray⟩:ByteArray).extract pt.length qt.length=⟨v.toArray⟩:=by rw[y62,←hv,t_ (by simp)]
      clear hs HS HM' e1 e2 e3 hqt hv;go_upto_region 14 with fail;go_quiet(fail);obtain⟨W9,hW9⟩:∃W,W3.drewN nq=W:=⟨_,rfl⟩;have hb9:Below W3.heap.size W3 W9:=by rw[←hW9];exact q15 (c_ _ _) _
      rw[hW9];have Q9:=a_ (j3 hb9 Q3.out);have G9:=a_ (j3 hb9 G3.out);have R9:=a_ (R3.out.below hb9);have P9:=a_ (j3 hb9 P3.out);have HB9:=a_ (q12 hb9 HBX.out);clear hW9 hb9 p0 p1' p2' pz y0 y1 y2 yf0 yf1 yz Q3 G3 R3 P3 HBX;obtain⟨p0,p1',p2'⟩:=bc3 P9.out rfl rfl rfl;have pz:=q14 P9.out;obtain⟨y0,y1,y2⟩:=bc3 Q9.out rfl rfl rfl;have yf0:=q13 (i:=0) Q9.out;have yf1:=q13 (i:=1) Q9.out;have yz:=q14 Q9.out;go_upto_region 17 with fail;obtain⟨W4,hW4⟩:∃W,W9.setCell ⟨W2.heap.size,0,none⟩ (.string ⟨v.toArray⟩)=W:=⟨_,rfl⟩;have Q4:Hid (W4.heap[W2.heap.size]?=some (.cells #[.string ⟨v.toArray⟩,.int .i64 x1,.int .i64 x2] 82 (0,0))):=by rw[←hW4];exact j15 Q9.out
      have M4:Hid (Mut [W2.heap.size] W9 W4):=by rw[←hW4];exact Mut.set (by simp) _ (Mut.refl _ _)
      have hge:g≠W2.heap.size:=by have:=HGQ.out.1;omega
      have G4:=a_ (M4.out.blk _ _ G9.out (by simpa using hge));have R4:=a_ (R9.out.mut (S:=[W2.heap.size]) (fun _ a ha=>by injection ha with ha;rw[←ha];simpa using hge) M4.out);have P4:=a_ (M4.out.blk _ _ P9.out (by have:=HGQ.out.2;simp;omega));have HB4:Hid (Below w.heap.size w W4):=by rw[←hW4];exact w14 HB9.out (ag_ HBW.out.size (Nat.le_of_lt HGQ.out.2)) _
      rw[hW4];clear hW4 M4 hge p0 p1' p2' pz y0 y1 y2 yf0 yf1 yz Q9 G9 R9 P9 HB9;obtain⟨y0,y1,y2⟩:=bc3 Q4.out rfl rfl rfl;have yz:=q14 Q4.out;cases hve:v.isEmpty with
       |true=>
        have HMR:Hid (w13 L (T.take (k+1))=some r):=by have h:=HMN.out;rw[B_ (aJ_.1 hve)]at h;exact h
        clear HMN;have hcl:(r.length:Int)+1≤(c':Int):=by have:=R4.out.le;simp only[g_]at this;omega
        go_wp2_with fail;obtain⟨A7,hA7⟩:∃A:Option Addr,(if c'=1 then some (⟨g,off,none⟩:Addr)else some ⟨g,off+3,none⟩)=A:=⟨_,rfl⟩;rw[hA7];go_roundw;case rel=>exact⟨k+1,r.length,A7,c'-1,r,by have:=HLT.out;omega,by go_num,by simp,rfl,x164 HGB.out ⟨R4.out,G4.out⟩ hA7,by have:=HRL.out;omega,HMR.out,HB4.out⟩
        case measure=>simp[intOf];have:=HLT.out;omega
       |false=>
        have HMR:Hid (w13 L (T.take (k+1))=some ((v,(x1,x2))::r)):=by have h:=HMN.out;rw[w_ (au_.1 hve)]at h;exact h
        clear HMN;have d0:W4.cell? ⟨g,off,none⟩=some (.string ⟨qt.toArray⟩):=by have:=R4.out.cell (k:=0) (j:=0) (v:=.string ⟨qt.toArray⟩) (by simp) rfl;simpa using this
        have d1:W4.cell? ⟨g,off+1,none⟩=some (.int .i64 x1):=by have:=R4.out.cell (k:=0) (j:=1) (v:=.int .i64 x1) (by simp) rfl;simpa using this
        have d2:W4.cell? ⟨g,off+2,none⟩=some (.int .i64 x2):=by have:=R4.out.cell (k:=0) (j:=2) (v:=.int .i64 x2) (by simp) rfl;simpa using this
        have gf0:W4.frozen? ⟨g,off,none⟩=false:=q13 G4.out;have gf1:W4.frozen? ⟨g,off+1,none⟩=false:=q13 G4.out;have gf2:W4.frozen? ⟨g,off+2,none⟩=false:=q13 G4.out;have gz:=q14 G4.out;go_wp2_with fail;obtain⟨C7,hC7⟩:=v166 G4.out (off:=off) (.string ⟨v.toArray⟩) (.int .i64 x1) (.int .i64 x2);have hR7:=q166 G4.out R4.out v x1 x2;have hB7:=HB4.out.trans ((j166 (w:=W4) (g:=g) (off:=off) (.string ⟨v.toArray⟩) (.int .i64 x1) (.int .i64 x2)).below (n:=w.heap.size) (by have:=HGB.out;simpa using this) HB4.out.size);go_roundw;case rel=>exact⟨k+1,r.length+1,some ⟨g,off,none⟩,c',(v,(x1,x2))::r,by have:=HLT.out;omega,by go_num,by simp,by simp,⟨hR7,fun _=>⟨g,off,C7,rfl,hC7,HGB.out⟩⟩,by have:=HRL.out;simp only[g_];omega,HMR.out,hB7⟩
        case measure=>simp[intOf];have:=HLT.out;omega
  ·have hke:k=T.length:=by omega
   rw[hke,U_]at hM;have hRM:M=R:=by have h:=HBG.out;rw[hM]at h;injection h
   have HBW:=a_ hbw;have hkk:¬(k:Int)<(T.length:Int):=by omega
   subst hRM;clear hM hrow hbw;cases all with
    |false=>go_wp2_with fail;go_ret;exact⟨rfl,HBW.out⟩
    |true=>have:=HAL.out rfl;subst this;go_wp2_with fail;go_ret;exact⟨rfl,HBW.out⟩
end Go.Proofs.YtbphndihjdiiiaaGreatDoor
