/- Contracts of the document's Counts and with. -/
import Derived.Test.YtkkomffmnafjkaaGreatDoorZJ9
import Derived.Test.YtkkomffmnafjkaaGreatDoorZL5
set_option maxHeartbeats 16000000
set_option maxRecDepth 100000
set_option linter.all false
namespace Go.Proofs.YtkkomffmnafjkaaGreatDoor
open Go.RowKit
theorem w120(r:ReqL)(m:MetaL)(KA:Option Addr)(kc:Nat)(o j0 j1 j2 cs j4 j5 j6 j7 j8 j9:Int)(w:World)(hsp:Sp w r.A r.c r.L)(hR:allR r.L=true)(hl:r.L.length≤70)(hok:MetaOk m)(hcs:(Lit.int .i64 cs).wf=true):Calls Tryz.prog 151 #[.agg (reqA r),j25 m KA kc,.int .i64 o,cfgV j0 j1 j2 cs j4 j5 j6 j7 j8 j9] w fun e w'=>e=.returned (.bool (countB r m o cs))∧Below w.heap.size w w':=by
 have HC:Hid (∀W,Below w.heap.size w W→Calls Tryz.prog 220 #[.slice r.A r.L.length r.c,.int .i64 m.hv,.int .i64 cs] W fun e w'=>e=.returned (.bool (q46 m.hv cs r.L))∧Below W.heap.size W w'):=fun W hW=>w108 r.A r.c r.L m.hv cs W (hsp.below hW) (by omega) hR hok.hv.1 hok.hv.2 hcs;have HCB:Hid (countB r m o cs=(decide (o=1)&&!r.hd&&!r.L.isEmpty&&!q46 m.hv cs r.L)):=rfl;have HCO:Hid (cs<(r.L.length:Int)→q46 m.hv cs r.L=true):=fun h=>by unfold q46;rw[s_ h];rfl
 have HE0:Hid (r.L.length=0→r.L.isEmpty=true):=fun h=>by rw[l_ h];rfl
 have HE1:Hid (0<r.L.length→r.L.isEmpty=false):=fun h=>by cases hh:r.L with|nil=>rw[hh]at h;simp at h|cons a b=>rfl
 clear hsp hR hl hok hcs;obtain⟨v,hv⟩:∃v,countB r m o cs=v:=⟨_,rfl⟩;rw[hv]at HCB⊢;clear hv;obtain⟨hd,ob,A,c,L,A1,n1,c1,A2,n2,c2,am,an,si,un,rt,rw'⟩:=r;obtain⟨tg,wk,mo,ln,hv,fr,wh,er,ks,tn,kp⟩:=m;unfold j25 reqA cfgV;simp only at HC HCB HCO HE0 HE1⊢;by_cases h1:o=1;rotate_left;·
  have b1:(o==1)=false:=by rw[j_];exact h1
  have HV:Hid (v=false):=by simp only[Hid];rw[HCB.out];rw[k_ h1];rfl
  clear h1 HC;clear HCB HCO HE0 HE1;go_enter Tryz.func151,Tryz.ntmps151;go_wp2_with fail;go_ret;exact⟨q17 HV.out.symm,by(repeat(first|exact b_ _ _|refine q15 ?_ _|refine x15 ?_|refine q11 ?_ _|refine w14 ?_ (by simp) _))⟩
 have b1:(o==1)=true:=by rw[aD_];exact h1
 rw[s_ h1]at HCB;clear h1;cases hd with
  |true=>
   have HV:Hid (v=false):=by simp only[Hid];rw[HCB.out];rfl
   clear HC;clear HCB HCO HE0 HE1;go_enter Tryz.func151,Tryz.ntmps151;go_wp2_with fail;go_ret;exact⟨q17 HV.out.symm,by(repeat(first|exact b_ _ _|refine q15 ?_ _|refine x15 ?_|refine q11 ?_ _|refine w14 ?_ (by simp) _))⟩
  |false=>
   by_cases h2:L.length=0;·
    have h2i:¬(0:Int)<(L.length:Int):=by omega
    have HV:Hid (v=false):=by simp only[Hid];rw[HCB.out];rw[HE0.out h2];rfl
    clear h2 HC;clear HCB HCO HE0 HE1;go_enter Tryz.func151,Tryz.ntmps151;go_wp2_with fail;go_ret;exact⟨q17 HV.out.symm,by(repeat(first|exact b_ _ _|refine q15 ?_ _|refine x15 ?_|refine q11 ?_ _|refine w14 ?_ (by simp) _))⟩
   have h2i:(0:Int)<(L.length:Int):=by omega
   rw[HE1.out (by omega)]at HCB;clear h2;by_cases h3:cs<(L.length:Int);·
    have h3i:¬(L.length:Int)≤cs:=by omega
    have HV:Hid (v=false):=by simp only[Hid];rw[HCB.out];rw[HCO.out h3];rfl
    clear h3 HC;clear HCB HCO HE0 HE1;go_enter Tryz.func151,Tryz.ntmps151;go_wp2_with fail;go_ret;exact⟨q17 HV.out.symm,by(repeat(first|exact b_ _ _|refine q15 ?_ _|refine x15 ?_|refine q11 ?_ _|refine w14 ?_ (by simp) _))⟩
   have h3i:(L.length:Int)≤cs:=by omega
   clear h3;obtain⟨q,hq⟩:∃q,q46 hv cs L=q:=⟨_,rfl⟩;rw[hq]at HC HCB;clear hq HCO HE0 HE1;have HV:Hid (v=!q):=by simp only[Hid];rw[HCB.out];rfl
   clear HCB;go_enter Tryz.func151,Tryz.ntmps151;go_wp2_with(go_at_call 220;refine(HC.out _ (by(repeat(first|exact b_ _ _|refine q15 ?_ _|refine x15 ?_|refine q11 ?_ _|refine w14 ?_ (by simp) _)))).mono ?_;rintro e w1⟨rfl,hb1⟩);go_ret;exact⟨by first|exact q17 HV.out.symm|(rw[HV.out]),q12 hb1 (by(repeat(first|exact b_ _ _|refine q15 ?_ _|refine x15 ?_|refine q11 ?_ _|refine w14 ?_ (by simp) _)))⟩
theorem SpT.only{α:Type}{T T':TypeId}{en:α→List Value}{n:Nat}{w w':World}{A:Option Addr}{c:Nat}{L:List α}{b:Nat}{old:Array Value}{f:Nat×Nat}(h:SpT T en n w A c L)(hne':∀k,k≠b→w'.heap[k]?=w.heap[k]?)(hb:w.heap[b]?=some (.cells old T' f))(hT:T≠T'):SpT T en n w' A c L:=by
 have hne:∀a,A=some a→a.block≠b:=fun a ha=>by obtain⟨cs',f',hc⟩:=h.ty a ha;exact k36 hc hb hT
 refine⟨⟨h.sp.le,h.sp.nil_,fun k hk=>?_⟩,fun a ha=>?_⟩;·
  obtain⟨b',off,e,hl,h1⟩:=h.sp.at' k hk;have hn:=hne _ e;have hh:w'.heap[b']?=w.heap[b']?:=hne' _ hn;refine⟨b',off,e,?_,fun j u hj=>(k72 hh).trans (h1 j u hj)⟩;rcases ah_ b' w'.heap.size with h2|h2;·exact h2
  ·rw[ci_ h2,ac_ hl]at hh;cases hh
 ·obtain⟨cs',f',hc⟩:=h.ty a ha;exact⟨cs',f',(hne' _ (hne a ha)).trans hc⟩
def x156(st sz:Int)(B:Option Addr)(k d:Nat)(F:List j36)(w:World)(e:Ending)(w':World):Prop:=∃A c n,n=F.length∧e=.returned (.agg #[.int .i64 st,.slice A n c,.slice B k d,.int .i64 sz])∧SpT 176 w18 2 w' A c F∧Below w.heap.size w w'
theorem w72(st sz:Int)(A:Option Addr)(c n:Nat)(F:List j36)(B:Option Addr)(k d:Nat)(name val:List UInt8)(w:World)(hn:n=F.length)(hf:SpG w18 2 w A c F)(h0:0<F.length)(hl:F.length≤1000):Calls Tryz.prog 154 #[.agg #[.int .i64 st,.slice A n c,.slice B k d,.int .i64 sz],.string ⟨name.toArray⟩,.string ⟨val.toArray⟩] w (x156 st sz B k d (F++[(name,val)]) w):=by
 subst hn;have HF:=a_ hf;have H0:=a_ h0;clear hf h0;go_enter Tryz.func154,Tryz.ntmps154;go_upto_region 1 with fail;obtain⟨W0,hW0⟩:∃W0,(w.alloc (.cells #[.int .i64 st,.slice A F.length c,.slice B k d,.int .i64 sz] 74)).alloc (.cells #[.int .i64 0,.slice none 0 0,.slice none 0 0,.int .i64 0] 74)=W0:=⟨_,rfl⟩;have HX0:Hid (W0.heap[w.heap.size]?=some (.cells #[.int .i64 st,.slice A F.length c,.slice B k d,.int .i64 sz] 74 (0,0))):=by rw[←hW0];exact j16 (j17 rfl)
 have HZ0:Hid (W0.heap[w.heap.size+1]?=some (.cells #[.int .i64 0,.slice none 0 0,.slice none 0 0,.int .i64 0] 74 (0,0))):=by rw[←hW0];exact j17 (by simp)
 have HB0:Hid (Below w.heap.size w W0):=by rw[←hW0];exact q11 (q11 (b_ _ _) _) _
 rw[hW0];clear hW0;have v1:=bc 1 HX0.out rfl;have vf1:W0.frozen? ⟨w.heap.size,1,none⟩=false:=q13 HX0.out;have vz:=q14 HX0.out;go_upto_region 2 with(
  first
   |(at_builtin;refine x23 (w0:=w) elemFd rfl (.tmp 10) (.tmp 14) rfl A1 c1 _ F (by simp) #[.string ⟨name.toArray⟩,.string ⟨val.toArray⟩] _ rfl HO1.out [(name,val)] 1 rfl rfl rfl S_ _ rfl (by simp only[i_,g_];omega) HB1.out ?_;intro A2 c2 w2 hown2 hbw2 hg2;have HO2:=a_ hown2;have HB2:=a_ hbw2;have HX2:=a_ (w20 (j16 HX1.out) hg2 (HO1.out.ne_ty HX1.out (by decide)));have HZ2:=a_ (w20 (j16 HZ1.out) hg2 (HO1.out.ne_ty HZ1.out (by decide)));clear hown2 hbw2 hg2;have z1:=bc 1 HX2.out rfl;have zf1:w2.frozen? ⟨w.heap.size,1,none⟩=false:=q13 HX2.out;have zz:=q14 HX2.out)
   |(at_builtin;refine k53 (w0:=w) elemFd rfl (.tmp 7) (.tmp 9) rfl (some ⟨W0.heap.size,0,none⟩) 0 [] rfl (OwnG.made rfl (Nat.le_of_lt (q14 HX0.out))) A c F rfl (HF.out.below (q11 HB0.out _)) H0.out (by simp only[i_];omega) (q11 HB0.out _) ?_;intro A1 c1 w1 hown1 hbw1 hg1;rw[aL_]at hown1;have HO1:=a_ hown1;have HB1:=a_ hbw1;have HX1:=a_ (w20 (L:=([]:List j36)) (j16 HX0.out) hg1 (by simp[Value.ownBlock];exact Nat.ne_of_gt (q14 HX0.out)));have HZ1:=a_ (w20 (L:=([]:List j36)) (j16 HZ0.out) hg1 (by simp[Value.ownBlock];exact Nat.ne_of_gt (q14 HZ0.out)));clear hown1 hbw1 hg1));obtain⟨W3,hW3⟩:∃W3,w2.setCell ⟨w.heap.size,1,none⟩ (.slice A2 (F.length+1) c2)=W3:=⟨_,rfl⟩;have HX3:Hid (W3.heap[w.heap.size]?=some (.cells #[.int .i64 st,.slice A2 (F.length+1) c2,.slice B k d,.int .i64 sz] 74 (0,0))):=by rw[←hW3];exact j15 HX2.out
 have HZ3:Hid (W3.heap[w.heap.size+1]?=some (.cells #[.int .i64 0,.slice none 0 0,.slice none 0 0,.int .i64 0] 74 (0,0))):=by rw[←hW3];exact w15 (by simp only;omega) HZ2.out
 have HB3:Hid (Below w.heap.size w W3):=by rw[←hW3];exact w14 HB2.out (t_ _) _
 have HS3:Hid (SpT 176 w18 2 W3 A2 c2 (F++[(name,val)])):=by simp only[Hid];rw[←hW3];exact(HO2.out.spt elemFd.len).only (fun q hq=>aG_ w2 _ _ q hq) HX2.out (by decide)
 rw[hW3];clear hW3 z1 zf1 zz v1 vf1 HX2 HZ2 HB2 HO2 HX1 HZ1 HB1 HO1 HX0 HZ0 HB0;refine aw_ ?_;refine q165 rfl 74 (.tmp 3) rfl rfl HX3.out _ aZ_ rfl q28 ?_;simp only[Act.put,d_,h_,f_];refine q20 rfl 74 (.tmp 6) (.tmp 17) rfl rfl rfl HZ3.out rfl q28 (by simp[Value.oneCell']) ?_;intro w4 hst;simp only[Act.put];obtain⟨r0,r1,r2,r3⟩:=bc4 hst.blk rfl rfl rfl rfl;have HS4:Hid (SpT 176 w18 2 w4 A2 c2 (F++[(name,val)])):=HS3.out.stored hst HZ3.out (by decide);have HB4:Hid (Below w.heap.size w w4):=hst.bel w HB3.out (B_ _);clear hst HX3 HZ3 HB3 HS3;go_wp2_with fail;refine m_ (by simp[results,Tryz.results154,go_sem,r0,r1,r2,r3];try rfl) rfl ?_;exact⟨A2,c2,F.length+1,by simp,rfl,HS4.out,HB4.out⟩
