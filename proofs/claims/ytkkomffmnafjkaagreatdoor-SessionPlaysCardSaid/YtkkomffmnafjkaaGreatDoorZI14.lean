/- Contracts of strings.Join, and of the function that puts a directive. .. -/
import Derived.Test.YtkkomffmnafjkaaGreatDoorZI13
import Derived.Test.YtkkomffmnafjkaaGreatDoorZLaidJ
set_option maxHeartbeats 16000000
set_option maxRecDepth 100000
set_option linter.all false
namespace Go.Proofs.YtkkomffmnafjkaaGreatDoor
open Go.RowKit
theorem j109(sep:List UInt8)(L:List (List UInt8)):Lib.join L sep=x176 sep L:=by cases L with|nil=>rfl|cons x r=>rw[Lib.join_cons,x176,Lib.joinTail,List.flatMap_def]
theorem w131(A:Option Addr)(c:Nat)(L:List (List UInt8))(sep:List UInt8)(w:World)(h:SpG encT 1 w A c L)(hl:L.length≤1000)(hb:(x176 sep L).length≤1000000):Calls Tryz.prog 126 #[.slice A L.length c,.string ⟨sep.toArray⟩] w fun e w'=>e=.returned (.string ⟨(x176 sep L).toArray⟩)∧Below w.heap.size w w':=by
 cases L with
  |nil=>refine(Tryz.strings_Join_none A c ⟨sep.toArray⟩ w).mono ?_;rintro e w'⟨rfl,rfl⟩;exact⟨rfl,b_ _ _⟩
  |cons x r=>
   obtain⟨b,off,rfl,hbk,_⟩:=h.at' 0 (by simp);obtain⟨L,hL⟩:∃L,x::r=L:=⟨_,rfl⟩;rw[hL]at h hl hb⊢;clear hL;have hm:(L.map fun l=>(⟨l.toArray⟩:ByteArray)).map (·.data.toList)=L:=by
    rw[List.map_map];conv=>rhs;rw[←List.map_id L]
    exact List.map_congr_left fun l _=>rfl
   have h1:=Tryz.strings_Join b off c (L.map fun l=>(⟨l.toArray⟩:ByteArray)) ⟨sep.toArray⟩ w (fun j t ht=>by rw[bo_]at ht;obtain⟨l,hl1,rfl⟩:=aO_.1 ht;obtain⟨hj,hl2⟩:=O_.1 hl1;obtain⟨b',off',e,_,hc⟩:=h.at' j hj;injection e with e;injection e with e1 e2;subst e1 e2;have c0:=hc 0 _ rfl;rw[hl2]at c0;simpa using c0) hbk (by rw[aU_];omega) (by rw[aU_];exact h.le) (by rw[hm];show(Lib.join L sep).length≤_;rw[j109];omega);rw[aU_,hm]at h1;have e1:Lib.join L (⟨sep.toArray⟩:ByteArray).data.toList=x176 sep L:=j109 sep L;rw[e1]at h1;exact h1
theorem y71(A:Option Addr)(c m:Nat)(L:List (List UInt8))(sep:List UInt8)(w:World)(hm:m=L.length)(h:SpG encT 1 w A c L)(hl:L.length≤1000)(hb:(x176 sep L).length≤1000000):Calls Tryz.prog 126 #[.slice A m c,.string ⟨sep.toArray⟩] w fun e w'=>e=.returned (.string ⟨(x176 sep L).toArray⟩)∧Below w.heap.size w w':=by subst hm;exact w131 A c L sep w h hl hb
def dirL(name:List UInt8)(n:Int):List (List UInt8):=if n<0 then[]else[name++[61]++digN n]
theorem w40{w0 w:World}{PO:Nat}{A:Option Addr}{c m:Nat}{L:List (List UInt8)}(name:List UInt8)(n:Int)(hn0:-1≤n)(hn1:n≤1099511627776)(hnl:name.length≤100)(hblk:w.heap[PO]?=some (.cells #[.slice A m c] 43 (0,0)))(hm:m=L.length)(hown:OwnG 9 encT 1 w w0.heap.size A c L)(hbel:Below w0.heap.size w0 w)(hPO:w0.heap.size≤PO)(hl:m≤1000)(htab:Lib.TabIs Tryz.prog w "internal/strconv.uint64pow10" .u64 Lib.pow10Tab):Calls Tryz.prog 184 #[.string ⟨name.toArray⟩,.int .i64 n,.pointer (some ⟨PO,0,none⟩)] w (w96 9 43 encT 1 w0 w PO A c L (dirL name n)):=by
 have HB:=a_ hbel;have HO:=a_ hown;have HK:=a_ hblk;subst hm;have z:=bc 0 hblk rfl;have zf:=q13 (i:=0) hblk;have zz:=q14 hblk;have HNT:=a_ (hown.ne_ty hblk (by decide));by_cases h0:n<0;·
  have HD:Hid (L++dirL name n=L):=by simp only[Hid];unfold dirL;rw[w_ h0,T_]
  have h0':¬(0:Int)≤n:=by omega
  clear hblk hown hbel h0;go_enter Tryz.func184,Tryz.ntmps184;go_wp2_with fail;go_end0;refine⟨rfl,A,c,L.length,?_,HK.out,?_,HB.out,fun k o hk _ _=>hk⟩;·rw[HD.out]
  ·rw[HD.out];exact HO.out
 ·have HD:Hid (dirL name n=[name++[61]++digN n]):=by simp only[Hid];unfold dirL;rw[q_ h0]
  have h0':(0:Int)≤n:=by omega
  have hmin:min n 1099511627776=n:=by omega
  have HT:=a_ htab;have HF:∀W,Below w.heap.size w W→Hid (Calls Tryz.prog 125 #[.int .i64 n,.int .i64 10] W fun e w'=>e=.returned (.string ⟨(digN n).toArray⟩)∧Below W.heap.size W w'):=fun W hW=>by have h:=w78 n (by omega) (by omega) W (q30 HT.out hW);rw[q66 h0']at h;exact a_ h
  have hdl:(digN n).length≤19:=w21 (by omega);have hc1:=catE (a:=name) (b:=[61]) (by simp;omega);have hc2:=catE (a:=name++[61]) (b:=digN n) (by simp;omega);generalize name++[61]++digN n=tx at hc2 HD;generalize name++[61]=ty at hc1 hc2;generalize digN n=dg at HF hc2 hdl;clear hblk hown hbel h0 hdl hnl htab;go_enter Tryz.func184,Tryz.ntmps184;go_wp2_with fail;go_region_law(
   (first
     |(go_simp;go_at_call 125;refine(HF _ (by first|exact x15 (b_ _ _)|exact b_ _ _)).out.mono ?_;rintro e w1⟨rfl,hb1⟩;(try dsimp only);have K1:=a_ (j3 hb1 (q18 HK.out));have O1:=a_ (HO.out.drew.below hb1);have B1:=a_ (q12 hb1 (x15 HB.out));have z1:=bc 0 K1.out rfl;have zf1:=q13 (i:=0) K1.out;have zz1:=q14 K1.out;have N1:=a_ (fun(k:Nat)(o:Obj)(hk:w.heap[k]?=some o)=>j3 hb1 (q18 hk));clear hb1)
     |(refine y182 (w0:=w0) elemT rfl (.tmp 7) (.tmp 14) rfl A c L (by exact rfl) (by exact O1.out.alloc _) (some ⟨_,0,none⟩) 1 [tx] (by exact rfl) (by exact SpG.built (enc:=encT) (n:=1) elemT.len _ [tx] #[.string ⟨tx.toArray⟩] rfl 9) S_ (by simp only[g_,i_];omega) (by exact q11 B1.out _) ?_;intro A2 c2 w2 hown2 hbw2 hg2;have B2:=a_ (w20 (j16 K1.out) hg2 HNT.out);have z2:=bc 0 B2.out rfl;have zf2:=q13 (i:=0) B2.out;have zz2:=q14 B2.out)));all_goals go_wp2_with fail;go_end0;rw[HD.out];exact⟨rfl,A2,c2,L.length+1,by rw[e_];rfl,j15 B2.out,hown2.set_ty B2.out (by decide) _,w14 hbw2 hPO _,z97 (fun k o hk=>j16 (N1.out k o hk)) hg2⟩
theorem q37{f t total:Int}(h:q23 (f,t) total=false):q21 (f,t) total=[]:=w86.2 h
theorem q49{f t total:Int}(h0:okS (f,t)=true)(h1:¬f=t)(h2:¬t=4611686018427387904)(h3:-1≤total)(h4:total≤4611686018427387903)(h5:total=-1∨t≤total):q23 (f,t) total=true:=by unfold q23;simp only[h0,Bool.true_and,r_,aP_,bd_,p_,I_];exact⟨⟨⟨⟨h1,h2⟩,h3⟩,h4⟩,h5⟩
theorem w80(f t total:Int)(w:World)(htab:Lib.TabIs Tryz.prog w "internal/strconv.uint64pow10" .u64 Lib.pow10Tab)(hfw:f≤9223372036854775807)(htw:t≤9223372036854775807):Calls Tryz.prog 118 #[.agg #[.int .i64 f,.int .i64 t],.int .i64 total] w fun e w'=>e=.returned (.string ⟨(q21 (f,t) total).toArray⟩)∧Below w.heap.size w w':=by
 have HR:=fun W=>a_ (q45 f t W);by_cases h0:okS (f,t)=false;·have HV:Hid (q21 (f,t) total=[]):=q37 (by unfold q23;rw[h0];rfl);rw[h0]at HR;clear h0 htab;go_enter cb_,bQ_;go_wp2_with(go_at_call 64;refine(HR _).out.mono ?_;rintro e w1⟨rfl,rfl⟩);go_ret;rw[HV.out];exact⟨rfl,by(repeat(first|exact b_ _ _|refine q15 ?_ _|refine x15 ?_|refine q11 ?_ _|refine w14 ?_ (by simp) _))⟩
 have h0t:okS (f,t)=true:=by revert h0;cases okS (f,t)<;>simp
 clear h0;rw[h0t]at HR;by_cases h1:f=t;·have HV:Hid (q21 (f,t) total=[]):=q37 (by unfold q23;rw[s_ h1];simp);clear h0t htab;subst h1;go_enter cb_,bQ_;go_wp2_with(go_at_call 64;refine(HR _).out.mono ?_;rintro e w1⟨rfl,rfl⟩);go_ret;rw[HV.out];exact⟨rfl,by(repeat(first|exact b_ _ _|refine q15 ?_ _|refine x15 ?_|refine q11 ?_ _|refine w14 ?_ (by simp) _))⟩
 by_cases h2:t=4611686018427387904;·have HV:Hid (q21 (f,t) total=[]):=q37 (by unfold q23;rw[s_ h2];simp);clear h0t htab;subst h2;go_enter cb_,bQ_;go_wp2_with(go_at_call 64;refine(HR _).out.mono ?_;rintro e w1⟨rfl,rfl⟩);go_ret;rw[HV.out];exact⟨rfl,by(repeat(first|exact b_ _ _|refine q15 ?_ _|refine x15 ?_|refine q11 ?_ _|refine w14 ?_ (by simp) _))⟩
 by_cases h3:total< -1;·have HV:Hid (q21 (f,t) total=[]):=q37 (by unfold q23;rw[k_ (show¬-1≤total by omega)];simp);clear h0t htab;go_enter cb_,bQ_;go_wp2_with(go_at_call 64;refine(HR _).out.mono ?_;rintro e w1⟨rfl,rfl⟩);go_ret;rw[HV.out];exact⟨rfl,by(repeat(first|exact b_ _ _|refine q15 ?_ _|refine x15 ?_|refine q11 ?_ _|refine w14 ?_ (by simp) _))⟩
 by_cases h4:(4611686018427387903:Int)<total;·have HV:Hid (q21 (f,t) total=[]):=q37 (by unfold q23;rw[k_ (show¬total≤4611686018427387903 by omega)];simp);clear h0t htab;go_enter cb_,bQ_;go_wp2_with(go_at_call 64;refine(HR _).out.mono ?_;rintro e w1⟨rfl,rfl⟩);go_ret;rw[HV.out];exact⟨rfl,by(repeat(first|exact b_ _ _|refine q15 ?_ _|refine x15 ?_|refine q11 ?_ _|refine w14 ?_ (by simp) _))⟩
 obtain⟨r1,r2,r3⟩:=(j19 (f,t)).1 h0t;simp only at r1 r2 r3;have b1:(f==t)=false:=by rw[j_];exact h1
 have b2:(t==4611686018427387904)=false:=by rw[j_];exact h2
 have HT0:=a_ htab;obtain⟨V,hV⟩:∃V,(((w.alloc (.cells #[.int .i64 f,.int .i64 t] 59)).alloc (.cells #[.int .i64 f,.int .i64 t] 59)))=V:=⟨_,rfl⟩;have HVB:Hid (V.heap[w.heap.size]?=some (.cells #[.int .i64 f,.int .i64 t] 59 (0,0))):=by rw[←hV];exact j16 (j17 rfl)
 have HVb:Hid (Below w.heap.size w V):=by simp only[Hid];rw[←hV];(repeat(first|exact b_ _ _|refine q15 ?_ _|refine x15 ?_|refine q11 ?_ _|refine w14 ?_ (by simp) _))
 have HF:∀(n:Int)(W:World),0≤n→n≤9223372036854775807→Below w.heap.size w W→Calls Tryz.prog 125 #[.int .i64 n,.int .i64 10] W fun e w'=>e=.returned (.string ⟨(digN n).toArray⟩)∧Below W.heap.size W w':=fun n W h0 h1 hW=>by have h:=w78 n (by omega) (by omega) W (q30 HT0.out hW);rw[q66 h0]at h;exact h
 have F1:∀W,Below w.heap.size w W→Hid (Calls Tryz.prog 125 #[.int .i64 f,.int .i64 10] W fun e w'=>e=.returned (.string ⟨(digN f).toArray⟩)∧Below W.heap.size W w'):=fun W hW=>a_ (HF f W r1 (by omega) hW);have F2:∀W,Below w.heap.size w W→Hid (Calls Tryz.prog 125 #[.int .i64 (t-1),.int .i64 10] W fun e w'=>e=.returned (.string ⟨(digN (t-1)).toArray⟩)∧Below W.heap.size W w'):=fun W hW=>a_ (HF (t-1) W (by omega) (by omega) hW);have hl1:=w21 (n:=f) (by omega);have hl2:=w21 (n:=t-1) (by omega);have hc1:=catE (a:=[98,121,116,101,115,32]) (b:=digN f) (by simp only[g_,i_];omega);have hc2:=catE (a:=[98,121,116,101,115,32]++digN f) (b:=[45]) (by simp only[e_,g_,i_];omega);have hc3:=catE (a:=[98,121,116,101,115,32]++digN f++[45]) (b:=digN (t-1)) (by simp only[e_,g_,i_];omega);have hc4:=catE (a:=[98,121,116,101,115,32]++digN f++[45]++digN (t-1)) (b:=[47]) (by simp only[e_,g_,i_];omega);have hwr:IntKind.i64.wrap (t-1)=t-1:=M_ _ (by omega);by_cases h5:total=-1;·
  subst h5;have HV:Hid (q21 (f,t) (-1)=[98,121,116,101,115,32]++digN f++[45]++digN (t-1)++[47]++[42]):=by simp only[Hid];unfold q21;rw[w_ (q49 h0t h1 h2 (by omega) (by omega) (.inl rfl)),w_ rfl];rfl
  have hc5:=catE (a:=[98,121,116,101,115,32]++digN f++[45]++digN (t-1)++[47]) (b:=[42]) (by simp only[e_,g_,i_];omega);generalize[98,121,116,101,115,32]++digN f++[45]++digN (t-1)++[47]++[42]=x5 at hc5 HV;generalize[98,121,116,101,115,32]++digN f++[45]++digN (t-1)++[47]=x4 at hc4 hc5;generalize[98,121,116,101,115,32]++digN f++[45]++digN (t-1)=x3 at hc3 hc4;generalize[98,121,116,101,115,32]++digN f++[45]=x2 at hc2 hc3;generalize[98,121,116,101,115,32]++digN f=x1 at hc1 hc2;generalize digN f=d1 at F1 hc1;generalize digN (t-1)=d2 at F2 hc3;clear HF hl1 hl2;obtain⟨v0,v1⟩:=bc2 HVB.out rfl rfl;have hvz:=q14 HVB.out;clear r1 r2 r3 h0t htab;go_enter cb_,bQ_;go_wp2_with(go_at_call 64;refine(HR _).out.mono ?_;rintro e w1⟨rfl,hw1⟩;obtain rfl:V=w1:=hV.symm.trans hw1);clear HR;go_region_held3(fun w'=>w'.cell? ⟨w.heap.size,0,none⟩=some (.int .i64 f)∧w'.cell? ⟨w.heap.size,1,none⟩=some (.int .i64 t))(first|exact⟨u0,u1⟩|exact⟨v0,v1⟩|fail)(first|(go_at_call_of 125(Value.int .i64 f);refine(F1 _ (by first|exact HVb.out|exact x15 HVb.out|exact q15 HVb.out _|exact q12 hb3 (by first|exact HVb.out|exact x15 HVb.out|exact q15 HVb.out _))).out.mono ?_;rintro e w2⟨rfl,hb2⟩;first|(replace u0:=x16 hb2 u0;replace u1:=x16 hb2 u1)|(have u0:=x16 hb2 v0;have u1:=x16 hb2 v1))|(go_at_call_has 125(Value.int .i64 (t-1));refine(F2 _ (by first|exact HVb.out|exact x15 HVb.out|exact q15 HVb.out _|exact q12 hb2 (by first|exact HVb.out|exact x15 HVb.out|exact q15 HVb.out _))).out.mono ?_;rintro e w3⟨rfl,hb3⟩;first|(replace u0:=x16 hb3 u0;replace u1:=x16 hb3 u1)|(have u0:=x16 hb3 v0;have u1:=x16 hb3 v1)));go_wp2_with fail;go_ret;rw[HV.out];exact⟨rfl,q12 hb3 (q12 hb2 (by first|exact HVb.out|exact x15 HVb.out|exact q15 HVb.out _))⟩
 by_cases h6:total<t;·
  have HV:Hid (q21 (f,t) total=[]):=q37 (by unfold q23;rw[k_ h5,k_ (show¬t≤total by omega)];simp);have b3:(total==-1)=false:=by rw[j_];exact h5
  generalize[98,121,116,101,115,32]++digN f++[45]++digN (t-1)++[47]=x4 at hc4;generalize[98,121,116,101,115,32]++digN f++[45]++digN (t-1)=x3 at hc3 hc4;generalize[98,121,116,101,115,32]++digN f++[45]=x2 at hc2 hc3;generalize[98,121,116,101,115,32]++digN f=x1 at hc1 hc2;generalize digN f=d1 at F1 hc1;generalize digN (t-1)=d2 at F2 hc3;clear HF hl1 hl2;obtain⟨v0,v1⟩:=bc2 HVB.out rfl rfl;have hvz:=q14 HVB.out;clear r1 r2 r3 h0t htab;go_enter cb_,bQ_;go_wp2_with(go_at_call 64;refine(HR _).out.mono ?_;rintro e w1⟨rfl,hw1⟩;obtain rfl:V=w1:=hV.symm.trans hw1);clear HR;go_region_held3(fun w'=>w'.cell? ⟨w.heap.size,0,none⟩=some (.int .i64 f)∧w'.cell? ⟨w.heap.size,1,none⟩=some (.int .i64 t))(first|exact⟨u0,u1⟩|exact⟨v0,v1⟩|fail)(first|(go_at_call_of 125(Value.int .i64 f);refine(F1 _ (by first|exact HVb.out|exact x15 HVb.out|exact q15 HVb.out _|exact q12 hb3 (by first|exact HVb.out|exact x15 HVb.out|exact q15 HVb.out _))).out.mono ?_;rintro e w2⟨rfl,hb2⟩;first|(replace u0:=x16 hb2 u0;replace u1:=x16 hb2 u1)|(have u0:=x16 hb2 v0;have u1:=x16 hb2 v1))|(go_at_call_has 125(Value.int .i64 (t-1));refine(F2 _ (by first|exact HVb.out|exact x15 HVb.out|exact q15 HVb.out _|exact q12 hb2 (by first|exact HVb.out|exact x15 HVb.out|exact q15 HVb.out _))).out.mono ?_;rintro e w3⟨rfl,hb3⟩;first|(replace u0:=x16 hb3 u0;replace u1:=x16 hb3 u1)|(have u0:=x16 hb3 v0;have u1:=x16 hb3 v1)));go_wp2_with fail;go_ret;rw[HV.out];exact⟨rfl,q12 hb3 (q12 hb2 (by first|exact HVb.out|exact x15 HVb.out|exact q15 HVb.out _))⟩
 ·have HV:Hid (q21 (f,t) total=[98,121,116,101,115,32]++digN f++[45]++digN (t-1)++[47]++digN total):=by simp only[Hid];unfold q21;rw[w_ (q49 h0t h1 h2 (by omega) (by omega) (.inr (by omega))),q_ h5];rfl
  have b3:(total==-1)=false:=by rw[j_];exact h5
  have F3:∀W,Below w.heap.size w W→Hid (Calls Tryz.prog 125 #[.int .i64 total,.int .i64 10] W fun e w'=>e=.returned (.string ⟨(digN total).toArray⟩)∧Below W.heap.size W w'):=fun W hW=>a_ (HF total W (by omega) (by omega) hW);have hl3:=w21 (n:=total) (by omega);have hc5:=catE (a:=[98,121,116,101,115,32]++digN f++[45]++digN (t-1)++[47]) (b:=digN total) (by simp only[e_,g_,i_];omega);generalize[98,121,116,101,115,32]++digN f++[45]++digN (t-1)++[47]++digN total=x5 at hc5 HV;generalize[98,121,116,101,115,32]++digN f++[45]++digN (t-1)++[47]=x4 at hc4 hc5;generalize[98,121,116,101,115,32]++digN f++[45]++digN (t-1)=x3 at hc3 hc4;generalize[98,121,116,101,115,32]++digN f++[45]=x2 at hc2 hc3;generalize[98,121,116,101,115,32]++digN f=x1 at hc1 hc2;generalize digN f=d1 at F1 hc1;generalize digN (t-1)=d2 at F2 hc3;generalize digN total=d3 at F3 hc5;clear HF hl1 hl2 hl3;obtain⟨v0,v1⟩:=bc2 HVB.out rfl rfl;have hvz:=q14 HVB.out;clear r1 r2 r3 h0t htab;go_enter cb_,bQ_;go_wp2_with(go_at_call 64;refine(HR _).out.mono ?_;rintro e w1⟨rfl,hw1⟩;obtain rfl:V=w1:=hV.symm.trans hw1);clear HR;go_region_held3(fun w'=>w'.cell? ⟨w.heap.size,0,none⟩=some (.int .i64 f)∧w'.cell? ⟨w.heap.size,1,none⟩=some (.int .i64 t))(first|exact⟨u0,u1⟩|exact⟨v0,v1⟩|fail)(first|(go_at_call_of 125(Value.int .i64 f);refine(F1 _ (by first|exact HVb.out|exact x15 HVb.out|exact q15 HVb.out _|exact q12 hb3 (by first|exact HVb.out|exact x15 HVb.out|exact q15 HVb.out _))).out.mono ?_;rintro e w2⟨rfl,hb2⟩;first|(replace u0:=x16 hb2 u0;replace u1:=x16 hb2 u1)|(have u0:=x16 hb2 v0;have u1:=x16 hb2 v1))|(go_at_call_has 125(Value.int .i64 (t-1));refine(F2 _ (by first|exact HVb.out|exact x15 HVb.out|exact q15 HVb.out _|exact q12 hb2 (by first|exact HVb.out|exact x15 HVb.out|exact q15 HVb.out _))).out.mono ?_;rintro e w3⟨rfl,hb3⟩;first|(replace u0:=x16 hb3 u0;replace u1:=x16 hb3 u1)|(have u0:=x16 hb3 v0;have u1:=x16 hb3 v1)));have HB3:Hid (Below w.heap.size w w3):=q12 hb3 (q12 hb2 (by first|exact HVb.out|exact x15 HVb.out|exact q15 HVb.out _));clear hb2 hb3;go_wp2_with(go_at_call 125;refine(F3 _ HB3.out).out.mono ?_;rintro e w4⟨rfl,hb4⟩);go_ret;rw[HV.out];exact⟨rfl,q12 hb4 HB3.out⟩
theorem x47(name:List UInt8)(n:Int):(dirL name n).length≤1:=by unfold dirL;split<;>simp
theorem x182{name:List UInt8}{n:Int}{x:List UInt8}(h:x∈dirL name n)(hn:n≤1099511627776)(hl:name.length≤100):x.length≤200:=by
 unfold dirL at h;split at h;·simp at h
 ·rw[D_.1 h];have:=w21 (n:=n) (by omega);simp only[e_,g_,i_];omega
theorem k87(sep:List UInt8):∀(L:List (List UInt8)),(∀x∈L,x.length≤200)→(x176 sep L).length≤L.length*(200+sep.length)
 |[],_=>by simp[x176]
 |x::r,h=>by
  have h0:=h x (by simp);have hr:(r.flatMap fun y=>sep++y).length≤r.length*(200+sep.length):=by
   have hh:∀(r:List (List UInt8)),(∀y∈r,y.length≤200)→(r.flatMap fun y=>sep++y).length≤r.length*(200+sep.length):=by
    intro r;induction r with
     |nil=>intro _;simp
     |cons a b ih=>intro hb;have h1:=ih fun y hy=>hb y (by simp[hy]);have h2:=hb a (by simp);rw[List.flatMap_cons,e_,e_,g_,bL_];omega
   exact hh r fun y hy=>h y (by simp[hy])
  rw[x176,e_,g_,bL_];omega
def j56(ns:Bool):List (List UInt8):=if ns=true then[[110,111,45,115,116,111,114,101]]else[]
def k56(s wh er:Int)(ns:Bool):List UInt8:=x176 [44,32] (j56 ns++dirL [109,97,120,45,97,103,101] (-1)++dirL [115,45,109,97,120,97,103,101] s++dirL [115,116,97,108,101,45,119,104,105,108,101,45,114,101,118,97,108,105,100,97,116,101] wh++dirL [115,116,97,108,101,45,105,102,45,101,114,114,111,114] er)
theorem y119(s wh er:Int)(ns:Bool)(w:World)(h1:-1≤s∧s≤1099511627776)(h2:-1≤wh∧wh≤1099511627776)(h3:-1≤er∧er≤1099511627776)(htab:Lib.TabIs Tryz.prog w "internal/strconv.uint64pow10" .u64 Lib.pow10Tab):Calls Tryz.prog 123 #[w65 s wh er ns] w fun e w'=>e=.returned (.string ⟨(k56 s wh er ns).toArray⟩)∧Below w.heap.size w w':=by
 have HT:=a_ htab;have HE:Hid (x176 [44,32] (j56 ns++dirL [109,97,120,45,97,103,101] (-1)++dirL [115,45,109,97,120,97,103,101] s++dirL [115,116,97,108,101,45,119,104,105,108,101,45,114,101,118,97,108,105,100,97,116,101] wh++dirL [115,116,97,108,101,45,105,102,45,101,114,114,111,114] er)=k56 s wh er ns):=rfl;obtain⟨L0,K0⟩:∃t,Hid (t=j56 ns):=⟨_,a_ rfl⟩;obtain⟨L1,K1⟩:∃t,Hid (t=L0++dirL [109,97,120,45,97,103,101] (-1)):=⟨_,a_ rfl⟩;have n0:L0.length≤1:=by rw[K0.out];unfold j56;split<;>simp
 have N1:Hid (L1.length≤2):=by simp only[Hid];rw[K1.out,e_];have:=x47 [109,97,120,45,97,103,101] (-1);omega
 obtain⟨L2,K2⟩:∃t,Hid (t=L1++dirL [115,45,109,97,120,97,103,101] s):=⟨_,a_ rfl⟩;have N2:Hid (L2.length≤3):=by simp only[Hid];rw[K2.out,e_];have:=N1.out;have:=x47 [115,45,109,97,120,97,103,101] s;omega
 obtain⟨L3,K3⟩:∃t,Hid (t=L2++dirL [115,116,97,108,101,45,119,104,105,108,101,45,114,101,118,97,108,105,100,97,116,101] wh):=⟨_,a_ rfl⟩;have N3:Hid (L3.length≤4):=by simp only[Hid];rw[K3.out,e_];have:=N2.out;have:=x47 [115,116,97,108,101,45,119,104,105,108,101,45,114,101,118,97,108,105,100,97,116,101] wh;omega
 obtain⟨L4,K4⟩:∃t,Hid (t=L3++dirL [115,116,97,108,101,45,105,102,45,101,114,114,111,114] er):=⟨_,a_ rfl⟩;have N4:Hid (L4.length≤5):=by simp only[Hid];rw[K4.out,e_];have:=N3.out;have:=x47 [115,116,97,108,101,45,105,102,45,101,114,114,111,114] er;omega
 have HL:Hid (∀x∈L4,x.length≤200):=by
  simp only[Hid];intro x hx;rw[K4.out,K3.out,K2.out,K1.out,K0.out]at hx;simp only[A_]at hx;rcases hx with(((hx|hx)|hx)|hx)|hx;·
   unfold j56 at hx;split at hx;·rw[D_.1 hx];decide
   ·simp at hx
  ·exact x182 hx (by omega) (by decide)
  ·exact x182 hx h1.2 (by decide)
  ·exact x182 hx h2.2 (by decide)
  ·exact x182 hx h3.2 (by decide)
 have HJ:Hid (x176 [44,32] L4=k56 s wh er ns):=by simp only[Hid];rw[←HE.out,K4.out,K3.out,K2.out,K1.out,K0.out]
 have HJL:Hid ((x176 [44,32] L4).length≤1000000):=by simp only[Hid];have:=k87 [44,32] L4 HL.out;have h4:=N4.out;have:L4.length*(200+[(44:UInt8),32].length)≤5*202:=cd_ h4 (by decide);omega
 clear htab HL HE n0;unfold w65;cases ns with
  |false=>
   go_enter Tryz.func123,Tryz.ntmps123;go_upto_region 8 with fail;obtain⟨W0,hW0⟩:∃W0,(w.alloc (.cells #[.int .i64 (-1),.int .i64 s,.int .i64 wh,.int .i64 er,.bool false,.bool false,.bool false] 164)).alloc (.cells #[.slice none 0 0] 43)=W0:=⟨_,rfl⟩;have HR0:Hid (W0.heap[w.heap.size]?=some (.cells #[.int .i64 (-1),.int .i64 s,.int .i64 wh,.int .i64 er,.bool false,.bool false,.bool false] 164 (0,0))):=by rw[←hW0];exact j16 (j17 rfl)
   have HK0:Hid (W0.heap[w.heap.size+1]?=some (.cells #[.slice none 0 0] 43 (0,0))):=by rw[←hW0];exact j17 (by simp)
   have HB0:Hid (Below w.heap.size w W0):=by rw[←hW0];exact q11 (q11 (b_ _ _) _) _
   have M0:Hid (0=L0.length):=by simp only[Hid];rw[K0.out];rfl
   have HO0:Hid (OwnG 9 encT 1 W0 w.heap.size none 0 L0):=by simp only[Hid];rw[K0.out];exact OwnG.nil _ _
   have N0:Hid (L0.length≤1):=by simp only[Hid];rw[K0.out];decide
   rw[hW0];clear hW0;obtain⟨r0,r1,r2,r3⟩:=bc4 HR0.out rfl rfl rfl rfl;have l0:=bc 0 HK0.out rfl;go_wp2_with(
    first
     |(go_at_call 126;refine(y71 A4 c4 m4 L4 [44,32] _ M4.out (HO4.out.spg elemT.len) (by have:=N4.out;omega) HJL.out).mono ?_;rintro e x5⟨rfl,hb5⟩)
     |(go_at_call_of 184(Value.string ⟨#[115,116,97,108,101,45,105,102,45,101,114,114,111,114]⟩);refine(w40 (w0:=w) [115,116,97,108,101,45,105,102,45,101,114,114,111,114] er h3.1 h3.2 (by decide) HK3.out M3.out HO3.out HB3.out (B_ _) (by have:=M3.out;have:=N3.out;omega) (q30 HT.out HB3.out)).mono ?_;rintro e x4⟨rfl,A4,c4,m4,hm4,hk4,ho4,hb4,hf4⟩;have HK4:=a_ hk4;have HO4:Hid (OwnG 9 encT 1 x4 w.heap.size A4 c4 L4):=by simp only[Hid];rw[K4.out];exact ho4
       have M4:Hid (m4=L4.length):=by simp only[Hid];rw[K4.out];exact hm4
       have HB4:=a_ hb4;have HR4:=a_ (hf4.block HR3.out (aF_ (aB_ _)) (HO3.out.ne_ty HR3.out (by decide)));clear HK3 HO3 M3 HB3 HR3 r0 r1 r2 r3 l0 hm4 hk4 ho4 hb4 hf4;obtain⟨r0,r1,r2,r3⟩:=bc4 HR4.out rfl rfl rfl rfl;have l0:=bc 0 HK4.out rfl)
     |(go_at_call_of 184(Value.string ⟨#[115,116,97,108,101,45,119,104,105,108,101,45,114,101,118,97,108,105,100,97,116,101]⟩);refine(w40 (w0:=w) [115,116,97,108,101,45,119,104,105,108,101,45,114,101,118,97,108,105,100,97,116,101] wh h2.1 h2.2 (by decide) HK2.out M2.out HO2.out HB2.out (B_ _) (by have:=M2.out;have:=N2.out;omega) (q30 HT.out HB2.out)).mono ?_;rintro e x3⟨rfl,A3,c3,m3,hm3,hk3,ho3,hb3,hf3⟩;have HK3:=a_ hk3;have HO3:Hid (OwnG 9 encT 1 x3 w.heap.size A3 c3 L3):=by simp only[Hid];rw[K3.out];exact ho3
       have M3:Hid (m3=L3.length):=by simp only[Hid];rw[K3.out];exact hm3
       have HB3:=a_ hb3;have HR3:=a_ (hf3.block HR2.out (aF_ (aB_ _)) (HO2.out.ne_ty HR2.out (by decide)));clear HK2 HO2 M2 HB2 HR2 r0 r1 r2 r3 l0 hm3 hk3 ho3 hb3 hf3;obtain⟨r0,r1,r2,r3⟩:=bc4 HR3.out rfl rfl rfl rfl;have l0:=bc 0 HK3.out rfl)
     |(go_at_call_of 184(Value.string ⟨#[115,45,109,97,120,97,103,101]⟩);refine(w40 (w0:=w) [115,45,109,97,120,97,103,101] s h1.1 h1.2 (by decide) HK1.out M1.out HO1.out HB1.out (B_ _) (by have:=M1.out;have:=N1.out;omega) (q30 HT.out HB1.out)).mono ?_;rintro e x2⟨rfl,A2,c2,m2,hm2,hk2,ho2,hb2,hf2⟩;have HK2:=a_ hk2;have HO2:Hid (OwnG 9 encT 1 x2 w.heap.size A2 c2 L2):=by simp only[Hid];rw[K2.out];exact ho2
       have M2:Hid (m2=L2.length):=by simp only[Hid];rw[K2.out];exact hm2
       have HB2:=a_ hb2;have HR2:=a_ (hf2.block HR1.out (aF_ (aB_ _)) (HO1.out.ne_ty HR1.out (by decide)));clear HK1 HO1 M1 HB1 HR1 r0 r1 r2 r3 l0 hm2 hk2 ho2 hb2 hf2;obtain⟨r0,r1,r2,r3⟩:=bc4 HR2.out rfl rfl rfl rfl;have l0:=bc 0 HK2.out rfl)
     |(go_at_call_of 184(Value.string ⟨#[109,97,120,45,97,103,101]⟩);refine(w40 (w0:=w) [109,97,120,45,97,103,101] (-1) (by decide) (by decide) (by decide) HK0.out M0.out HO0.out HB0.out (B_ _) (by have:=M0.out;have:=N0.out;omega) (q30 HT.out HB0.out)).mono ?_;rintro e x1⟨rfl,A1,c1,m1,hm1,hk1,ho1,hb1,hf1⟩;have HK1:=a_ hk1;have HO1:Hid (OwnG 9 encT 1 x1 w.heap.size A1 c1 L1):=by simp only[Hid];rw[K1.out];exact ho1
       have M1:Hid (m1=L1.length):=by simp only[Hid];rw[K1.out];exact hm1
       have HB1:=a_ hb1;have HR1:=a_ (hf1.block HR0.out (aF_ (aB_ _)) (HO0.out.ne_ty HR0.out (by decide)));clear HK0 HO0 M0 HB0 HR0 r0 r1 r2 r3 l0 hm1 hk1 ho1 hb1 hf1;obtain⟨r0,r1,r2,r3⟩:=bc4 HR1.out rfl rfl rfl rfl;have l0:=bc 0 HK1.out rfl));go_ret;rw[HJ.out];exact⟨rfl,q12 hb5 HB4.out⟩
  |true=>
   go_enter Tryz.func123,Tryz.ntmps123;go_upto_region 3 with fail;obtain⟨V0,hV0⟩:∃V0,(w.alloc (.cells #[.int .i64 (-1),.int .i64 s,.int .i64 wh,.int .i64 er,.bool true,.bool false,.bool false] 164)).alloc (.cells #[.slice none 0 0] 43)=V0:=⟨_,rfl⟩;have HRv:Hid (V0.heap[w.heap.size]?=some (.cells #[.int .i64 (-1),.int .i64 s,.int .i64 wh,.int .i64 er,.bool true,.bool false,.bool false] 164 (0,0))):=by rw[←hV0];exact j16 (j17 rfl)
   have HKv:Hid (V0.heap[w.heap.size+1]?=some (.cells #[.slice none 0 0] 43 (0,0))):=by rw[←hV0];exact j17 (by simp)
   have HBv:Hid (Below w.heap.size w V0):=by rw[←hV0];exact q11 (q11 (b_ _ _) _) _
   rw[hV0];clear hV0;have q0:=bc 0 HKv.out rfl;have q1:=bc 5 HRv.out rfl;have q2:=bc 6 HRv.out rfl;go_upto_region 8 with(first|(at_builtin;go_must(refine x23 (w0:=w) elemT rfl (.tmp 7) (.tmp 8) rfl none 0 0 [] rfl _ _ rfl (OwnG.nil _ _) [[110,111,45,115,116,111,114,101]] 1 rfl rfl rfl S_ 1 rfl (by decide) HBv.out ?_;intro A0 c0 V1 hown1 hbw1 hg1);have HR1v:=a_ (w20 (j16 HRv.out) hg1 (by simp[Value.ownBlock]));have HK1v:=a_ (w20 (j16 HKv.out) hg1 (by simp[Value.ownBlock]));have p0:=bc 0 HK1v.out rfl;have p1:=bc 5 HR1v.out rfl;have p2:=bc 6 HR1v.out rfl;have pf:=q13 (i:=0) HK1v.out;have pz:=q14 HK1v.out));obtain⟨W0,hW0⟩:∃W0,V1.setCell ⟨w.heap.size+1,0,none⟩ (.slice A0 1 c0)=W0:=⟨_,rfl⟩;have HR0:Hid (W0.heap[w.heap.size]?=some (.cells #[.int .i64 (-1),.int .i64 s,.int .i64 wh,.int .i64 er,.bool true,.bool false,.bool false] 164 (0,0))):=by rw[←hW0];exact w15 (aF_ (aB_ _)) HR1v.out
   have HK0:Hid (W0.heap[w.heap.size+1]?=some (.cells #[.slice A0 1 c0] 43 (0,0))):=by rw[←hW0];exact j15 HK1v.out
   have HB0:Hid (Below w.heap.size w W0):=by rw[←hW0];exact w14 hbw1 (B_ _) _
   have M0:Hid (1=L0.length):=by simp only[Hid];rw[K0.out];rfl
   have HO0:Hid (OwnG 9 encT 1 W0 w.heap.size A0 c0 L0):=by simp only[Hid];rw[K0.out,←hW0];exact hown1.set_ty HK1v.out (by decide) _
   have N0:Hid (L0.length≤1):=by simp only[Hid];rw[K0.out];decide
   rw[hW0];clear hW0 p0 p1 p2 pf pz hown1 hbw1 hg1 q0 q1 q2 HR1v HK1v HRv HKv HBv;obtain⟨r0,r1,r2,r3⟩:=bc4 HR0.out rfl rfl rfl rfl;have l0:=bc 0 HK0.out rfl;go_wp2_with(
    first
     |(go_at_call 126;refine(y71 A4 c4 m4 L4 [44,32] _ M4.out (HO4.out.spg elemT.len) (by have:=N4.out;omega) HJL.out).mono ?_;rintro e x5⟨rfl,hb5⟩)
     |(go_at_call_of 184(Value.string ⟨#[115,116,97,108,101,45,105,102,45,101,114,114,111,114]⟩);refine(w40 (w0:=w) [115,116,97,108,101,45,105,102,45,101,114,114,111,114] er h3.1 h3.2 (by decide) HK3.out M3.out HO3.out HB3.out (B_ _) (by have:=M3.out;have:=N3.out;omega) (q30 HT.out HB3.out)).mono ?_;rintro e x4⟨rfl,A4,c4,m4,hm4,hk4,ho4,hb4,hf4⟩;have HK4:=a_ hk4;have HO4:Hid (OwnG 9 encT 1 x4 w.heap.size A4 c4 L4):=by simp only[Hid];rw[K4.out];exact ho4
       have M4:Hid (m4=L4.length):=by simp only[Hid];rw[K4.out];exact hm4
       have HB4:=a_ hb4;have HR4:=a_ (hf4.block HR3.out (aF_ (aB_ _)) (HO3.out.ne_ty HR3.out (by decide)));clear HK3 HO3 M3 HB3 HR3 r0 r1 r2 r3 l0 hm4 hk4 ho4 hb4 hf4;obtain⟨r0,r1,r2,r3⟩:=bc4 HR4.out rfl rfl rfl rfl;have l0:=bc 0 HK4.out rfl)
     |(go_at_call_of 184(Value.string ⟨#[115,116,97,108,101,45,119,104,105,108,101,45,114,101,118,97,108,105,100,97,116,101]⟩);refine(w40 (w0:=w) [115,116,97,108,101,45,119,104,105,108,101,45,114,101,118,97,108,105,100,97,116,101] wh h2.1 h2.2 (by decide) HK2.out M2.out HO2.out HB2.out (B_ _) (by have:=M2.out;have:=N2.out;omega) (q30 HT.out HB2.out)).mono ?_;rintro e x3⟨rfl,A3,c3,m3,hm3,hk3,ho3,hb3,hf3⟩;have HK3:=a_ hk3;have HO3:Hid (OwnG 9 encT 1 x3 w.heap.size A3 c3 L3):=by simp only[Hid];rw[K3.out];exact ho3
       have M3:Hid (m3=L3.length):=by simp only[Hid];rw[K3.out];exact hm3
       have HB3:=a_ hb3;have HR3:=a_ (hf3.block HR2.out (aF_ (aB_ _)) (HO2.out.ne_ty HR2.out (by decide)));clear HK2 HO2 M2 HB2 HR2 r0 r1 r2 r3 l0 hm3 hk3 ho3 hb3 hf3;obtain⟨r0,r1,r2,r3⟩:=bc4 HR3.out rfl rfl rfl rfl;have l0:=bc 0 HK3.out rfl)
     |(go_at_call_of 184(Value.string ⟨#[115,45,109,97,120,97,103,101]⟩);refine(w40 (w0:=w) [115,45,109,97,120,97,103,101] s h1.1 h1.2 (by decide) HK1.out M1.out HO1.out HB1.out (B_ _) (by have:=M1.out;have:=N1.out;omega) (q30 HT.out HB1.out)).mono ?_;rintro e x2⟨rfl,A2,c2,m2,hm2,hk2,ho2,hb2,hf2⟩;have HK2:=a_ hk2;have HO2:Hid (OwnG 9 encT 1 x2 w.heap.size A2 c2 L2):=by simp only[Hid];rw[K2.out];exact ho2
       have M2:Hid (m2=L2.length):=by simp only[Hid];rw[K2.out];exact hm2
       have HB2:=a_ hb2;have HR2:=a_ (hf2.block HR1.out (aF_ (aB_ _)) (HO1.out.ne_ty HR1.out (by decide)));clear HK1 HO1 M1 HB1 HR1 r0 r1 r2 r3 l0 hm2 hk2 ho2 hb2 hf2;obtain⟨r0,r1,r2,r3⟩:=bc4 HR2.out rfl rfl rfl rfl;have l0:=bc 0 HK2.out rfl)
     |(go_at_call_of 184(Value.string ⟨#[109,97,120,45,97,103,101]⟩);refine(w40 (w0:=w) [109,97,120,45,97,103,101] (-1) (by decide) (by decide) (by decide) HK0.out M0.out HO0.out HB0.out (B_ _) (by have:=M0.out;have:=N0.out;omega) (q30 HT.out HB0.out)).mono ?_;rintro e x1⟨rfl,A1,c1,m1,hm1,hk1,ho1,hb1,hf1⟩;have HK1:=a_ hk1;have HO1:Hid (OwnG 9 encT 1 x1 w.heap.size A1 c1 L1):=by simp only[Hid];rw[K1.out];exact ho1
       have M1:Hid (m1=L1.length):=by simp only[Hid];rw[K1.out];exact hm1
       have HB1:=a_ hb1;have HR1:=a_ (hf1.block HR0.out (aF_ (aB_ _)) (HO0.out.ne_ty HR0.out (by decide)));clear HK0 HO0 M0 HB0 HR0 r0 r1 r2 r3 l0 hm1 hk1 ho1 hb1 hf1;obtain⟨r0,r1,r2,r3⟩:=bc4 HR1.out rfl rfl rfl rfl;have l0:=bc 0 HK1.out rfl));go_ret;rw[HJ.out];exact⟨rfl,q12 hb5 HB4.out⟩
theorem k109(m:MetaL)(h:0≤m.fresh∧0≤m.wh∧0≤m.er):k56 m.fresh (offN m.wh) (offN m.er) (!m.keep)=ctlT m:=by
 obtain⟨h1,h2,h3⟩:=h;unfold k56 ctlT ctlL j56;have d0:dirL [109,97,120,45,97,103,101] (-1)=[]:=rfl;have d1:dirL [115,45,109,97,120,97,103,101] m.fresh=[w125++digN m.fresh]:=by unfold dirL;rw[q_ (by omega)];rfl
 have d2:dirL [115,116,97,108,101,45,119,104,105,108,101,45,114,101,118,97,108,105,100,97,116,101] (offN m.wh)=if m.wh=0 then[]else[vWhile++digN m.wh]:=by
  unfold dirL offN;by_cases e:m.wh=0;·simp[e]
  ·rw[q_ e,q_ e,q_ (by omega)];rfl
 have d3:dirL [115,116,97,108,101,45,105,102,45,101,114,114,111,114] (offN m.er)=if m.er=0 then[]else[vError++digN m.er]:=by
  unfold dirL offN;by_cases e:m.er=0;·simp[e]
  ·rw[q_ e,q_ e,q_ (by omega)];rfl
 rw[d0,d1,d2,d3];cases m.keep<;>simp[k108]
structure FSt(w wx:World)(cs:Array Value)(PO:Nat)(L:List j36):Prop where
 mb:wx.heap[w.heap.size]?=some (.cells cs 45 (0,0))
 box:∃A c k,k=L.length∧wx.heap[PO]?=some (.cells #[.slice A k c] 71 (0,0))∧OwnG 176 w18 2 wx w.heap.size A c L
 bel:Below w.heap.size w wx
def q41(m:MetaL)(w:World)(e:Ending)(w':World):Prop:=∃A c k,k=(x21 m).length∧e=.returned (.tuple #[.slice A k c,.int .i64 0])∧OwnG 176 w18 2 w' w.heap.size A c (x21 m)∧Below w.heap.size w w'
theorem digN0:digN 0=[48]:=by unfold digN;rw[Lib.decDigits];rfl
theorem k100{L:List (List UInt8)}(h:L.length≤32)(h2:∀x∈L,w26 x=true):(x176 [32] L).length≤1000000:=by have:=k87 [32] L fun x hx=>k54 (h2 x hx);have:L.length*(200+[(32:UInt8)].length)≤32*201:=cd_ h (by decide);omega
theorem q97(m:MetaL)(A:Option Addr)(c:Nat)(w:World)(hks:SpG encT 1 w A c m.keys)(hok:MetaOk m)(htab:Lib.TabIs Tryz.prog w "internal/strconv.uint64pow10" .u64 Lib.pow10Tab):Calls Tryz.prog 71 #[j25 m A c,.int .i64 0] w (q41 m w):=by
 have HRT:=fun W(hW:SpG encT 1 W A c m.keys)=>a_ (w68 m A c W hW hok);have HCO:=fun W=>a_ (w146 m A c W hok.fr hok.wh hok.er);have HCT:=fun W hT=>a_ (y119 m.fresh (offN m.wh) (offN m.er) (!m.keep) W (by have:=hok.fr;omega) (by have:=hok.wh;unfold offN;split<;>omega) (by have:=hok.er;unfold offN;split<;>omega) hT);rw[k109 m ⟨hok.fr.1,hok.wh.1,hok.er.1⟩]at HCT;obtain⟨ct,hct⟩:∃ct,ctlT m=ct:=⟨_,rfl⟩;rw[hct]at HCT;have HF:Hid (x21 m=(if tag0 m=true then[]else[(k77,tagT m.tag m.weak)])++(if m.mo=-1 then[]else[(nMod,q42 m.mo)])++[(nCtl,ct)]++[(nAge,[48])]++(if m.keys=[]then[]else[(nKey,x176 [32] m.keys)])++(if m.ten=[]then[]else[(nTen,m.ten)])++(if m.len=-1 then[(nLen,[42]),(x77,digN m.hv)]else[(nLen,digN m.len)])):=by simp only[Hid];rw[←hct];rfl
 obtain⟨L1,K1⟩:∃L,Hid (L=if tag0 m=true then[]else[(k77,tagT m.tag m.weak)]):=⟨_,a_ rfl⟩;obtain⟨L2,K2⟩:∃L,Hid (L=L1++if m.mo=-1 then[]else[(nMod,q42 m.mo)]):=⟨_,a_ rfl⟩;obtain⟨L3,K3⟩:∃L,Hid (L=L2++[(nCtl,ct)]):=⟨_,a_ rfl⟩;obtain⟨L4,K4⟩:∃L,Hid (L=L3++[(nAge,[48])]):=⟨_,a_ rfl⟩;obtain⟨L5,K5⟩:∃L,Hid (L=L4++if m.keys=[]then[]else[(nKey,x176 [32] m.keys)]):=⟨_,a_ rfl⟩;obtain⟨L6,K6⟩:∃L,Hid (L=L5++if m.ten=[]then[]else[(nTen,m.ten)]):=⟨_,a_ rfl⟩;obtain⟨L7,K7⟩:∃L,Hid (L=L6++if m.len=-1 then[(nLen,[42]),(x77,digN m.hv)]else[(nLen,digN m.len)]):=⟨_,a_ rfl⟩;have N1:Hid (L1.length≤1):=by simp only[Hid];rw[K1.out];split<;>simp
 have N2:Hid (L2.length≤2):=by simp only[Hid];rw[K2.out,e_];have:=N1.out;split<;>simp<;>omega
 have N3:Hid (L3.length≤3):=by simp only[Hid];rw[K3.out,e_];have:=N2.out;simp;omega
 have N4:Hid (L4.length≤4):=by simp only[Hid];rw[K4.out,e_];have:=N3.out;simp;omega
 have N5:Hid (L5.length≤5):=by simp only[Hid];rw[K5.out,e_];have:=N4.out;split<;>simp<;>omega
 have N6:Hid (L6.length≤6):=by simp only[Hid];rw[K6.out,e_];have:=N5.out;split<;>simp<;>omega
 have HL:Hid (x21 m=L7):=by simp only[Hid];rw[HF.out,K7.out,K6.out,K5.out,K4.out,K3.out,K2.out,K1.out]
 clear HF;obtain⟨F,hF⟩:∃F,x21 m=F:=⟨_,rfl⟩;have HP:Hid (∀e w',(∃A c k,k=F.length∧e=.returned (.tuple #[.slice A k c,.int .i64 0])∧OwnG 176 w18 2 w' w.heap.size A c F∧Below w.heap.size w w')→q41 m w e w'):=by simp only[Hid];intro e w' h;unfold q41;rw[hF];exact h
 rw[hF]at HL;clear hF hct;have HT:=a_ htab;have HOK:=a_ hok;have HK0:=a_ hks;have HFM:∀(n:Int)(W:World),0≤n→n≤9223372036854775807→Below w.heap.size w W→Hid (Calls Tryz.prog 125 #[.int .i64 n,.int .i64 10] W fun e w'=>e=.returned (.string ⟨(digN n).toArray⟩)∧Below W.heap.size W w'):=fun n W h0 h1 hW=>by have h:=w78 n (by omega) (by omega) W (q30 HT.out hW);rw[q66 h0]at h;exact a_ h
 have HF0:∀(W:World),Below w.heap.size w W→Hid (Calls Tryz.prog 125 #[.int .i64 0,.int .i64 10] W fun e w'=>e=.returned (.string ⟨#[48]⟩)∧Below W.heap.size W w'):=fun W hW=>by have h:=HFM 0 W (ao_ _) (by decide) hW;rw[digN0]at h;exact h
 clear htab hok hks;obtain⟨tg,wk,mo,ln,hv,fr,wh,er,ks,tn,kp⟩:=m;simp only at K1 K2 K5 K6 K7 HK0 HRT HCO;unfold j25 at HRT HCO⊢;simp only at HRT HCO⊢;have TK:=fun W=>a_ (k45 0 W);rw[show k37 0=true from rfl]at TK;go_enter Tryz.func71,Tryz.ntmps71;go_upto_region 4 with(first|(go_at_call 81;refine(HRT _ (HK0.out.alloc _)).out.mono ?_;rintro e w1⟨rfl,hb1⟩;have q0:=j3 hb1 (j17 (w:=w) (o:=.cells #[.string ⟨tg.toArray⟩,.bool wk,.int .i64 mo,.int .i64 ln,.int .i64 hv,.int .i64 fr,.int .i64 wh,.int .i64 er,.slice A ks.length c,.string ⟨tn.toArray⟩,.bool kp] 45) rfl))|(go_at_call 119;refine(TK _).out.mono ?_;rintro e w2⟨rfl,hw2⟩;obtain rfl:w1=w2:=hw2.symm));have S0:Hid (FSt w (w1.alloc (.cells #[.slice none 0 0] 71)) #[.string ⟨tg.toArray⟩,.bool wk,.int .i64 mo,.int .i64 ln,.int .i64 hv,.int .i64 fr,.int .i64 wh,.int .i64 er,.slice A ks.length c,.string ⟨tn.toArray⟩,.bool kp] w1.heap.size []):=⟨j16 q0,⟨none,0,0,rfl,j17 rfl,OwnG.nil _ _⟩,q11 (q12 hb1 (q11 (b_ _ _) _)) _⟩;have HPO:Hid (w.heap.size≠w1.heap.size∧w.heap.size≤w1.heap.size):=by have:=q14 q0;simp only[Hid];omega
 obtain⟨PO,hPO⟩:∃PO,w1.heap.size=PO:=⟨_,rfl⟩;obtain⟨W0,hW0⟩:∃W0,w1.alloc (.cells #[.slice none 0 0] 71)=W0:=⟨_,rfl⟩;rw[hW0,hPO]at S0;rw[hPO]at HPO;rw[hW0];try rw[hPO]
 clear hW0 hPO q0 hb1 HRT TK;have N0:Hid (([]:List j36).length≤0):=t_ 0;have hcg:∃tb:Bool,(tb=false∧tg=[]∧wk=false)∨(tb=true∧(tg==[])=false∧j20 tg=true):=by
  rcases HOK.out.tg with h|h;·exact⟨false,.inl ⟨rfl,h⟩⟩
  ·refine⟨true,.inr ⟨rfl,?_,h⟩⟩;have:=(y54 h).1;cases tg with|nil=>simp at this|cons a r=>rfl
 obtain⟨tb,HCG⟩:∃tb:Bool,Hid ((tb=false∧tg=[]∧wk=false)∨(tb=true∧(tg==[])=false∧j20 tg=true)):=hcg;have HR:=a_ S0.out.mb;have HB:=a_ S0.out.bel;obtain⟨A0,c0,k0,hk0,hb0,ho0⟩:=S0.out.box;have HM:=a_ hk0;have HK:=a_ hb0;have HO:=a_ ho0;have NN:Hid (([]:List j36).length≤10):=by simp only[Hid];have:=N0.out;decide
 clear hk0 hb0 ho0 S0;obtain⟨v0,v1,v2,v3,v4,v5,v6,v7,v8,v9,v10⟩:=bc11 HR.out;have z0:=bc 0 HK.out rfl;go_upto_region 5 with fail;go_cut[22](fun s22 wx=>s22=.bool tb∧wx=W0);case first=>
  rcases HCG.out with⟨rfl,rfl,rfl⟩|⟨rfl,hne,_⟩;all_goals go_wp2_with fail;go_meet;exact⟨rfl,rfl⟩
 case rest=>
  obtain⟨rfl,hwx⟩:=hcut;obtain rfl:W0=wc:=hwx.symm;go_upto_if 22 with fail;go_cut[](fun wx=>FSt w wx #[.string ⟨tg.toArray⟩,.bool wk,.int .i64 mo,.int .i64 ln,.int .i64 hv,.int .i64 fr,.int .i64 wh,.int .i64 er,.slice A ks.length c,.string ⟨tn.toArray⟩,.bool kp] PO L1);case first=>
   rcases HCG.out with⟨rfl,rfl,rfl⟩|⟨rfl,hne,hto⟩;·
    have E:L1=[]:=by rw[K1.out];rfl
    go_wp2_with fail;go_meet;exact⟨HR.out,⟨A0,c0,k0,by rw[HM.out,E],HK.out,by rw[E];exact HO.out⟩,HB.out⟩
   ·have E:L1=[]++[(k77,tagT tg wk)]:=by
     rw[K1.out,q_];·rfl
     ·unfold tag0;rw[r_,p_];rintro⟨h,_⟩;have h':tg=[]:=h;rw[h']at hne;simp at hne
    have HTT:=fun W=>a_ (v120 tg wk W (by have:=(y54 hto).2;omega));rw[show j47 tg wk=tagT tg wk from w_ hto]at HTT;clear hto;go_wp2_with(first|(go_at_call_of 120(Value.string ⟨#[69,84,97,103]⟩);refine(w33 (w0:=w) [69,84,97,103] (tagT tg wk) HKy.out HM.out HOy.out HBy.out HPO.out.2 (by have:=HM.out;have:=NN.out;omega)).mono ?_;rintro e z⟨rfl,Az,cz,kz,hkz,hbz,hoz,hlz,hfz⟩;have HRz:=a_ (hfz.block HRy.out HPO.out.1 (HOy.out.ne_ty HRy.out (by decide))))|(go_at_call 121;refine((HTT _).out).mono ?_;rintro e y⟨rfl,hy⟩;have HRy:=a_ (j3 hy HR.out);have HKy:=a_ (j3 hy HK.out);have HOy:=a_ (HO.out.below hy);have HBy:=a_ (q12 hy HB.out);clear hy));go_meet;exact⟨HRz.out,⟨Az,cz,kz,by rw[hkz,E];rfl,hbz,by rw[E];exact hoz⟩,hlz⟩
  case rest=>
   have S1:=a_ hcut;clear hcut HR HB HM HK HO NN v0 v1 v2 v3 v4 v5 v6 v7 v8 v9 v10 z0;have HR:=a_ S1.out.mb;have HB:=a_ S1.out.bel;obtain⟨A0,c0,k0,hk0,hb0,ho0⟩:=S1.out.box;have HM:=a_ hk0;have HK:=a_ hb0;have HO:=a_ ho0;have NN:Hid (L1.length≤10):=by simp only[Hid];have:=N1.out;omega
   clear hk0 hb0 ho0 S1;obtain⟨v0,v1,v2,v3,v4,v5,v6,v7,v8,v9,v10⟩:=bc11 HR.out;have z0:=bc 0 HK.out rfl;go_upto_if 30 with fail;go_cut[](fun wx=>FSt w wx #[.string ⟨tg.toArray⟩,.bool wk,.int .i64 mo,.int .i64 ln,.int .i64 hv,.int .i64 fr,.int .i64 wh,.int .i64 er,.slice A ks.length c,.string ⟨tn.toArray⟩,.bool kp] PO L2);case first=>
    by_cases hmo:mo=-1;·
     have E:L2=L1:=by rw[K2.out,w_ hmo,T_]
     have b0:(mo !=-1)=false:=by rw[z_];exact hmo
     clear hmo;go_wp2_with fail;go_meet;exact⟨HR.out,⟨A0,c0,k0,by rw[HM.out,E],HK.out,by rw[E];exact HO.out⟩,HB.out⟩
    ·have E:L2=L1++[(nMod,q42 mo)]:=by rw[K2.out,q_ hmo]
     have b0:(mo !=-1)=true:=by rw[F_];exact hmo
     have HDT:=fun W=>a_ (x72 mo W (by have:=HOK.out.mo;have:=hmo;simp only at*;omega) HOK.out.mo.2);clear hmo;go_wp2_with(first|(go_at_call_of 120(Value.string ⟨#[76,97,115,116,45,77,111,100,105,102,105,101,100]⟩);refine(w33 (w0:=w) [76,97,115,116,45,77,111,100,105,102,105,101,100] (q42 mo) HKy.out HM.out HOy.out HBy.out HPO.out.2 (by have:=HM.out;have:=NN.out;omega)).mono ?_;rintro e z⟨rfl,Az,cz,kz,hkz,hbz,hoz,hlz,hfz⟩;have HRz:=a_ (hfz.block HRy.out HPO.out.1 (HOy.out.ne_ty HRy.out (by decide))))|(go_at_call 122;refine((HDT _).out).mono ?_;rintro e y⟨rfl,hy⟩;have HRy:=a_ (j3 hy HR.out);have HKy:=a_ (j3 hy HK.out);have HOy:=a_ (HO.out.below hy);have HBy:=a_ (q12 hy HB.out);clear hy));go_meet;exact⟨HRz.out,⟨Az,cz,kz,by rw[hkz,E];rfl,hbz,by rw[E];exact hoz⟩,hlz⟩
   case rest=>
    have S2:=a_ hcut;clear hcut HR HB HM HK HO NN v0 v1 v2 v3 v4 v5 v6 v7 v8 v9 v10 z0;have HR:=a_ S2.out.mb;have HB:=a_ S2.out.bel;obtain⟨A0,c0,k0,hk0,hb0,ho0⟩:=S2.out.box;have HM:=a_ hk0;have HK:=a_ hb0;have HO:=a_ ho0;have NN:Hid (L2.length≤10):=by simp only[Hid];have:=N2.out;omega
    clear hk0 hb0 ho0 S2;obtain⟨v0,v1,v2,v3,v4,v5,v6,v7,v8,v9,v10⟩:=bc11 HR.out;have z0:=bc 0 HK.out rfl;go_upto_if 52 with(
     first
      |(go_at_call_of 120(Value.string ⟨#[65,103,101]⟩);refine(w33 (w0:=w) [65,103,101] [48] HKu.out HMz.out HOu.out HBu.out HPO.out.2 (by have:=HMz.out;have:=N3.out;omega)).mono ?_;rintro e q⟨rfl,Aq,cq,kq,hkq,hbq,hoq,hlq,hfq⟩;have HRq:=a_ (hfq.block HRu.out HPO.out.1 (HOu.out.ne_ty HRu.out (by decide)));have q8:=bc 8 HRq.out rfl)
      |(go_at_call 125;refine(HF0 _ HBz.out).out.mono ?_;rintro e u⟨rfl,hu⟩;have HRu:=a_ (j3 hu HRz.out);have HKu:=a_ (j3 hu HKz.out);have HOu:=a_ (HOz.out.below hu);have HBu:=a_ (q12 hu HBz.out);clear hu)
      |(go_at_call_of 120(Value.string ⟨#[67,97,99,104,101,45,67,111,110,116,114,111,108]⟩);refine(w33 (w0:=w) [67,97,99,104,101,45,67,111,110,116,114,111,108] ct HKy.out HM.out HOy.out HBy.out HPO.out.2 (by have:=HM.out;have:=NN.out;omega)).mono ?_;rintro e z⟨rfl,Az,cz,kz,hkz,hbz,hoz,hlz,hfz⟩;have HRz:=a_ (hfz.block HRy.out HPO.out.1 (HOy.out.ne_ty HRy.out (by decide)));have HMz:Hid (kz=L3.length):=by simp only[Hid];rw[K3.out];exact hkz
        have HKz:=a_ hbz;have HOz:Hid (OwnG 176 w18 2 z w.heap.size Az cz L3):=by simp only[Hid];rw[K3.out];exact hoz
        have HBz:=a_ hlz;clear hkz hbz hoz hlz hfz)
      |(go_at_call 123;refine(HCT _ (q30 HT.out HBx.out)).out.mono ?_;rintro e y⟨rfl,hy⟩;have HRy:=a_ (j3 hy HRx.out);have HKy:=a_ (j3 hy HKx.out);have HOy:=a_ (HOx.out.below hy);have HBy:=a_ (q12 hy HBx.out);clear hy)
      |(go_at_call 124;refine((HCO _).out).mono ?_;rintro e x⟨rfl,hx⟩;have HRx:=a_ (j3 hx HR.out);have HKx:=a_ (j3 hx HK.out);have HOx:=a_ (HO.out.below hx);have HBx:=a_ (q12 hx HB.out);clear hx));go_cut[](fun wx=>FSt w wx #[.string ⟨tg.toArray⟩,.bool wk,.int .i64 mo,.int .i64 ln,.int .i64 hv,.int .i64 fr,.int .i64 wh,.int .i64 er,.slice A ks.length c,.string ⟨tn.toArray⟩,.bool kp] PO L5);case first=>
     have NN4:=N4.out;have HMu:Hid (kq=L4.length):=by simp only[Hid];rw[K4.out];exact hkq
     have HKu:=a_ hbq;have HOu:Hid (OwnG 176 w18 2 q w.heap.size Aq cq L4):=by simp only[Hid];rw[K4.out];exact hoq
     have HBu:=a_ hlq;by_cases hkn:ks=[];·
      have E:L5=L4:=by rw[K5.out,w_ hkn,T_]
      have b0:¬(0:Int)<(ks.length:Int):=by rw[hkn];decide
      clear hkn;go_wp2_with fail;go_meet;exact⟨HRq.out,⟨Aq,cq,kq,by rw[HMu.out,E],HKu.out,by rw[E];exact HOu.out⟩,HBu.out⟩
     ·have E:L5=L4++[(nKey,x176 [32] ks)]:=by rw[K5.out,q_ hkn]
      have b0:(0:Int)<(ks.length:Int):=by have:=bf_.2 hkn;omega
      clear hkn;have hkl:=HOK.out.kn;have hka:=HOK.out.ka;simp only at hkl hka;have HJ:=a_ (y71 A c ks.length ks [32] q rfl (HK0.out.below HBu.out) (by omega) (k100 hkl hka));clear hkl hka;go_wp2_with(first|(go_at_call_of 120(Value.string ⟨#[83,117,114,114,111,103,97,116,101,45,75,101,121]⟩);refine(w33 (w0:=w) [83,117,114,114,111,103,97,116,101,45,75,101,121] (x176 [32] ks) HKy.out HMu.out HOy.out HBy.out HPO.out.2 (by have:=HMu.out;have:=NN4;omega)).mono ?_;rintro e z⟨rfl,Az,cz,kz,hkz,hbz,hoz,hlz,hfz⟩;have HRz:=a_ (hfz.block HRy.out HPO.out.1 (HOy.out.ne_ty HRy.out (by decide))))|(go_at_call 126;refine HJ.out.mono ?_;rintro e y⟨rfl,hy⟩;have HRy:=a_ (j3 hy HRq.out);have HKy:=a_ (j3 hy HKu.out);have HOy:=a_ (HOu.out.below hy);have HBy:=a_ (q12 hy HBu.out);clear hy));go_meet;exact⟨HRz.out,⟨Az,cz,kz,by rw[hkz,E];rfl,hbz,by rw[E];exact hoz⟩,hlz⟩
    case rest=>
     have S5:=a_ hcut;clear hcut HR HB HM HK HO NN v0 v1 v2 v3 v4 v5 v6 v7 v8 v9 v10 z0;have HR:=a_ S5.out.mb;have HB:=a_ S5.out.bel;obtain⟨A0,c0,k0,hk0,hb0,ho0⟩:=S5.out.box;have HM:=a_ hk0;have HK:=a_ hb0;have HO:=a_ ho0;have NN:Hid (L5.length≤10):=by simp only[Hid];have:=N5.out;omega
     clear hk0 hb0 ho0 S5;obtain⟨v0,v1,v2,v3,v4,v5,v6,v7,v8,v9,v10⟩:=bc11 HR.out;have z0:=bc 0 HK.out rfl;obtain⟨nb,hnb⟩:∃b,tn.isEmpty=b:=⟨_,rfl⟩;have HNB:=a_ hnb;go_upto_if 60 with fail;clear hnb;go_cut[](fun wx=>FSt w wx #[.string ⟨tg.toArray⟩,.bool wk,.int .i64 mo,.int .i64 ln,.int .i64 hv,.int .i64 fr,.int .i64 wh,.int .i64 er,.slice A ks.length c,.string ⟨tn.toArray⟩,.bool kp] PO L6);case first=>
      cases nb with
       |true=>
        have htn:tn=[]:=aN_.1 HNB.out;have E:L6=L5:=by rw[K6.out,w_ htn,T_]
        clear htn;go_wp2_with fail;go_meet;exact⟨HR.out,⟨A0,c0,k0,by rw[HM.out,E],HK.out,by rw[E];exact HO.out⟩,HB.out⟩
       |false=>
        have htn:tn≠[]:=by intro hh;have:=HNB.out;rw[hh]at this;simp at this
        have E:L6=L5++[(nTen,tn)]:=by rw[K6.out,q_ htn]
        clear htn;go_wp2_with(first|(go_at_call_of 120(Value.string ⟨#[88,45,84,101,110,97,110,116]⟩);refine(w33 (w0:=w) [88,45,84,101,110,97,110,116] tn HK.out HM.out HO.out HB.out HPO.out.2 (by have:=HM.out;have:=NN.out;omega)).mono ?_;rintro e z⟨rfl,Az,cz,kz,hkz,hbz,hoz,hlz,hfz⟩;have HRz:=a_ (hfz.block HR.out HPO.out.1 (HO.out.ne_ty HR.out (by decide)))));go_meet;exact⟨HRz.out,⟨Az,cz,kz,by rw[hkz,E];rfl,hbz,by rw[E];exact hoz⟩,hlz⟩
     case rest=>
      have S6:=a_ hcut;clear hcut HR HB HM HK HO NN v0 v1 v2 v3 v4 v5 v6 v7 v8 v9 v10 z0;have HR:=a_ S6.out.mb;have HB:=a_ S6.out.bel;obtain⟨A0,c0,k0,hk0,hb0,ho0⟩:=S6.out.box;have HM:=a_ hk0;have HK:=a_ hb0;have HO:=a_ ho0;have NN:Hid (L6.length≤10):=by simp only[Hid];have:=N6.out;omega
      clear hk0 hb0 ho0 S6;obtain⟨v0,v1,v2,v3,v4,v5,v6,v7,v8,v9,v10⟩:=bc11 HR.out;have z0:=bc 0 HK.out rfl;go_upto_if 67 with fail;go_cut[](fun wx=>FSt w wx #[.string ⟨tg.toArray⟩,.bool wk,.int .i64 mo,.int .i64 ln,.int .i64 hv,.int .i64 fr,.int .i64 wh,.int .i64 er,.slice A ks.length c,.string ⟨tn.toArray⟩,.bool kp] PO L7);case first=>
       by_cases hln:ln=-1;·
        have E:L7=L6++[(nLen,[42])]++[(x77,digN hv)]:=by rw[K7.out,w_ hln,x_];rfl
        have b0:(ln !=-1)=false:=by rw[z_];exact hln
        have hhv:=HOK.out.hv;simp only at hhv;clear hln;go_wp2_with(
         first
          |(go_at_call_of 120(Value.string ⟨#[88,45,72,97,118,101]⟩);refine(w33 (w0:=w) [88,45,72,97,118,101] (digN hv) HKy.out HMx.out HOy.out HBy.out HPO.out.2 (by have:=HMx.out;have:=NX.out;omega)).mono ?_;rintro e z⟨rfl,Az,cz,kz,hkz,hbz,hoz,hlz,hfz⟩;have HRz:=a_ (hfz.block HRy.out HPO.out.1 (HOy.out.ne_ty HRy.out (by decide))))
          |(go_at_call 125;refine(HFM hv _ hhv.1 (by omega) HBx.out).out.mono ?_;rintro e y⟨rfl,hy⟩;have HRy:=a_ (j3 hy HRx.out);have HKy:=a_ (j3 hy HKx.out);have HOy:=a_ (HOx.out.below hy);have HBy:=a_ (q12 hy HBx.out);clear hy)
          |(go_at_call_of 120(Value.string ⟨#[88,45,76,101,110,103,116,104]⟩);refine(w33 (w0:=w) [88,45,76,101,110,103,116,104] [42] HK.out HM.out HO.out HB.out HPO.out.2 (by have:=HM.out;have:=NN.out;omega)).mono ?_;rintro e x⟨rfl,Ax,cx,kx,hkx,hbx,hox,hlx,hfx⟩;have HRx:=a_ (hfx.block HR.out HPO.out.1 (HO.out.ne_ty HR.out (by decide)));have HMx:=a_ hkx;have HKx:=a_ hbx;have HOx:=a_ hox;have HBx:=a_ hlx;have w3:=bc 4 HRx.out rfl;have NX:Hid ((L6++[([88,45,76,101,110,103,116,104],[42])]).length≤10):=by simp only[Hid];rw[e_];have:=N6.out;simp;omega
            clear hkx hbx hox hlx hfx));go_meet;exact⟨HRz.out,⟨Az,cz,kz,by rw[hkz,E];rfl,hbz,by rw[E];exact hoz⟩,hlz⟩
       ·have E:L7=L6++[(nLen,digN ln)]:=by rw[K7.out,q_ hln]
        have b0:(ln !=-1)=true:=by rw[F_];exact hln
        have hhv:=HOK.out.ln;simp only at hhv;have hl0:0≤ln:=by omega
        clear hln;go_wp2_with(first|(go_at_call_of 120(Value.string ⟨#[88,45,76,101,110,103,116,104]⟩);refine(w33 (w0:=w) [88,45,76,101,110,103,116,104] (digN ln) HKy.out HM.out HOy.out HBy.out HPO.out.2 (by have:=HM.out;have:=NN.out;omega)).mono ?_;rintro e z⟨rfl,Az,cz,kz,hkz,hbz,hoz,hlz,hfz⟩;have HRz:=a_ (hfz.block HRy.out HPO.out.1 (HOy.out.ne_ty HRy.out (by decide))))|(go_at_call 125;refine(HFM ln _ hl0 (by omega) HB.out).out.mono ?_;rintro e y⟨rfl,hy⟩;have HRy:=a_ (j3 hy HR.out);have HKy:=a_ (j3 hy HK.out);have HOy:=a_ (HO.out.below hy);have HBy:=a_ (q12 hy HB.out);clear hy));go_meet;exact⟨HRz.out,⟨Az,cz,kz,by rw[hkz,E];rfl,hbz,by rw[E];exact hoz⟩,hlz⟩
      case rest=>obtain⟨A9,c9,k9,hk9,hb9,ho9⟩:=hcut.box;have y0:=bc 0 hb9 rfl;have HB9:=a_ hcut.bel;have HM9:=a_ hk9;have HO9:=a_ ho9;clear hk9 hb9 ho9 hcut HR HB HM HK HO NN v0 v1 v2 v3 v4 v5 v6 v7 v8 v9 v10 z0;go_wp2_with fail;refine m_ (by simp[results,Tryz.results71,go_sem];try rfl) rfl ?_;exact HP.out _ _ ⟨A9,c9,k9,by rw[HM9.out,HL.out],rfl,by rw[HL.out];exact HO9.out,HB9.out⟩
structure RowSt{α:Type}(T:TypeId)(en:α→List Value)(n:Nat)(w:World)(bx:Nat)(BC:Array Value)(BT:TypeId)(L:List α)(s:Value)(wx:World):Prop where
 row:∃A c m,s=.slice A m c∧m=L.length∧OwnG T en n wx w.heap.size A c L
 box:wx.heap[bx]?=some (.cells BC BT (0,0))
 bel:Below w.heap.size w wx
theorem OwnG.made{α:Type}{T:TypeId}{en:α→List Value}{n:Nat}{w:World}{base g:Nat}(hg:g=w.heap.size)(hb:base≤w.heap.size):OwnG T en n (w.alloc (.cells #[] T)) base (some ⟨g,0,none⟩) 0 ([]:List α):=by subst hg;exact World.ownsRow_made w #[] 0 hb (by decide) (by simp)
theorem z132(sep:List UInt8)(L:List (List UInt8))(x:List UInt8):x176 sep (L++[x])=if L=[]then x else x176 sep L++(sep++x):=by cases L with|nil=>simp[x176]|cons a r=>simp[x176,List.flatMap_append]
theorem k91{sep:List UInt8}{L:List (List UInt8)}{k:Nat}(hk:k<L.length):x176 sep (L.take (k+1))=if k=0 then L[k]else x176 sep (L.take k)++(sep++L[k]):=by
 rw[n_ hk,z132];by_cases h:k=0;·subst h;simp
 ·rw[q_ h,q_];intro e;have h2:=R_ List.length e;rw[N_,i_]at h2;omega
theorem v155(sep:List UInt8)(a b:List (List UInt8)):(x176 sep a).length≤(x176 sep (a++b)).length:=by cases a with|nil=>simp[x176]|cons x r=>simp[x176,List.flatMap_append]
theorem q47(sep:List UInt8)(L:List (List UInt8))(k:Nat):(x176 sep (L.take k)).length≤(x176 sep L).length:=by have:=v155 sep (L.take k) (L.drop k);rw[aa_]at this;exact this
theorem q132(m:MetaL)(A:Option Addr)(c:Nat)(w:World)(h1:0≤m.fresh∧m.fresh≤1099511627776)(h2:0≤m.wh∧m.wh≤1099511627776)(h3:0≤m.er∧m.er≤1099511627776):Calls Tryz.prog 218 #[j25 m A c] w fun e w'=>e=.returned (w65 m.fresh (offN m.wh) (offN m.er) (!m.keep))∧Below w.heap.size w w':=by
 obtain⟨tg,wk,mo,ln,hv,fr,wh,er,ks,tn,kp⟩:=m;simp only at h1 h2 h3⊢;have H1:=fun W=>a_ (z111 fr W h1.1 h1.2);have H2:∀W,Hid (Calls Tryz.prog 278 #[.int .i64 wh] W fun e w'=>e=.returned (.int .i64 (offN wh))∧w'=W):=fun W=>a_ (q111 wh W h2.1 h2.2);have H3:∀W,Hid (Calls Tryz.prog 278 #[.int .i64 er] W fun e w'=>e=.returned (.int .i64 (offN er))∧w'=W):=fun W=>a_ (q111 er W h3.1 h3.2);obtain⟨x2,hx2⟩:∃x,offN wh=x:=⟨_,rfl⟩;obtain⟨x3,hx3⟩:∃x,offN er=x:=⟨_,rfl⟩;rw[hx2]at H2⊢;rw[hx3]at H3⊢;unfold j25 w65;simp only;clear h1 h2 h3 hx2 hx3;go_enter Tryz.func218,Tryz.ntmps218;go_wp2_with fail;go_region_held3(fun w'=>w'.cell? ⟨w.heap.size,5,none⟩=some (.int .i64 fr)∧w'.cell? ⟨w.heap.size,6,none⟩=some (.int .i64 wh)∧w'.cell? ⟨w.heap.size,7,none⟩=some (.int .i64 er)∧w'.cell? ⟨w.heap.size,10,none⟩=some (.bool kp))(simp[go_sem])(first|(go_at_call 277;refine(H1 _).out.mono ?_;rintro e w1⟨rfl,rfl⟩)|(go_at_call_of 278(Value.int .i64 wh);refine(H2 _).out.mono ?_;rintro e w1⟨rfl,rfl⟩)|(go_at_call_of 278(Value.int .i64 er);refine(H3 _).out.mono ?_;rintro e w1⟨rfl,rfl⟩));all_goals go_wp2_with fail;refine m_ (by simp[results,Tryz.results218,go_sem];try rfl) rfl ?_;exact⟨rfl,by(repeat(first|exact b_ _ _|refine q15 ?_ _|refine x15 ?_|refine q11 ?_ _|refine w14 ?_ (by simp) _))⟩
theorem x109(s wh er:Int)(ns:Bool)(w:World)(h1:0≤s∧s≤1099511627776)(h2:-1≤wh∧wh≤1099511627776)(h3:-1≤er∧er≤1099511627776):Calls Tryz.prog 217 #[w65 s wh er ns] w fun e w'=>e=.returned (.string ⟨(k56 s wh er ns).toArray⟩)∧Below w.heap.size w w':=by
 obtain⟨L0,K0⟩:∃t,Hid (t=j56 ns):=⟨_,a_ rfl⟩;obtain⟨L1,K1⟩:∃t,Hid (t=L0++dirL [115,45,109,97,120,97,103,101] s):=⟨_,a_ rfl⟩;obtain⟨L2,K2⟩:∃t,Hid (t=L1++dirL [115,116,97,108,101,45,119,104,105,108,101,45,114,101,118,97,108,105,100,97,116,101] wh):=⟨_,a_ rfl⟩;obtain⟨L3,K3⟩:∃t,Hid (t=L2++dirL [115,116,97,108,101,45,105,102,45,101,114,114,111,114] er):=⟨_,a_ rfl⟩;have N0:Hid (L0.length≤1):=by simp only[Hid];rw[K0.out];unfold j56;split<;>simp
 have N1:Hid (L1.length≤2):=by simp only[Hid];rw[K1.out,e_];have:=N0.out;have:=x47 [115,45,109,97,120,97,103,101] s;omega
 have N2:Hid (L2.length≤3):=by simp only[Hid];rw[K2.out,e_];have:=N1.out;have:=x47 [115,116,97,108,101,45,119,104,105,108,101,45,114,101,118,97,108,105,100,97,116,101] wh;omega
 have N3:Hid (L3.length≤4):=by simp only[Hid];rw[K3.out,e_];have:=N2.out;have:=x47 [115,116,97,108,101,45,105,102,45,101,114,114,111,114] er;omega
 have HL:Hid (∀x∈L3,x.length≤200):=by
  simp only[Hid];intro x hx;rw[K3.out,K2.out,K1.out,K0.out]at hx;simp only[A_]at hx;rcases hx with((hx|hx)|hx)|hx;·
   unfold j56 at hx;split at hx;·rw[D_.1 hx];decide
   ·simp at hx
  ·exact x182 hx h1.2 (by decide)
  ·exact x182 hx h2.2 (by decide)
  ·exact x182 hx h3.2 (by decide)
 have HJ:Hid (x176 [44,32] L3=k56 s wh er ns):=by simp only[Hid];rw[K3.out,K2.out,K1.out,K0.out];unfold k56;rw[show dirL [109,97,120,45,97,103,101] (-1)=[]from rfl,T_]
 have HJL:Hid ((x176 [44,32] L3).length≤10000):=by simp only[Hid];have:=k87 [44,32] L3 HL.out;have h4:=N3.out;have:L3.length*(200+[(44:UInt8),32].length)≤4*202:=cd_ h4 (by decide);omega
 have HC:=fun n W(h:n≤1099511627776)=>a_ (y127 n W h);have HN:=fun n W(h0:0≤n)(h1:n≤9223372036854775807)=>a_ (k146 n.toNat n W (t_ _) h0 h1);have H1:=a_ h1;have H2:=a_ h2;have H3:=a_ h3;obtain⟨T,hT⟩:∃T,k56 s wh er ns=T:=⟨_,rfl⟩;rw[hT]at HJ⊢;unfold w65;clear HL h1 h2 h3 hT;go_enter Tryz.func217,Tryz.ntmps217;go_upto_region 2 with fail;obtain⟨W0,hW0⟩:∃W0,(w.alloc (.cells #[.int .i64 (-1),.int .i64 s,.int .i64 wh,.int .i64 er,.bool ns,.bool false,.bool false] 278)).alloc (.cells #[] 9)=W0:=⟨_,rfl⟩;have HR:Hid (W0.heap[w.heap.size]?=some (.cells #[.int .i64 (-1),.int .i64 s,.int .i64 wh,.int .i64 er,.bool ns,.bool false,.bool false] 278 (0,0))):=by rw[←hW0];exact j16 (j17 rfl)
 have HB:Hid (Below w.heap.size w W0):=by rw[←hW0];exact q11 (q11 (b_ _ _) _) _
 have HO:Hid (OwnG 9 encT 1 W0 w.heap.size (some ⟨w.heap.size+1,0,none⟩) 0 []):=by rw[←hW0];exact OwnG.made (by simp) (by simp)
 rw[hW0];clear hW0;obtain⟨r0,r1,r2,r3,r4,r5,r6⟩:=bc7 HR.out rfl rfl rfl rfl rfl rfl rfl;go_upto_if 8 with fail;go_cut[3](fun s3 wx=>RowSt 9 encT 1 w w.heap.size #[.int .i64 (-1),.int .i64 s,.int .i64 wh,.int .i64 er,.bool ns,.bool false,.bool false] 278 L0 s3 wx);case first=>
  cases ns with
   |false=>have E:L0=[]:=K0.out;go_wp2_with fail;go_meet;exact⟨⟨_,_,_,rfl,by rw[E];rfl,by rw[E];exact HO.out⟩,HR.out,HB.out⟩
   |true=>have E:L0=[[110,111,45,115,116,111,114,101]]:=K0.out;go_wp2_with(at_builtin;go_must(refine x23 (w0:=w) elemT rfl (.tmp 9) (.tmp 10) rfl (some ⟨w.heap.size+1,0,none⟩) 0 0 [] rfl _ _ rfl HO.out [[110,111,45,115,116,111,114,101]] 1 rfl rfl rfl S_ 1 rfl (by decide) HB.out ?_;intro A2 c2 w2 hown2 hbw2 hg2));go_meet;exact⟨⟨A2,c2,1,rfl,by rw[E];rfl,by rw[E];exact hown2⟩,w20 (j16 HR.out) hg2 (HO.out.ne_ty HR.out (by decide)),hbw2⟩
 case rest=>
  obtain⟨⟨A0,c0,m0,rfl,hm0,ho0⟩,hr0,hb0⟩:=hcut;clear HR HB HO r0 r1 r2 r3 r4 r5 r6;have HR:=a_ hr0;have HB:=a_ hb0;have HO:=a_ ho0;have M0:=a_ hm0;clear hr0 hb0 ho0 hm0;obtain⟨r0,r1,r2,r3,r4,r5,r6⟩:=bc7 HR.out rfl rfl rfl rfl rfl rfl rfl;go_upto_if 35 with fail;go_cut[3](fun s3 wx=>RowSt 9 encT 1 w w.heap.size #[.int .i64 (-1),.int .i64 s,.int .i64 wh,.int .i64 er,.bool ns,.bool false,.bool false] 278 L1 s3 wx);case first=>
   have hs0:0≤s:=H1.out.1;·
    have E:L1=L0++[[115,45,109,97,120,97,103,101,61]++digN s]:=by rw[K1.out];unfold dirL;rw[q_ (by omega)];rfl
    have hdl:=w21 (n:=s) (by have:=H1.out;omega);have hc1:=catE (a:=[115,45,109,97,120,97,103,101,61]) (b:=digN s) (by simp only[g_,i_];omega);have HN1:=fun W=>HN s W (by have:=H1.out;omega) (by have:=H1.out;omega);have HC1:=fun W=>HC s W (by have:=H1.out;omega);obtain⟨tx,htx⟩:∃t,[115,45,109,97,120,97,103,101,61]++digN s=t:=⟨_,rfl⟩;rw[htx]at hc1 E;obtain⟨dg,hdg⟩:∃t,digN s=t:=⟨_,rfl⟩;rw[hdg]at hc1 HN1;clear htx hdl hdg;go_wp2_with(first|(go_at_call 276;refine(HC1 _).out.mono ?_;rintro e x1⟨rfl,hx1⟩;obtain rfl:wc=x1:=hx1.symm)|(go_at_call 275;refine(HN1 _).out.mono ?_;rintro e x2⟨rfl,hb2⟩;have HR2:=a_ (j3 hb2 HR.out);have HO2:=a_ (HO.out.below hb2);have HB2:=a_ (q12 hb2 HB.out);clear hb2)|(at_builtin;go_must(refine x23 (w0:=w) elemT rfl (.tmp 36) (.tmp 42) rfl A0 c0 m0 L0 M0.out #[.string ⟨tx.toArray⟩] _ rfl HO2.out [tx] 1 rfl rfl rfl S_ (m0+1) rfl (by have:=M0.out;have:=N0.out;omega) HB2.out ?_;intro A2 c2 w2 hown2 hbw2 hg2)));go_meet;exact⟨⟨A2,c2,m0+1,rfl,by rw[E,e_,←M0.out];rfl,by rw[E];exact hown2⟩,w20 (j16 HR2.out) hg2 (HO2.out.ne_ty HR2.out (by decide)),hbw2⟩
  case rest=>
   obtain⟨⟨A1,c1,m1,rfl,hm1,ho1⟩,hr1,hb1⟩:=hcut;clear HR HB HO r0 r1 r2 r3 r4 r5 r6;have HR:=a_ hr1;have HB:=a_ hb1;have HO:=a_ ho1;have M1:=a_ hm1;clear hr1 hb1 ho1 hm1;obtain⟨r0,r1,r2,r3,r4,r5,r6⟩:=bc7 HR.out rfl rfl rfl rfl rfl rfl rfl;go_upto_if 46 with fail;go_cut[3](fun s3 wx=>RowSt 9 encT 1 w w.heap.size #[.int .i64 (-1),.int .i64 s,.int .i64 wh,.int .i64 er,.bool ns,.bool false,.bool false] 278 L2 s3 wx);case first=>
    by_cases hn:0≤wh;·
     have E:L2=L1++[[115,116,97,108,101,45,119,104,105,108,101,45,114,101,118,97,108,105,100,97,116,101,61]++digN wh]:=by rw[K2.out];unfold dirL;rw[q_ (by omega)];rfl
     have hdl:=w21 (n:=wh) (by have:=H2.out;omega);have hc1:=catE (a:=[115,116,97,108,101,45,119,104,105,108,101,45,114,101,118,97,108,105,100,97,116,101,61]) (b:=digN wh) (by simp only[g_,i_];omega);have HN2:=fun W=>HN wh W (by have:=H2.out;omega) (by have:=H2.out;omega);have HC2:=fun W=>HC wh W (by have:=H2.out;omega);obtain⟨tx,htx⟩:∃t,[115,116,97,108,101,45,119,104,105,108,101,45,114,101,118,97,108,105,100,97,116,101,61]++digN wh=t:=⟨_,rfl⟩;rw[htx]at hc1 E;obtain⟨dg,hdg⟩:∃t,digN wh=t:=⟨_,rfl⟩;rw[hdg]at hc1 HN2;clear htx hdl hdg;go_wp2_with(first|(go_at_call 276;refine(HC2 _).out.mono ?_;rintro e x1⟨rfl,hx1⟩;obtain rfl:wc=x1:=hx1.symm)|(go_at_call 275;refine(HN2 _).out.mono ?_;rintro e x2⟨rfl,hb2⟩;have HR2:=a_ (j3 hb2 HR.out);have HO2:=a_ (HO.out.below hb2);have HB2:=a_ (q12 hb2 HB.out);clear hb2)|(at_builtin;go_must(refine x23 (w0:=w) elemT rfl (.tmp 47) (.tmp 53) rfl A1 c1 m1 L1 M1.out #[.string ⟨tx.toArray⟩] _ rfl HO2.out [tx] 1 rfl rfl rfl S_ (m1+1) rfl (by have:=M1.out;have:=N1.out;omega) HB2.out ?_;intro A2 c2 w2 hown2 hbw2 hg2)));go_meet;exact⟨⟨A2,c2,m1+1,rfl,by rw[E,e_,←M1.out];rfl,by rw[E];exact hown2⟩,w20 (j16 HR2.out) hg2 (HO2.out.ne_ty HR2.out (by decide)),hbw2⟩
    ·have E:L2=L1:=by rw[K2.out];unfold dirL;rw[w_ (by omega),T_]
     go_wp2_with fail;go_meet;exact⟨⟨_,_,_,rfl,by rw[E];exact M1.out,by rw[E];exact HO.out⟩,HR.out,HB.out⟩
   case rest=>
    obtain⟨⟨A2,c2,m2,rfl,hm2,ho2⟩,hr2,hb2⟩:=hcut;clear HR HB HO r0 r1 r2 r3 r4 r5 r6;have HR:=a_ hr2;have HB:=a_ hb2;have HO:=a_ ho2;have M2:=a_ hm2;clear hr2 hb2 ho2 hm2;obtain⟨r0,r1,r2,r3,r4,r5,r6⟩:=bc7 HR.out rfl rfl rfl rfl rfl rfl rfl;go_upto_if 57 with fail;go_cut[3](fun s3 wx=>RowSt 9 encT 1 w w.heap.size #[.int .i64 (-1),.int .i64 s,.int .i64 wh,.int .i64 er,.bool ns,.bool false,.bool false] 278 L3 s3 wx);case first=>
     by_cases hn:0≤er;·
      have E:L3=L2++[[115,116,97,108,101,45,105,102,45,101,114,114,111,114,61]++digN er]:=by rw[K3.out];unfold dirL;rw[q_ (by omega)];rfl
      have hdl:=w21 (n:=er) (by have:=H3.out;omega);have hc1:=catE (a:=[115,116,97,108,101,45,105,102,45,101,114,114,111,114,61]) (b:=digN er) (by simp only[g_,i_];omega);have HN3:=fun W=>HN er W (by have:=H3.out;omega) (by have:=H3.out;omega);have HC3:=fun W=>HC er W (by have:=H3.out;omega);obtain⟨tx,htx⟩:∃t,[115,116,97,108,101,45,105,102,45,101,114,114,111,114,61]++digN er=t:=⟨_,rfl⟩;rw[htx]at hc1 E;obtain⟨dg,hdg⟩:∃t,digN er=t:=⟨_,rfl⟩;rw[hdg]at hc1 HN3;clear htx hdl hdg;go_wp2_with(first|(go_at_call 276;refine(HC3 _).out.mono ?_;rintro e x1⟨rfl,hx1⟩;obtain rfl:wc=x1:=hx1.symm)|(go_at_call 275;refine(HN3 _).out.mono ?_;rintro e x2⟨rfl,hb2⟩;have HR2:=a_ (j3 hb2 HR.out);have HO2:=a_ (HO.out.below hb2);have HB2:=a_ (q12 hb2 HB.out);clear hb2)|(at_builtin;go_must(refine x23 (w0:=w) elemT rfl (.tmp 58) (.tmp 64) rfl A2 c2 m2 L2 M2.out #[.string ⟨tx.toArray⟩] _ rfl HO2.out [tx] 1 rfl rfl rfl S_ (m2+1) rfl (by have:=M2.out;have:=N2.out;omega) HB2.out ?_;intro A2 c2 w2 hown2 hbw2 hg2)));go_meet;exact⟨⟨A2,c2,m2+1,rfl,by rw[E,e_,←M2.out];rfl,by rw[E];exact hown2⟩,w20 (j16 HR2.out) hg2 (HO2.out.ne_ty HR2.out (by decide)),hbw2⟩
     ·have E:L3=L2:=by rw[K3.out];unfold dirL;rw[w_ (by omega),T_]
      go_wp2_with fail;go_meet;exact⟨⟨_,_,_,rfl,by rw[E];exact M2.out,by rw[E];exact HO.out⟩,HR.out,HB.out⟩
    case rest=>
     obtain⟨⟨A3,c3,m3,rfl,hm3,ho3⟩,hr3,hb3⟩:=hcut;clear HR HB HO r0 r1 r2 r3 r4 r5 r6;have HR:=a_ hr3;have HB:=a_ hb3;have HO:=a_ ho3;have M3:=a_ hm3;clear hr3 hb3 ho3 hm3;obtain⟨r0,r1,r2,r3,r4,r5,r6⟩:=bc7 HR.out rfl rfl rfl rfl rfl rfl rfl;have HS:=a_ (HO.out.spg elemT.len);clear HO HR r0 r1 r2 r3 r4 r5 r6 HC HN H1 H2 H3 K0 K1 K2 K3 N0 N1 N2;go_wp2_with fail;go_loopw[4,5](fun t i wr=>wr=wc∧∃k:Nat,k≤L3.length∧i=.int .i64 (k:Int)∧t=.string ⟨(x176 [44,32] (L3.take k)).toArray⟩)(fun _ i _=>L3.length-(intOf i).toNat);case atStart=>exact⟨rfl,0,v_ _,rfl,rfl⟩
     case round=>
      obtain⟨rfl,k,hk,rfl,rfl⟩:=hrel;have hm3:=M3.out;have hn3:=N3.out;by_cases hlt:k<L3.length;·
       have hltm:(k:Int)<(m3:Int):=by omega
       obtain⟨b,off,e,hb,hc⟩:=HS.out.at' k hlt;have c0:=hc 0 _ rfl;have hJ1:=q47 [44,32] L3 k;have hJ2:=q47 [44,32] L3 (k+1);have hJL:=HJL.out;have HT:=a_ (k91 (sep:=[44,32]) hlt);rw[HT.out]at hJ2;obtain⟨x,hx⟩:∃x,L3[k]=x:=⟨_,rfl⟩;rw[hx]at c0 HT hJ2;simp only[bn_,J_]at c0;clear hc hx;subst e;by_cases hk0:k=0;·
        rw[w_ hk0]at hJ2;have HT2:Hid (x176 [44,32] (L3.take (k+1))=x176 [44,32] (L3.take k)++x):=by simp only[Hid];rw[HT.out,w_ hk0,hk0];rfl
        have hJ0:(x176 [44,32] (L3.take k)).length=0:=by rw[hk0];rfl
        have hc1:=catE (a:=x176 [44,32] (L3.take k)) (b:=x) (by omega);have hkp:¬(0:Int)<(k:Int):=by omega
        clear HT hJ1 hJ2 hJL hk0 hJ0;generalize x176 [44,32] (L3.take k)++x=x2 at hc1 HT2;generalize x176 [44,32] (L3.take k)=x1 at hc1;go_wp2_with fail;go_roundw;case rel=>exact⟨by first|trivial|rfl,k+1,by omega,by go_num,by rw[HT2.out]⟩
        case measure=>simp[intOf];omega
       ·rw[q_ hk0]at hJ2;have HT2:Hid (x176 [44,32] (L3.take (k+1))=x176 [44,32] (L3.take k)++[44,32]++x):=by simp only[Hid];rw[HT.out,q_ hk0,x_]
        simp only[e_,g_,i_]at hJ2;have hc1:=catE (a:=x176 [44,32] (L3.take k)) (b:=[44,32]) (by simp only[g_,i_];omega);have hc2:=catE (a:=x176 [44,32] (L3.take k)++[44,32]) (b:=x) (by simp only[e_,g_,i_];omega);have hkp:(0:Int)<(k:Int):=by omega
        clear HT hJ1 hJ2 hJL hk0;generalize x176 [44,32] (L3.take k)++[44,32]++x=x3 at hc2 HT2;generalize x176 [44,32] (L3.take k)++[44,32]=x2 at hc1 hc2;generalize x176 [44,32] (L3.take k)=x1 at hc1;go_wp2_with fail;go_roundw;case rel=>exact⟨by first|trivial|rfl,k+1,by omega,by go_num,by rw[HT2.out]⟩
        case measure=>simp[intOf];omega
      ·have hke:k=L3.length:=by omega
       have hltm:¬(k:Int)<(m3:Int):=by omega
       have HE:Hid (x176 [44,32] (L3.take k)=T):=by simp only[Hid];rw[hke,V_];exact HJ.out
       clear hke;go_wp2_with fail;go_ret;rw[HE.out];exact⟨rfl,HB.out⟩
