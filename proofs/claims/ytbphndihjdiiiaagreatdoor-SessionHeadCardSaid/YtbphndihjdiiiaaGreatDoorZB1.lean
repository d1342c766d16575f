/- Words for slices of spans in memory, small laws on worlds, and the contracts of the two functions that tell whether a span may be. Contracts of the .. -/
import Derived.Test.YtbphndihjdiiiaaGreatDoorRows
import Derived.Test.YtbphndihjdiiiaaGreatDoorZM1
import Derived.WalkKit
import Derived.WalkSpells
import Derived.WalkLawsBesides
import Derived.Lib.Hide
import Derived.Deep.QuietTactic
import Derived.BigQuiet
import Derived.Deep.RegionHeld3
import Derived.Deep.DeepCutAuto
import Derived.Deep.LoopGhost
import Derived.Deep.Light
set_option maxHeartbeats 16000000
set_option maxRecDepth 100000
set_option linter.unusedVariables false
set_option linter.unusedSimpArgs false
namespace Go.Proofs.YtbphndihjdiiiaaGreatDoor
open Go.RowKit
theorem ret_bool{a b:Bool}(h:a=b):Ending.returned (.bool a)=.returned (.bool b):=by rw[h]
theorem ret_int{k:IntKind}{a b:Int}(h:a=b):Ending.returned (.int k a)=.returned (.int k b):=by rw[h]
theorem ret_span{a b a' b':Int}{t:Bool}(h:a=a')(h':b=b'):Ending.returned (.tuple #[.agg #[.int .i64 a,.int .i64 b],.bool t])=.returned (.tuple #[.agg #[.int .i64 a',.int .i64 b'],.bool t]):=by rw[h,h']
theorem bel_chain{w W w':World}(hb:Below W.heap.size W w')(h:Below w.heap.size w W):Below w.heap.size w w':=h.trans (hb.mono h.size)
theorem bel_alloc{w W:World}(h:Below w.heap.size w W)(o:Obj):Below w.heap.size w (W.alloc o):=h.alloc h.size o
theorem bel_set{w W:World}{p:Addr}(h:Below w.heap.size w W)(hp:w.heap.size≤p.block)(u:Value):Below w.heap.size w (W.setCell p u):=h.setCell hp u
theorem bel_drew{w W:World}(h:Below w.heap.size w W):Below w.heap.size w W.drew:=h.drew
theorem bel_drewN{w W:World}(h:Below w.heap.size w W)(n:Nat):Below w.heap.size w (W.drewN n):=⟨h.os,h.tape,h.output,h.size,h.block⟩
theorem cell_old{w W:World}{b o:Nat}{v:Value}(hb:b<w.heap.size)(hB:Below w.heap.size w W)(h:w.cell? ⟨b,o,none⟩=some v):W.cell? ⟨b,o,none⟩=some v:=(hB.cell (p:=⟨b,o,none⟩) hb).trans h
theorem cell_keep{W w':World}{b o:Nat}{v:Value}(hb:Below W.heap.size W w')(h:W.cell? ⟨b,o,none⟩=some v):w'.cell? ⟨b,o,none⟩=some v:=(hb.cell (p:=⟨b,o,none⟩) (World.block_lt_of_cell? W ⟨b,o,none⟩ h)).trans h
def spCells(L:List (Int×Int)):List Value:=L.flatMap fun x=>[.int .i64 x.1,.int .i64 x.2]
theorem spCells_append(a b:List (Int×Int)):spCells (a++b)=spCells a++spCells b:=by simp[spCells]
theorem spCells_cons(x:Int×Int)(L:List (Int×Int)):spCells (x::L)=.int .i64 x.1::.int .i64 x.2::spCells L:=rfl
theorem spCells_length(L:List (Int×Int)):(spCells L).length=L.length*2:=by induction L with|nil=>rfl|cons x L ih=>rw[spCells_cons];simp[ih];omega
theorem spCells_even(L:List (Int×Int)):∀(i:Nat)(x:Int×Int),L[i]?=some x→(spCells L)[2*i]?=some (.int .i64 x.1)∧(spCells L)[2*i+1]?=some (.int .i64 x.2):=by
 induction L with
  |nil=>intro i x h;simp at h
  |cons y L ih=>
   intro i x h;cases i with
    |zero=>simp at h;subst h;exact⟨rfl,rfl⟩
    |succ i=>
     simp at h;have:=ih i x h;rw[spCells_cons];have e1:2*(i+1)=(2*i)+1+1:=by omega
     have e2:2*(i+1)+1=(2*i+1)+1+1:=by omega
     rw[e1];exact⟨by simpa using this.1,by simpa using this.2⟩
structure Sp(w:World)(A:Option Addr)(c:Nat)(L:List (Int×Int)):Prop where
 le:L.length≤c
 nil_:A=none→c=0
 at':0<L.length→∃b off,A=some ⟨b,off,none⟩∧b<w.heap.size∧∀i x,L[i]?=some x→w.cell? ⟨b,off+i*2,none⟩=some (.int .i64 x.1)∧w.cell? ⟨b,off+i*2+1,none⟩=some (.int .i64 x.2)
section
variable{w w':World}{A:Option Addr}{c:Nat}{L:List (Int×Int)}
theorem Sp.nil(w:World):Sp w none 0 []:=⟨Nat.le_refl _,fun _=>rfl,fun h=>by simp at h⟩
theorem Sp.keep(h:Sp w A c L)(hs:w.heap.size≤w'.heap.size)(hk:∀b o,b<w.heap.size→w'.cell? ⟨b,o,none⟩=w.cell? ⟨b,o,none⟩):Sp w' A c L:=⟨h.le,h.nil_,fun hn=>by obtain⟨b,off,e,hb,hc⟩:=h.at' hn;exact⟨b,off,e,by omega,fun i x hx=>by rw[hk _ _ hb,hk _ _ hb];exact hc i x hx⟩⟩
theorem Sp.below(h:Sp w A c L)(hb:Below w.heap.size w w'):Sp w' A c L:=h.keep hb.size fun _ _ hp=>hb.cell hp
theorem Sp.drew(h:Sp w A c L):Sp w.drew A c L:=⟨h.le,h.nil_,h.at'⟩
theorem Sp.drewN(h:Sp w A c L)(n:Nat):Sp (w.drewN n) A c L:=⟨h.le,h.nil_,h.at'⟩
theorem Sp.alloc(h:Sp w A c L)(o:Obj):Sp (w.alloc o) A c L:=h.below (bel_alloc (Below.refl _ _) o)
theorem Sp.at_(h:Sp w A c L){k:Nat}(hk:k<L.length):∃b off,A=some ⟨b,off,none⟩∧b<w.heap.size∧w.cell? ⟨b,off+k*2,none⟩=some (.int .i64 (L[k]).1)∧w.cell? ⟨b,off+k*2+1,none⟩=some (.int .i64 (L[k]).2):=by obtain⟨b,off,e,hb,hc⟩:=h.at' (by omega);have:=hc k L[k] (List.getElem?_eq_getElem hk);exact⟨b,off,e,hb,this.1,this.2⟩
theorem Sp.of_own{base e:Nat}{n:Nat}(h:w.ownsRow base e 2 (.slice A n c) n (spCells L)):Sp w A c L∧n=L.length:=by
 have hn:n=L.length:=by have:=h.1;rw[spCells_length]at this;omega
 refine⟨?_,hn⟩;rcases h.2 with⟨hv,h0⟩|⟨g,cap,cur,hv,hb,hg,hnc,hcm,hcs,htake⟩;·
  subst h0;have hc:c=0:=by injection hv
  exact⟨by omega,fun _=>hc,fun h=>by omega⟩
 ·have hA:A=some ⟨g,0,none⟩:=by injection hv
  have hc:c=cap:=by injection hv
  subst hA hc;refine⟨by omega,(fun e=>by cases e),fun _=>⟨g,0,rfl,(Array.getElem?_eq_some_iff.1 hg).1,fun i x hx=>?_⟩⟩;have hcell:=h.cells (g:=g) rfl;have hadd:∀j,(⟨g,0,none⟩:Addr).add j=⟨g,j,none⟩:=fun j=>by unfold Addr.add;split<;>simp_all
  have:=spCells_even L i x hx;have e1:=hcell _ _ this.1;have e2:=hcell _ _ this.2;rw[hadd]at e1 e2;refine⟨?_,?_⟩;·rw[show 0+i*2=2*i from by omega];exact e1
  ·rw[show 0+i*2+1=2*i+1 from by omega];exact e2
theorem Sp.cells(h:Sp w A c L){ad:Addr}(hA:A=some ad):∀j u,(spCells L)[j]?=some u→w.cell? (ad.add j)=some u:=by
 intro j u hu;have hj:j<(spCells L).length:=by
  rcases Nat.lt_or_ge j (spCells L).length with h1|h1;·exact h1
  ·rw[List.getElem?_eq_none h1]at hu;cases hu
 rw[spCells_length]at hj;obtain⟨b,off,e,hb,hc⟩:=h.at' (by omega);rw[hA]at e;injection e with e;subst e;have hadd:∀j,(⟨b,off,none⟩:Addr).add j=⟨b,off+j,none⟩:=fun j=>by unfold Addr.add;split<;>simp_all
 rw[hadd];obtain⟨i,hi⟩:∃i,j=2*i∨j=2*i+1:=⟨j/2,by omega⟩;have hil:i<L.length:=by omega
 have hce:=spCells_even L i _ (List.getElem?_eq_getElem hil);have hcc:=hc i _ (List.getElem?_eq_getElem hil);rcases hi with rfl|rfl;·rw[hce.1]at hu;injection hu with hu;rw[←hu,Nat.mul_comm 2 i];exact hcc.1
 ·rw[hce.2]at hu;injection hu with hu;rw[←hu,Nat.mul_comm 2 i,←Nat.add_assoc];exact hcc.2
end
def CellsAt(w:World)(g:Nat)(cs:Array Value):Prop:=g<w.heap.size∧∀i,w.cell? ⟨g,i,none⟩=cs[i]?
theorem CellsAt.keep{W w':World}{g:Nat}{cs:Array Value}(h:CellsAt W g cs)(hb:Below W.heap.size W w'):CellsAt w' g cs:=⟨Nat.lt_of_lt_of_le h.1 hb.size,fun i=>(hb.cell (p:=⟨g,i,none⟩) h.1).trans (h.2 i)⟩
theorem right_any(f t:Int)(w:World):Calls Tryz.prog 44 #[.agg #[.int .i64 f,.int .i64 t]] w fun e w'=>e=.returned (.bool (okS (f,t)))∧w.alloc (.cells #[.int .i64 f,.int .i64 t] 80)=w':=by go_enter Tryz.func44,Tryz.ntmps44;go_wp2;all_goals go_ret;refine⟨ret_bool ?_,rfl⟩;unfold okS;rw[Bool.eq_iff_iff];simp;try omega
theorem end_any(w:World):Calls Tryz.prog 103 #[] w fun e w'=>e=.returned (.int .i64 4611686018427387904)∧w'=w:=by go_enter Tryz.func103,Tryz.ntmps103;go_wp2;go_ret;exact⟨rfl,rfl⟩
theorem rright_any(f t:Int)(w:World):Calls Tryz.prog 102 #[.agg #[.int .i64 f,.int .i64 t]] w fun e w'=>e=.returned (.bool (okS (f,t)))∧∃n,(w.alloc (.cells #[.int .i64 f,.int .i64 t] 80)).drewN n=w':=by
 by_cases h1:0≤f;·
  by_cases h2:f≤t;·
   have H:Hid (okS (f,t)=decide (t≤4611686018427387904)):=by simp[Hid,okS,h1,h2]
   go_enter Tryz.func102,Tryz.ntmps102;go_wp2;go_quiet((go_at_call 103;exact Calls.quiet_of_same (end_any _)));go_wp2;go_ret;exact⟨ret_bool (by rw[H.out]),_,rfl⟩
  ·have H:Hid (okS (f,t)=false):=by simp[Hid,okS,h2]
   have h3:decide (f≤t)=false:=by simpa using h2
   go_enter Tryz.func102,Tryz.ntmps102;go_wp2;go_quiet((go_at_call 103;exact Calls.quiet_of_same (end_any _)));go_wp2;go_ret;exact⟨ret_bool (by rw[H.out]),_,rfl⟩
 ·have H:Hid (okS (f,t)=false):=by simp[Hid,okS,h1]
  have h3:decide (0≤f)=false:=by simpa using h1
  go_enter Tryz.func102,Tryz.ntmps102;go_wp2;go_quiet((go_at_call 103;exact Calls.quiet_of_same (end_any _)));go_wp2;go_ret;exact⟨ret_bool (by rw[H.out]),_,rfl⟩
def FirstPost(L:List (Int×Int))(p:Int)(w:World)(e:Ending)(w':World):Prop:=e=.returned (.tuple #[.agg #[.int .i64 ((firstL L p).getD (0,0)).1,.int .i64 ((firstL L p).getD (0,0)).2],.bool (firstL L p).isSome])∧Below w.heap.size w w'
def BehPost(A:Option Addr)(c:Nat)(L:List (Int×Int))(p:Int)(w:World)(e:Ending)(w':World):Prop:=∃k:Nat,e=.returned (.int .i64 k)∧Behind L p k∧∃n,(w.alloc (.cells #[.slice A L.length c] 26)).drewN n=w'
theorem behind_any(A:Option Addr)(c:Nat)(L:List (Int×Int))(p:Int)(w:World)(h:Sp w A c L)(hcan:Canon L)(hl:L.length≤1000000):Calls Tryz.prog 88 #[.agg #[.slice A L.length c],.int .i64 p] w (BehPost A c L p w):=by
 have hH:=Lib.hid h;have hC:=Lib.hid hcan;clear h hcan;go_enter Tryz.func88,Tryz.ntmps88;go_wp2;go_quiet(fail);go_wp2;go_loop[5,6,7](fun lo hi _=>∃l h:Nat,l≤h∧h≤L.length∧lo=.int .i64 l∧hi=.int .i64 h∧(∀x∈L.take l,x.2≤p)∧(∀j,h≤j→∀hj:j<L.length,p<(L[j]).2))(fun lo hi _=>(intOf hi).toNat-(intOf lo).toNat);case atStart=>exact⟨0,L.length,Nat.zero_le _,Nat.le_refl _,rfl,rfl,by simp,fun j h1 h2=>by omega⟩
 case round=>
  obtain⟨l,h,hlh,hh,rfl,rfl,hlo,hhi⟩:=hrel;have HLO:=Lib.hid hlo;have HHI:=Lib.hid hhi;clear hlo hhi;by_cases hlt:l<h;·
   have hm:l+(h-l)/2<L.length:=by omega
   obtain⟨b,off,e,hb,c1,c2⟩:=hH.out.at_ hm;obtain⟨⟨x1,x2⟩,hx⟩:∃x,L[l+(h-l)/2]=x:=⟨_,rfl⟩;rw[hx]at c1 c2;have HX:=Lib.hid hx;have HM:=Lib.hid hm;clear hx;rw[e];go_wp2;·
    have hq:p<x2:=by assumption
    go_round;case rel=>exact⟨l,l+(h-l)/2,by omega,by omega,rfl,by go_num,HLO.out,hC.out.from_of HM.out (by rw[HX.out];exact hq)⟩
    case measure=>simp only[intOf];omega
   ·have hq:x2≤p:=by omega
    go_round;case rel=>exact⟨l+(h-l)/2+1,h,by omega,by omega,by go_num,rfl,hC.out.before_of HM.out (by rw[HX.out];exact hq),HHI.out⟩
    case measure=>simp only[intOf];omega
  ·obtain rfl:l=h:=by omega
   go_wp2;go_ret;exact⟨l,rfl,⟨hh,HLO.out,fun hk=>HHI.out l (Nat.le_refl _) hk⟩,_,rfl⟩
theorem first_any(A:Option Addr)(c:Nat)(L:List (Int×Int))(p:Int)(w:World)(h:Sp w A c L)(hcan:Canon L)(hl:L.length≤1000000):Calls Tryz.prog 43 #[.agg #[.slice A L.length c],.int .i64 p] w (FirstPost L p w):=by
 have hB:=fun W hW=>Lib.hid (behind_any A c L p W hW hcan hl);have hH:=Lib.hid h;clear h hcan;go_enter Tryz.func43,Tryz.ntmps43;go_wp2_with fail;refine(hB _ ((hH.out.alloc _).alloc _)).out.mono ?_;rintro e w1⟨k,rfl,hk,n,rfl⟩;have HK:=Lib.hid hk;have hkl:=hk.le;clear hk hB;by_cases hlt:k<L.length;·
  obtain⟨b,off,e,hb,c1,c2⟩:=hH.out.at_ hlt;obtain⟨⟨x1,x2⟩,hx⟩:∃x,L[k]=x:=⟨_,rfl⟩;rw[hx]at c1 c2;have HX:=Lib.hid hx;clear hx;have hne:((k:Int)==(L.length:Int))=false:=by rw[beq_eq_false_iff_ne];omega
  rw[e];have hk0:(0:Int)≤(k:Int):=by omega
  have hk1:(k:Int)<(L.length:Int):=by omega
  go_wp2_with fail;go_region_held3(fun w'=>w'.cell? ⟨w.heap.size,0,none⟩=some (.slice (some ⟨b,off,none⟩) L.length c)∧w'.cell? ⟨b,off+k*2,none⟩=some (.int .i64 x1)∧w'.cell? ⟨b,off+k*2+1,none⟩=some (.int .i64 x2))(((try dsimp only);refine⟨?_,?_,?_⟩<;>(first|(go_simp;done)|(refine cell_old hb ?_ c1;repeat(first|exact Below.refl _ _|refine bel_drew ?_|refine bel_drewN ?_ _|refine bel_alloc ?_ _))|(refine cell_old hb ?_ c2;repeat(first|exact Below.refl _ _|refine bel_drew ?_|refine bel_drewN ?_ _|refine bel_alloc ?_ _)))))(fail);all_goals go_wp2_with fail
  all_goals refine bodyPost_ret (by simp[results,Tryz.results43,go_sem];try rfl) rfl ?_;have h1:=HK.out.first hlt;rw[HX.out]at h1;refine⟨by rw[h1];exact ret_span (by simp;omega) rfl,?_⟩;(repeat(first|exact Below.refl _ _|refine bel_drewN ?_ _|refine bel_drew ?_|refine bel_alloc ?_ _|refine bel_set ?_ (by simp) _))
 ·have heq:(k==L.length)=true:=by rw[beq_iff_eq];omega
  go_wp2_with fail;refine bodyPost_ret (by simp[results,Tryz.results43,go_sem];try rfl) rfl ?_;refine⟨by rw[HK.out.none_ hlt];rfl,?_⟩;(repeat(first|exact Below.refl _ _|refine bel_drewN ?_ _|refine bel_drew ?_|refine bel_alloc ?_ _|refine bel_set ?_ (by simp) _))
end Go.Proofs.YtbphndihjdiiiaaGreatDoor
