/- Rows of folded spans, and their two sorts. Contract of spec's Fold. .. -/
import Derived.Test.YtkkomffmnafjkaaGreatDoorZM1
import Derived.Test.YtkkomffmnafjkaaGreatDoorZS9
import Derived.Test.YtkkomffmnafjkaaGreatDoorZLaid3
import Derived.Outline
import Derived.Deep.RegionHeld3
import Derived.IntWalk
set_option maxHeartbeats 16000000
set_option maxRecDepth 100000
set_option linter.all false
namespace Go.Proofs.YtkkomffmnafjkaaGreatDoor
open Go.RowKit Go.Shelf Go.Sort
abbrev FE:=(Int×Int)×Nat
def encF(x:FE):List Value:=[.int .i64 x.1.1,.int .i64 x.1.2,.int .i64 (x.2:Int)]
def y180(L:List FE):List Value:=L.flatMap encF
theorem j43(x:FE)(r:List FE):y180 (x::r)=.int .i64 x.1.1::.int .i64 x.1.2::.int .i64 (x.2:Int)::y180 r:=rfl
theorem x35:∀(L:List FE),(y180 L).length=L.length*3|[]=>rfl|x::r=>by rw[j43];simp[x35 r];omega
theorem q53(a b:List FE):y180 (a++b)=y180 a++y180 b:=by unfold y180;simp
theorem w57:∀(L:List FE)(k:Nat)(x:FE),L[k]?=some x→(y180 L)[k*3]?=some (.int .i64 x.1.1)∧(y180 L)[k*3+1]?=some (.int .i64 x.1.2)∧(y180 L)[k*3+2]?=some (.int .i64 (x.2:Int))
 |[],k,x,h=>by simp at h
 |y::r,0,x,h=>by simp at h;subst h;simp[j43]
 |y::r,k+1,x,h=>by have:=w57 r k x (by simpa using h);rw[j43,show(k+1)*3=k*3+3 from by omega];simpa using this
theorem w85:∀(L:List FE)(k:Nat)(x:FE),y180 (L.set k x)=(((y180 L).set (k*3) (.int .i64 x.1.1)).set (k*3+1) (.int .i64 x.1.2)).set (k*3+2) (.int .i64 (x.2:Int))
 |[],k,x=>by simp[y180]
 |y::r,0,x=>by simp[j43]
 |y::r,k+1,x=>by rw[List.set_cons_succ,j43,j43,w85 r k x,show(k+1)*3=k*3+3 from by omega];simp
def OwnF(w:World)(base:Nat)(A:Option Addr)(c:Nat)(L:List FE):Prop:=w.ownsRow base 256 3 (.slice A L.length c) L.length (y180 L)
theorem OwnF.nil(w:World)(base:Nat):OwnF w base none 0 []:=World.ownsRow_nil w base _ _
theorem OwnF.at_{w:World}{base:Nat}{A:Option Addr}{c:Nat}{L:List FE}(h:OwnF w base A c L)(hn:0<L.length):∃g,A=some ⟨g,0,none⟩∧base≤g∧g<w.heap.size:=by obtain⟨g,cap,hv,hb,hlt⟩:=World.ownsRow.form h hn;injection hv with hA;exact⟨g,hA,hb,hlt⟩
theorem OwnF.alloc{w:World}{base:Nat}{A:Option Addr}{c:Nat}{L:List FE}(h:OwnF w base A c L)(o:Obj):OwnF (w.alloc o) base A c L:=World.ownsRow.alloc h o
theorem OwnF.below{w w':World}{base:Nat}{A:Option Addr}{c:Nat}{L:List FE}(h:OwnF w base A c L)(hb:Below w.heap.size w w'):OwnF w' base A c L:=World.ownsRow.kept (row:=none) h ⟨hb.os,hb.tape,hb.output,hb.size,fun k hk _=>hb.block k hk⟩ (by cases A<;>simp[Value.ownBlock])
theorem OwnF.put{w:World}{base g c:Nat}{L:List FE}(h:OwnF w base (some ⟨g,0,none⟩) c L)(k:Nat)(x:FE):OwnF (((w.setCell ⟨g,k*3,none⟩ (.int .i64 x.1.1)).setCell ⟨g,k*3+1,none⟩ (.int .i64 x.1.2)).setCell ⟨g,k*3+2,none⟩ (.int .i64 (x.2:Int))) base (some ⟨g,0,none⟩) c (L.set k x):=by have h3:=(World.ownsRow.stored ((World.ownsRow.stored ((World.ownsRow.stored h (k*3) (.int .i64 x.1.1)).1) (k*3+1) (.int .i64 x.1.2)).1) (k*3+2) (.int .i64 (x.2:Int))).1;unfold OwnF;rw[w85,List.length_set];exact h3
structure SpF(w:World)(A:Option Addr)(L:List FE):Prop where
 at':∀k(h:k<L.length),∃b off,A=some ⟨b,off,none⟩∧b<w.heap.size∧w.cell? ⟨b,off+k*3,none⟩=some (.int .i64 (L[k]).1.1)∧w.cell? ⟨b,off+k*3+1,none⟩=some (.int .i64 (L[k]).1.2)∧w.cell? ⟨b,off+k*3+2,none⟩=some (.int .i64 ((L[k]).2:Int))
theorem SpF.below{w w':World}{A:Option Addr}{L:List FE}(h:SpF w A L)(hb:Below w.heap.size w w'):SpF w' A L:=⟨fun k hk=>by obtain⟨b,off,e,hl,h1,h2,h3⟩:=h.at' k hk;exact⟨b,off,e,Nat.lt_of_lt_of_le hl hb.size,x16 hb h1,x16 hb h2,x16 hb h3⟩⟩
theorem OwnF.cells{w:World}{base g c:Nat}{L:List FE}(h:OwnF w base (some ⟨g,0,none⟩) c L){k:Nat}(hk:k<L.length):w.cell? ⟨g,k*3,none⟩=some (.int .i64 (L[k]).1.1)∧w.cell? ⟨g,k*3+1,none⟩=some (.int .i64 (L[k]).1.2)∧w.cell? ⟨g,k*3+2,none⟩=some (.int .i64 ((L[k]).2:Int)):=by obtain⟨a,b,d⟩:=w57 L k L[k] (List.getElem?_eq_getElem hk);exact⟨(World.ownsRow.cellAt h _ (by omega)).trans a,(World.ownsRow.cellAt h _ (by omega)).trans b,(World.ownsRow.cellAt h _ (by omega)).trans d⟩
theorem OwnF.spf{w:World}{base:Nat}{A:Option Addr}{c:Nat}{L:List FE}(h:OwnF w base A c L):SpF w A L:=⟨fun k hk=>by obtain⟨g,rfl,_,hg⟩:=h.at_ (by omega);obtain⟨h1,h2,h3⟩:=h.cells hk;exact⟨g,0,rfl,hg,by simpa using h1,by simpa using h2,by simpa using h3⟩⟩
theorem OwnF.holdsK{w:World}{base g c:Nat}{L:List FE}(h:OwnF w base (some ⟨g,0,none⟩) c L):HoldsK encF 3 w g 0 L.toArray:=by
 intro j hj;simp at hj;refine⟨?_,World.ownsRow.frozenAt h _|>fun hf=>by simpa using hf⟩;have hi:j/3<L.length:=by omega
 rw[Nat.zero_add,get_flatK _ _ _ _ (by simpa using hj)];have e1:(L.toArray)[j/3]! =L[j/3]:=by simp[hi]
 rw[e1];obtain⟨h1,h2,h3⟩:=h.cells hi;obtain⟨x,hx⟩:∃x,L[j/3]=x:=⟨_,rfl⟩;rw[hx]at h1 h2 h3⊢;have hm:j%3=0∨j%3=1∨j%3=2:=by omega
 rcases hm with hm|hm|hm;·rw[show j/3*3=j from by omega]at h1;rw[hm,h1];rfl
 ·rw[show j/3*3+1=j from by omega]at h2;rw[hm,h2];rfl
 ·rw[show j/3*3+2=j from by omega]at h3;rw[hm,h3];rfl
theorem k50{w:World}{g n:Nat}{os:Array Obj}(d:Array FE):w.grownBy (sortWorldK encF 3 w g 0 n d os) (some g):=by unfold sortWorldK putRowK;refine⟨rfl,rfl,rfl,by simp,fun k hk hne=>?_⟩;rw[heap_grow_old _ _ (by simpa using hk)];have:g≠k:=fun e=>hne (by rw[e]);simp[putRow,mapBlock,Sort.ahead,Array.getElem?_modify,this]
theorem q141{w:World}{base g c n:Nat}{L:List FE}{d':Array FE}{os:Array Obj}(h:OwnF w base (some ⟨g,0,none⟩) c L)(hg:g<w.heap.size)(hs:d'.size=L.length):SpF (sortWorldK encF 3 w g 0 n d' os) (some ⟨g,0,none⟩) d'.toList:=by
 have hK:HoldsK encF 3 (sortWorldK encF 3 w g 0 n d' os) g 0 d':=by unfold sortWorldK;refine holdsK_grow _ _ _ _ _ _ _ (by simp[putRowK,Sort.ahead];exact hg) ?_;exact holdsK_putRowK _ _ (Sort.ahead w n) g 0 L.toArray d' (holdsK_ahead _ _ _ _ _ _ _ h.holdsK) (by simp[hs])
 refine⟨fun i hi=>⟨g,0,rfl,?_,?_⟩⟩;·unfold sortWorldK;simp[putRowK,Sort.ahead];omega
 ·have hi':i<d'.size:=by simpa using hi
  have hx':d'[i]! =d'.toList[i]:=by rw[getElem!_pos _ i hi',Array.getElem_toList]
  have a0:=(hK (i*3) (by simp;omega)).1;have a1:=(hK (i*3+1) (by simp;omega)).1;have a2:=(hK (i*3+2) (by simp;omega)).1;rw[get_flatK _ _ _ _ (by omega)]at a0 a1 a2;rw[show i*3/3=i from by omega,show i*3%3=0 from by omega,hx']at a0;rw[show(i*3+1)/3=i from by omega,show(i*3+1)%3=1 from by omega,hx']at a1;rw[show(i*3+2)/3=i from by omega,show(i*3+2)%3=2 from by omega,hx']at a2;exact⟨a0,a1,a2⟩
def cfF(x y:FE):Int:=Lib.compareInt x.1.1 y.1.1
def cfP(x y:FE):Int:=Lib.compareInt (x.2:Int) (y.2:Int)
theorem y117(a b:Int):decide (Lib.compareInt a b<0)=decide (a<b):=by
 unfold Lib.compareInt;by_cases h1:a<b;·simp[h1]
 ·by_cases h2:b<a<;>simp[h1,h2]
theorem ltF(x y:FE):ltOf cfF x y=decide (x.1.1<y.1.1):=by unfold ltOf cfF;exact y117 _ _
theorem ltP(x y:FE):ltOf cfP x y=decide ((x.2:Int)<y.2):=by unfold ltOf cfP;exact y117 _ _
theorem swoF:SWO (ltOf cfF)where
 irrefl x:=by rw[ltF];simp
 trans x y z h1 h2:=by rw[ltF]at*;simp at*;omega
 ntrans x y z h1 h2:=by rw[ltF]at*;simp at*;omega
theorem swoP:SWO (ltOf cfP)where
 irrefl x:=by rw[ltP];simp
 trans x y z h1 h2:=by rw[ltP]at*;simp at*;omega
 ntrans x y z h1 h2:=by rw[ltP]at*;simp at*;omega
theorem v104(x y:FE)(W:World):Calls Tryz.prog 191 #[.agg #[.int .i64 x.1.1,.int .i64 x.1.2,.int .i64 (x.2:Int)],.agg #[.int .i64 y.1.1,.int .i64 y.1.2,.int .i64 (y.2:Int)]] W fun e w'=>e=.returned (.int .i64 (cfF x y))∧∃q os',w'=grow (W.drewN q) os':=by have hcon:=fun W'=>Tryz.cmp_Compare_int x.1.1 y.1.1 W';unfold cfF;generalize Lib.compareInt x.1.1 y.1.1=r at hcon⊢;go_enter Tryz.func191,Tryz.ntmps191;go_wp2_with(go_at_call 87;refine(hcon _).mono ?_;rintro e w'⟨rfl,rfl⟩);go_ret;exact⟨rfl,0,_,by rw[alloc_eq_grow,alloc_eq_grow,grow_grow];rfl⟩
theorem v151(x y:FE)(W:World):Calls Tryz.prog 193 #[.agg #[.int .i64 x.1.1,.int .i64 x.1.2,.int .i64 (x.2:Int)],.agg #[.int .i64 y.1.1,.int .i64 y.1.2,.int .i64 (y.2:Int)]] W fun e w'=>e=.returned (.int .i64 (cfP x y))∧∃q os',w'=grow (W.drewN q) os':=by have hcon:=fun W'=>Tryz.cmp_Compare_int_f89 (x.2:Int) (y.2:Int) W';unfold cfP;generalize Lib.compareInt (x.2:Int) (y.2:Int)=r at hcon⊢;go_enter Tryz.func193,Tryz.ntmps193;go_wp2_with(go_at_call 194;refine(hcon _).mono ?_;rintro e w'⟨rfl,rfl⟩);go_ret;exact⟨rfl,0,_,by rw[alloc_eq_grow,alloc_eq_grow,grow_grow];rfl⟩
theorem z163(blk off size:Nat)(w:World):CmpLays Tryz.prog 191 #[] encF 3 cfF blk off size w:=fun _ _ _ _ x y=>v104 x y _
theorem q163(blk off size:Nat)(w:World):CmpLays Tryz.prog 193 #[] encF 3 cfP blk off size w:=fun _ _ _ _ x y=>v151 x y _
theorem perm_of{d':Array FE}{L:List FE}(hp:PermIn 0 L.length L.toArray d'):d'.size=L.length∧d'.toList.Perm L:=by
 have hsz:d'.size=L.length:=by have:=hp.1;simpa using this
 have:=hp.2.2;have e1:(L.toArray).size=L.length:=by simp
 have x1:d'.extract 0 L.length=d':=by rw[←hsz];simp
 have x2:(L.toArray).extract 0 L.length=L.toArray:=by rw[←e1];simp
 rw[x1,x2]at this;exact⟨hsz,by simpa using this⟩
def j55(R:FE→FE→Prop)(A:Option Addr)(L:List FE)(w0:World)(e:Ending)(w':World):Prop:=e=.returned (.tuple #[])∧∃M:List FE,M.Perm L∧M.Pairwise R∧SpF w' A M∧Below w0.heap.size w0 w'
theorem k151{w0 w:World}{A:Option Addr}{c:Nat}{L:List FE}(h:OwnF w w0.heap.size A c L)(hb:Below w0.heap.size w0 w)(hl:L.length≤1000000):Calls Tryz.prog 192 #[.slice A L.length c,.func (.func 193) #[] #[]] w (j55 (fun a b=>a.2≤b.2) A L w0):=by
 rcases Nat.eq_zero_or_pos L.length with h0|h0;·obtain rfl:L=[]:=List.eq_nil_of_length_eq_zero h0;have hS:=AnyF.slices_SortFunc_none (P:=Tryz.prog) (ρ:=Tryz.sortFo_ren) {Tryz.sortFo with} A c (.func (.func 193) #[] #[]) w;refine Calls.mono hS ?_;rintro e w'⟨rfl,rfl⟩;exact⟨rfl,[],List.Perm.refl _,List.Pairwise.nil,h.spf,hb⟩
 ·obtain⟨g,rfl,hg1,hg2⟩:=h.at_ h0;have eg:∀args w,(callFunc 193 args).run Tryz.prog w=.ok (.enter 193 args) w:=enters_of Tryz.func193 (by kernel_rfl) rfl;have hS:=AnyQ.slices_SortFunc Tryz.sortFo 3 Tryz.isAgg256 Tryz.sizeOf256 encF (fun _=>rfl) (fun x v hv=>by simp[encF]at hv;rcases hv with rfl|rfl|rfl<;>rfl) cfP swoP 193 #[] g 0 c L.toArray w eg (q163 g 0 _ w) h.holdsK hg2 (by simp;omega);have e1:(L.toArray).size=L.length:=by simp
  rw[e1]at hS;refine Calls.mono hS ?_;rintro e w'⟨rfl,d',n,os,hp,hs,rfl⟩;obtain⟨hsz,hperm⟩:=perm_of hp;refine⟨rfl,d'.toList,hperm,?_,q141 h hg2 hsz,hb.grown (k50 d') hb.size (fun k hk=>by injection hk with hk;omega)⟩;rw[List.pairwise_iff_getElem];intro i j hi hj hij;have:=hs i j (Nat.zero_le _) hij (by simp at hj;omega);rw[ltP]at this;simp at hi hj;rw[getElem!_pos _ j hj,getElem!_pos _ i hi]at this;simp at this;simp only[Array.getElem_toList];omega
theorem Tryz.foldInfo:(Tryz.prog.info? 256).map (fun i=>(i.zero,i.size,i.bytes))=some (some (.agg #[.int .i64 0,.int .i64 0,.int .i64 0]),3,24):=by kernel_rfl
theorem made_fe(n:Nat):(madeCells (Value.agg #[.int .i64 0,.int .i64 0,.int .i64 0]).cells (n*3)).toList=y180 (List.replicate n ((0,0),0)):=by
 refine List.ext_getElem? fun j=>?_;by_cases hj:j<n*3;·
  have hk:(List.replicate n (((0,0),0):FE))[j/3]?=some ((0,0),0):=by rw[List.getElem?_replicate,if_pos (by omega)]
  obtain⟨a,b,c⟩:=w57 _ _ _ hk;have hm:j%3=0∨j%3=1∨j%3=2:=by omega
  have e:(madeCells (Value.agg #[.int .i64 0,.int .i64 0,.int .i64 0]).cells (n*3)).toList[j]?=some (.int .i64 0):=by have hc:(Value.agg #[.int .i64 0,.int .i64 0,.int .i64 0]).cells=#[.int .i64 0,.int .i64 0,.int .i64 0]:=rfl;rw[hc];simp[madeCells,hj];rcases hm with h|h|h<;>rw[h]<;>rfl
  rw[e];rcases hm with h|h|h;·rw[show j/3*3=j from by omega]at a;exact a.symm
  ·rw[show j/3*3+1=j from by omega]at b;exact b.symm
  ·rw[show j/3*3+2=j from by omega]at c;exact c.symm
 ·rw[List.getElem?_eq_none (by simp[madeCells];omega),List.getElem?_eq_none (by rw[x35];simp;omega)]
theorem q86{w0 w:World}{ops:Array Oper}{rest:List Oper}{o:Oper}{a:Act}{Q:Exit→Act→World→Prop}(hgd:o.guard=none)(s x:Operand)(ho:o.op=.call {callee:=.builtin .append,args:=#[s,x],argTypes:=#[254,254]})(A:Option Addr)(c:Nat)(L:List FE)(hs:a.eval s=.slice A L.length c)(hown:OwnF w w0.heap.size A c L)(g:Nat)(y:FE)(hx:a.eval x=.slice (some ⟨g,0,none⟩) 1 1)(hc:w.cell? ⟨g,0,none⟩=some (.int .i64 y.1.1))(hc':w.cell? ⟨g,1,none⟩=some (.int .i64 y.1.2))(hc2:w.cell? ⟨g,2,none⟩=some (.int .i64 (y.2:Int)))(hl:L.length≤2000000)(hbel:Below w0.heap.size w0 w)(h:∀A' c' w',OwnF w' w0.heap.size A' c' (L++[y])→Below w0.heap.size w0 w'→wpList Tryz.prog ops Q rest (a.put o.dst (.slice A' (L.length+1) c')) w'):wpList Tryz.prog ops Q (o::rest) a w:=by
 obtain⟨i0,hi,hz0,hz1,hz2⟩:=info_parts Tryz.foldInfo;refine wpList_append_own w hgd s x _ ho w0.heap.size 256 i0 _ 3 24 Tryz.underlying254 hi hz0 hz1 hz2 rfl (by decide) _ _ _ hs hown ⟨g,0,none⟩ 1 1 (encF y) hx rfl ?_ ?_ (by simp only[maxLen];omega) (by omega) hbel.size ?_;·
  intro j u hj;have hadd:∀j,(⟨g,0,none⟩:Addr).add j=⟨g,j,none⟩:=fun j=>by unfold Addr.add;split<;>simp_all
  rw[hadd];match j,hj with|0,hj=>simp[encF]at hj;rw[←hj];exact hc|1,hj=>simp[encF]at hj;rw[←hj];exact hc'|2,hj=>simp[encF]at hj;rw[←hj];exact hc2|j+3,hj=>simp[encF]at hj
 ·intro u hu;simp[encF]at hu;rcases hu with rfl|rfl|rfl<;>rfl
 ·intro v' w' h1 h2 _;have hlt:=World.ownsRow.lt hown;have hbel':Below w0.heap.size w0 w':=hbel.grown h2 hbel.size (fun k hk=>(hlt k hk).1);have hlen:(L++[y]).length=L.length+1:=by simp
  have hsp:y180 L++encF y=y180 (L++[y]):=by rw[q53];simp[y180]
  rw[hsp]at h1;have hform:∃A' c',v'=.slice A' (L.length+1) c':=by
   rcases h1.2 with⟨_,hn⟩|⟨g',cap,cur,hv,_⟩;·omega
   ·exact⟨_,_,hv⟩
  obtain⟨A',c',rfl⟩:=hform;exact h A' c' w' (by unfold OwnF;rw[hlen];exact h1) hbel'
def upTo(L:List (Int×Int))(k:Nat):List FE:=L.zipIdx.take k++List.replicate (L.length-k) ((0,0),0)
theorem x124(L:List (Int×Int)){k:Nat}(h:k≤L.length):(upTo L k).length=L.length:=by unfold upTo;simp;omega
theorem w151(L:List (Int×Int)):upTo L 0=List.replicate L.length ((0,0),0):=by simp[upTo]
theorem j163(L:List (Int×Int)):upTo L L.length=L.zipIdx:=by simp[upTo];exact List.take_of_length_le (by simp)
theorem q152(L:List (Int×Int)){k:Nat}(h:k<L.length):(upTo L k).set k (L[k],k)=upTo L (k+1):=by
 refine List.ext_getElem? fun j=>?_;unfold upTo;rw[List.getElem?_set];by_cases hj:k=j;·
  subst hj;have:k<(List.take k L.zipIdx++List.replicate (L.length-k) (((0,0),0):FE)).length:=by simp;omega
  rw[if_pos rfl,if_pos this,List.getElem?_append_left (by simp;omega),List.getElem?_take_of_lt (by omega)];simp[h]
 ·rw[if_neg hj];by_cases hl:j<k;·rw[List.getElem?_append_left (by simp;omega),List.getElem?_append_left (by simp;omega),List.getElem?_take_of_lt hl,List.getElem?_take_of_lt (by omega)]
  ·rw[List.getElem?_append_right (by simp;omega),List.getElem?_append_right (by simp;omega)];simp[List.getElem?_replicate];split<;>split<;>first|rfl|omega
theorem OwnF.drew{w:World}{base:Nat}{A:Option Addr}{c:Nat}{L:List FE}(h:OwnF w base A c L):OwnF w.drew base A c L:=World.ownsRow.drew h
theorem OwnF.drewN{w:World}{base:Nat}{A:Option Addr}{c:Nat}{L:List FE}(h:OwnF w base A c L)(n:Nat):OwnF (w.drewN n) base A c L:=h
theorem OwnF.last2{w:World}{base g c:Nat}{init:List FE}{l:FE}(h:OwnF w base (some ⟨g,0,none⟩) c (init++[l]))(a:Int)(b:Nat):OwnF ((w.setCell ⟨g,init.length*3+1,none⟩ (.int .i64 a)).setCell ⟨g,init.length*3+2,none⟩ (.int .i64 (b:Int))) base (some ⟨g,0,none⟩) c (init++[((l.1.1,a),b)]):=by
 have h3:=(World.ownsRow.stored ((World.ownsRow.stored h (init.length*3+1) (.int .i64 a)).1) (init.length*3+2) (.int .i64 (b:Int))).1;unfold OwnF;have e:y180 (init++[((l.1.1,a),b)])=((y180 (init++[l])).set (init.length*3+1) (.int .i64 a)).set (init.length*3+2) (.int .i64 (b:Int)):=by rw[q53,q53,List.set_append_right _ _ (by rw[x35];omega),List.set_append_right _ _ (by rw[x35];omega),x35];rw[show init.length*3+1-init.length*3=1 from by omega,show init.length*3+2-init.length*3=2 from by omega];rfl
 have e2:(init++[((l.1.1,a),b)]).length=(init++[l]).length:=by simp
 rw[e,e2];exact h3
theorem w117(L:List FE):L=[]∨∃init l,L=init++[l]:=by
 rcases List.eq_nil_or_concat L with h|⟨i,l,h⟩;·exact .inl h
 ·exact .inr ⟨i,l,by rw[h,List.concat_eq_append]⟩
def SortsF(n:Nat):Prop:=∀(w0 w:World)(g c:Nat)(M:List FE),OwnF w w0.heap.size (some ⟨g,0,none⟩) c M→w0.heap.size≤g→g<w.heap.size→Below w0.heap.size w0 w→M.length=n→Calls Tryz.prog 190 #[.slice (some ⟨g,0,none⟩) M.length c,.func (.func 191) #[] #[]] w (j55 (fun a b=>a.1.1≤b.1.1) (some ⟨g,0,none⟩) M w0)
def z118(g:Int)(L:List (Int×Int))(w:World)(e:Ending)(w':World):Prop:=∃O,Folded g L O∧RetSp (O.map Prod.fst) w e w'
theorem k152(A:Option Addr)(c:Nat)(L:List (Int×Int))(gap:Int)(w:World)(h:Sp w A c L)(hL:∀x∈L,0≤x.1∧x.1<x.2∧x.2≤4611686018427387904)(hl:L.length≤1000)(hS:SortsF L.length):Calls Tryz.prog 129 #[.slice A L.length c,.int .i64 gap] w (z118 (max gap 0) L w):=by
 have H:=Lib.hid h;have HL:=Lib.hid hL;have HS:=Lib.hid hS;clear h hL hS;obtain⟨i0,hi,hz0,hz1,hz2⟩:=info_parts Tryz.foldInfo;go_enter Tryz.func129,Tryz.ntmps129;go_wp2_with(at_make;refine wpList_make_full w rfl (.tmp 18) (.tmp 18) 254 rfl w.heap.size 256 i0 _ 3 Tryz.underlying254 hi hz0 hz1 .i64 .i64 _ _ L.length rfl rfl rfl rfl (by rw[hz2];omega) (by simp only[maxLen];omega) (Nat.le_refl _) ?_;intro w2 hown2 hg2);have h0:OwnF w2 w.heap.size (some ⟨w.heap.size,0,none⟩) L.length (upTo L 0):=by unfold OwnF;rw[w151,List.length_replicate,←made_fe];exact hown2
 have HO0:=Lib.hid h0;have HB0:Hid (Below w.heap.size w w2):=(Below.refl _ w).grown hg2 (Nat.le_refl _) (fun k hk=>by cases hk);clear hown2 hg2 h0 hi hz0 hz1 hz2;go_loopw[6,7,22](fun _ _ i wr=>∃k:Nat,k≤L.length∧i=.int .i64 k∧OwnF wr w.heap.size (some ⟨w.heap.size,0,none⟩) L.length (upTo L k)∧Below w.heap.size w wr)(fun _ _ i _=>L.length-(intOf i).toNat);case atStart=>exact⟨0,Nat.zero_le _,rfl,HO0.out,HB0.out⟩
 case round=>
  clear HO0 HB0;obtain⟨k,hk,rfl,ho,hbw⟩:=hrel;have HO:=Lib.hid ho;have HB:=Lib.hid hbw;clear ho hbw;by_cases hlt:k<L.length;·
   obtain⟨b,off,e,hb,c1,c2⟩:=(H.out.below HB.out).at_ hlt;have hul:=x124 L hk;obtain⟨d1,d2,d3⟩:=HO.out.cells (k:=k) (by omega);generalize(upTo L k)[k]'(by omega)=y at d1 d2 d3;have f1:wr.frozen? ⟨w.heap.size,k*3,none⟩=false:=World.ownsRow.frozenAt HO.out _;have f2:wr.frozen? ⟨w.heap.size,k*3+1,none⟩=false:=World.ownsRow.frozenAt HO.out _;have f3:wr.frozen? ⟨w.heap.size,k*3+2,none⟩=false:=World.ownsRow.frozenAt HO.out _;have hz:w.heap.size<wr.heap.size:=World.block_lt_of_cell? wr ⟨w.heap.size,k*3,none⟩ d1;have hst:=HO.out.put k (L[k],k);rw[q152 L hlt]at hst;have HST:=Lib.hid hst;obtain⟨⟨x1,x2⟩,hx⟩:∃x,L[k]=x:=⟨_,rfl⟩;rw[hx]at c1 c2 HST;clear hx hst hul;rw[e];go_wp2_with fail;go_roundw;case rel=>exact⟨k+1,by omega,by go_num,HST.out.alloc _,q11 (w14 (w14 (w14 HB.out (by simp) _) (by simp) _) (by simp) _) _⟩
   case measure=>simp[intOf];omega
  ·obtain rfl:k=L.length:=by omega
   have ho:=HO.out;rw[j163]at ho;have hs:=HS.out w wr w.heap.size L.length L.zipIdx ho (Nat.le_refl _) (World.ownsRow.lt ho _ rfl).2 HB.out (by simp);rw[List.length_zipIdx]at hs;have HSC:=Lib.hid hs;clear hs ho HO hk hlt;go_wp2_with fail;refine HSC.out.mono ?_;rintro e w1⟨rfl,M,hp,hs,hsp,hb1⟩;have hml:M.length=L.length:=by rw[hp.length_eq,List.length_zipIdx]
   have HSW:Hid (Sweeps (max gap 0) L [] M):=Sweeps.start (fun x hx=>(HL.out x hx).2.1) (by omega) hp hs;have HSP:=Lib.hid hsp;have HB1:=Lib.hid hb1;clear hp hs hsp hb1 HSC HB;go_wp2_with fail;go_loopw[8,10,11,38](fun v _ _ i wr=>∃(k:Nat)(A':Option Addr)(c':Nat)(one:List FE),k≤M.length∧i=.int .i64 k∧v=.slice A' one.length c'∧OwnF wr w1.heap.size A' c' one∧Below w1.heap.size w1 wr∧Sweeps (max gap 0) L one (M.drop k)∧one.length≤k)(fun _ _ _ i _=>M.length-(intOf i).toNat);case atStart=>exact⟨0,none,0,[],Nat.zero_le _,rfl,rfl,OwnF.nil _ _,Below.refl _ _,by simpa using HSW.out,Nat.le_refl _⟩
   case round=>
    clear HSW;obtain⟨k,A',c',one,hk,rfl,rfl,ho,hbw,hsw,hol⟩:=hrel;have HO:=Lib.hid ho;have HB:=Lib.hid hbw;have HSW:=Lib.hid hsw;clear ho hbw hsw;by_cases hlt:k<M.length;·
     obtain⟨b,off,e,hb,c1,c2,c3⟩:=(HSP.out.below HB.out).at' k hlt;have hsw:=HSW.out;rw[List.drop_eq_getElem_cons hlt]at hsw;have hfm:M[k]∈one++M[k]::M.drop (k+1):=List.mem_append_right _ (List.mem_cons_self ..);have hfb:0≤(M[k]).1.1∧(M[k]).1.2≤4611686018427387904∧(M[k]).1.1<(M[k]).1.2:=by have h0:=hsw.folds.wide (fun x hx=>(HL.out x hx).2.1) hfm;obtain⟨x,hx,_,e1⟩:=hsw.folds.lo _ hfm;obtain⟨y,hy,_,e2⟩:=hsw.folds.hi _ hfm;have:=HL.out x hx;have:=HL.out y hy;omega
     obtain⟨⟨⟨x1,x2⟩,xp⟩,hx⟩:∃x,M[k]=x:=⟨_,rfl⟩;rw[hx]at c1 c2 c3 hsw hfb;have HSW':=Lib.hid hsw;clear hx hsw hfm HSW;injection e with e;injection e with eb eo _;subst eb;subst eo;rw[Nat.zero_add]at c1 c2 c3;rcases w117 one with rfl|⟨init,l,rfl⟩;·
      go_wp2_with fail;go_quiet(fail);go_wp2_with(at_builtin;refine q86 (w0:=w1) rfl (.tmp 92) (.tmp 94) rfl A' c' [] rfl (by repeat(first|exact HO.out|refine OwnF.alloc ?_ _|refine OwnF.drewN ?_ _|refine OwnF.drew ?_)) _ ((x1,x2),xp) rfl (by simp[go_sem]) (by simp[go_sem]) (by simp[go_sem]) (by simp) (by repeat(first|exact HB.out|refine q11 ?_ _|refine q15 ?_ _|refine x15 ?_)) ?_;intro A2 c2' w4 hown4 hb4);go_roundw;case rel=>exact⟨k+1,A2,c2',[((x1,x2),xp)],by omega,by go_num,by simp,hown4,hb4,HSW'.out.first,by simp⟩
      case measure=>simp[intOf];omega
     ·obtain⟨g1,rfl,hg1,hg2⟩:=HO.out.at_ (by simp);obtain⟨d1,d2,d3⟩:=HO.out.cells (k:=init.length) (by simp);have el:(init++[l])[init.length]'(by simp)=l:=by simp
      rw[el]at d1 d2 d3;have f2:wr.frozen? ⟨g1,init.length*3+1,none⟩=false:=World.ownsRow.frozenAt HO.out _;have f3:wr.frozen? ⟨g1,init.length*3+2,none⟩=false:=World.ownsRow.frozenAt HO.out _;have hlm:l∈(init++[l])++((x1,x2),xp)::M.drop (k+1):=by simp
      have hlb:0≤l.1.1∧l.1.1<l.1.2∧l.1.2≤4611686018427387904:=by have h0:=HSW'.out.folds.wide (fun x hx=>(HL.out x hx).2.1) hlm;obtain⟨x,hx,_,e1⟩:=HSW'.out.folds.lo _ hlm;obtain⟨y,hy,_,e2⟩:=HSW'.out.folds.hi _ hlm;have:=HL.out x hx;have:=HL.out y hy;omega
      have hj:=HSW'.out.join (fun x hx=>(HL.out x hx).2.1) (by omega);have hp:=HSW'.out.push (fun x hx=>(HL.out x hx).2.1) (by omega);have HJ:=Lib.hid hj;have HP:=Lib.hid hp;have hl2:=HO.out.last2 (max l.1.2 x2) (min l.2 xp);have HL2:=Lib.hid hl2;simp only at hfb;obtain⟨⟨⟨l1,l2⟩,lp⟩,hle⟩:∃y,l=y:=⟨_,rfl⟩;subst hle;have elen:((init++[((l1,l2),lp)]).length:Nat)=init.length+1:=by simp
      have HO':=Lib.hid HO.out;obtain⟨m,hm⟩:∃m,init.length=m:=⟨_,rfl⟩;rw[hm]at d1 d2 d3 f2 f3 HL2 elen;simp only at d1 d2 d3 hlb HL2 HJ HP;rw[elen]at hol⊢;obtain⟨hlb1,hlb2,hlb3⟩:=hlb;obtain⟨hfb1,hfb2,hfb3⟩:=hfb;have hfb4:x1≤4611686018427387904:=by omega
      have HM:=Lib.hid hm;have HLEN:=Lib.hid elen;clear hj hp hl2 hlm el hm elen HO HSW';by_cases hn:x1-l2≤max gap 0;·
       have hnb:decide (x1-l2≤max gap 0)=true:=by simpa using hn
       have HJ':=Lib.hid (HJ.out hn);clear HJ HP;go_wp2_with fail;go_quiet(fail);go_wp2_with fail;go_region;go_wp2_with fail;go_region;go_wp2_with fail;go_roundw;case rel=>
        refine⟨k+1,some ⟨g1,0,none⟩,c',init++[((l1,max l2 x2),min lp xp)],by omega,by go_num,by simp[HM.out],?_,?_,HJ'.out,by simp[HM.out];omega⟩;·have h1:=OwnF.last2 ((HO'.out.alloc (.cells #[.int .i64 x1,.int .i64 x2,.int .i64 (xp:Int)] 256)).drewN (nq+1)) (max l2 x2) (min lp xp);rw[HM.out,show((min lp xp:Nat):Int)=min (lp:Int) (xp:Int)by omega]at h1;exact h1.drew
        ·exact x15 (w14 (w14 (q15 (q11 HB.out _) _) hg1 _) hg1 _)
       case measure=>simp[intOf];omega
      ·have hnb:decide (x1-l2≤max gap 0)=false:=by simpa using hn
       have HP':=Lib.hid (HP.out hn);clear HJ HP;go_wp2_with fail;go_quiet(fail);go_wp2_with(at_builtin;refine q86 (w0:=w1) rfl (.tmp 92) (.tmp 94) rfl (some ⟨g1,0,none⟩) c' (init++[((l1,l2),lp)]) (by rw[HLEN.out];rfl) (by repeat(first|exact HO'.out|refine OwnF.alloc ?_ _|refine OwnF.drewN ?_ _|refine OwnF.drew ?_)) _ ((x1,x2),xp) rfl (by simp[go_sem]) (by simp[go_sem]) (by simp[go_sem]) (by rw[HLEN.out];omega) (by repeat(first|exact HB.out|refine q11 ?_ _|refine q15 ?_ _|refine x15 ?_)) ?_;intro A2 c2' w4 hown4 hb4);go_roundw;case rel=>exact⟨k+1,A2,c2',(init++[((l1,l2),lp)])++[((x1,x2),xp)],by omega,by go_num,by simp,hown4,hb4,HP'.out,by have:=HM.out;simp;omega⟩
       case measure=>simp[intOf];omega
    ·obtain rfl:k=M.length:=by omega
     have hsw:=HSW.out;rw[List.drop_length]at hsw;have HSW':=Lib.hid hsw;have HSP2:=Lib.hid (k151 HO.out HB.out (by omega));clear HSW hsw hlt hk HB HO;go_wp2_with fail;refine HSP2.out.mono ?_;rintro e w3⟨rfl,M2,hp2,hs2,hsp2,hb3⟩;have hml2:M2.length=one.length:=hp2.length_eq;have HF:Hid (Folded (max gap 0) L M2):=HSW'.out.done (fun x hx=>(HL.out x hx).2.1) (by omega) hp2 hs2;have HSP3:=Lib.hid hsp2;have HB3:=Lib.hid (hb3.mono HB1.out.size);have HBW:Hid (Below w.heap.size w w3):=HB1.out.trans HB3.out;clear hp2 hs2 hsp2 hb3 HSP2 HSW' HSP;go_wp2_with fail;go_loopw[12,14,101](fun v _ i wr=>∃(k:Nat)(A2:Option Addr)(c2:Nat),k≤M2.length∧i=.int .i64 k∧v=.slice A2 k c2∧Own wr w3.heap.size A2 c2 ((M2.take k).map Prod.fst)∧Below w3.heap.size w3 wr)(fun _ _ i _=>M2.length-(intOf i).toNat);case atStart=>exact⟨0,none,0,Nat.zero_le _,rfl,rfl,Own.nil _ _,Below.refl _ _⟩
     case round=>
      obtain⟨k,A2,c2,hk,rfl,rfl,ho,hbw⟩:=hrel;have HO:=Lib.hid ho;have HB:=Lib.hid hbw;clear ho hbw;by_cases hlt:k<M2.length;·
       obtain⟨b,off,e,hb,d1,d2,d3⟩:=(HSP3.out.below HB.out).at' k hlt;have HN:Hid ((M2.take (k+1)).map Prod.fst=(M2.take k).map Prod.fst++[(M2[k]).1]):=by simp only[Hid];rw[List.take_succ_eq_append_getElem hlt,List.map_append];rfl
       have hgl:((M2.take k).map Prod.fst).length=k:=by simp;omega
       obtain⟨G,hG⟩:∃G,(M2.take k).map Prod.fst=G:=⟨_,rfl⟩;rw[hG]at HO HN hgl;obtain⟨⟨⟨x1,x2⟩,xp⟩,hx⟩:∃x,M2[k]=x:=⟨_,rfl⟩;rw[hx]at d1 d2 d3 HN;clear hx hG;have HO':=HO;have HGL:=Lib.hid hgl;clear HO hgl;rw[e];go_wp2_with(at_builtin;refine q31 (w0:=w3) rfl (.tmp 105) (.tmp 108) rfl A2 c2 G (by rw[HGL.out];rfl) (by exact(HO'.out.alloc _).alloc _) _ x1 x2 rfl (by first|exact k31 _ _ _ _|simp[go_sem]) (by first|exact w31 _ _ _ _|simp[go_sem]) (by rw[HGL.out];omega) (by exact q11 (q11 HB.out _) _) ?_;intro A5 c5 w5 hown5 hbw5 _);go_roundw;case rel=>exact⟨k+1,A5,c5,by omega,by go_num,by rw[HGL.out],by rw[HN.out];exact hown5,hbw5⟩
       case measure=>simp[intOf];omega
      ·obtain rfl:k=M2.length:=by omega
       have hO:=HO.out;rw[List.take_length]at hO;have HO':=Lib.hid hO;clear hO HO;go_wp2;go_ret;exact⟨M2,HF.out,A2,c2,by simp,HO'.out.base_le HBW.out.size,q12 HB.out HBW.out⟩
structure RowAt(w0 w:World)(g c:Nat)(M:List FE):Prop where
 own:OwnF w w0.heap.size (some ⟨g,0,none⟩) c M
 lo:w0.heap.size≤g
 lt:g<w.heap.size
 bel:Below w0.heap.size w0 w
section
variable{w0 w:World}{g c:Nat}{M:List FE}
theorem RowAt.drew(h:RowAt w0 w g c M):RowAt w0 w.drew g c M:=⟨h.own.drew,h.lo,h.lt,x15 h.bel⟩
theorem RowAt.drewN(h:RowAt w0 w g c M)(n:Nat):RowAt w0 (w.drewN n) g c M:=⟨h.own.drewN n,h.lo,h.lt,q15 h.bel n⟩
theorem RowAt.below{w':World}(h:RowAt w0 w g c M)(hb:Below w.heap.size w w'):RowAt w0 w' g c M:=⟨h.own.below hb,h.lo,Nat.lt_of_lt_of_le h.lt hb.size,q12 hb h.bel⟩
theorem RowAt.put(h:RowAt w0 w g c M)(k:Nat)(x:FE):RowAt w0 (((w.setCell ⟨g,k*3,none⟩ (.int .i64 x.1.1)).setCell ⟨g,k*3+1,none⟩ (.int .i64 x.1.2)).setCell ⟨g,k*3+2,none⟩ (.int .i64 (x.2:Int))) g c (M.set k x):=⟨h.own.put k x,h.lo,by simpa using h.lt,w14 (w14 (w14 h.bel h.lo _) h.lo _) h.lo _⟩
theorem RowAt.cast{M':List FE}(h:RowAt w0 w g c M)(e:M=M'):RowAt w0 w g c M':=e▸h
theorem RowAt.facts(h:RowAt w0 w g c M){k:Nat}{x:FE}(hx:M[k]?=some x):w.cell? ⟨g,k*3,none⟩=some (.int .i64 x.1.1)∧w.cell? ⟨g,k*3+1,none⟩=some (.int .i64 x.1.2)∧w.cell? ⟨g,k*3+2,none⟩=some (.int .i64 (x.2:Int))∧w.frozen? ⟨g,k*3,none⟩=false∧w.frozen? ⟨g,k*3+1,none⟩=false∧w.frozen? ⟨g,k*3+2,none⟩=false:=by obtain⟨hk,rfl⟩:=List.getElem?_eq_some_iff.1 hx;obtain⟨a,b,d⟩:=h.own.cells hk;exact⟨a,b,d,World.ownsRow.frozenAt h.own _,World.ownsRow.frozenAt h.own _,World.ownsRow.frozenAt h.own _⟩
end
theorem y124(W:World)(q:Nat)(os:Array Obj):Below W.heap.size W (grow (W.drewN q) os):=by
 have h:=k50 (w:=W) (g:=W.heap.size) (n:=0) (os:=#[]) #[];clear h;refine⟨rfl,rfl,rfl,?_,fun k hk=>?_⟩;·simp[grow]
 ·rw[heap_grow_old _ _ (by simpa using hk)];rfl
theorem q89{L1 L2 L3:List FE}{x y:FE}{i j:Nat}(hi:L1.length=i)(hj:L1.length+1+L2.length=j):((L1++x::(L2++y::L3)).set i y).set j x=L1++y::(L2++x::L3):=by subst hi hj;rw[List.set_append_right _ _ (by omega)];simp only[Nat.sub_self,List.set_cons_zero];rw[List.set_append_right _ _ (by omega),show L1.length+1+L2.length-L1.length=L2.length+1 from by omega,List.set_cons_succ,List.set_append_right _ _ (by omega)];simp
theorem y59{L1 L2:List FE}{x:FE}{i:Nat}(hi:L1.length=i):(L1++x::L2)[i]?=some x:=by subst hi;simp
theorem j76{L1 L2 L3:List FE}{x y:FE}{j:Nat}(hj:L1.length+1+L2.length=j):(L1++x::(L2++y::L3))[j]?=some y:=by subst hj;rw[List.getElem?_append_right (by omega),show L1.length+1+L2.length-L1.length=L2.length+1 from by omega,List.getElem?_cons_succ];simp
def swapped(P U V W S:List FE)(i:Nat):List FE:=P++(W.take i++U.drop i)++V++(U.take i++W.drop i)++S
theorem q118(P U V W S:List FE):swapped P U V W S 0=P++U++V++W++S:=by simp[swapped]
theorem w124(P U V W S:List FE)(h:U.length=W.length):swapped P U V W S U.length=P++W++V++U++S:=by unfold swapped;rw[List.take_of_length_le (by omega),List.drop_of_length_le (Nat.le_refl _),List.take_of_length_le (Nat.le_refl _),List.drop_of_length_le (by omega)];simp
theorem j118(P U V W S:List FE){i:Nat}(h:U.length=W.length)(hi:i<U.length):swapped P U V W S i=(P++W.take i)++U[i]::((U.drop (i+1)++V++U.take i)++W[i]::(W.drop (i+1)++S)):=by unfold swapped;rw[List.drop_eq_getElem_cons hi,List.drop_eq_getElem_cons (show i<W.length by omega)];simp only[List.append_assoc,List.cons_append]
theorem v118(P U V W S:List FE){i:Nat}(h:U.length=W.length)(hi:i<U.length):(P++W.take i)++W[i]::((U.drop (i+1)++V++U.take i)++U[i]::(W.drop (i+1)++S))=swapped P U V W S (i+1):=by unfold swapped;rw[List.take_succ_eq_append_getElem hi,List.take_succ_eq_append_getElem (show i<W.length by omega)];simp only[List.append_assoc,List.cons_append,List.nil_append]
theorem k76{w0 w:World}{g c:Nat}(P U V W S:List FE)(a b n N:Nat)(fv:Value)(hR:RowAt w0 w g c (P++U++V++W++S))(hUW:U.length=W.length)(ha:P.length=a)(hb:P.length+U.length+V.length=b)(hn:U.length=n)(hN:P.length+U.length+V.length+W.length+S.length=N)(hl:N≤1000000):Calls Tryz.prog 336 #[.slice (some ⟨g,0,none⟩) N c,.int .i64 a,.int .i64 b,.int .i64 n,fv] w fun e w'=>e=.returned (.tuple #[])∧RowAt w0 w' g c (P++W++V++U++S):=by
 have HR:Hid (RowAt w0 w g c (swapped P U V W S 0)):=by simp only[Hid];rw[q118];exact hR
 clear hR;go_enter Tryz.func336,Tryz.ntmps336;go_wp2_with fail;go_loopw[10](fun i wr=>∃k:Nat,k≤n∧i=.int .i64 k∧RowAt w0 wr g c (swapped P U V W S k))(fun i _=>n-(intOf i).toNat);case atStart=>exact⟨0,Nat.zero_le _,rfl,HR.out⟩
 case round=>
  clear HR;obtain⟨k,hk,rfl,hr⟩:=hrel;by_cases hlt:k<n;·
   have hku:k<U.length:=by omega
   have hkw:k<W.length:=by omega
   rw[j118 P U V W S hUW hku]at hr;have HNX:=Lib.hid (v118 P U V W S hUW hku);obtain⟨p,hp⟩:∃p,a+k=p:=⟨_,rfl⟩;obtain⟨q,hq⟩:∃q,b+k=q:=⟨_,rfl⟩;have l1:(P++W.take k).length=p:=by simp;omega
   have l2:(P++W.take k).length+1+(U.drop (k+1)++V++U.take k).length=q:=by simp;omega
   obtain⟨x,hx⟩:∃x,U[k]=x:=⟨_,rfl⟩;obtain⟨y,hy⟩:∃y,W[k]=y:=⟨_,rfl⟩;rw[hx,hy]at hr HNX;obtain⟨c1,c2,c3,f1,f2,f3⟩:=hr.facts (y59 l1);obtain⟨d1,d2,d3,e1,e2,e3⟩:=hr.facts (j76 l2);have HR2:=Lib.hid hr;have HS:=Lib.hid (q89 (x:=x) (y:=y) (L3:=W.drop (k+1)++S) l1 l2);have hz:=hr.lt;have hpq:p<q:=by omega
   have hqN:q<N:=by omega
   have ea:(a:Int)+(k:Int)=(p:Int):=by omega
   have eb:(b:Int)+(k:Int)=(q:Int):=by omega
   have hl':(N:Int)≤1000000:=by omega
   clear hx hy hr l1 l2 hku hkw hUW ha hb hn hN hp hq;go_wp2_with fail;go_region;all_goals
    go_wp2_with fail;go_roundw;case rel=>refine⟨k+1,by omega,by go_num,?_⟩;rw[←HNX.out,←HS.out];exact((HR2.out.put p y).put q x).drew
    case measure=>simp[intOf];omega
  ·obtain rfl:k=n:=by omega
   rw[←hn,w124 P U V W S hUW]at hr;have HR2:=Lib.hid hr;clear hr;go_wp2_with fail;refine bodyPost_end (v:=.tuple #[]) (by simp[results,Tryz.results336,go_sem]) rfl ?_;exact⟨rfl,HR2.out⟩
theorem j141{w0 w:World}{g c:Nat}(P U V S:List FE)(a m b N:Nat)(fv:Value)(hR:RowAt w0 w g c (P++U++V++S))(hU:0<U.length)(hV:0<V.length)(ha:P.length=a)(hm:P.length+U.length=m)(hb:P.length+U.length+V.length=b)(hN:P.length+U.length+V.length+S.length=N)(hl:N≤1000000):Calls Tryz.prog 328 #[.slice (some ⟨g,0,none⟩) N c,.int .i64 a,.int .i64 m,.int .i64 b,fv] w fun e w'=>e=.returned (.tuple #[])∧RowAt w0 w' g c (P++V++U++S):=by
 have HR:=Lib.hid hR;have e1:(m:Int)-(a:Int)=(U.length:Int):=by omega
 have e2:(b:Int)-(m:Int)=(V.length:Int):=by omega
 have hlN:(N:Int)≤1000000:=by omega
 clear hR;go_enter Tryz.func328,Tryz.ntmps328;go_wp2_with fail;go_loopw[10,11](fun si sj wr=>∃(i j p:Nat)(P1 U1 V1 S1:List FE),si=.int .i64 i∧sj=.int .i64 j∧U1.length=i∧V1.length=j∧P1.length=p∧0<i∧0<j∧p+i=m∧p+i+j+S1.length=N∧P1++V1++U1++S1=P++V++U++S∧RowAt w0 wr g c (P1++U1++V1++S1))(fun si sj _=>(intOf si).toNat+(intOf sj).toNat);case atStart=>exact⟨U.length,V.length,P.length,P,U,V,S,rfl,rfl,rfl,rfl,rfl,hU,hV,hm,hN,rfl,HR.out⟩
 case round=>
  clear HR e1 e2 ha hb hU hV hm hN;obtain⟨i,j,p,P1,U1,V1,S1,rfl,rfl,lu,lv,lp,hi0,hj0,hpm,hpN,h5,hr⟩:=hrel;have HE:=Lib.hid h5;have em:(m:Int)-(i:Int)=(p:Int):=by omega
  have hiN:(i:Int)≤1000000:=by omega
  have hjN:(j:Int)≤1000000:=by omega
  have hmN:(m:Int)≤1000000:=by omega
  have hpz:(p:Int)≤1000000:=by omega
  clear h5;rcases Nat.lt_trichotomy i j with hlt|rfl|hgt;·
   have hne:((i:Int)!=(j:Int))=true:=by rw[bne_iff_ne];omega
   have hgt:¬(j:Int)<(i:Int):=by omega
   obtain⟨k,hk⟩:∃k,j-i=k:=⟨_,rfl⟩;have ek:(j:Int)-(i:Int)=(k:Int):=by omega
   have l1:(V1.take k).length=k:=by simp;omega
   have l2:(V1.drop k).length=i:=by simp;omega
   have hv:V1=V1.take k++V1.drop k:=(List.take_append_drop _ _).symm;obtain⟨q,hq⟩:∃q,m+k=q:=⟨_,rfl⟩;have eq1:(m:Int)+(j:Int)-(i:Int)=(q:Int):=by omega
   have HC:=Lib.hid (k76 P1 U1 (V1.take k) (V1.drop k) S1 p q i N fv (hr.cast (by rw[List.append_assoc _ (V1.take k),←hv])) (by omega) lp (by omega) lu (by omega) hl);have HE2:Hid (P1++V1.take k++V1.drop k++(U1++S1)=P++V++U++S):=by simp only[Hid];rw[←HE.out,List.append_assoc P1,←hv];simp only[List.append_assoc]
   have HL:Hid (k<j∧0<k∧p+i+k+(U1++S1).length=N):=by simp only[Hid];simp;omega
   clear hr hv hk hq hlt hpN;have L1:=Lib.hid l1;have L2:=Lib.hid l2;clear l1 l2;go_wp2_with fail;refine HC.out.mono ?_;rintro e w1⟨rfl,hr1⟩;have HR1:=Lib.hid hr1;clear hr1 HC;go_wp2_with fail;go_roundw;case rel=>exact⟨i,k,p,P1,V1.drop k,V1.take k,U1++S1,rfl,rfl,L2.out,L1.out,lp,hi0,HL.out.2.1,hpm,HL.out.2.2,HE2.out,HR1.out.cast (by simp only[List.append_assoc])⟩
   case measure=>have:=HL.out.1;simp[intOf];omega
  ·have hne:((i:Int)!=(i:Int))=false:=by simp
   have HC:=Lib.hid (k76 P1 U1 [] V1 S1 p m i N fv (hr.cast (by simp)) (by omega) lp (by simp;omega) lu (by simp;omega) hl);clear hr;go_wp2_with fail;refine HC.out.mono ?_;rintro e w1⟨rfl,hr1⟩;have HR1:Hid (RowAt w0 w1 g c (P++V++U++S)):=hr1.cast (by rw[←HE.out];simp);clear hr1 HC;go_wp2_with fail;refine bodyPost_end (v:=.tuple #[]) (by simp[results,Tryz.results328,go_sem]) rfl ?_;exact⟨rfl,HR1.out⟩
  ·have hne:((i:Int)!=(j:Int))=true:=by rw[bne_iff_ne];omega
   have hgt':(j:Int)<(i:Int):=by omega
   obtain⟨k,hk⟩:∃k,i-j=k:=⟨_,rfl⟩;have ek:(i:Int)-(j:Int)=(k:Int):=by omega
   have l1:(U1.take j).length=j:=by simp;omega
   have l2:(U1.drop j).length=k:=by simp;omega
   have hv:U1=U1.take j++U1.drop j:=(List.take_append_drop _ _).symm;have HC:=Lib.hid (k76 P1 (U1.take j) (U1.drop j) V1 S1 p m j N fv (hr.cast (by rw[show P1++U1=P1++U1.take j++U1.drop j from by rw[List.append_assoc,←hv]])) (by omega) lp (by omega) l1 (by omega) hl);have HE2:Hid ((P1++V1)++U1.take j++U1.drop j++S1=P++V++U++S):=by simp only[Hid];rw[←HE.out,List.append_assoc (P1++V1),←hv]
   have HL:Hid (k<i∧0<k∧(P1++V1).length=p+j∧p+j+k=m∧p+j+k+j+S1.length=N):=by simp only[Hid];simp;omega
   clear hr hv hk hgt hpN;have L1:=Lib.hid l1;have L2:=Lib.hid l2;clear l1 l2;go_wp2_with fail;refine HC.out.mono ?_;rintro e w1⟨rfl,hr1⟩;have HR1:=Lib.hid hr1;clear hr1 HC;go_wp2_with fail;go_roundw;case rel=>exact⟨k,j,p+j,P1++V1,U1.drop j,U1.take j,S1,rfl,rfl,L2.out,L1.out,HL.out.2.2.1,HL.out.2.1,hj0,HL.out.2.2.2.1,HL.out.2.2.2.2,HE2.out,HR1.out.cast (by simp only[List.append_assoc])⟩
   case measure=>have:=HL.out.1;simp[intOf];omega
theorem cf_lt(x y:FE):decide (cfF x y<0)=decide (x.1.1<y.1.1):=by unfold cfF;exact y117 _ _
theorem j53(x1 x2:Int)(xp:Nat)(y1 y2:Int)(yp:Nat)(t:Bool)(h:decide (x1<y1)=t)(W:World):Calls Tryz.prog 191 #[.agg #[.int .i64 x1,.int .i64 x2,.int .i64 (xp:Int)],.agg #[.int .i64 y1,.int .i64 y2,.int .i64 (yp:Int)]] W fun e w'=>∃r,e=.returned (.int .i64 r)∧decide (r<0)=t∧Below W.heap.size W w':=by refine Calls.mono (v104 ((x1,x2),xp) ((y1,y2),yp) W) ?_;rintro e w'⟨rfl,q,os,rfl⟩;exact⟨_,rfl,by rw[cf_lt];exact h,y124 W q os⟩
def q64(w0:World)(g c:Nat)(P X Y S:List FE)(e:Ending)(w':World):Prop:=e=.returned (.tuple #[])∧∃Z,Z.Perm (X++Y)∧SortF Z∧RowAt w0 w' g c (P++Z++S)
theorem w152{L1 L2 L3:List FE}{x y:FE}{i j:Nat}(hi:L1.length=i)(hj:L1.length+1+L2.length=j):((L1++x::(L2++y::L3)).set j x).set i y=L1++y::(L2++x::L3):=by rw[List.set_comm _ _ (by omega)];exact q89 hi hj
def along(P Y S:List FE)(x:FE)(d:Nat):List FE:=P++Y.take d++x::(Y.drop d++S)
theorem k118{P Y S:List FE}{x:FE}{d:Nat}(hd:d<Y.length):along P Y S x d=(P++Y.take d)++x::([]++Y[d]::(Y.drop (d+1)++S)):=by unfold along;rw[List.drop_eq_getElem_cons hd];simp only[List.append_assoc,List.cons_append,List.nil_append]
theorem k104{P Y S:List FE}{x:FE}{d:Nat}(hd:d<Y.length):(P++Y.take d)++Y[d]::([]++x::(Y.drop (d+1)++S))=along P Y S x (d+1):=by unfold along;rw[List.take_succ_eq_append_getElem hd];simp only[List.append_assoc,List.cons_append,List.nil_append]
theorem w104{P Y S:List FE}{x:FE}{d:Nat}:along P Y S x d=P++(Y.take d++x::Y.drop d)++S:=by unfold along;simp only[List.append_assoc,List.cons_append]
theorem along_perm{Y:List FE}{x:FE}{d:Nat}:(Y.take d++x::Y.drop d).Perm (x::Y):=by have h:=List.perm_middle (a:=x) (l₁:=Y.take d) (l₂:=Y.drop d);rwa[List.take_append_drop]at h
theorem x76{Y:List FE}{x:FE}{d:Nat}(hY:SortF Y)(hd:d≤Y.length)(h1:∀y,Y[d-1]?=some y→0<d→leF y x)(h2:∀y,Y[d]?=some y→leF x y):SortF (Y.take d++x::Y.drop d):=by refine insert_sorted (by rw[List.take_append_drop];exact hY) (y147 hY hd fun h0=>h1 _ (List.getElem?_eq_getElem (by omega)) h0) (w147 hY fun hk=>h2 _ (List.getElem?_eq_getElem hk))
theorem z153{w0 w:World}{g c:Nat}(P:List FE)(x:FE)(Y S:List FE)(a m b N:Nat)(hR:RowAt w0 w g c (P++[x]++Y++S))(hY:SortF Y)(hY0:0<Y.length)(ha:P.length=a)(hm:a+1=m)(hb:m+Y.length=b)(hN:b+S.length=N)(hl:N≤1000000):Calls Tryz.prog 303 #[.slice (some ⟨g,0,none⟩) N c,.int .i64 a,.int .i64 m,.int .i64 b,.func (.func 191) #[] #[]] w (q64 w0 g c P [x] Y S):=by
 have HR:=Lib.hid hR;have e1:(m:Int)-(a:Int)=1:=by omega
 have hlN:(N:Int)≤1000000:=by omega
 clear hR;go_enter Tryz.func303,Tryz.ntmps303;go_wp2_with fail;go_loopw[10,11,12](fun si sj _ wr=>∃i j:Nat,si=.int .i64 i∧sj=.int .i64 j∧m≤i∧i≤j∧j≤b∧(∀y,Y[i-1-m]?=some y→m<i→leF y x)∧(∀y,Y[j-m]?=some y→leF x y)∧RowAt w0 wr g c (P++[x]++Y++S))(fun si sj _ _=>(intOf sj).toNat-(intOf si).toNat);case atStart=>exact⟨m,b,rfl,rfl,Nat.le_refl _,by omega,Nat.le_refl _,by omega,(fun y hy=>by rw[List.getElem?_eq_none (by omega)]at hy;cases hy),HR.out⟩
 case round=>
  clear HR;obtain⟨i,j,rfl,rfl,hmi,hij,hjb,hlo,hhi,hr⟩:=hrel;have HLO:=Lib.hid hlo;have HHI:=Lib.hid hhi;clear hlo hhi;by_cases hlt:i<j;·
   obtain⟨h,hh⟩:∃h,(i+j)/2=h:=⟨_,rfl⟩;have eh:((i:Int)+(j:Int))/2=(h:Int):=by omega
   have hhb:h-m<Y.length:=by omega
   obtain⟨y,hy⟩:∃y,Y[h-m]?=some y:=⟨_,List.getElem?_eq_getElem hhb⟩;have hyM:(P++[x]++Y++S)[h]?=some y:=by rw[List.getElem?_append_left (by simp;omega),List.getElem?_append_right (by simp;omega)];rw[←hy];congr 1;simp;omega
   have hxM:(P++[x]++Y++S)[a]?=some x:=by rw[List.append_assoc,List.append_assoc];exact y59 ha
   obtain⟨c1,c2,c3,f1,f2,f3⟩:=hr.facts hyM;obtain⟨d1,d2,d3,g1,g2,g3⟩:=hr.facts hxM;have hz:=hr.lt;have HR2:=Lib.hid hr;have HY:=Lib.hid hy;have hhN:(h:Int)<(N:Int):=by omega
   have haN:(a:Int)<(N:Int):=by omega
   have hih:i≤h∧h<j:=by omega
   have hhz:(h:Int)≤1000000:=by omega
   obtain⟨⟨x1,x2⟩,xp⟩:=x;obtain⟨⟨y1,y2⟩,yp⟩:=y;simp only at c1 c2 c3 d1 d2 d3;clear hr hy hyM hxM hh;by_cases hc:y1<x1;·
    have HC:=fun W=>Lib.hid (j53 y1 y2 yp x1 x2 xp true (by simpa using hc) W);go_wp2_with fail;go_region_with(go_at_call 191;refine(HC _).out.mono ?_;rintro e w1⟨r,rfl,hrt,hb1⟩);all_goals
     have HR3:=Lib.hid (HR2.out.drew.below hb1);clear hb1;go_wp2_with fail;go_roundw;case rel=>exact⟨h+1,j,by go_num,rfl,by omega,by omega,hjb,(fun y' hy' _=>by have e:=HY.out.symm.trans (by simpa using hy');injection e with e;rw[←e];exact Int.le_of_lt hc),HHI.out,HR3.out⟩
     case measure=>simp[intOf];omega
   ·have HC:=fun W=>Lib.hid (j53 y1 y2 yp x1 x2 xp false (by simpa using hc) W);go_wp2_with fail;go_region_with(go_at_call 191;refine(HC _).out.mono ?_;rintro e w1⟨r,rfl,hrt,hb1⟩);all_goals
     have HR3:=Lib.hid (HR2.out.drew.below hb1);clear hb1;go_wp2_with fail;go_roundw;case rel=>exact⟨i,h,rfl,by go_num,hmi,by omega,by omega,HLO.out,(fun y' hy'=>by have e:=HY.out.symm.trans hy';injection e with e;rw[←e];first|exact hc|exact Int.not_lt.1 hc),HR3.out⟩
     case measure=>simp[intOf];omega
  ·obtain rfl:i=j:=by omega
   have ei:(i:Int)-1=((i-1:Nat):Int):=by omega
   obtain⟨t,ht⟩:∃t,i-1=t:=⟨_,rfl⟩;rw[ht]at ei;have HR2:Hid (RowAt w0 wr g c (along P Y S x 0)):=hr.cast (by unfold along;simp);have HS:Hid (SortF (Y.take (t-a)++x::Y.drop (t-a))):=x76 hY (by omega) (fun y hy h0=>HLO.out y (by rw[←hy];congr 1;omega) (by omega)) (fun y hy=>HHI.out y (by rw[←hy];congr 1;omega));have hta:a≤t∧t-a≤Y.length:=by omega
   have htz:(t:Int)≤1000000:=by omega
   clear HLO HHI hr hlt hij;go_wp2_with fail;go_loopw[13](fun sk wr=>∃k:Nat,sk=.int .i64 k∧a≤k∧k≤t∧RowAt w0 wr g c (along P Y S x (k-a)))(fun sk _=>t-(intOf sk).toNat);case atStart=>exact⟨a,rfl,Nat.le_refl _,hta.1,by rw[Nat.sub_self];exact HR2.out⟩
   case round=>
    clear HR2;obtain⟨k,rfl,hak,hkt,hr⟩:=hrel;by_cases hlt:k<t;·
     have hd:k-a<Y.length:=by omega
     rw[k118 hd]at hr;have HNX:=Lib.hid (k104 (P:=P) (S:=S) (x:=x) hd);obtain⟨q,hq⟩:∃q,k+1=q:=⟨_,rfl⟩;have l1:(P++Y.take (k-a)).length=k:=by simp;omega
     have l2:(P++Y.take (k-a)).length+1+([]:List FE).length=q:=by rw[l1];simp;omega
     obtain⟨y,hy⟩:∃y,Y[k-a]=y:=⟨_,rfl⟩;rw[hy]at hr HNX;obtain⟨c1,c2,c3,f1,f2,f3⟩:=hr.facts (y59 l1);obtain⟨d1,d2,d3,g1,g2,g3⟩:=hr.facts (j76 l2);have HR3:=Lib.hid hr;have HW:=Lib.hid (q89 (x:=x) (y:=y) (L3:=Y.drop (k-a+1)++S) l1 l2);have hz:=hr.lt;have eq1:(k:Int)+1=(q:Int):=by omega
     have hqN:(q:Int)<(N:Int):=by omega
     have hkN:(k:Int)<(N:Int):=by omega
     have hpq:k<q:=by omega
     have EK:Hid (k+1-a=k-a+1):=by simp only[Hid];omega
     clear hy hr l1 l2 hd;go_wp2_with fail;go_region;all_goals
      go_wp2_with fail;go_roundw;case rel=>refine⟨k+1,by go_num,by omega,by omega,?_⟩;rw[EK.out,←HNX.out,←HW.out];exact((HR3.out.put k y).put q x).drew
      case measure=>simp[intOf];omega
    ·obtain rfl:k=t:=by omega
     have HR3:=Lib.hid hr;clear hr;go_wp2_with fail;refine bodyPost_ret (by simp[results,Tryz.results303,go_sem];try rfl) rfl ?_;exact⟨rfl,_,along_perm,HS.out,HR3.out.cast w104⟩
theorem k141{P X S:List FE}{y:FE}{d:Nat}(hd:d<X.length):along P X S y (d+1)=(P++X.take d)++X[d]::([]++y::(X.drop (d+1)++S)):=(k104 hd).symm
theorem z125{P X S:List FE}{y:FE}{d:Nat}(hd:d<X.length):(P++X.take d)++y::([]++X[d]::(X.drop (d+1)++S))=along P X S y d:=(k118 hd).symm
theorem v163{w0 w:World}{g c:Nat}(P X:List FE)(y:FE)(S:List FE)(a m b N:Nat)(hR:RowAt w0 w g c (P++X++[y]++S))(hX:SortF X)(hX0:1<X.length)(ha:P.length=a)(hm:a+X.length=m)(hb:m+1=b)(hN:b+S.length=N)(hl:N≤1000000):Calls Tryz.prog 303 #[.slice (some ⟨g,0,none⟩) N c,.int .i64 a,.int .i64 m,.int .i64 b,.func (.func 191) #[] #[]] w (q64 w0 g c P X [y] S):=by
 have HR:=Lib.hid hR;have e1:(m:Int)-(a:Int)=(X.length:Int):=by omega
 have e1':((X.length:Int)==1)=false:=by rw[beq_eq_false_iff_ne];omega
 have e2:(b:Int)-(m:Int)=1:=by omega
 have hlN:(N:Int)≤1000000:=by omega
 clear hR;go_enter Tryz.func303,Tryz.ntmps303;go_wp2_with fail;go_loopw[14,15,16](fun si sj _ wr=>∃i j:Nat,si=.int .i64 i∧sj=.int .i64 j∧a≤i∧i≤j∧j≤m∧(∀x,X[i-1-a]?=some x→a<i→leF x y)∧(∀x,X[j-a]?=some x→leF y x)∧RowAt w0 wr g c (P++X++[y]++S))(fun si sj _ _=>(intOf sj).toNat-(intOf si).toNat);case atStart=>exact⟨a,m,rfl,rfl,Nat.le_refl _,by omega,Nat.le_refl _,by omega,(fun y hy=>by rw[List.getElem?_eq_none (by omega)]at hy;cases hy),HR.out⟩
 case round=>
  clear HR e1 e1' e2;obtain⟨i,j,rfl,rfl,hmi,hij,hjb,hlo,hhi,hr⟩:=hrel;have HLO:=Lib.hid hlo;have HHI:=Lib.hid hhi;clear hlo hhi;by_cases hlt:i<j;·
   obtain⟨h,hh⟩:∃h,(i+j)/2=h:=⟨_,rfl⟩;have eh:((i:Int)+(j:Int))/2=(h:Int):=by omega
   have hhb:h-a<X.length:=by omega
   obtain⟨x,hx⟩:∃x,X[h-a]?=some x:=⟨_,List.getElem?_eq_getElem hhb⟩;have hxM:(P++X++[y]++S)[h]?=some x:=by rw[List.getElem?_append_left (by simp;omega),List.getElem?_append_left (by simp;omega),List.getElem?_append_right (by omega),ha];exact hx
   have hyM:(P++X++[y]++S)[m]?=some y:=by rw[List.append_assoc];exact y59 (by simp;omega)
   obtain⟨c1,c2,c3,f1,f2,f3⟩:=hr.facts hxM;obtain⟨d1,d2,d3,g1,g2,g3⟩:=hr.facts hyM;have hz:=hr.lt;have HR2:=Lib.hid hr;have HX:=Lib.hid hx;have hhN:(h:Int)<(N:Int):=by omega
   have hmN:(m:Int)<(N:Int):=by omega
   have hih:i≤h∧h<j:=by omega
   have hhz:(h:Int)≤1000000:=by omega
   obtain⟨⟨x1,x2⟩,xp⟩:=x;obtain⟨⟨y1,y2⟩,yp⟩:=y;simp only at c1 c2 c3 d1 d2 d3;clear hr hx hyM hxM hh;by_cases hc:y1<x1;·
    have HC:=fun W=>Lib.hid (j53 y1 y2 yp x1 x2 xp true (by simpa using hc) W);go_wp2_with fail;go_region_with(go_at_call 191;refine(HC _).out.mono ?_;rintro e w1⟨r,rfl,hrt,hb1⟩);all_goals
     have HR3:=Lib.hid (HR2.out.drew.below hb1);clear hb1;go_wp2_with fail;go_roundw;case rel=>exact⟨i,h,rfl,by go_num,hmi,by omega,by omega,HLO.out,(fun y' hy'=>by have e:=HX.out.symm.trans hy';injection e with e;rw[←e];exact Int.le_of_lt hc),HR3.out⟩
     case measure=>simp[intOf];omega
   ·have HC:=fun W=>Lib.hid (j53 y1 y2 yp x1 x2 xp false (by simpa using hc) W);go_wp2_with fail;go_region_with(go_at_call 191;refine(HC _).out.mono ?_;rintro e w1⟨r,rfl,hrt,hb1⟩);all_goals
     have HR3:=Lib.hid (HR2.out.drew.below hb1);clear hb1;go_wp2_with fail;go_roundw;case rel=>exact⟨h+1,j,by go_num,rfl,by omega,by omega,hjb,(fun y' hy' _=>by have e:=HX.out.symm.trans (by simpa using hy');injection e with e;rw[←e];first|exact hc|exact Int.not_lt.1 hc),HHI.out,HR3.out⟩
     case measure=>simp[intOf];omega
  ·obtain rfl:i=j:=by omega
   have HR2:Hid (RowAt w0 wr g c (along P X S y (m-a))):=hr.cast (by unfold along;rw[List.take_of_length_le (by omega),List.drop_of_length_le (by omega)];simp);have HS:Hid (SortF (X.take (i-a)++y::X.drop (i-a))):=x76 hX (by omega) (fun x hx h0=>HLO.out x (by rw[←hx];congr 1;omega) (by omega)) (fun x hx=>HHI.out x hx);have hia:i-a≤X.length:=by omega
   have hiz:(i:Int)≤1000000:=by omega
   clear HLO HHI hr hlt hij;go_wp2_with fail;go_loopw[17](fun sk wr=>∃k:Nat,sk=.int .i64 k∧i≤k∧k≤m∧RowAt w0 wr g c (along P X S y (k-a)))(fun sk _=>(intOf sk).toNat);case atStart=>exact⟨m,rfl,by omega,Nat.le_refl _,HR2.out⟩
   case round=>
    clear HR2;obtain⟨k,rfl,hik,hkm,hr⟩:=hrel;by_cases hlt:i<k;·
     obtain⟨q,hq⟩:∃q,k-1=q:=⟨_,rfl⟩;have hd:q-a<X.length:=by omega
     have ek:k-a=q-a+1:=by omega
     rw[ek,k141 hd]at hr;have HNX:=Lib.hid (z125 (P:=P) (S:=S) (y:=y) hd);have l1:(P++X.take (q-a)).length=q:=by simp;omega
     have l2:(P++X.take (q-a)).length+1+([]:List FE).length=k:=by rw[l1];simp;omega
     obtain⟨x,hx⟩:∃x,X[q-a]=x:=⟨_,rfl⟩;rw[hx]at hr HNX;obtain⟨c1,c2,c3,f1,f2,f3⟩:=hr.facts (y59 l1);obtain⟨d1,d2,d3,g1,g2,g3⟩:=hr.facts (j76 l2);have HR3:=Lib.hid hr;have HW:=Lib.hid (w152 (x:=x) (y:=y) (L3:=X.drop (q-a+1)++S) l1 l2);have hz:=hr.lt;have eq1:(k:Int)-1=(q:Int):=by omega
     have hqN:(q:Int)<(N:Int):=by omega
     have hkN:(k:Int)<(N:Int):=by omega
     have hpq:q<k:=by omega
     have hkz:(k:Int)≤1000000:=by omega
     clear hx hr l1 l2 hd ek;go_wp2_with fail;go_region;all_goals
      go_wp2_with fail;go_roundw;case rel=>refine⟨q,by go_num,by omega,by omega,?_⟩;rw[←HNX.out,←HW.out];exact((HR3.out.put k x).put q y).drew
      case measure=>simp[intOf];omega
    ·obtain rfl:k=i:=by omega
     have HR3:=Lib.hid hr;clear hr;go_wp2_with fail;refine bodyPost_ret (by simp[results,Tryz.results303,go_sem];try rfl) rfl ?_;exact⟨rfl,_,along_perm.trans (List.perm_append_comm (l₁:=[y])),HS.out,HR3.out.cast w104⟩
theorem sym_gen{w0 w:World}{g c sz N:Nat}(IH:∀(w':World)(P X Y S:List FE)(a m b:Nat),X.length+Y.length≤sz→RowAt w0 w' g c (P++X++Y++S)→SortF X→SortF Y→0<X.length→0<Y.length→P.length=a→a+X.length=m→m+Y.length=b→b+S.length=N→Calls Tryz.prog 303 #[.slice (some ⟨g,0,none⟩) N c,.int .i64 a,.int .i64 m,.int .i64 b,.func (.func 191) #[] #[]] w' (q64 w0 g c P X Y S))(P X Y S:List FE)(a m b:Nat)(hsz:X.length+Y.length≤sz+1)(hR:RowAt w0 w g c (P++X++Y++S))(hX:SortF X)(hY:SortF Y)(hX0:1<X.length)(hY0:1<Y.length)(ha:P.length=a)(hm:a+X.length=m)(hb:m+Y.length=b)(hN:b+S.length=N)(hl:N≤1000000):Calls Tryz.prog 303 #[.slice (some ⟨g,0,none⟩) N c,.int .i64 a,.int .i64 m,.int .i64 b,.func (.func 191) #[] #[]] w (q64 w0 g c P X Y S):=by
 have HR:=Lib.hid hR;have HIH:=Lib.hid IH;have e1:(m:Int)-(a:Int)=(X.length:Int):=by omega
 have e1':((X.length:Int)==1)=false:=by rw[beq_eq_false_iff_ne];omega
 have e2:(b:Int)-(m:Int)=(Y.length:Int):=by omega
 have e2':((Y.length:Int)==1)=false:=by rw[beq_eq_false_iff_ne];omega
 have hlN:(N:Int)≤1000000:=by omega
 obtain⟨mid,hmid⟩:∃mid,(a+b)/2=mid:=⟨_,rfl⟩;obtain⟨n,hn⟩:∃n,mid+m=n:=⟨_,rfl⟩;have emid:((a:Int)+(b:Int))/2=(mid:Int):=by omega
 have en:(mid:Int)+(m:Int)=(n:Int):=by omega
 obtain⟨p,hp⟩:∃p,n-1=p:=⟨_,rfl⟩;have ep:(n:Int)-1=(p:Int):=by omega
 have hnz:(n:Int)≤2000000:=by omega
 have hmz:(mid:Int)≤1000000:=by omega
 clear hR IH;go_enter Tryz.func303,Tryz.ntmps303;go_upto_if 140 with fail;go_cut[20,21](fun ss sr wx=>wx=w∧∃s r:Nat,ss=.int .i64 s∧sr=.int .i64 r∧a≤s∧s≤r∧r≤m∧r≤mid∧n≤s+b∧(s=a∨n=s+b)∧(r=m∨r=mid));case first=>
  by_cases h:mid<m;·
   have h':(mid:Int)<(m:Int):=by omega
   obtain⟨s0,hs0⟩:∃s0,n-b=s0:=⟨_,rfl⟩;have es0:(n:Int)-(b:Int)=(s0:Int):=by omega
   clear HR HIH;go_wp2_with fail;go_meet;exact⟨rfl,s0,mid,rfl,rfl,by omega,by omega,by omega,by omega,by omega,.inr (by omega),.inr rfl⟩
  ·have h':¬(mid:Int)<(m:Int):=by omega
   clear HR HIH;go_wp2_with fail;go_meet;exact⟨rfl,a,m,rfl,rfl,by omega,by omega,by omega,by omega,by omega,.inl rfl,.inl rfl⟩
 case rest=>
  obtain⟨rfl,s0,r0,rfl,rfl,i1,i2,i3,i4,i5,i6,i7⟩:=hcut;have HI6:=Lib.hid i6;have HI7:=Lib.hid i7;clear i6 i7;go_wp2_with fail;go_loopw[20,21,23](fun ss sr _ wr=>∃s r:Nat,ss=.int .i64 s∧sr=.int .i64 r∧a≤s∧s≤r∧r≤m∧r≤mid∧n≤s+b∧(s=a∨n=s+b∨∀x y,X[s-1-a]?=some x→Y[mid-s]?=some y→leF x y)∧(r=m∨r=mid∨∀x y,X[r-a]?=some x→Y[mid-1-r]?=some y→leF y x)∧RowAt w0 wr g c (P++X++Y++S))(fun ss sr _ _=>(intOf sr).toNat-(intOf ss).toNat);case atStart=>exact⟨s0,r0,rfl,rfl,i1,i2,i3,i4,i5,HI6.out.elim .inl (fun h=>.inr (.inl h)),HI7.out.elim .inl (fun h=>.inr (.inl h)),HR.out⟩
  case round=>
   clear HR e1 e1' e2 e2' HI6 HI7 i1 i2 i3 i4 i5;obtain⟨s,r,rfl,rfl,has,hsr,hrm,hrmid,hsb,hlo,hhi,hr⟩:=hrel;have HLO:=Lib.hid hlo;have HHI:=Lib.hid hhi;clear hlo hhi;by_cases hlt:s<r;·
    as_aux_lemma =>
     obtain⟨h,hh⟩:∃h,(s+r)/2=h:=⟨_,rfl⟩;have eh:((s:Int)+(r:Int))/2=(h:Int):=by omega
     have hsh:s≤h∧h<r:=by omega
     obtain⟨q,hq⟩:∃q,p-h=q:=⟨_,rfl⟩;have eq1:(p:Int)-(h:Int)=(q:Int):=by omega
     have hxb:h-a<X.length:=by omega
     have hyb:mid-1-h<Y.length:=by omega
     obtain⟨x,hx⟩:∃x,X[h-a]?=some x:=⟨_,List.getElem?_eq_getElem hxb⟩;obtain⟨y,hy⟩:∃y,Y[mid-1-h]?=some y:=⟨_,List.getElem?_eq_getElem hyb⟩;have hxM:(P++X++Y++S)[h]?=some x:=by rw[List.getElem?_append_left (by simp;omega),List.getElem?_append_left (by simp;omega),List.getElem?_append_right (by omega),ha];exact hx
     have hyM:(P++X++Y++S)[q]?=some y:=by rw[List.getElem?_append_left (by simp;omega),List.getElem?_append_right (by simp;omega),←hy];congr 1;simp;omega
     obtain⟨c1,c2,c3,f1,f2,f3⟩:=hr.facts hxM;obtain⟨d1,d2,d3,g1,g2,g3⟩:=hr.facts hyM;have hz:=hr.lt;have HR2:=Lib.hid hr;have HX:=Lib.hid hx;have HY:=Lib.hid hy;have hhN:(h:Int)<(N:Int):=by omega
     have hqN:(q:Int)<(N:Int):=by omega
     have hhz:(h:Int)≤1000000:=by omega
     have hqz:(q:Int)≤1000000:=by omega
     have hpz:(p:Int)≤2000000:=by omega
     obtain⟨⟨x1,x2⟩,xp⟩:=x;obtain⟨⟨y1,y2⟩,yp⟩:=y;simp only at c1 c2 c3 d1 d2 d3;clear hr hx hy hyM hxM hh hq;have wq:IntKind.i64.wrap (q:Int)=(q:Int):=IntWalk.i64_in _ (by omega);by_cases hc:y1<x1;·
      as_aux_lemma =>
       have HC:=fun W=>Lib.hid (j53 y1 y2 yp x1 x2 xp true (by simpa using hc) W);go_wp2_with fail;go_region_held3(fun w'=>w'.cell? ⟨g,q*3,none⟩=some (.int .i64 y1)∧w'.cell? ⟨g,q*3+1,none⟩=some (.int .i64 y2)∧w'.cell? ⟨g,q*3+2,none⟩=some (.int .i64 (yp:Int))∧w'.cell? ⟨g,h*3,none⟩=some (.int .i64 x1)∧w'.cell? ⟨g,h*3+1,none⟩=some (.int .i64 x2)∧w'.cell? ⟨g,h*3+2,none⟩=some (.int .i64 (xp:Int)))(first|exact⟨d1,d2,d3,c1,c2,c3⟩|exact⟨x16 hb1 d1,x16 hb1 d2,x16 hb1 d3,x16 hb1 c1,x16 hb1 c2,x16 hb1 c3⟩|fail)((first|(go_at_call 191;refine(HC _).out.mono ?_;rintro e w1⟨rr,rfl,hrt,hb1⟩)));all_goals
        clear wq;have HR3:=Lib.hid (HR2.out.drew.below hb1);clear hb1;go_wp2_with fail;go_roundw;case rel=>exact⟨s,h,rfl,by go_num,has,by omega,by omega,by omega,hsb,HLO.out,.inr (.inr fun x' y' hx' hy'=>by have e:=HX.out.symm.trans hx';injection e with e;have e':=HY.out.symm.trans hy';injection e' with e';rw[←e,←e'];exact Int.le_of_lt hc),HR3.out⟩
        case measure=>simp[intOf];omega
     ·as_aux_lemma =>
       have HC:=fun W=>Lib.hid (j53 y1 y2 yp x1 x2 xp false (by simpa using hc) W);go_wp2_with fail;go_region_held3(fun w'=>w'.cell? ⟨g,q*3,none⟩=some (.int .i64 y1)∧w'.cell? ⟨g,q*3+1,none⟩=some (.int .i64 y2)∧w'.cell? ⟨g,q*3+2,none⟩=some (.int .i64 (yp:Int))∧w'.cell? ⟨g,h*3,none⟩=some (.int .i64 x1)∧w'.cell? ⟨g,h*3+1,none⟩=some (.int .i64 x2)∧w'.cell? ⟨g,h*3+2,none⟩=some (.int .i64 (xp:Int)))(first|exact⟨d1,d2,d3,c1,c2,c3⟩|exact⟨x16 hb1 d1,x16 hb1 d2,x16 hb1 d3,x16 hb1 c1,x16 hb1 c2,x16 hb1 c3⟩|fail)((first|(go_at_call 191;refine(HC _).out.mono ?_;rintro e w1⟨rr,rfl,hrt,hb1⟩)));all_goals
        clear wq;have HR3:=Lib.hid (HR2.out.drew.below hb1);clear hb1;go_wp2_with fail;go_roundw;case rel=>exact⟨h+1,r,by go_num,rfl,by omega,by omega,hrm,hrmid,by omega,.inr (.inr fun x' y' hx' hy'=>by rw[show h+1-1-a=h-a from by omega]at hx';rw[show mid-(h+1)=mid-1-h from by omega]at hy';have e:=HX.out.symm.trans hx';injection e with e;have e':=HY.out.symm.trans hy';injection e' with e';rw[←e,←e'];first|exact hc|exact Int.not_lt.1 hc),HHI.out,HR3.out⟩
        case measure=>simp[intOf];omega
   ·as_aux_lemma =>
     obtain rfl:s=r:=by omega
     obtain⟨X1,hX1⟩:∃l,X.take (s-a)=l:=⟨_,rfl⟩;obtain⟨X2,hX2⟩:∃l,X.drop (s-a)=l:=⟨_,rfl⟩;obtain⟨Y1,hY1⟩:∃l,Y.take (mid-s)=l:=⟨_,rfl⟩;obtain⟨Y2,hY2⟩:∃l,Y.drop (mid-s)=l:=⟨_,rfl⟩;have eX:X1++X2=X:=by rw[←hX1,←hX2,List.take_append_drop]
     have eY:Y1++Y2=Y:=by rw[←hY1,←hY2,List.take_append_drop]
     have cr1:∀x∈X1,∀y∈Y2,leF x y:=by
      rw[←hX1,←hY2];refine cross hX hY (by omega) fun h0 q1 q2=>?_;rcases HLO.out with hh|hh|hh;·omega
      ·omega
      ·exact hh _ _ (by rw[show s-1-a=s-a-1 from by omega];exact List.getElem?_eq_getElem q1) (List.getElem?_eq_getElem q2)
     have cr2:∀y∈Y1,∀x∈X2,leF y x:=by
      rw[←hY1,←hX2];refine cross hY hX (by omega) fun h0 q1 q2=>?_;rcases HHI.out with hh|hh|hh;·omega
      ·omega
      ·exact hh _ _ (List.getElem?_eq_getElem q2) (by rw[show mid-1-s=mid-s-1 from by omega];exact List.getElem?_eq_getElem q1)
     have sX1:SortF X1:=by rw[←hX1];exact hX.take _
     have sX2:SortF X2:=by rw[←hX2];exact hX.drop _
     have sY1:SortF Y1:=by rw[←hY1];exact hY.take _
     have sY2:SortF Y2:=by rw[←hY2];exact hY.drop _
     have lX1:X1.length=s-a:=by rw[←hX1];simp;omega
     have lX2:X2.length=m-s:=by rw[←hX2];simp;omega
     have lY1:Y1.length=mid-s:=by rw[←hY1];simp;omega
     have lY2:Y2.length=b-(n-s):=by rw[←hY2];simp;omega
     obtain⟨en2,hen2⟩:∃e,n-s=e:=⟨_,rfl⟩;have een:(n:Int)-(s:Int)=(en2:Int):=by omega
     have hsz':(s:Int)≤1000000:=by omega
     have hez:(en2:Int)≤1000000:=by omega
     have hr':RowAt w0 wr g c (P++X1++X2++Y1++(Y2++S)):=hr.cast (by rw[←eX,←eY];simp only[List.append_assoc]);have HSX:Hid (SortF (X1++X2)):=by simp only[Hid];rw[eX];exact hX
     have HSY:Hid (SortF (Y1++Y2)):=by simp only[Hid];rw[eY];exact hY
     have HC1:=Lib.hid cr1;have HC2:=Lib.hid cr2;have HPF:Hid (∀Z:List FE,Z.Perm ((X1++X2)++(Y1++Y2))→Z.Perm (X++Y)):=by simp only[Hid];intro Z hZ;rw[eX,eY]at hZ;exact hZ
     have HS1:=Lib.hid sX1;have HS2:=Lib.hid sX2;have HS3:=Lib.hid sY1;have HS4:=Lib.hid sY2;have HRR:=Lib.hid hr';rw[hen2]at lY2;have he1:s≤en2:=by omega
     have he2:mid≤en2:=by omega
     have he3:en2≤b:=by omega
     have he4:en2+s=mid+m:=by omega
     clear hen2;have hab:mid-a≤sz∧b-mid≤sz:=by omega
     clear hr hr' cr1 cr2 sX1 sX2 sY1 sY2 hX1 hX2 hY1 hY2 eX eY HLO HHI hX hY;go_upto_region 39 with fail;go_cut[185](fun s185 wx=>s185=.bool (decide (s<m∧m<en2))∧wx=wr);case first=>
      by_cases h1:s<m;·
       have t1:(s:Int)<(m:Int):=by omega
       by_cases h2:m<en2;·
        have t2:(m:Int)<(en2:Int):=by omega
        go_wp2_with fail;go_meet;exact⟨by simp[h1,h2],rfl⟩
       ·have t2:¬(m:Int)<(en2:Int):=by omega
        go_wp2_with fail;go_meet;exact⟨by simp[h2],rfl⟩
      ·have t1:¬(s:Int)<(m:Int):=by omega
       go_wp2_with fail;go_meet;exact⟨by simp[h1],rfl⟩
     case rest=>
      obtain⟨rfl,rfl⟩:=hcut;obtain⟨bt,hbt⟩:∃bt,decide (s<m∧m<en2)=bt:=⟨_,rfl⟩;rw[hbt];go_upto_if 185 with fail;go_cut[](fun wx=>RowAt w0 wx g c (P++X1++Y1++X2++Y2++S));case first=>
       cases bt;·
        have hrot:¬(s<m∧m<en2):=by simpa using hbt
        have HC:Hid (RowAt w0 wc g c (P++X1++Y1++X2++Y2++S)):=HRR.out.cast (by
         have:X2=[]∨Y1=[]:=by
          by_cases h1:s<m;·exact .inr (List.eq_nil_of_length_eq_zero (by omega))
          ·exact .inl (List.eq_nil_of_length_eq_zero (by omega))
         rcases this with e|e<;>rw[e]<;>simp);go_wp2_with fail;go_meet;exact HC.out
       ·as_aux_lemma =>
         have hrot:s<m∧m<en2:=by simpa using hbt
         have HC:=Lib.hid (j141 (P++X1) X2 Y1 (Y2++S) s m en2 N (.func (.func 191) #[] #[]) HRR.out (by omega) (by omega) (by simp;omega) (by simp;omega) (by simp;omega) (by simp;omega) hl);go_wp2_with fail;refine HC.out.mono ?_;rintro e w1⟨rfl,hr1⟩;go_wp2_with fail;go_meet;exact hr1.cast (by simp only[List.append_assoc])
      case rest=>
       have HR5:=Lib.hid hcut;clear hcut HRR;go_upto_region 41 with fail;obtain⟨w5,rfl⟩:∃w5:World,w5=wc:=⟨_,rfl⟩;go_cut[199](fun s199 wx=>s199=.bool (decide (a<s∧s<mid))∧wx=w5);case first=>
        by_cases h1:a<s;·
         have t1:(a:Int)<(s:Int):=by omega
         by_cases h2:s<mid;·
          have t2:(s:Int)<(mid:Int):=by omega
          go_wp2_with fail;go_meet;exact⟨by simp[h1,h2],rfl⟩
         ·have t2:¬(s:Int)<(mid:Int):=by omega
          go_wp2_with fail;go_meet;exact⟨by simp[h2],rfl⟩
        ·have t1:¬(a:Int)<(s:Int):=by omega
         go_wp2_with fail;go_meet;exact⟨by simp[h1],rfl⟩
       case rest=>
        obtain⟨rfl,rfl⟩:=hcut;obtain⟨bu,hbu⟩:∃bu,decide (a<s∧s<mid)=bu:=⟨_,rfl⟩;rw[hbu];go_upto_if 199 with fail;go_cut[](fun wx=>∃Z1,Z1.Perm (X1++Y1)∧SortF Z1∧RowAt w0 wx g c (P++Z1++X2++Y2++S));case first=>
         cases bu;·
          have hgo:¬(a<s∧s<mid):=by simpa using hbu
          have HC:Hid (SortF (X1++Y1)):=by
           have:X1=[]∨Y1=[]:=by
            by_cases h1:a<s;·exact .inr (List.eq_nil_of_length_eq_zero (by omega))
            ·exact .inl (List.eq_nil_of_length_eq_zero (by omega))
           rcases this with e|e;·simp only[Hid];rw[e];exact HS3.out
           ·simp only[Hid];rw[e,List.append_nil];exact HS1.out
          go_wp2_with fail;go_meet;exact⟨X1++Y1,List.Perm.refl _,HC.out,HR5.out.cast (by simp only[List.append_assoc])⟩
         ·as_aux_lemma =>
           have hgo:a<s∧s<mid:=by simpa using hbu
           have HC:=Lib.hid (HIH.out _ P X1 Y1 (X2++Y2++S) a s mid (by omega) (HR5.out.cast (by simp only[List.append_assoc])) HS1.out HS3.out (by omega) (by omega) ha (by omega) (by omega) (by simp;omega));go_wp2_with fail;refine HC.out.mono ?_;rintro e w1⟨rfl,Z1,z1,z2,hr1⟩;go_wp2_with fail;go_meet;exact⟨Z1,z1,z2,hr1.cast (by simp only[List.append_assoc])⟩
        case rest=>
         clear HR5;obtain⟨Z1,z1,z2,hr6⟩:=hcut;have HR6:=Lib.hid hr6;have lZ1:Z1.length=X1.length+Y1.length:=by rw[z1.length_eq];simp
         have HZ1:=Lib.hid z1;have HZ2:=Lib.hid z2;have HFIN:Hid (∀Z2:List FE,Z2.Perm (X2++Y2)→SortF Z2→(Z1++Z2).Perm (X++Y)∧SortF (Z1++Z2)):=fun Z2 q1 q2=>⟨HPF.out _ (y134 HZ1.out q1),k112 HSX.out HSY.out HC1.out HC2.out HZ1.out q1 HZ2.out q2⟩;clear hr6 z1 z2;by_cases hgo:mid<en2∧en2<b;·
          as_aux_lemma =>
           have t1:(mid:Int)<(en2:Int):=by omega
           have t2:(en2:Int)<(b:Int):=by omega
           have HC:=Lib.hid (HIH.out _ (P++Z1) X2 Y2 S mid en2 b (by omega) (HR6.out.cast (by simp only[List.append_assoc])) HS2.out HS4.out (by omega) (by omega) (by simp;omega) (by omega) (by omega) (by omega));go_wp2_with fail;refine HC.out.mono ?_;rintro e w1⟨rfl,Z2,q1,q2,hr1⟩;obtain⟨f1,f2⟩:=HFIN.out Z2 q1 q2;go_wp2_with fail;refine bodyPost_end (v:=.tuple #[]) (by simp[results,Tryz.results303,go_sem]) rfl ?_;exact⟨rfl,Z1++Z2,f1,f2,hr1.cast (by simp only[List.append_assoc])⟩
         ·have HC:Hid (SortF (X2++Y2)):=by
           have:X2=[]∨Y2=[]:=by
            by_cases h1:mid<en2;·exact .inr (List.eq_nil_of_length_eq_zero (by omega))
            ·exact .inl (List.eq_nil_of_length_eq_zero (by omega))
           rcases this with e|e;·simp only[Hid];rw[e];exact HS4.out
           ·simp only[Hid];rw[e,List.append_nil];exact HS2.out
          obtain⟨f1,f2⟩:=HFIN.out _ (List.Perm.refl _) HC.out;by_cases h1:mid<en2;·
           have t1:(mid:Int)<(en2:Int):=by omega
           have t2:¬(en2:Int)<(b:Int):=by omega
           go_wp2_with fail;refine bodyPost_end (v:=.tuple #[]) (by simp[results,Tryz.results303,go_sem]) rfl ?_;exact⟨rfl,_,f1,f2,HR6.out.cast (by simp only[List.append_assoc])⟩
          ·have t1:¬(mid:Int)<(en2:Int):=by omega
           go_wp2_with fail;refine bodyPost_end (v:=.tuple #[]) (by simp[results,Tryz.results303,go_sem]) rfl ?_;exact⟨rfl,_,f1,f2,HR6.out.cast (by simp only[List.append_assoc])⟩
theorem y130{w0:World}{g c N:Nat}(hl:N≤1000000):∀(sz:Nat)(w:World)(P X Y S:List FE)(a m b:Nat),X.length+Y.length≤sz→RowAt w0 w g c (P++X++Y++S)→SortF X→SortF Y→0<X.length→0<Y.length→P.length=a→a+X.length=m→m+Y.length=b→b+S.length=N→Calls Tryz.prog 303 #[.slice (some ⟨g,0,none⟩) N c,.int .i64 a,.int .i64 m,.int .i64 b,.func (.func 191) #[] #[]] w (q64 w0 g c P X Y S):=by
 intro sz;induction sz with
  |zero=>intro w P X Y S a m b h;omega
  |succ sz ih=>
   intro w P X Y S a m b hsz hR hX hY hX0 hY0 ha hm hb hN;by_cases h1:X.length=1;·obtain⟨x,rfl⟩:=List.length_eq_one_iff.1 h1;exact z153 P x Y S a m b N hR hY hY0 ha hm hb hN hl
   ·by_cases h2:Y.length=1;·obtain⟨y,rfl⟩:=List.length_eq_one_iff.1 h2;exact v163 P X y S a m b N hR hX (by omega) ha hm hb hN hl
    ·exact sym_gen ih P X Y S a m b hsz hR hX hY (by omega) (by omega) ha hm hb hN hl
theorem fe_flat(d:Array FE){j:Nat}(hj:j<d.size*3):(y180 d.toList)[j]?=some ((flatK encF 3 d)[j]!):=by
 rw[get_flatK _ _ _ _ hj];have hi:j/3<d.size:=by omega
 have e1:d[j/3]! =d[j/3]:=getElem!_pos d (j/3) hi;rw[e1];obtain⟨x,hx⟩:∃x,d[j/3]=x:=⟨_,rfl⟩;have hx':d.toList[j/3]?=some x:=by rw[Array.getElem?_toList,Array.getElem?_eq_getElem hi,hx]
 obtain⟨a,b,c⟩:=w57 _ _ _ hx';rw[hx];have hm:j%3=0∨j%3=1∨j%3=2:=by omega
 rcases hm with h|h|h;·rw[show j/3*3=j from by omega]at a;rw[a,h];rfl
 ·rw[show j/3*3+1=j from by omega]at b;rw[b,h];rfl
 ·rw[show j/3*3+2=j from by omega]at c;rw[c,h];rfl
theorem q125{w:World}{base g c n:Nat}{L:List FE}{d:Array FE}{os:Array Obj}(h:OwnF w base (some ⟨g,0,none⟩) c L)(hs:d.size=L.length):OwnF (sortWorldK encF 3 w g 0 n d os) base (some ⟨g,0,none⟩) c d.toList:=by
 have hln:d.toList.length=L.length:=by simpa using hs
 unfold OwnF at*;rw[hln];refine⟨by rw[x35];omega,?_⟩;rcases h.2 with⟨hv,_⟩|⟨g',cap,cur,hv,hb,hg,hnc,hcm,hcs,htake⟩;·cases hv
 ·injection hv with hv1 hv2 hv3;injection hv1 with hv1;injection hv1 with hv1;subst hv1 hv3;have hgs:g<w.heap.size:=(Array.getElem?_eq_some_iff.1 hg).1;refine .inr ⟨g,c,putCells id 0 (flatK encF 3 d) cur,rfl,hb,?_,hnc,hcm,by simp[putCells,hcs],?_⟩;·unfold sortWorldK putRowK;rw[heap_grow_old _ _ (by simpa[putRow,mapBlock,Sort.ahead]using hgs)];simp[putRow,mapBlock,Sort.ahead,Array.getElem?_modify,hg,onCells]
  ·have hfs:(flatK encF 3 d).size=d.size*3:=by simp[flatK]
   apply List.ext_getElem?;intro j;by_cases hj:j<L.length*3;·
    rw[List.getElem?_take_of_lt hj,Array.getElem?_toList,fe_flat d (by omega)];have hjc:j<cur.size:=by rw[hcs];omega
    simp[putCells,hjc,hfs];intro hh;omega
   ·rw[List.getElem?_take_eq_none (by omega),List.getElem?_eq_none (by rw[x35];omega)]
theorem k163{P X S:List FE}{d:Array FE}{a b:Nat}(ha:P.length=a)(hb:a+X.length=b)(hp:PermIn a b (P++X++S).toArray d)(hs:SortedIn (ltOf cfF) a b d):∃Z,d.toList=P++Z++S∧Z.Perm X∧SortF Z:=by
 obtain⟨h1,h2,h3⟩:=hp;have hsz:d.size=a+X.length+S.length:=by rw[h1];simp;omega
 have hget:∀i(hi:i<d.size),i<a∨b≤i→d.toList[i]?=(P++X++S)[i]?:=by intro i hi ho;have e:=h2 i ho;rw[getElem!_pos d i hi,getElem!_pos (P++X++S).toArray i (by simp;omega)]at e;rw[Array.getElem?_toList,Array.getElem?_eq_getElem hi,e];simp only[List.getElem_toArray];rw[List.getElem?_eq_getElem]
 refine⟨(d.extract a b).toList,?_,?_,?_⟩;·
  apply List.ext_getElem?;intro i;by_cases hi:i<d.size;·
   by_cases h4:i<a;·rw[hget i hi (.inl h4),List.append_assoc,List.append_assoc,List.getElem?_append_left (by omega),List.getElem?_append_left (by omega)]
   ·by_cases h5:i<b;·rw[List.append_assoc,List.getElem?_append_right (by omega),List.getElem?_append_left (by simp;omega)];simp only[Array.toList_extract];rw[List.getElem?_take_of_lt (by omega),List.getElem?_drop];congr 1;omega
    ·rw[hget i hi (.inr (by omega)),List.getElem?_append_right (by simp;omega),List.getElem?_append_right (by simp;omega)];congr 1;simp;omega
  ·rw[List.getElem?_eq_none (by simpa using hi),List.getElem?_eq_none (by simp;omega)]
 ·have e:((P++X++S).toArray.extract a b).toList=X:=by simp only[Array.toList_extract,List.toList_toArray];rw[List.append_assoc,List.extract_eq_take_drop,List.drop_append_of_le_length (by omega),List.drop_of_length_le (by omega),List.nil_append,List.take_append_of_le_length (by omega),List.take_of_length_le (by omega)]
  rw[e]at h3;exact h3
 ·rw[SortF,List.pairwise_iff_getElem];intro i j hi hj hij;simp at hi hj;have:=hs (a+i) (a+j) (by omega) (by omega) (by omega);rw[ltF]at this;rw[getElem!_pos d _ (by omega),getElem!_pos d _ (by omega)]at this;simp at this;simp only[Array.getElem_toList,Array.getElem_extract];exact this
theorem q105{w0 w:World}{g c:Nat}(P X S:List FE)(a b N:Nat)(h:RowAt w0 w g c (P++X++S))(ha:P.length=a)(hb:a+X.length=b)(hN:b+S.length=N)(hl:N≤1000000):Calls Tryz.prog 302 #[.slice (some ⟨g,0,none⟩) N c,.int .i64 a,.int .i64 b,.func (.func 191) #[] #[]] w fun e w'=>e=.returned (.tuple #[])∧∃Z,Z.Perm X∧SortF Z∧RowAt w0 w' g c (P++Z++S):=by
 have eg:∀args w,(callFunc 191 args).run Tryz.prog w=.ok (.enter 191 args) w:=enters_of Tryz.func191 (by kernel_rfl) rfl;have hz:(P++X++S).toArray.size=N:=by simp;omega
 have hS:=AnyQ.insertionSortCmpFunc (P:=Tryz.prog) (ρ:=Tryz.sortFo_ren) {Tryz.sortFo with} 3 Tryz.isAgg256 Tryz.sizeOf256 encF (fun _=>rfl) (fun x v hv=>by simp[encF]at hv;rcases hv with rfl|rfl|rfl<;>rfl) cfF 191 #[] g 0 c a b (P++X++S).toArray w eg (z163 g 0 _ w) h.own.holdsK h.lt (by omega) (by omega) (by omega);have hI:=insertionSort_holds (lt:=ltOf cfF) swoF (P++X++S).toArray a b (by omega) (by omega);rw[hz]at hS;refine Calls.mono hS ?_;rintro e w'⟨rfl,n,os,rfl⟩;obtain⟨Z,e1,e2,e3⟩:=k163 ha hb hI.1 hI.2;have hsz:(insertionSort (ltOf cfF) (P++X++S).toArray a b).size=(P++X++S).length:=by rw[hI.1.1];simp
 have hown:=q125 (n:=n) (os:=os) h.own hsz;rw[e1]at hown;refine⟨rfl,Z,e2,e3,hown,h.lo,?_,h.bel.grown (k50 _) h.bel.size (fun k hk=>by injection hk with hk;have:=h.lo;omega)⟩;have:=h.lt;unfold sortWorldK;simp[putRowK,putRow,mapBlock,Sort.ahead];omega
theorem j125{w0 w':World}{g c:Nat}{M Z:List FE}(hp:Z.Perm M)(hs:SortF Z)(hr:RowAt w0 w' g c Z):j55 (fun a b=>a.1.1≤b.1.1) (some ⟨g,0,none⟩) M w0 (.returned (.tuple #[])) w':=⟨rfl,Z,hp,hs,hr.own.spf,hr.bel⟩
def Blk(bs:Nat)(M:List FE):Prop:=∀k,SortF ((M.drop (k*bs)).take bs)
theorem q131(bs:Nat):Blk bs []:=fun k=>by simp[SortF]
theorem x50{bs k:Nat}{Q Z:List FE}(hQ:Blk bs Q)(hl:Q.length=k*bs)(hz:SortF Z)(hzl:Z.length≤bs):Blk bs (Q++Z):=by
 intro j;rcases Nat.lt_trichotomy j k with h|h|h;·have h1:(j+1)*bs≤k*bs:=Nat.mul_le_mul_right _ h;rw[Nat.succ_mul]at h1;rw[List.drop_append_of_le_length (by omega),List.take_append_of_le_length (by rw[List.length_drop];omega)];exact hQ j
 ·subst h;rw[←hl,List.drop_left,List.take_of_length_le hzl];exact hz
 ·have h1:(k+1)*bs≤j*bs:=Nat.mul_le_mul_right _ h;rw[Nat.succ_mul]at h1;rw[List.drop_eq_nil_of_le (by rw[List.length_append];omega)];simp[SortF]
theorem blk_all{bs:Nat}{M:List FE}(h:Blk bs M)(hl:M.length≤bs):SortF M:=by have:=h 0;rwa[Nat.zero_mul,List.drop_zero,List.take_of_length_le hl]at this
theorem blk_at{bs k a:Nat}{M:List FE}(h:Blk bs M)(ha:a=k*bs):SortF ((M.drop a).take bs):=by rw[ha];exact h k
theorem k105{Q Z M:List FE}{a b:Nat}(h1:Q.Perm (M.take a))(h2:Z.Perm ((M.drop a).take b)):(Q++Z).Perm (M.take (a+b)):=by rw[List.take_add];exact h1.append h2
theorem w141{w0 w:World}{g c:Nat}{M:List FE}(n:Nat)(hn:M.length=n)(h:RowAt w0 w g c M)(hl:n≤100000):Calls Tryz.prog 258 #[.slice (some ⟨g,0,none⟩) n c,.int .i64 n,.func (.func 191) #[] #[]] w (j55 (fun a b=>a.1.1≤b.1.1) (some ⟨g,0,none⟩) M w0):=by
 have HR:=Lib.hid h;have HN:=Lib.hid hn;clear h hn;go_enter Tryz.func258,Tryz.ntmps258;go_wp2_with fail;go_loopw[7,8](fun sa sb wr=>∃(k a b:Nat)(Q:List FE),a=k*20∧b=a+20∧a≤n∧sa=.int .i64 (a:Int)∧sb=.int .i64 (b:Int)∧Q.length=a∧Q.Perm (M.take a)∧Blk 20 Q∧RowAt w0 wr g c (Q++M.drop a))(fun sa _ _=>n-(intOf sa).toNat);case atStart=>exact⟨0,0,20,[],rfl,rfl,Nat.zero_le _,rfl,rfl,rfl,by simp,q131 _,HR.out⟩
 case round=>
  clear HR;obtain⟨k,a,b,Q,hak,hba,han,rfl,rfl,hQl,hQp,hQb,hr⟩:=hrel;by_cases hbn:b≤n;·
   have hbn':(b:Int)≤(n:Int):=by omega
   have hM:=HN.out;have e1:M.drop a=(M.drop a).take 20++M.drop b:=by rw[hba,←List.drop_drop,List.take_append_drop]
   have l1:((M.drop a).take 20).length=20:=by rw[List.length_take,List.length_drop];omega
   have l2:(M.drop b).length=n-b:=by rw[List.length_drop];omega
   have HC:=Lib.hid (q105 Q ((M.drop a).take 20) (M.drop b) a b n (hr.cast (by rw[List.append_assoc,←e1])) hQl (by omega) (by omega) (by omega));have HAK:Hid (b=(k+1)*20):=by simp only[Hid];omega
   have HQ:=Lib.hid (show Q.length=a∧Q.Perm (M.take a)∧Blk 20 Q from⟨hQl,hQp,hQb⟩);have HK:=Lib.hid hak;have HBA:=Lib.hid hba;clear hr hak hba hQl hQp hQb e1 l1 l2 hM;go_wp2_with fail;refine HC.out.mono ?_;rintro e w1⟨rfl,Z,z1,z2,hr1⟩;have HZ:Hid ((Q++Z).length=b∧(Q++Z).Perm (M.take b)∧Blk 20 (Q++Z)∧RowAt w0 w1 g c (Q++Z++M.drop b)):=by
    have lz:Z.length=20:=by rw[z1.length_eq,List.length_take,List.length_drop];have:=HN.out;have:=HBA.out;omega
    refine⟨by rw[List.length_append,HQ.out.1,lz,HBA.out],?_,x50 HQ.out.2.2 (k:=k) (by rw[HQ.out.1,HK.out]) z2 (by omega),hr1⟩;have:=k105 HQ.out.2.1 z1;rwa[←HBA.out]at this
   clear HC z1 z2 hr1 HQ HK;go_wp2_with fail;go_roundw;case rel=>exact⟨k+1,b,b+20,Q++Z,HAK.out,rfl,hbn,rfl,by go_num,HZ.out.1,HZ.out.2.1,HZ.out.2.2.1,HZ.out.2.2.2⟩
   case measure=>have:=HBA.out;simp[intOf];omega
  ·have hbn':¬(b:Int)≤(n:Int):=by omega
   have hM:=HN.out;have l1:(M.drop a).length=n-a:=by rw[List.length_drop];omega
   have HC:=Lib.hid (q105 Q (M.drop a) [] a n n (hr.cast (by simp)) hQl (by omega) (by simp) (by omega));have HQ:=Lib.hid (show Q.length=a∧Q.Perm (M.take a)∧Blk 20 Q∧a=k*20∧b=a+20 from⟨hQl,hQp,hQb,hak,hba⟩);clear hr hak hQl hQp hQb l1 hM hba;go_wp2_with fail;refine HC.out.mono ?_;rintro e w1⟨rfl,Z,z1,z2,hr1⟩;have HZ:Hid ((Q++Z).Perm M∧Blk 20 (Q++Z)∧RowAt w0 w1 g c (Q++Z)):=by
    have lz:Z.length≤20:=by rw[z1.length_eq,List.length_drop];have:=HN.out;have:=HQ.out.2.2.2.2;omega
    refine⟨?_,x50 HQ.out.2.2.1 (k:=k) (by rw[HQ.out.1,HQ.out.2.2.2.1]) z2 lz,hr1.cast (by simp)⟩;have:=HQ.out.2.1.append z1;rwa[List.take_append_drop]at this
   obtain⟨M1,hM1⟩:∃M1,Q++Z=M1:=⟨_,rfl⟩;rw[hM1]at HZ;clear HC z1 z2 hr1 HQ hM1;go_wp2_with fail;go_loopw[6,7,8,9](fun sbs _ _ _ wr=>∃(bs:Nat)(M1:List FE),0<bs∧bs≤400000∧sbs=.int .i64 (bs:Int)∧M1.Perm M∧Blk bs M1∧RowAt w0 wr g c M1)(fun sbs _ _ _ _=>n-(intOf sbs).toNat);case atStart=>exact⟨20,M1,by omega,by omega,rfl,HZ.out.1,HZ.out.2.1,HZ.out.2.2⟩
   case round=>
    clear HZ;obtain⟨bs,M1,hbs,hbs2,rfl,hp1,hb1,hr1⟩:=hrel;have HP1:=Lib.hid hp1;have HB1:=Lib.hid hb1;have HL1:Hid (M1.length=n):=by simp only[Hid];rw[hp1.length_eq];exact HN.out
    clear hp1 hb1;obtain⟨ws,hws⟩:∃ws,ws=wr:=⟨_,rfl⟩;subst hws;have HR1:=Lib.hid hr1;clear hr1;by_cases hlt:bs<n;·
     have hlt':(bs:Int)<(n:Int):=by omega
     go_wp2_with fail;go_loopw[7,8](fun sa sb wi=>∃(k a b:Nat)(Q:List FE),a=k*(bs+bs)∧b=a+(bs+bs)∧a≤n∧sa=.int .i64 (a:Int)∧sb=.int .i64 (b:Int)∧Q.length=a∧Q.Perm (M1.take a)∧Blk (bs+bs) Q∧RowAt w0 wi g c (Q++M1.drop a))(fun sa _ _=>n-(intOf sa).toNat);case atStart=>exact⟨0,0,bs+bs,[],by omega,by omega,Nat.zero_le _,rfl,by go_num,rfl,by simp,q131 _,HR1.out⟩
     case round=>
      clear HR1;obtain⟨k2,a2,b2,Q2,hak2,hba2,han2,rfl,rfl,hQl2,hQp2,hQb2,hr2⟩:=hrel;have hMl:=HL1.out;have s1:SortF ((M1.drop a2).take bs):=blk_at (k:=2*k2) HB1.out (by rw[hak2,Nat.mul_add,Nat.mul_comm 2 k2,Nat.mul_assoc,Nat.two_mul,Nat.mul_add]);have s2:SortF ((M1.drop (a2+bs)).take bs):=blk_at (k:=2*k2+1) HB1.out (by rw[hak2,Nat.succ_mul,Nat.mul_add,Nat.mul_comm 2 k2,Nat.mul_assoc,Nat.two_mul,Nat.mul_add]);by_cases hbn2:b2≤n;·
       have hbn2':(b2:Int)≤(n:Int):=by omega
       have e1:M1.drop a2=(M1.drop a2).take bs++((M1.drop (a2+bs)).take bs++M1.drop b2):=by
        have e3:M1.drop b2=(M1.drop (a2+bs)).drop bs:=by rw[List.drop_drop];congr 1;omega
        rw[e3,List.take_append_drop,←List.drop_drop,List.take_append_drop]
       have l1:((M1.drop a2).take bs).length=bs:=by rw[List.length_take,List.length_drop];omega
       have l2:((M1.drop (a2+bs)).take bs).length=bs:=by rw[List.length_take,List.length_drop];omega
       have l3:(M1.drop b2).length=n-b2:=by rw[List.length_drop];omega
       have HC:=Lib.hid (y130 (w0:=w0) (g:=g) (c:=c) (N:=n) (by omega) (bs+bs) _ Q2 ((M1.drop a2).take bs) ((M1.drop (a2+bs)).take bs) (M1.drop b2) a2 (a2+bs) b2 (by omega) (hr2.cast (by rw[List.append_assoc,List.append_assoc,←e1])) s1 s2 (by omega) (by omega) hQl2 (by omega) (by omega) (by omega));have HF:=Lib.hid (show b2=(k2+1)*(bs+bs)∧b2=a2+(bs+bs)∧a2=k2*(bs+bs)from⟨by rw[Nat.succ_mul];omega,hba2,hak2⟩);have HQ:=Lib.hid (show Q2.length=a2∧Q2.Perm (M1.take a2)∧Blk (bs+bs) Q2 from⟨hQl2,hQp2,hQb2⟩);have HL12:=Lib.hid (show((M1.drop a2).take bs).length=bs∧((M1.drop (a2+bs)).take bs).length=bs from⟨l1,l2⟩);have hab:a2<b2:=by omega
       have hab2:a2+bs≤200000:=by omega
       clear hr2 hak2 hba2 hQl2 hQp2 hQb2 e1 l1 l2 l3 s1 s2 hMl;go_wp2_with fail;refine HC.out.mono ?_;rintro e w3⟨rfl,Z,z1,z2,hr3⟩;have HZ:Hid ((Q2++Z).length=b2∧(Q2++Z).Perm (M1.take b2)∧Blk (bs+bs) (Q2++Z)∧RowAt w0 w3 g c (Q2++Z++M1.drop b2)):=by
        have lz:Z.length=bs+bs:=by rw[z1.length_eq,List.length_append,HL12.out.1,HL12.out.2]
        refine⟨by rw[List.length_append,HQ.out.1,lz,HF.out.2.1],?_,x50 HQ.out.2.2 (k:=k2) (by rw[HQ.out.1,HF.out.2.2]) z2 (by omega),hr3⟩;have h1:Z.Perm ((M1.drop a2).take (bs+bs)):=by rw[List.take_add,List.drop_drop];exact z1
        have:=k105 HQ.out.2.1 h1;rwa[←HF.out.2.1]at this
       clear HC z1 z2 hr3 HQ HL12;go_wp2_with fail;go_roundw;case rel=>exact⟨k2+1,b2,b2+(bs+bs),Q2++Z,HF.out.1,rfl,hbn2,rfl,by go_num,HZ.out.1,HZ.out.2.1,HZ.out.2.2.1,HZ.out.2.2.2⟩
       case measure=>simp[intOf];omega
      ·have hbn2':¬(b2:Int)≤(n:Int):=by omega
       have hab2:a2+bs≤600000:=by omega
       by_cases hm:a2+bs<n;·
        have hm':(a2:Int)+(bs:Int)<(n:Int):=by omega
        have e2:(M1.drop (a2+bs)).take bs=M1.drop (a2+bs):=List.take_of_length_le (by rw[List.length_drop];omega);rw[e2]at s2;have e1:M1.drop a2=(M1.drop a2).take bs++M1.drop (a2+bs):=by rw[←List.drop_drop,List.take_append_drop]
        have l1:((M1.drop a2).take bs).length=bs:=by rw[List.length_take,List.length_drop];omega
        have l2:(M1.drop (a2+bs)).length=n-(a2+bs):=by rw[List.length_drop];omega
        have HC:=Lib.hid (y130 (w0:=w0) (g:=g) (c:=c) (N:=n) (by omega) (bs+bs) _ Q2 ((M1.drop a2).take bs) (M1.drop (a2+bs)) [] a2 (a2+bs) n (by omega) (hr2.cast (by rw[List.append_nil,List.append_assoc,←e1])) s1 s2 (by omega) (by omega) hQl2 (by omega) (by omega) (by simp));have HQ:=Lib.hid (show Q2.length=a2∧Q2.Perm (M1.take a2)∧Blk (bs+bs) Q2∧a2=k2*(bs+bs)from⟨hQl2,hQp2,hQb2,hak2⟩);have HE:=Lib.hid (show M1.drop a2=(M1.drop a2).take bs++M1.drop (a2+bs)∧(M1.drop (a2+bs)).length≤bs∧((M1.drop a2).take bs).length=bs from⟨e1,by omega,l1⟩);clear hr2 hak2 hba2 hQl2 hQp2 hQb2 e1 e2 l1 l2 s1 s2 hMl;go_wp2_with fail;refine HC.out.mono ?_;rintro e w3⟨rfl,Z,z1,z2,hr3⟩;have HZ:Hid ((Q2++Z).Perm M∧Blk (bs+bs) (Q2++Z)∧RowAt w0 w3 g c (Q2++Z)):=by
         have lz:Z.length≤bs+bs:=by rw[z1.length_eq,List.length_append,HE.out.2.2];have:=HE.out.2.1;omega
         refine⟨?_,x50 HQ.out.2.2.1 (k:=k2) (by rw[HQ.out.1,HQ.out.2.2.2]) z2 lz,hr3.cast (by simp)⟩;have h1:Z.Perm (M1.drop a2):=by rw[HE.out.1];exact z1
         have h2:=HQ.out.2.1.append h1;rw[List.take_append_drop]at h2;exact h2.trans HP1.out
        clear HC z1 z2 hr3 HQ HE;go_wp2_with fail;go_roundw;case rel=>exact⟨bs+bs,Q2++Z,by omega,by omega,by go_num,HZ.out.1,HZ.out.2.1,HZ.out.2.2⟩
        case measure=>simp[intOf];omega
       ·have hm':¬(a2:Int)+(bs:Int)<(n:Int):=by omega
        have HZ:Hid ((Q2++M1.drop a2).Perm M∧Blk (bs+bs) (Q2++M1.drop a2)∧RowAt w0 wr g c (Q2++M1.drop a2)):=by
         have ld:(M1.drop a2).length≤bs:=by rw[List.length_drop];omega
         rw[List.take_of_length_le ld]at s1;refine⟨?_,x50 hQb2 (k:=k2) (by rw[hQl2,hak2]) s1 (by omega),hr2⟩;have h2:=hQp2.append (List.Perm.refl (M1.drop a2));rw[List.take_append_drop]at h2;exact h2.trans HP1.out
        clear hr2 hak2 hba2 hQl2 hQp2 hQb2 s1 s2 hMl;go_wp2_with fail;go_roundw;case rel=>exact⟨bs+bs,Q2++M1.drop a2,by omega,by omega,by go_num,HZ.out.1,HZ.out.2.1,HZ.out.2.2⟩
        case measure=>simp[intOf];omega
    ·have hlt':¬(bs:Int)<(n:Int):=by omega
     have HS:Hid (SortF M1):=by simp only[Hid];exact blk_all HB1.out (by have:=HL1.out;omega)
     go_wp2_with fail;refine bodyPost_end (v:=.tuple #[]) (by simp[results,Tryz.results258,go_sem]) rfl ?_;exact j125 HP1.out HS.out HR1.out
theorem v125{w0 w:World}{g c:Nat}{M:List FE}(n:Nat)(hn:M.length=n)(h:RowAt w0 w g c M)(hl:n≤100000):Calls Tryz.prog 190 #[.slice (some ⟨g,0,none⟩) n c,.func (.func 191) #[] #[]] w (j55 (fun a b=>a.1.1≤b.1.1) (some ⟨g,0,none⟩) M w0):=by have HI:=Lib.hid (w141 n hn h hl);clear h;go_enter Tryz.func190,Tryz.ntmps190;go_wp2_with fail;refine HI.out.mono ?_;rintro e w1⟨rfl,M',hp,hs,hsp,hb1⟩;go_wp2_with fail;refine bodyPost_end (v:=.tuple #[]) (by simp[results,Tryz.results190,go_sem]) rfl ?_;exact⟨rfl,M',hp,hs,hsp,hb1⟩
theorem z142{n:Nat}(h:n≤100000):SortsF n:=by intro w0 w g c M h1 h2 h3 h4 h5;subst h5;exact v125 M.length rfl ⟨h1,h2,h3,h4⟩ h
end Go.Proofs.YtkkomffmnafjkaaGreatDoor
