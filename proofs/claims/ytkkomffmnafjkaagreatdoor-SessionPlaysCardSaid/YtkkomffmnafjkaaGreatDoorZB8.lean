/- Contract of ranges.Of: the least list of the bytes of some spans. Contract .. -/
import Derived.Test.YtkkomffmnafjkaaGreatDoorZB7
import Derived.Test.YtkkomffmnafjkaaGreatDoorZLaid
set_option maxHeartbeats 16000000
set_option maxRecDepth 100000
set_option linter.all false
namespace Go.Proofs.YtkkomffmnafjkaaGreatDoor
open Go.RowKit Go.Shelf Go.Sort
def k60(x:Int×Int):List Value:=[.int .i64 x.1,.int .i64 x.2]
def cfSp(x y:Int×Int):Int:=Lib.compareInt x.1 y.1
theorem ltSp(x y:Int×Int):ltOf cfSp x y=decide (x.1<y.1):=by
 unfold ltOf cfSp Lib.compareInt;by_cases h1:x.1<y.1;·simp[h1]
 ·by_cases h2:y.1<x.1<;>simp[h1,h2]
theorem swoSp:SWO (ltOf cfSp)where
 irrefl x:=by rw[ltSp];simp
 trans x y z h1 h2:=by rw[ltSp]at*;simp at*;omega
 ntrans x y z h1 h2:=by rw[ltSp]at*;simp at*;omega
theorem of1_any(x y:Int×Int)(W:World):Calls Tryz.prog 86 #[.agg #[.int .i64 x.1,.int .i64 x.2],.agg #[.int .i64 y.1,.int .i64 y.2]] W fun e w'=>e=.returned (.int .i64 (cfSp x y))∧∃q os',w'=grow (W.drewN q) os':=by have hcon:=fun W'=>Tryz.cmp_Compare_int x.1 y.1 W';unfold cfSp;generalize Lib.compareInt x.1 y.1=r at hcon⊢;go_enter Tryz.func86,Tryz.ntmps86;go_wp2_with(go_at_call 87;refine(hcon _).mono ?_;rintro e w'⟨rfl,rfl⟩);go_ret;exact⟨rfl,0,_,by rw[alloc_eq_grow,alloc_eq_grow,grow_grow];rfl⟩
theorem q144(blk off size:Nat)(w:World):CmpLays Tryz.prog 86 #[] k60 2 cfSp blk off size w:=fun _ _ _ _ x y=>of1_any x y _
theorem q91{w:World}{g n:Nat}{os:Array Obj}(d:Array (Int×Int)):w.grownBy (sortWorldK k60 2 w g 0 n d os) (some g):=by unfold sortWorldK putRowK;refine⟨rfl,rfl,rfl,by simp,fun k hk hne=>?_⟩;rw[heap_grow_old _ _ (by simpa using hk)];have:g≠k:=fun e=>hne (by rw[e]);simp[putRow,mapBlock,Sort.ahead,bC_,this]
theorem Own.holdsK{w:World}{base g c:Nat}{L:List (Int×Int)}(h:Own w base (some ⟨g,0,none⟩) c L):HoldsK k60 2 w g 0 L.toArray:=by
 intro j hj;simp at hj;have hc:=br_ h j (by omega);refine⟨?_,ap_ h _|>fun hf=>by simpa using hf⟩;rw[U_,hc,get_flatK _ _ _ _ (by simpa using hj)];have hi:j/2<L.length:=by omega
 have he:=w44 L (j/2) L[j/2] (o_ hi);have e1:(L.toArray)[j/2]! =L[j/2]:=by simp[hi]
 rw[e1];obtain⟨x,hx⟩:∃x,L[j/2]=x:=⟨_,rfl⟩;rw[hx]at he⊢;rcases Nat.mod_two_eq_zero_or_one j with hm|hm;·
  have e2:2*(j/2)=j:=by omega
  rw[e2]at he;rw[hm,he.1];rfl
 ·have e2:2*(j/2)+1=j:=by omega
  rw[e2]at he;rw[hm,he.2];rfl
theorem j144{w:World}{base g c n:Nat}{L:List (Int×Int)}{d':Array (Int×Int)}{os:Array Obj}(h:Own w base (some ⟨g,0,none⟩) c L)(hg:g<w.heap.size)(hs:d'.size=L.length):Sp (sortWorldK k60 2 w g 0 n d' os) (some ⟨g,0,none⟩) c d'.toList:=by
 have hK:HoldsK k60 2 (sortWorldK k60 2 w g 0 n d' os) g 0 d':=by unfold sortWorldK;refine holdsK_grow _ _ _ _ _ _ _ (by simp[putRowK,Sort.ahead];exact hg) ?_;exact holdsK_putRowK _ _ (Sort.ahead w n) g 0 L.toArray d' (holdsK_ahead _ _ _ _ _ _ _ h.holdsK) (by simp[hs])
 have hle:=(Own.sp h).le;refine⟨by simp;omega,(fun e=>by cases e),fun _=>⟨g,0,rfl,?_,fun i x hx=>?_⟩⟩;·unfold sortWorldK;simp[putRowK,Sort.ahead];omega
 ·have hi:i<d'.size:=by
   rcases ah_ i d'.toList.length with h1|h1;·simpa using h1
   ·rw[aE_ h1]at hx;cases hx
  have hx':d'[i]! =x:=by rw[o_ (by simpa using hi)]at hx;injection hx with hx;simp only[Array.getElem_toList]at hx;rw[aX_ _ i hi,hx]
  have a0:=(hK (i*2) (by simp;omega)).1;have a1:=(hK (i*2+1) (by simp;omega)).1;rw[get_flatK _ _ _ _ (by omega)]at a0 a1;rw[show i*2/2=i from by omega,show i*2%2=0 from by omega,hx']at a0;rw[show(i*2+1)/2=i from by omega,show(i*2+1)%2=1 from by omega,hx']at a1;exact⟨a0,a1⟩
def q155(A:Option Addr)(c:Nat)(L:List (Int×Int))(w0:World)(e:Ending)(w':World):Prop:=e=.returned (.tuple #[])∧∃M:List (Int×Int),M.Perm L∧q63 M∧Sp w' A c M∧Below w0.heap.size w0 w'
theorem j155{w0 w:World}{A:Option Addr}{c:Nat}{L:List (Int×Int)}(h:Own w w0.heap.size A c L)(hb:Below w0.heap.size w0 w)(hl:L.length≤1000000):Calls Tryz.prog 85 #[.slice A L.length c,.func (.func 86) #[] #[]] w (q155 A c L w0):=by
 rcases bi_ L.length with h0|h0;·obtain rfl:L=[]:=l_ h0;have hS:=AnyF.slices_SortFunc_none (P:=Tryz.prog) (ρ:=Tryz.sortSp_ren) {Tryz.sortSp with} A c (.func (.func 86) #[] #[]) w;refine Calls.mono hS ?_;rintro e w'⟨rfl,rfl⟩;exact⟨rfl,[],List.Perm.refl _,List.Pairwise.nil,h.sp,hb⟩
 ·obtain⟨g,rfl,hg1,hg2⟩:=h.at_ h0;have eg:∀args w,(callFunc 86 args).run Tryz.prog w=.ok (.enter 86 args) w:=enters_of Tryz.func86 (by kernel_rfl) rfl;have hS:=AnyQ.slices_SortFunc Tryz.sortSp 2 Tryz.isAgg59 Tryz.sizeOf59 k60 (fun _=>rfl) (fun x v hv=>by simp[k60]at hv;rcases hv with rfl|rfl<;>rfl) cfSp swoSp 86 #[] g 0 c L.toArray w eg (q144 g 0 _ w) h.holdsK hg2 (by simp;omega);have e1:(L.toArray).size=L.length:=by simp
  rw[e1]at hS;refine Calls.mono hS ?_;rintro e w'⟨rfl,d',n,os,hp,hs,rfl⟩;have hsz:d'.size=L.length:=by have:=hp.1;simpa using this
  have hperm:d'.toList.Perm L:=by
   have:=hp.2.2;have x1:d'.extract 0 L.length=d':=by rw[←hsz];simp
   have x2:(L.toArray).extract 0 L.length=L.toArray:=by rw[←e1];simp
   rw[x1,x2]at this;simpa using this
  refine⟨rfl,d'.toList,hperm,?_,?_,?_⟩;·unfold q63;rw[E_];intro i j hi hj hij;have:=hs i j (v_ _) hij (by simp at hj;omega);rw[ltSp]at this;simp at hi hj;rw[aX_ _ j hj,aX_ _ i hi]at this;simp at this;simpa using this
  ·exact j144 h hg2 hsz
  ·exact hb.grown (q91 d') hb.size (fun k hk=>by injection hk with hk;omega)
theorem y61(f t:Int):k181 (f,t)=(okS (f,t)&&decide (f<t)):=rfl
def w50(L:List (Int×Int))(w:World)(e:Ending)(w':World):Prop:=∃A c,e=.returned (.agg #[.slice A L.length c])∧Sp w' A c L∧(∀a,A=some a→w.heap.size≤a.block)∧Below w.heap.size w w'
theorem k96(A:Option Addr)(c:Nat)(L:List (Int×Int))(w:World)(h:Sp w A c L)(hl:L.length≤100000):Calls Tryz.prog 30 #[.slice A L.length c] w (w50 (cano L) w):=by
 have hH:=a_ h;clear h;go_enter Tryz.func30,Tryz.ntmps30;go_wp2;go_loopw[3,5,8](fun v _ i wr=>∃(k:Nat)(A':Option Addr)(c':Nat),k≤L.length∧i=.int .i64 k∧v=.slice A' (x44 (L.take k)).length c'∧Own wr (w.alloc (.cells #[.slice none 0 0] 93)).heap.size A' c' (x44 (L.take k))∧Below (w.alloc (.cells #[.slice none 0 0] 93)).heap.size (w.alloc (.cells #[.slice none 0 0] 93)) wr)(fun _ _ i _=>L.length-(intOf i).toNat);case atStart=>exact⟨0,none,0,v_ _,rfl,rfl,Own.nil _ _,b_ _ _⟩
 case round=>
  obtain⟨k,A',c',hk,rfl,rfl,hown,hbw⟩:=hrel;have HO:=a_ hown;have HB:=a_ hbw;clear hown hbw;by_cases hlt:k<L.length;·
   obtain⟨b,off,e,hb,c1,c2⟩:=((hH.out.alloc _).below HB.out).at_ hlt;have hgl:=y73 (L.take k);have hgl2:(x44 (L.take k)).length≤100000:=by simp at hgl;omega
   have HG:=a_ (k134 hlt);obtain⟨⟨x1,x2⟩,hx⟩:∃x,L[k]=x:=⟨_,rfl⟩;rw[hx]at c1 c2 HG;clear hx hgl;obtain⟨G,hG⟩:∃G,x44 (L.take k)=G:=⟨_,rfl⟩;have hO:=HO.out;rw[hG]at hO hgl2 HG⊢;have HO':=a_ hO;clear hG hO HO;rw[e];have hR:=fun W=>a_ (q45 x1 x2 W);cases hok:okS (x1,x2);·
    rw[hok]at hR;have HN:Hid (x44 (L.take (k+1))=G):=by simp only[Hid];rw[HG.out,y61,hok];simp
    clear hok;go_wp2_with fail;refine(hR _).out.mono ?_;rintro e1 w3⟨rfl,rfl⟩;clear hR;go_wp2_with fail;go_roundw;case rel=>exact⟨k+1,A',c',by omega,by go_num,by rw[HN.out],by rw[HN.out];exact(HO'.out.alloc _).alloc _,by exact q11 (q11 HB.out _) _⟩
    case measure=>simp[intOf];omega
   ·rw[hok]at hR;by_cases hft:x1<x2;·
     have HN:Hid (x44 (L.take (k+1))=G++[(x1,x2)]):=by simp only[Hid];rw[HG.out,y61,hok];simp[hft]
     clear hok;go_wp2_with fail;refine(hR _).out.mono ?_;rintro e1 w3⟨rfl,rfl⟩;clear hR;go_wp2_with(at_builtin;refine q31 (w0:=w.alloc (.cells #[.slice none 0 0] 93)) rfl (.tmp 21) (.tmp 23) rfl A' c' G rfl (by exact((HO'.out.alloc _).alloc _).alloc _) _ x1 x2 rfl (by simp[go_sem]) (by simp[go_sem]) (by omega) (by exact q11 (q11 (q11 HB.out _) _) _) ?_;intro A2 c2' w2 hown2 hbw2 _);go_roundw;case rel=>exact⟨k+1,A2,c2',by omega,by go_num,by rw[HN.out];simp,by rw[HN.out];exact hown2,hbw2⟩
     case measure=>simp[intOf];omega
    ·have HN:Hid (x44 (L.take (k+1))=G):=by simp only[Hid];rw[HG.out,y61,hok];simp[hft]
     clear hok;go_wp2_with fail;refine(hR _).out.mono ?_;rintro e1 w3⟨rfl,rfl⟩;clear hR;go_wp2_with fail;go_roundw;case rel=>exact⟨k+1,A',c',by omega,by go_num,by rw[HN.out],by rw[HN.out];exact(HO'.out.alloc _).alloc _,by exact q11 (q11 HB.out _) _⟩
     case measure=>simp[intOf];omega
  ·have hO:=HO.out;have hgl:=y73 L;rw[x45 hlt]at hO⊢;have HS:=a_ (j155 hO HB.out (by omega));clear hO HO;go_wp2_with fail;refine HS.out.mono ?_;rintro e1 w2⟨rfl,M,hp,hr,hsp,hb2⟩;have HGC:=a_ (v121 hp hr);have hlm:M.length=(x44 L).length:=hp.length_eq;have HGA:=a_ (y131 A' c' M w2 hsp (by omega));rw[hlm]at HGA;have HB2:=a_ hb2;clear hp hr hsp HS hlm hb2;go_wp2_with fail;refine HGA.out.mono ?_;rintro e2 w3⟨A3,c3,rfl,hown3,hb3⟩;rw[HGC.out]at hown3⊢;have HO3:=a_ hown3;have hb4:=q12 hb3 HB2.out;have q1:w3.cell? ⟨w.heap.size,0,none⟩=some (.slice none 0 0):=x16 hb4 (by simp[go_sem]);have q2:w3.frozen? ⟨w.heap.size,0,none⟩=false:=(hb4.frozen (p:=⟨w.heap.size,0,none⟩) (by simp)).trans (by simp[go_sem]);have HB4:=a_ hb4;clear hown3 hb3 hb4 HGA HGC;go_wp2_with fail;refine m_ (by simp[results,Tryz.results30,go_sem,q1];try rfl) rfl ?_;refine⟨A3,c3,rfl,?_,fun a ha=>?_,?_⟩;·have hsz:=HB2.out.size;simp at hsz;exact Own.sp (ownsRow_setCell_below HO3.out (by show w.heap.size<w2.heap.size;omega) _)
   ·subst ha;have h1:=(al_ HO3.out a.block rfl).1;have hsz:=HB2.out.size;simp at hsz;show w.heap.size≤a.block;have h2:w2.heap.size≤a.block:=h1;omega
   ·exact w14 (q12 HB4.out (q11 (b_ _ _) _)) (t_ _) _
theorem j91(A:Option Addr)(c:Nat)(L:List (Int×Int))(w:World)(h:Sp w A c L)(hl:L.length≤100000):Calls Tryz.prog 30 #[.slice A L.length c] w (q171 (cano L) w):=(k96 A c L w h hl).mono fun _ _ h=>h.imp fun _ h=>h.imp fun _ h=>⟨h.1,h.2.1,h.2.2.2⟩
