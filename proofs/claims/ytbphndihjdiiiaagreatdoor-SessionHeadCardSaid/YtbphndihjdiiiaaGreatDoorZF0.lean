/- Plain laws of a fence's states, and small laws on blocks known whole. Rows that lie behind a box, and what a call that appends through the box leaves. .. -/
import Derived.Test.YtbphndihjdiiiaaGreatDoorZD1
import Derived.Test.YtbphndihjdiiiaaGreatDoorZB11
import Derived.IntWalk
set_option maxHeartbeats 16000000
set_option maxRecDepth 100000
set_option linter.unusedVariables false
set_option linter.unusedSimpArgs false
namespace Go.Proofs.YtbphndihjdiiiaaGreatDoor
open Go.RowKit
theorem cell_grown{w w':World}{po b o:Nat}(h:w.grownBy w' (some po))(hb:b<w.heap.size)(hne:b≠po):w'.cell? ⟨b,o,none⟩=w.cell? ⟨b,o,none⟩:=World.cell?_of_block (w:=w) (w':=w') (a:=⟨b,o,none⟩) (h.block b hb (by intro e;injection e with e;exact hne e))
theorem Sp.grown{w w':World}{A:Option Addr}{c:Nat}{L:List (Int×Int)}{po:Nat}(h:Sp w A c L)(hne:OffB A po)(hg:w.grownBy w' (some po)):Sp w' A c L:=⟨h.le,h.nil_,fun hn=>by obtain⟨b,off,e,hb,hc⟩:=h.at' hn;have hs:=hg.size;have hb':b≠po:=hne _ e;exact⟨b,off,e,by omega,fun i x hx=>by rw[cell_grown hg hb hb',cell_grown hg hb hb'];exact hc i x hx⟩⟩
theorem blk_keep{W w':World}{g:Nat}{o:Obj}(hb:Below W.heap.size W w')(h:W.heap[g]?=some o):w'.heap[g]?=some o:=(hb.block g (Array.getElem?_eq_some_iff.1 h).1).trans h
theorem blk_cell{w:World}{g i:Nat}{cs:Array Value}{t:TypeId}{f:Nat×Nat}{v:Value}(h:w.heap[g]?=some (.cells cs t f))(hv:cs[i]?=some v):w.cell? ⟨g,i,none⟩=some v:=(Lib.cell_of_heap h i).trans hv
theorem bc{w:World}{g:Nat}(i:Nat){cs:Array Value}{t:TypeId}{f:Nat×Nat}{v:Value}(h:w.heap[g]?=some (.cells cs t f))(hv:cs[i]?=some v):w.cell? ⟨g,i,none⟩=some v:=blk_cell h hv
theorem blk_frozen{w:World}{g i:Nat}{cs:Array Value}{t:TypeId}(h:w.heap[g]?=some (.cells cs t (0,0))):w.frozen? ⟨g,i,none⟩=false:=Lib.frozen_of_heap h i
theorem blk_lt{w:World}{g:Nat}{o:Obj}(h:w.heap[g]?=some o):g<w.heap.size:=(Array.getElem?_eq_some_iff.1 h).1
theorem blk_new{w:World}{o:Obj}{g:Nat}(hg:g=w.heap.size):(w.alloc o).heap[g]?=some o:=by subst hg;exact heap_alloc_new w o
theorem blk_skip{w:World}{o o':Obj}{g:Nat}(h:w.heap[g]?=some o):(w.alloc o').heap[g]?=some o:=(Below.heap_alloc w o' g (blk_lt h)).trans h
theorem blk_drew{w:World}{o:Obj}{g:Nat}(h:w.heap[g]?=some o):w.drew.heap[g]?=some o:=h
theorem blk_drewN{w:World}{o:Obj}{g n:Nat}(h:w.heap[g]?=some o):(w.drewN n).heap[g]?=some o:=h
theorem blk_set_ne{w:World}{o:Obj}{g:Nat}{p:Addr}{v:Value}(hne:g≠p.block)(h:w.heap[g]?=some o):(w.setCell p v).heap[g]?=some o:=(Below.heap_setCell w p v g hne).trans h
theorem blk_set{w:World}{g i:Nat}{cs:Array Value}{t:TypeId}{f:Nat×Nat}{v:Value}(h:w.heap[g]?=some (.cells cs t f)):(w.setCell ⟨g,i,none⟩ v).heap[g]?=some (.cells (cs.setIfInBounds i v) t f):=by simp[World.setCell,Array.getElem?_modify,h]
section
variable{γ:Type}{w w':World}{r i base c n:Nat}{T T':TypeId}{en:γ→List Value}{A:Option Addr}{L:List γ}{cs:Array Value}{f:Nat×Nat}
theorem grown_set'(W:World)(p:Addr)(v:Value):W.grownBy (W.setCell p v) (some p.block):=by have h:=Below.setCell (Below.refl 0 W) (p:=p) (Nat.zero_le _) v;exact⟨h.os,h.tape,h.output,h.size,fun k _ hne=>Below.heap_setCell W p v k (by intro e;exact hne (by rw[e]))⟩
theorem OwnG.ne_ty(h:OwnG T en n w base A c L)(hr:w.heap[r]?=some (.cells cs T' f))(hT:T≠T'):(Value.slice A L.length c).ownBlock≠some r:=by
 intro e;rcases h.2 with⟨hv,_⟩|⟨g,cap,cur,hv,_,hg,_⟩;·rw[hv]at e;simp[Value.ownBlock]at e
 ·rw[hv]at e;simp[Value.ownBlock]at e;subst e;rw[hg]at hr;injection hr with hr;injection hr with h1 h2 h3;exact hT h2
theorem OwnG.set_ty(h:OwnG T en n w base A c L)(hr:w.heap[r]?=some (.cells cs T' f))(hT:T≠T')(v:Value):OwnG T en n (w.setCell ⟨r,i,none⟩ v) base A c L:=World.ownsRow.kept h (grown_set' w ⟨r,i,none⟩ v) (.inr (h.ne_ty hr hT))
theorem blk_keepG{o:Obj}(hr:w.heap[r]?=some o)(hg:w.grownBy w' (Value.slice A L.length c).ownBlock)(hne:(Value.slice A L.length c).ownBlock≠some r):w'.heap[r]?=some o:=(hg.block r (blk_lt hr) (fun e=>hne e.symm)).trans hr
def Off(w w':World)(PO:Nat)(B:Option Nat):Prop:=∀(k:Nat)(o:Obj),w.heap[k]?=some o→k≠PO→B≠some k→w'.heap[k]?=some o
def PutPost(T ST:TypeId)(en:γ→List Value)(n:Nat)(w0 w:World)(PO:Nat)(A:Option Addr)(c:Nat)(L X:List γ)(e:Ending)(w':World):Prop:=e=.returned (.tuple #[])∧∃A' c' m,m=(L++X).length∧w'.heap[PO]?=some (.cells #[.slice A' m c'] ST (0,0))∧OwnG T en n w' w0.heap.size A' c' (L++X)∧Below w0.heap.size w0 w'∧Off w w' PO (Value.slice A L.length c).ownBlock
theorem Off.block{PO:Nat}{B:Option Nat}(h:Off w w' PO B){k:Nat}{o:Obj}(hk:w.heap[k]?=some o)(h1:k≠PO)(h2:B≠some k):w'.heap[k]?=some o:=h k o hk h1 h2
theorem off_put{PO:Nat}{B:Option Nat}{w1 w2:World}{v:Value}(h1:∀(k:Nat)(o:Obj),w.heap[k]?=some o→w1.heap[k]?=some o)(h2:w1.grownBy w2 B):Off w (w2.setCell ⟨PO,i,none⟩ v) PO B:=by intro k o hk hp hb;have e1:=h1 k o hk;have e2:w2.heap[k]?=some o:=(h2.block k (blk_lt e1) (fun e=>hb e.symm)).trans e1;exact blk_set_ne hp e2
end
def toN(H:List (Int×Int))(cs f t:Int):Int:=match firstL H f with|some x=>if x.1=f then min (min t x.2) (f+cs)else f|none=>f
structure ToP(H:List (Int×Int))(cs f t e:Int):Prop where
 lo:f≤e
 hi:e≤t
 most:e≤f+cs
 there:∀j,f≤j→j<e→inB H j=true
 end_:e=t∨e=f+cs∨inB H e=false
theorem firstL_cases{H:List (Int×Int)}(hc:Canon H)(f:Int):(firstL H f=none∧∀j,f≤j→inB H j=false)∨∃x∈H,firstL H f=some (max f x.1,x.2)∧f<x.2∧(∀j,f≤j→j<x.1→inB H j=false)∧(∀j,x.1≤j→j<x.2→inB H j=true)∧inB H x.2=false:=by
 induction H with
  |nil=>exact .inl ⟨rfl,fun j _=>rfl⟩
  |cons x r ih=>
   by_cases h:f<x.2;·
    right;refine⟨x,by simp,firstL_at (L:=x::r) (k:=0) (by simp) (by simp) (by simpa using h),h,?_,?_,?_⟩;·intro j _ hj;rw[Bool.eq_false_iff];intro hh;have:=hc.first ((inB_iff _ _).1 hh);omega
    ·intro j h1 h2;rw[inB_iff,hc.in_cons];exact .inl ⟨h1,h2⟩
    ·rw[Bool.eq_false_iff];intro hh;rcases(hc.in_cons _).1 ((inB_iff _ _).1 hh)with h3|h3;·omega
     ·have:=hc.behind h3;omega
   ·have hstep:firstL (x::r) f=firstL r f:=by unfold firstL;rw[List.find?_cons_of_neg (by simp;omega)]
    have hin:∀j,x.2≤j→inB (x::r) j=inB r j:=by intro j hj;rw[Bool.eq_iff_iff,inB_iff,inB_iff,hc.in_cons];exact⟨fun h'=>h'.resolve_left (by omega),.inr⟩
    rcases ih hc.tail with⟨h1,h2⟩|⟨y,hy,h1,h2,h3,h4,h5⟩;·exact .inl ⟨hstep.trans h1,fun j hj=>(hin j (by omega)).trans (h2 j hj)⟩
    ·have hyb:x.2<y.1:=by have:=(List.pairwise_cons.1 hc.sep).1 y hy;exact this
     exact .inr ⟨y,List.mem_cons_of_mem _ hy,hstep.trans h1,h2,fun j a b=>(hin j (by omega)).trans (h3 j a b),fun j a b=>(hin j (by omega)).trans (h4 j a b),(hin _ (by omega)).trans h5⟩
theorem toN_spec{H:List (Int×Int)}(hc:Canon H){cs f t:Int}(hcs:1≤cs)(hft:f<t):ToP H cs f t (toN H cs f t):=by
 unfold toN;rcases firstL_cases hc f with⟨h1,h2⟩|⟨x,_,h1,h2,h3,h4,h5⟩;·rw[h1];exact⟨by simp,by simp;omega,by simp;omega,fun j a b=>by simp at b;omega,.inr (.inr (h2 f (Int.le_refl f)))⟩
 ·rw[h1];simp only;by_cases hm:max f x.1=f;·
   rw[if_pos hm];have hx:x.1≤f:=by omega
   refine⟨by omega,by omega,by omega,fun j a b=>h4 j (by omega) (by omega),?_⟩;by_cases e1:min (min t x.2) (f+cs)=t;·exact .inl e1
   ·by_cases e2:min (min t x.2) (f+cs)=f+cs;·exact .inr (.inl e2)
    ·have e3:min (min t x.2) (f+cs)=x.2:=by omega
     rw[e3];exact .inr (.inr h5)
  ·rw[if_neg hm];exact⟨by omega,by omega,by omega,fun j a b=>by omega,.inr (.inr (h3 f (Int.le_refl f) (by omega)))⟩
def PartOk(p:PartL):Prop:=(p.1≠[]∧p.2=(0,0))∨(p.1=[]∧okS p.2=true∧p.2.1<p.2.2)
def openP(p:PartL):Bool:=p.1.isEmpty&&decide (p.2.2=4611686018427387904)
def BodyOk:List PartL→Prop|[]=>True|p::r=>PartOk p∧(r≠[]→openP p=false)∧BodyOk r
def tell1(H:List (Int×Int))(cs:Int)(p:PartL)(r:List PartL):Option (PartL×List PartL):=if p.1=[]then if toN H cs p.2.1 p.2.2=p.2.1 then none else some (([],(p.2.1,toN H cs p.2.1 p.2.2)),if toN H cs p.2.1 p.2.2=p.2.2 then r else([],(toN H cs p.2.1 p.2.2,p.2.2))::r)else some ((p.1.take cs.toNat,p.2),if p.1.length≤cs.toNat then r else(p.1.drop cs.toNat,p.2)::r)
def tellL(H:List (Int×Int))(cs:Int):List PartL→Option (PartL×List PartL)|[]=>none|p::r=>tell1 H cs p r
theorem tell_ok{H:List (Int×Int)}(hc:Canon H){cs:Int}(hcs:1≤cs){L L':List PartL}{p:PartL}(hL:BodyOk L)(h:tellL H cs L=some (p,L')):BodyOk L'∧PartOk p:=by
 cases L with
  |nil=>cases h
  |cons q r=>
   obtain⟨h1,h2,h3⟩:=hL;change tell1 H cs q r=some (p,L')at h;unfold tell1 at h;rcases h1 with⟨a1,a2⟩|⟨a1,a2,a3⟩;·
    rw[if_neg a1]at h;injection h with h;injection h with h4 h5;have hp:PartOk p:=by
     rw[←h4];refine .inl ⟨?_,a2⟩;intro e;rcases List.take_eq_nil_iff.1 e with e|e;·omega
     ·exact a1 e
    refine⟨?_,hp⟩;rw[←h5];split;·exact h3
    ·next hlt=>
      refine⟨.inl ⟨?_,a2⟩,fun _=>?_,h3⟩;·intro e;have:=List.drop_eq_nil_iff.1 e;exact hlt this
      ·unfold openP;rw[show(q.1.drop cs.toNat).isEmpty=false by rw[List.isEmpty_eq_false_iff];intro e;exact hlt (List.drop_eq_nil_iff.1 e)];rfl
   ·rw[if_pos a1]at h;have hT:=toN_spec hc hcs a3;obtain⟨o1,o2,o3⟩:=(okS_iff q.2).1 a2;split at h;·cases h
    ·next hne=>
      injection h with h;injection h with h4 h5;have hlo:=hT.lo;have hhi:=hT.hi;have hp:PartOk p:=by rw[←h4];exact .inr ⟨rfl,(okS_iff _).2 ⟨o1,by simp only;omega,by simp only;omega⟩,by simp only;omega⟩
      refine⟨?_,hp⟩;rw[←h5];split;·exact h3
      ·next hne2=>refine⟨.inr ⟨rfl,(okS_iff _).2 ⟨by simp only;omega,by simp only;omega,by simp only;omega⟩,by simp only;omega⟩,fun hr=>?_,h3⟩;have:=h2 hr;unfold openP at this⊢;simpa[a1]using this
end Go.Proofs.YtbphndihjdiiiaaGreatDoor
