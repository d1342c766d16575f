/- Plain laws of a fence's states, and small laws on blocks known whole. Rows .. -/
import Derived.Test.YtkkomffmnafjkaaGreatDoorZD1
import Derived.Test.YtkkomffmnafjkaaGreatDoorZB10
import Derived.IntWalk
set_option maxHeartbeats 16000000
set_option maxRecDepth 100000
set_option linter.all false
namespace Go.Proofs.YtkkomffmnafjkaaGreatDoor
open Go.RowKit
theorem cell_grown{w w':World}{po b o:Nat}(h:w.grownBy w' (some po))(hb:b<w.heap.size)(hne:b≠po):w'.cell? ⟨b,o,none⟩=w.cell? ⟨b,o,none⟩:=World.cell?_of_block (w:=w) (w':=w') (a:=⟨b,o,none⟩) (h.block b hb (by intro e;injection e with e;exact hne e))
theorem Sp.grown{w w':World}{A:Option Addr}{c:Nat}{L:List (Int×Int)}{po:Nat}(h:Sp w A c L)(hne:OffB A po)(hg:w.grownBy w' (some po)):Sp w' A c L:=⟨h.le,h.nil_,fun hn=>by obtain⟨b,off,e,hb,hc⟩:=h.at' hn;have hs:=hg.size;have hb':b≠po:=hne _ e;exact⟨b,off,e,by omega,fun i x hx=>by rw[cell_grown hg hb hb',cell_grown hg hb hb'];exact hc i x hx⟩⟩
theorem j3{W w':World}{g:Nat}{o:Obj}(hb:Below W.heap.size W w')(h:W.heap[g]?=some o):w'.heap[g]?=some o:=(hb.block g (Array.getElem?_eq_some_iff.1 h).1).trans h
theorem j14{w:World}{g i:Nat}{cs:Array Value}{t:TypeId}{f:Nat×Nat}{v:Value}(h:w.heap[g]?=some (.cells cs t f))(hv:cs[i]?=some v):w.cell? ⟨g,i,none⟩=some v:=(Lib.cell_of_heap h i).trans hv
theorem bc{w:World}{g:Nat}(i:Nat){cs:Array Value}{t:TypeId}{f:Nat×Nat}{v:Value}(h:w.heap[g]?=some (.cells cs t f))(hv:cs[i]?=some v):w.cell? ⟨g,i,none⟩=some v:=j14 h hv
theorem q13{w:World}{g i:Nat}{cs:Array Value}{t:TypeId}(h:w.heap[g]?=some (.cells cs t (0,0))):w.frozen? ⟨g,i,none⟩=false:=Lib.frozen_of_heap h i
theorem q14{w:World}{g:Nat}{o:Obj}(h:w.heap[g]?=some o):g<w.heap.size:=(Array.getElem?_eq_some_iff.1 h).1
theorem j17{w:World}{o:Obj}{g:Nat}(hg:g=w.heap.size):(w.alloc o).heap[g]?=some o:=by subst hg;exact heap_alloc_new w o
theorem j16{w:World}{o o':Obj}{g:Nat}(h:w.heap[g]?=some o):(w.alloc o').heap[g]?=some o:=(Below.heap_alloc w o' g (q14 h)).trans h
theorem box1(w:World)(A:Array Value)(T:TypeId):∃W,w.alloc (.cells A T)=W∧Hid (W.heap[w.heap.size]?=some (.cells A T (0,0)))∧Hid (Below w.heap.size w W):=⟨_,rfl,j17 rfl,q11 (Below.refl _ _) _⟩
theorem w48(w:World)(A:Array Value)(T:TypeId):∃W,w.alloc (.cells A T)=W∧Hid (W.heap[w.heap.size]?=some (.cells A T (0,0)))∧Below w.heap.size w W:=⟨_,rfl,j17 rfl,q11 (Below.refl _ _) _⟩
theorem box2(w:World)(A:Array Value)(T:TypeId)(C:Array Value)(U:TypeId):∃W,(w.alloc (.cells A T)).alloc (.cells C U)=W∧Hid (W.heap[w.heap.size]?=some (.cells A T (0,0)))∧Hid (W.heap[w.heap.size+1]?=some (.cells C U (0,0)))∧Hid (Below w.heap.size w W):=⟨_,rfl,j16 (j17 rfl),j17 (by simp),q11 (q11 (Below.refl _ _) _) _⟩
theorem q18{w:World}{o:Obj}{g:Nat}(h:w.heap[g]?=some o):w.drew.heap[g]?=some o:=h
theorem j32{w:World}{o:Obj}{g n:Nat}(h:w.heap[g]?=some o):(w.drewN n).heap[g]?=some o:=h
theorem z11{w:World}{o:Obj}{g:Nat}{p:Addr}{v:Value}(hne:g≠p.block)(h:w.heap[g]?=some o):(w.setCell p v).heap[g]?=some o:=(Below.heap_setCell w p v g hne).trans h
theorem j15{w:World}{g i:Nat}{cs:Array Value}{t:TypeId}{f:Nat×Nat}{v:Value}(h:w.heap[g]?=some (.cells cs t f)):(w.setCell ⟨g,i,none⟩ v).heap[g]?=some (.cells (cs.setIfInBounds i v) t f):=by simp[World.setCell,Array.getElem?_modify,h]
section
variable{γ:Type}{w w':World}{r i base c n:Nat}{T T':TypeId}{en:γ→List Value}{A:Option Addr}{L:List γ}{cs:Array Value}{f:Nat×Nat}
theorem q181(W:World)(p:Addr)(v:Value):W.grownBy (W.setCell p v) (some p.block):=by have h:=Below.setCell (Below.refl 0 W) (p:=p) (Nat.zero_le _) v;exact⟨h.os,h.tape,h.output,h.size,fun k _ hne=>Below.heap_setCell W p v k (by intro e;exact hne (by rw[e]))⟩
theorem OwnG.ne_ty(h:OwnG T en n w base A c L)(hr:w.heap[r]?=some (.cells cs T' f))(hT:T≠T'):(Value.slice A L.length c).ownBlock≠some r:=by
 intro e;rcases h.2 with⟨hv,_⟩|⟨g,cap,cur,hv,_,hg,_⟩;·rw[hv]at e;simp[Value.ownBlock]at e
 ·rw[hv]at e;simp[Value.ownBlock]at e;subst e;rw[hg]at hr;injection hr with hr;injection hr with h1 h2 h3;exact hT h2
theorem OwnG.set_ty(h:OwnG T en n w base A c L)(hr:w.heap[r]?=some (.cells cs T' f))(hT:T≠T')(v:Value):OwnG T en n (w.setCell ⟨r,i,none⟩ v) base A c L:=World.ownsRow.kept h (q181 w ⟨r,i,none⟩ v) (.inr (h.ne_ty hr hT))
theorem w20{o:Obj}(hr:w.heap[r]?=some o)(hg:w.grownBy w' (Value.slice A L.length c).ownBlock)(hne:(Value.slice A L.length c).ownBlock≠some r):w'.heap[r]?=some o:=(hg.block r (q14 hr) (fun e=>hne e.symm)).trans hr
def Off(w w':World)(PO:Nat)(B:Option Nat):Prop:=∀(k:Nat)(o:Obj),w.heap[k]?=some o→k≠PO→B≠some k→w'.heap[k]?=some o
def w96(T ST:TypeId)(en:γ→List Value)(n:Nat)(w0 w:World)(PO:Nat)(A:Option Addr)(c:Nat)(L X:List γ)(e:Ending)(w':World):Prop:=e=.returned (.tuple #[])∧∃A' c' m,m=(L++X).length∧w'.heap[PO]?=some (.cells #[.slice A' m c'] ST (0,0))∧OwnG T en n w' w0.heap.size A' c' (L++X)∧Below w0.heap.size w0 w'∧Off w w' PO (Value.slice A L.length c).ownBlock
theorem Off.block{PO:Nat}{B:Option Nat}(h:Off w w' PO B){k:Nat}{o:Obj}(hk:w.heap[k]?=some o)(h1:k≠PO)(h2:B≠some k):w'.heap[k]?=some o:=h k o hk h1 h2
theorem z97{PO:Nat}{B:Option Nat}{w1 w2:World}{v:Value}(h1:∀(k:Nat)(o:Obj),w.heap[k]?=some o→w1.heap[k]?=some o)(h2:w1.grownBy w2 B):Off w (w2.setCell ⟨PO,i,none⟩ v) PO B:=by intro k o hk hp hb;have e1:=h1 k o hk;have e2:w2.heap[k]?=some o:=(h2.block k (q14 e1) (fun e=>hb e.symm)).trans e1;exact z11 hp e2
end
def toN(H:List (Int×Int))(cs f t:Int):Int:=match q35 H f with|some x=>if x.1=f then min (min t x.2) (f+cs)else f|none=>f
structure ToP(H:List (Int×Int))(cs f t e:Int):Prop where
 lo:f≤e
 hi:e≤t
 most:e≤f+cs
 there:∀j,f≤j→j<e→inB H j=true
 end_:e=t∨e=f+cs∨inB H e=false
theorem ToP.uniq{H:List (Int×Int)}{cs f t a b:Int}(ha:ToP H cs f t a)(hb:ToP H cs f t b):a=b:=by
 rcases Int.lt_trichotomy a b with h|h|h;·
  rcases ha.end_ with h1|h1|h1;·have:=hb.hi;omega
  ·have:=hb.most;omega
  ·have:=hb.there a ha.lo h;rw[h1]at this;cases this
 ·exact h
 ·rcases hb.end_ with h1|h1|h1;·have:=ha.hi;omega
  ·have:=ha.most;omega
  ·have:=ha.there b hb.lo h;rw[h1]at this;cases this
theorem x71{H:List (Int×Int)}(hc:Canon H)(f:Int):(q35 H f=none∧∀j,f≤j→inB H j=false)∨∃x∈H,q35 H f=some (max f x.1,x.2)∧f<x.2∧(∀j,f≤j→j<x.1→inB H j=false)∧(∀j,x.1≤j→j<x.2→inB H j=true)∧inB H x.2=false:=by
 induction H with
  |nil=>exact .inl ⟨rfl,fun j _=>rfl⟩
  |cons x r ih=>
   by_cases h:f<x.2;·
    right;refine⟨x,by simp,v101 (L:=x::r) (k:=0) (by simp) (by simp) (by simpa using h),h,?_,?_,?_⟩;·intro j _ hj;rw[Bool.eq_false_iff];intro hh;have:=hc.first ((j34 _ _).1 hh);omega
    ·intro j h1 h2;rw[j34,hc.in_cons];exact .inl ⟨h1,h2⟩
    ·rw[Bool.eq_false_iff];intro hh;rcases(hc.in_cons _).1 ((j34 _ _).1 hh)with h3|h3;·omega
     ·have:=hc.behind h3;omega
   ·have hstep:q35 (x::r) f=q35 r f:=by unfold q35;rw[List.find?_cons_of_neg (by simp;omega)]
    have hin:∀j,x.2≤j→inB (x::r) j=inB r j:=by intro j hj;rw[Bool.eq_iff_iff,j34,j34,hc.in_cons];exact⟨fun h'=>h'.resolve_left (by omega),.inr⟩
    rcases ih hc.tail with⟨h1,h2⟩|⟨y,hy,h1,h2,h3,h4,h5⟩;·exact .inl ⟨hstep.trans h1,fun j hj=>(hin j (by omega)).trans (h2 j hj)⟩
    ·have hyb:x.2<y.1:=by have:=(List.pairwise_cons.1 hc.sep).1 y hy;exact this
     exact .inr ⟨y,List.mem_cons_of_mem _ hy,hstep.trans h1,h2,fun j a b=>(hin j (by omega)).trans (h3 j a b),fun j a b=>(hin j (by omega)).trans (h4 j a b),(hin _ (by omega)).trans h5⟩
theorem j87{H:List (Int×Int)}(hc:Canon H){cs f t:Int}(hcs:1≤cs)(hft:f<t):ToP H cs f t (toN H cs f t):=by
 unfold toN;rcases x71 hc f with⟨h1,h2⟩|⟨x,_,h1,h2,h3,h4,h5⟩;·rw[h1];exact⟨by simp,by simp;omega,by simp;omega,fun j a b=>by simp at b;omega,.inr (.inr (h2 f (Int.le_refl f)))⟩
 ·rw[h1];simp only;by_cases hm:max f x.1=f;·
   rw[if_pos hm];have hx:x.1≤f:=by omega
   refine⟨by omega,by omega,by omega,fun j a b=>h4 j (by omega) (by omega),?_⟩;by_cases e1:min (min t x.2) (f+cs)=t;·exact .inl e1
   ·by_cases e2:min (min t x.2) (f+cs)=f+cs;·exact .inr (.inl e2)
    ·have e3:min (min t x.2) (f+cs)=x.2:=by omega
     rw[e3];exact .inr (.inr h5)
  ·rw[if_neg hm];exact⟨by omega,by omega,by omega,fun j a b=>by omega,.inr (.inr (h3 f (Int.le_refl f) (by omega)))⟩
def k58(p:w17):Prop:=(p.1≠[]∧p.2=(0,0))∨(p.1=[]∧okS p.2=true∧p.2.1<p.2.2)
def j40(p:w17):Bool:=p.1.isEmpty&&decide (p.2.2=4611686018427387904)
def j29:List w17→Prop|[]=>True|p::r=>k58 p∧(r≠[]→j40 p=false)∧j29 r
def j182(H:List (Int×Int))(cs:Int)(p:w17)(r:List w17):Option (w17×List w17):=if p.1=[]then if toN H cs p.2.1 p.2.2=p.2.1 then none else some (([],(p.2.1,toN H cs p.2.1 p.2.2)),if toN H cs p.2.1 p.2.2=p.2.2 then r else([],(toN H cs p.2.1 p.2.2,p.2.2))::r)else some ((p.1.take cs.toNat,p.2),if p.1.length≤cs.toNat then r else(p.1.drop cs.toNat,p.2)::r)
def w43(H:List (Int×Int))(cs:Int):List w17→Option (w17×List w17)|[]=>none|p::r=>j182 H cs p r
theorem j126{H:List (Int×Int)}(hc:Canon H){cs:Int}(hcs:1≤cs){L L':List w17}{p:w17}(hL:j29 L)(h:w43 H cs L=some (p,L')):j29 L'∧k58 p:=by
 cases L with
  |nil=>cases h
  |cons q r=>
   obtain⟨h1,h2,h3⟩:=hL;change j182 H cs q r=some (p,L')at h;unfold j182 at h;rcases h1 with⟨a1,a2⟩|⟨a1,a2,a3⟩;·
    rw[if_neg a1]at h;injection h with h;injection h with h4 h5;have hp:k58 p:=by
     rw[←h4];refine .inl ⟨?_,a2⟩;intro e;rcases List.take_eq_nil_iff.1 e with e|e;·omega
     ·exact a1 e
    refine⟨?_,hp⟩;rw[←h5];split;·exact h3
    ·next hlt=>
      refine⟨.inl ⟨?_,a2⟩,fun _=>?_,h3⟩;·intro e;have:=List.drop_eq_nil_iff.1 e;exact hlt this
      ·unfold j40;rw[show(q.1.drop cs.toNat).isEmpty=false by rw[List.isEmpty_eq_false_iff];intro e;exact hlt (List.drop_eq_nil_iff.1 e)];rfl
   ·rw[if_pos a1]at h;have hT:=j87 hc hcs a3;obtain⟨o1,o2,o3⟩:=(j19 q.2).1 a2;split at h;·cases h
    ·next hne=>
      injection h with h;injection h with h4 h5;have hlo:=hT.lo;have hhi:=hT.hi;have hp:k58 p:=by rw[←h4];exact .inr ⟨rfl,(j19 _).2 ⟨o1,by simp only;omega,by simp only;omega⟩,by simp only;omega⟩
      refine⟨?_,hp⟩;rw[←h5];split;·exact h3
      ·next hne2=>refine⟨.inr ⟨rfl,(j19 _).2 ⟨by simp only;omega,by simp only;omega,by simp only;omega⟩,by simp only;omega⟩,fun hr=>?_,h3⟩;have:=h2 hr;unfold j40 at this⊢;simpa[a1]using this
end Go.Proofs.YtkkomffmnafjkaaGreatDoor
