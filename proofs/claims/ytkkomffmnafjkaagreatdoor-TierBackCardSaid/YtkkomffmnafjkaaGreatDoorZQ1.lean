/- A drawn region whose last operations wait for all others and stand in a row: .. -/
import Derived.OrdersHeld
import Derived.Deep.RegionHeld
import Derived.StillTail
import Derived.Test.YtkkomffmnafjkaaGreatDoorZF0
import Derived.Deep.MidRow
set_option maxHeartbeats 16000000
set_option maxRecDepth 100000
set_option linter.all false
namespace Go.Proofs.YtkkomffmnafjkaaGreatDoor
open Go
section
variable{P:Program}{md:Region.Mode}{S:World→Prop}{Q:Exit→Act→World→Prop}
theorem j50{x:Array Bool}{k:Nat}(h:k<x.size)(a b:Bool):x.getD k a=x.getD k b:=by simp[h]
end
open Go.RowKit
theorem y75{l:Array Bool}{i:Nat}(h:l.getD i true=false):(l.setIfInBounds i true).toList.count false<l.toList.count false:=by
 have hi:i<l.size:=by
  rcases Nat.lt_or_ge i l.size with h'|h';·exact h'
  ·simp[h']at h
 have hv:l.toList[i]'(by simpa using hi)=false:=by simpa[hi]using h
 rw[Array.toList_setIfInBounds,List.count_set (by simpa using hi),hv];have:0<l.toList.count false:=List.count_pos_iff.2 (by rw[←hv];exact List.getElem_mem _);rw[show(true==false)=false from rfl,show(false==false)=true from rfl];simp only[if_true,Bool.false_eq_true,if_false];omega
section
variable{P:Program}{md:Region.Mode}{Q:Exit→Act→World→Prop}
theorem v95{ops:Array Oper}(Inv:Array Bool→Act→World→Prop)(hstep:∀l a w,Inv l a w→∀i∈Region.ready md ops l,wpOp P ops Q i (fun a' w'=>Inv (l.setIfInBounds i true) a' w') a w)(hend:∀l a w,Inv l a w→Region.ready md ops l=[]→Q .normal a w):∀(f:Nat)(l:Array Bool)(a:Act)(w:World),l.toList.count false≤f→Inv l a w→wpAnyH P md ops Q (fun _=>True) f l a w
 |0,l,a,w,hc,hI=>by
  have hr:Region.ready md ops l=[]:=by refine List.eq_nil_iff_forall_not_mem.2 fun i hi=>?_;have:=y75 (mem_ready.1 hi).1;omega
  exact⟨hr,hend _ _ _ hI hr⟩
 |f+1,l,a,w,hc,hI=>⟨fun hr=>hend _ _ _ hI hr,fun i hi=>wpOp_mono (fun a' w' h=>⟨trivial,v95 Inv hstep hend f _ a' w' (by have:=y75 (mem_ready.1 hi).1;omega) h⟩) (hstep l a w hI i hi)⟩
end
def puts(a:Act):List Tmp→(Nat→Value)→Nat→Act|[],_,_=>a|s::r,vs,k=>puts (a.put (some s) (vs k)) r vs (k+1)
def upd(vs:Nat→Value)(i:Nat)(v:Value):Nat→Value:=fun j=>if j=i then v else vs j
theorem j150(a:Act)(s:Tmp)(u v:Value):(a.put (some s) u).put (some s) v=a.put (some s) v:=by
 simp only[Act.put,Act.mk.injEq,and_true];apply Array.ext;·simp
 ·intro i h1 h2;simp only[Array.size_setIfInBounds]at h1;by_cases h:s=i;·subst h;simp
  ·rw[Array.getElem_setIfInBounds_ne (by simpa using h1) h,Array.getElem_setIfInBounds_ne h1 h,Array.getElem_setIfInBounds_ne h1 h]
theorem k162(a:Act){s t:Tmp}(u v:Value)(h:s≠t):(a.put (some s) u).put (some t) v=(a.put (some t) v).put (some s) u:=by simp only[Act.put,Act.mk.injEq,and_true];exact Array.setIfInBounds_comm _ _ h
theorem k84(s:Tmp)(v:Value)(vs:Nat→Value):∀(slots:List Tmp)(a:Act)(k:Nat),s∉slots→(puts a slots vs k).put (some s) v=puts (a.put (some s) v) slots vs k
 |[],_,_,_=>rfl
 |t::r,a,k,h=>by have h1:t≠s:=fun e=>h (by simp[e]);have h2:s∉r:=fun e=>h (by simp[e]);simp only[puts];rw[k84 s v vs r _ _ h2,k162 _ _ _ h1]
theorem y84(vs:Nat→Value)(i:Nat)(v:Value):∀(slots:List Tmp)(a:Act)(k:Nat),i<k→puts a slots (upd vs i v) k=puts a slots vs k
 |[],_,_,_=>rfl
 |t::r,a,k,h=>by have e:upd vs i v k=vs k:=if_neg (by omega);simp only[puts,e];exact y84 vs i v r _ _ (by omega)
theorem j117(vs:Nat→Value)(v:Value):∀(slots:List Tmp)(a:Act)(k i:Nat)(s:Tmp),slots.Nodup→slots[i]?=some s→(puts a slots vs k).put (some s) v=puts a slots (upd vs (k+i) v) k
 |[],_,_,_,_,_,h=>by simp at h
 |t::r,a,k,0,s,hn,h=>by
  have hs:t=s:=by simpa using h
  subst hs;have e:upd vs k v k=v:=if_pos rfl;simp only[puts,Nat.add_zero,e];rw[k84 t v vs r _ _ (List.nodup_cons.1 hn).1,j150,y84 vs k v r _ _ (by omega)]
 |t::r,a,k,i+1,s,hn,h=>by have e:upd vs (k+(i+1)) v k=vs k:=if_neg (by omega);simp only[puts,e];rw[j117 vs v r _ (k+1) i s (List.nodup_cons.1 hn).2 (by simpa using h)];rw[show k+1+i=k+(i+1)by omega]
section
variable{P:Program}{Q:Exit→Act→World→Prop}
end
structure RInv(W:World)(F:Nat→Value→World→Prop)(al:Nat→Bool)(li:Array Bool)(vs:Nat→Value)(w:World):Prop where
 bel:Below W.heap.size W w
 facts:∀j,li.getD j false=true→F j (vs j) w
 apart:∀j k,al j=true→al k=true→j≠k→li.getD j false=true→li.getD k false=true→vs j≠vs k
section
variable{W:World}{F:Nat→Value→World→Prop}{al:Nat→Bool}{li:Array Bool}{vs:Nat→Value}{w w':World}{i:Nat}{v:Value}
theorem RInv.start(n:Nat)(hb:Below W.heap.size W w):RInv W F al (Array.replicate n false) vs w:=⟨hb,fun j h=>(by rw[getD_replicate_false]at h;cases h),fun j k _ _ _ h=>(by rw[getD_replicate_false]at h;cases h)⟩
theorem RInv.step(h:RInv W F al li vs w)(hmono:∀j v w w',F j v w→Below w.heap.size w w'→F j v w')(hb:Below w.heap.size w w')(hal:al i=false)(hF:F i v w'):RInv W F al (li.setIfInBounds i true) (upd vs i v) w':=by
 refine⟨q12 hb h.bel,fun j hj=>?_,fun j k hj hk hjk h1 h2=>?_⟩;·
  by_cases hji:j=i;·subst hji;rw[show upd vs j v j=v from if_pos rfl];exact hF
  ·rw[show upd vs i v j=vs j from if_neg hji];rw[getD_set_ne false (Ne.symm hji)]at hj;exact hmono _ _ _ _ (h.facts j hj) hb
 ·have hji:j≠i:=fun e=>by subst e;rw[hal]at hj;cases hj
  have hki:k≠i:=fun e=>by subst e;rw[hal]at hk;cases hk
  rw[show upd vs i v j=vs j from if_neg hji,show upd vs i v k=vs k from if_neg hki];rw[getD_set_ne false (Ne.symm hji)]at h1;rw[getD_set_ne false (Ne.symm hki)]at h2;exact h.apart j k hj hk hjk h1 h2
theorem RInv.new(h:RInv W F al li vs w)(hmono:∀j v w w',F j v w→Below w.heap.size w w'→F j v w')(hlt:∀k v w,al k=true→F k v w→∃b,v=.pointer (some ⟨b,0,none⟩)∧b<w.heap.size)(o:Obj)(hF:F i (.pointer (some ⟨w.heap.size,0,none⟩)) (w.alloc o)):RInv W F al (li.setIfInBounds i true) (upd vs i (.pointer (some ⟨w.heap.size,0,none⟩))) (w.alloc o):=by
 have hb:Below w.heap.size w (w.alloc o):=q11 (Below.refl _ _) _;have hold:∀k,al k=true→li.getD k false=true→vs k≠.pointer (some ⟨w.heap.size,0,none⟩):=fun k hk hl e=>by obtain⟨b,e2,hb⟩:=hlt k _ _ hk (h.facts k hl);rw[e2]at e;injection e with e;injection e with e;injection e with e;omega
 refine⟨q12 hb h.bel,fun j hj=>?_,fun j k hj hk hjk h1 h2=>?_⟩;·
  by_cases hji:j=i;·subst hji;rw[show upd vs j _ j=_ from if_pos rfl];exact hF
  ·rw[show upd vs i _ j=vs j from if_neg hji];rw[getD_set_ne false (Ne.symm hji)]at hj;exact hmono _ _ _ _ (h.facts j hj) hb
 ·by_cases hji:j=i;·have hki:k≠i:=fun e=>hjk (hji.trans e.symm);rw[getD_set_ne false (Ne.symm hki)]at h2;rw[show upd vs i _ j=_ from if_pos hji,show upd vs i _ k=vs k from if_neg hki];exact Ne.symm (hold k hk h2)
  ·rw[getD_set_ne false (Ne.symm hji)]at h1;rw[show upd vs i _ j=vs j from if_neg hji];by_cases hki:k=i;·rw[show upd vs i _ k=_ from if_pos hki];exact hold j hj h1
   ·rw[getD_set_ne false (Ne.symm hki)]at h2;rw[show upd vs i _ k=vs k from if_neg hki];exact h.apart j k hj hk hjk h1 h2
end
theorem w103{w:World}{b:Nat}{cs:Array Value}{T:TypeId}{f:Nat×Nat}(h:w.heap[b]?=some (.cells cs T f)):w.rangeAt b 0 cs.toList:=fun j v hv=>by rw[Nat.zero_add];exact j14 h (by simpa using hv)
theorem v150{w:World}{b n:Nat}{cs:Array Value}{T:TypeId}(h:w.heap[b]?=some (.cells cs T (0,0)))(hn:n=cs.size):w.there b 0 n:=fun j hj=>by rw[Nat.zero_add];subst hn;refine⟨?_,q13 h⟩;rw[bc j (v:=cs[j]) h (by simp[hj])];rfl
theorem w84{b:Nat}:∀(vs:List Value)(o:Nat)(w:World)(c:Nat),c≠b→(w.setCells b o vs).heap[c]?=w.heap[c]?
 |[],_,_,_,_=>rfl
 |v::r,o,w,c,h=>by rw[World.setCells,w84 r _ _ c h];exact Below.heap_setCell w _ v c h
theorem w75{b base:Nat}{W:World}(hb:base≤b):∀(vs:List Value)(o:Nat)(w:World),Below base W w→base≤W.heap.size→Below base W (w.setCells b o vs)
 |[],_,_,h,_=>h
 |v::r,o,w,h,hs=>by rw[World.setCells];exact w75 hb r _ _ (h.setCell hb v) hs
theorem q76{b:Nat}{T:TypeId}{f:Nat×Nat}:∀(vs pre old:List Value)(w:World),w.heap[b]?=some (.cells (pre++old).toArray T f)→old.length=vs.length→(w.setCells b pre.length vs).heap[b]?=some (.cells (pre++vs).toArray T f)
 |[],pre,old,w,h,hl=>by have:old=[]:=List.eq_nil_of_length_eq_zero hl;subst this;exact h
 |v::r,pre,old,w,h,hl=>by
  cases old with
   |nil=>cases hl
   |cons u old=>
    rw[World.setCells];have h1:=j15 (i:=pre.length) (v:=v) h;have e:((pre++u::old).toArray.setIfInBounds pre.length v)=((pre++[v])++old).toArray:=by simp
    rw[e]at h1;have h2:=q76 r (pre++[v]) old _ h1 (by simpa using hl);rw[show(pre++[v]).length=pre.length+1 by simp]at h2;rw[h2];simp
structure Stored(w:World)(b:Nat)(cs:Array Value)(T:TypeId)(w':World):Prop where
 blk:w'.heap[b]?=some (.cells cs T (0,0))
 ne:∀c,c≠b→w'.heap[c]?=w.heap[c]?
 bel:∀W,Below W.heap.size W w→W.heap.size≤b→Below W.heap.size W w'
theorem k150{w:World}{b:Nat}{old cs:Array Value}{T:TypeId}(h:w.heap[b]?=some (.cells old T (0,0)))(hs:old.size=cs.size):Stored w b cs T (w.setCells b 0 cs.toList):=by refine⟨?_,fun c hc=>w84 _ _ _ c hc,fun W h1 h2=>w75 h2 _ _ _ h1 (Nat.le_refl _)⟩;have h1:=q76 (b:=b) (T:=T) (f:=(0,0)) cs.toList [] old.toList w (by simpa using h) (by simpa using hs);simpa using h1
section
variable{P:Program}{Q:Exit→Act→World→Prop}
theorem q165{ops:Array Oper}{rest:List Oper}{op:Oper}{a:Act}{w:World}(hgd:op.guard=none)(ty:TypeId)(x:Operand)(ho:op.op=.load ty x){b:Nat}(hx:a.eval x=.pointer (some ⟨b,0,none⟩)){cs:Array Value}{f:Nat×Nat}(hb:w.heap[b]?=some (.cells cs ty f))(d:TypeDesc)(hu:P.underlying ty=some d)(hd:d.isRow=true)(hi:(P.info? ty).map (·.size)=some cs.size)(h:wpList P ops Q rest (a.put op.dst (.agg cs)) w):wpList P ops Q (op::rest) a w:=wpList_load_mid hgd ty x ho b 0 hx cs.toList d (w103 hb) hu hd (by simpa using hi) (by simpa using h)
theorem q85{op:Oper}{a:Act}{w:World}{K:Act→World→Prop}(ty:TypeId)(x:Operand)(ho:op.op=.load ty x){b:Nat}(hx:a.eval x=.pointer (some ⟨b,0,none⟩)){cs:Array Value}{f:Nat×Nat}(hb:w.heap[b]?=some (.cells cs ty f))(d:TypeDesc)(hu:P.underlying ty=some d)(hd:d.isRow=true)(hi:(P.info? ty).map (·.size)=some cs.size)(h:K (a.put op.dst (.agg cs)) w):op.wp P a w K Q:=wp_load_mid ty x ho b 0 hx cs.toList d (w103 hb) hu hd (by simpa using hi) (by simpa using h)
theorem q20{ops:Array Oper}{rest:List Oper}{op:Oper}{a:Act}{w:World}(hgd:op.guard=none)(ty:TypeId)(x y:Operand)(ho:op.op=.store ty x y){b:Nat}{cs:Array Value}(hx:a.eval x=.pointer (some ⟨b,0,none⟩))(hy:a.eval y=.agg cs){old:Array Value}(hb:w.heap[b]?=some (.cells old ty (0,0)))(hs:old.size=cs.size)(hi:(P.info? ty).map (·.size)=some cs.size)(h1:cs.all (·.oneCell')=true)(h:∀w',Stored w b cs ty w'→wpList P ops Q rest (a.put op.dst undef) w'):wpList P ops Q (op::rest) a w:=wpList_store_mid hgd ty x y ho b 0 cs hx hy (v150 hb hs.symm) hi h1 (h _ (k150 hb hs))
end
section
variable{P:Program}{Q:Exit→Act→World→Prop}
end
structure CopyInv(W:World)(n:Nat)(C Z:Array Value)(T:TypeId)(li:Array Bool)(vs:Nat→Value)(w:World):Prop where
 bel:Below W.heap.size W w
 ld:∀j,j<n→li.getD j false=true→vs j=.agg C
 al:∀j,j<n→li.getD (n+j) false=true→∃b,W.heap.size≤b∧vs (n+j)=.pointer (some ⟨b,0,none⟩)∧w.heap[b]?=some (.cells (if li.getD (2*n+j) false=true then C else Z) T (0,0))
 wait:∀j,j<n→li.getD (2*n+j) false=true→li.getD (n+j) false=true
 apart:∀j k,j<n→k<n→j≠k→li.getD (n+j) false=true→li.getD (n+k) false=true→vs (n+j)≠vs (n+k)
section
variable{W w w':World}{n:Nat}{C Z:Array Value}{T:TypeId}{li:Array Bool}{vs:Nat→Value}{j N:Nat}
theorem CopyInv.start(hb:Below W.heap.size W w):CopyInv W n C Z T (Array.replicate N false) vs w:=by
 refine⟨hb,?_,?_,?_,?_⟩;·intro j _ h;rw[getD_replicate_false]at h;cases h
 ·intro j _ h;rw[getD_replicate_false]at h;cases h
 ·intro j _ h;rw[getD_replicate_false]at h;cases h
 ·intro j k _ _ _ h;rw[getD_replicate_false]at h;cases h
theorem CopyInv.load(h:CopyInv W n C Z T li vs w)(hj:j<n):CopyInv W n C Z T (li.setIfInBounds j true) (upd vs j (.agg C)) w:=by
 have hg:∀k,k≠j→(li.setIfInBounds j true).getD k false=li.getD k false:=fun k hk=>getD_set_ne false (Ne.symm hk);have hu:∀k,k≠j→upd vs j (.agg C) k=vs k:=fun k hk=>if_neg hk;refine⟨h.bel,fun k hk hl=>?_,fun k hk hl=>?_,fun k hk hl=>?_,fun i k hi hk hik h1 h2=>?_⟩;·
  by_cases e:k=j;·subst e;exact if_pos rfl
  ·rw[hu k e];rw[hg k e]at hl;exact h.ld k hk hl
 ·rw[hg _ (by omega)]at hl;rw[hg _ (by omega),hu _ (by omega)];exact h.al k hk hl
 ·rw[hg _ (by omega)]at hl⊢;exact h.wait k hk hl
 ·rw[hg _ (by omega)]at h1 h2;rw[hu _ (by omega),hu _ (by omega)];exact h.apart i k hi hk hik h1 h2
theorem CopyInv.alloc(h:CopyInv W n C Z T li vs w)(hj:j<n)(hnot:li.getD (n+j) true=false):CopyInv W n C Z T (li.setIfInBounds (n+j) true) (upd vs (n+j) (.pointer (some ⟨w.heap.size,0,none⟩))) (w.alloc (.cells Z T)):=by
 have hg:∀k,k≠n+j→(li.setIfInBounds (n+j) true).getD k false=li.getD k false:=fun k hk=>getD_set_ne false (Ne.symm hk);have hu:∀k,k≠n+j→upd vs (n+j) (.pointer (some ⟨w.heap.size,0,none⟩)) k=vs k:=fun k hk=>if_neg hk;have hb:Below w.heap.size w (w.alloc (.cells Z T)):=q11 (Below.refl _ _) _;have hnf:li.getD (n+j) false=false:=by
  rcases Nat.lt_or_ge (n+j) li.size with h1|h1;·rw[j50 h1 false true];exact hnot
  ·simp[h1]at hnot
 have hns:li.getD (2*n+j) false=false:=by cases e:li.getD (2*n+j) false with|false=>rfl|true=>have:=h.wait j hj e;rw[hnf]at this;cases this
 have hold:∀k,k<n→li.getD (n+k) false=true→vs (n+k)≠.pointer (some ⟨w.heap.size,0,none⟩):=fun k hk hl e=>by obtain⟨b,_,e2,hb2⟩:=h.al k hk hl;rw[e2]at e;injection e with e;injection e with e;injection e with e;have:=q14 hb2;omega
 refine⟨q12 hb h.bel,fun k hk hl=>?_,fun k hk hl=>?_,fun k hk hl=>?_,fun i k hi hk hik h1 h2=>?_⟩;·rw[hu _ (by omega)];rw[hg _ (by omega)]at hl;exact h.ld k hk hl
 ·rw[hg (2*n+k) (by omega)];by_cases e:k=j;·subst e;refine⟨w.heap.size,h.bel.size,if_pos rfl,?_⟩;rw[hns];exact j17 rfl
  ·rw[hg _ (by omega)]at hl;rw[hu _ (by omega)];obtain⟨b,h1,h2,h3⟩:=h.al k hk hl;exact⟨b,h1,h2,j3 hb h3⟩
 ·by_cases e:k=j;·subst e;rw[hg _ (by omega)]at hl;rw[hns]at hl;cases hl
  ·rw[hg _ (by omega)]at hl;rw[hg _ (by omega)];exact h.wait k hk hl
 ·by_cases e:i=j;·subst e;rw[hg _ (by omega)]at h2;rw[show upd vs (n+i) _ (n+i)=_ from if_pos rfl,hu _ (by omega)];exact Ne.symm (hold k hk h2)
  ·rw[hg _ (by omega)]at h1;rw[hu (n+i) (by omega)];by_cases e2:k=j;·subst e2;rw[show upd vs (n+k) _ (n+k)=_ from if_pos rfl];exact hold i hi h1
   ·rw[hg _ (by omega)]at h2;rw[hu _ (by omega)];exact h.apart i k hi hk hik h1 h2
theorem CopyInv.store(h:CopyInv W n C Z T li vs w)(hj:j<n)(hal:li.getD (n+j) false=true)(hsz:2*n+j<li.size){b:Nat}(hv:vs (n+j)=.pointer (some ⟨b,0,none⟩))(hWb:W.heap.size≤b)(hst:Stored w b C T w')(v:Value):CopyInv W n C Z T (li.setIfInBounds (2*n+j) true) (upd vs (2*n+j) v) w':=by
 have hg:∀k,k≠2*n+j→(li.setIfInBounds (2*n+j) true).getD k false=li.getD k false:=fun k hk=>getD_set_ne false (Ne.symm hk);have hgs:(li.setIfInBounds (2*n+j) true).getD (2*n+j) false=true:=by simp[hsz]
 have hu:∀k,k≠2*n+j→upd vs (2*n+j) v k=vs k:=fun k hk=>if_neg hk;refine⟨hst.bel W h.bel hWb,fun k hk hl=>?_,fun k hk hl=>?_,fun k hk hl=>?_,fun i k hi hk hik h1 h2=>?_⟩;·rw[hu _ (by omega)];rw[hg _ (by omega)]at hl;exact h.ld k hk hl
 ·rw[hg _ (by omega)]at hl;rw[hu _ (by omega)];by_cases e:k=j;·subst e;refine⟨b,hWb,hv,?_⟩;rw[hgs];exact hst.blk
  ·rw[hg (2*n+k) (by omega)];obtain⟨b',h1,h2,h3⟩:=h.al k hk hl;refine⟨b',h1,h2,?_⟩;rw[hst.ne b' (fun eb=>h.apart k j hk hj e hl hal (by rw[h2,hv,eb]))];exact h3
 ·rw[hg (n+k) (by omega)];by_cases e:k=j;·subst e;exact hal
  ·rw[hg _ (by omega)]at hl;exact h.wait k hk hl
 ·rw[hg _ (by omega)]at h1 h2;rw[hu _ (by omega),hu _ (by omega)];exact h.apart i k hi hk hik h1 h2
end
section
variable{P:Program}{Q:Exit→Act→World→Prop}
theorem q204{op:Oper}{a:Act}{w:World}{K:Act→World→Prop}(ty:TypeId)(x y:Operand)(ho:op.op=.store ty x y){b:Nat}{cs:Array Value}(hx:a.eval x=.pointer (some ⟨b,0,none⟩))(hy:a.eval y=.agg cs){old:Array Value}(hb:w.heap[b]?=some (.cells old ty (0,0)))(hs:old.size=cs.size)(hi:(P.info? ty).map (·.size)=some cs.size)(h1:cs.all (·.oneCell')=true)(h:∀w',Stored w b cs ty w'→K (a.put op.dst undef) w'):op.wp P a w K Q:=wp_store_mid ty x y ho b 0 cs hx hy (v150 hb hs.symm) hi h1 (h _ (k150 hb hs))
end
theorem x162(a:Act)(s:Tmp)(h:s<a.tmps.size):a.put (some s) (a.tmps[s]!)=a:=by
 obtain⟨t,d⟩:=a;simp only[Act.put,Act.mk.injEq,and_true];apply Array.ext;·simp
 ·intro i h1 h2;simp only[Array.size_setIfInBounds]at h1;by_cases hs:s=i;·subst hs;rw[Array.getElem_setIfInBounds_self];exact getElem!_pos t s h1
  ·rw[Array.getElem_setIfInBounds_ne (by simpa using h1) hs]
theorem z104(a:Act)(vs:Nat→Value):∀(slots:List Tmp)(k:Nat),(∀i(s:Tmp),slots[i]?=some s→s<a.tmps.size∧vs (k+i)=a.tmps[s]!)→puts a slots vs k=a
 |[],_,_=>rfl
 |t::r,k,h=>by
  obtain⟨h1,h2⟩:=h 0 t rfl;simp only[puts];rw[show vs k=a.tmps[t]! from h2,x162 a t h1];exact z104 a vs r (k+1) fun i s hs=>by have:=h (i+1) s (by simpa using hs);rw[show k+1+i=k+(i+1)by omega];exact this
section
variable{P:Program}{Q:Exit→Act→World→Prop}
end
def backG(l:List Oper):Bool:=(List.range l.length).all fun j=>match l[j]? with|some o=>o.after.all fun e=>!Region.binds .any e||decide (e.on<j)|none=>false
theorem y185{l:List Oper}{j:Nat}(h:backG l=true)(hj:j<l.length):∃o,l[j]?=some o∧∀e∈o.after,Region.binds .any e=true→e.on<j:=by
 have h1:=List.all_eq_true.1 h j (List.mem_range.2 hj);split at h1;·rename_i o ho;simp only[Array.all_eq_true_iff_forall_mem,Bool.or_eq_true,Bool.not_eq_true',decide_eq_true_eq]at h1;exact⟨o,ho,fun e he hb=>(h1 e he).resolve_left (by rw[hb];simp)⟩
 ·cases h1
section
variable{P:Program}{Q:Exit→Act→World→Prop}
end
theorem x166{li:Array Bool}{i j:Nat}(h:li.getD j false=true):(li.setIfInBounds i true).getD j false=true:=by
 by_cases hji:i=j;·
  subst hji;rcases Nat.lt_or_ge i li.size with h'|h';·simp[h']
  ·simp[h']at h
 ·rw[getD_set_ne false hji];exact h
theorem w185{li:Array Bool}{i:Nat}(h:li.getD i true=false):(li.setIfInBounds i true).getD i false=true:=by
 rcases Nat.lt_or_ge i li.size with h'|h';·simp[h']
 ·simp[h']at h
theorem z186{li:Array Bool}{i:Nat}(h:li.getD i true=false)(h2:li.getD i false=true):False:=by
 rcases Nat.lt_or_ge i li.size with h'|h';·simp[h']at h h2;rw[h]at h2;cases h2
 ·simp[h']at h2
theorem v184(s:Tmp)(vs:Nat→Value):∀(slots:List Tmp)(a:Act)(k:Nat),s∉slots→(puts a slots vs k).eval (.tmp s)=a.eval (.tmp s)
 |[],_,_,_=>rfl
 |t::r,a,k,h=>by have h1:t≠s:=fun e=>h (by simp[e]);have h2:s∉r:=fun e=>h (by simp[e]);simp only[puts];rw[v184 s vs r _ _ h2];simp only[Act.eval,Act.put];rw[Array.getD_eq_getD_getElem?,Array.getD_eq_getD_getElem?,Array.getElem?_setIfInBounds_ne h1]
theorem k184(vs:Nat→Value):∀(slots:List Tmp)(a:Act)(k i:Nat)(s:Tmp),slots.Nodup→slots[i]?=some s→s<a.tmps.size→(puts a slots vs k).eval (.tmp s)=vs (k+i)
 |[],_,_,_,_,_,h,_=>by simp at h
 |t::r,a,k,0,s,hn,h,hs=>by
  have ht:t=s:=by simpa using h
  subst ht;simp only[puts];rw[v184 t vs r _ _ (List.nodup_cons.1 hn).1];simp only[Act.eval,Act.put,Nat.add_zero];rw[Array.getD_eq_getD_getElem?,Array.getElem?_setIfInBounds_self_of_lt hs];rfl
 |t::r,a,k,i+1,s,hn,h,hs=>by simp only[puts];rw[k184 vs r _ (k+1) i s (List.nodup_cons.1 hn).2 (by simpa using h) (by simpa[Act.put]using hs),show k+1+i=k+(i+1)by omega]
theorem y43{B:Act}{s:Tmp}{v:Value}(h:B.eval (.tmp s)=v):B.tmps[s]?.getD undef=v:=by rw[←h];simp[Act.eval]
section
variable{P:Program}{Q:Exit→Act→World→Prop}
end
section
variable{W:World}{F:Nat→Value→World→Prop}{al:Nat→Bool}{li:Array Bool}{vs:Nat→Value}{w w':World}{i:Nat}{v:Value}{K:Act→World→Prop}{φ:Value→Act}
theorem st0(h:RInv W F al li vs w)(hmono:∀j v w w',F j v w→Below w.heap.size w w'→F j v w')(hK:Hid (∀v w',RInv W F al (li.setIfInBounds i true) (upd vs i v) w'→K (φ v) w'))(hal:al i=false)(hF:F i v w):K (φ v) w:=hK.out _ _ (h.step hmono (Below.refl _ _) hal hF)
variable{af:Array Edge}
theorem fv(hI:RInv W F al li vs w)(hdep:∀e∈af,Region.binds .any e=true→li.getD e.on false=true)(j:Nat)(hm:(⟨j,.data⟩:Edge)∈af):F j (vs j) w:=hI.facts j (hdep _ hm rfl)
end
variable{P:Program}{Q:Exit→Act→World→Prop}
theorem upd_same(vs:Nat→Value)(i:Nat):upd vs i (vs i)=vs:=by
 funext j;unfold upd;split;·next h=>rw[h]
 ·rfl
theorem z199{id:Nat}{l:List Oper}{a:Act}{w:World}(n:Nat)(hn:n=l.length)(hm:P.follows .mixedOrders=true)(hB:backG l=true)(hgd:l.all (fun o=>decide (o.guard=none))=true)(slots:List Tmp)(hsl:slots.Nodup)(hlen:slots.length=l.length)(hd:(l.zip slots).all (fun p=>decide (p.1.dst=some p.2)||decide (p.1.dst=none))=true)(INV:Array Bool→(Nat→Value)→World→Prop)(h0:slots.all (fun s=>decide (s<a.tmps.size))=true)(h1:∀vs,INV (Array.replicate n false) vs w.drew)(hstep:∀i o li vs w1 B,Hid (puts a slots vs 0=B)→Hid (∀(j:Nat)(s:Tmp),slots[j]?=some s→B.eval (.tmp s)=vs j)→l[i]?=some o→i<n→li.getD i true=false→(∀e∈o.after,Region.binds .any e=true→li.getD e.on false=true)→INV li vs w1→∀K:Act→World→Prop,Hid (∀v w',(o.dst=none→v=vs i)→INV (li.setIfInBounds i true) (upd vs i v) w'→K (B.put o.dst v) w')→o.wp P B w1 K Q)(hend:∀li vs w1,(∀j,j<n→li.getD j false=true)→INV li vs w1→wpList P l.toArray Q [] (puts a slots vs 0) w1):(Code.region id l.toArray true).wp P Q a w:=by
 have hlt:∀(j:Nat)(s:Tmp),slots[j]?=some s→s<a.tmps.size:=fun j s hj=>of_decide_eq_true (List.all_eq_true.1 h0 s (List.mem_of_getElem? hj));have hev:∀vs(j:Nat)(s:Tmp),slots[j]?=some s→(puts a slots vs 0).eval (.tmp s)=vs j:=fun vs j s hj=>by rw[k184 vs slots a 0 j s hsl hj (hlt j s hj),Nat.zero_add]
 subst hn;refine wp_region_any hm ?_;refine wpAny_of_held (S:=fun _=>True) _ _ _ _ ?_;rw[show l.toArray.size=l.length by simp];refine v95 (fun li x w1=>li.size=l.length∧∃vs,x=puts a slots vs 0∧INV li vs w1) ?_ ?_ _ _ _ _ (by simp) ⟨by simp,fun j=>a.tmps[slots[j]!]!,?_,h1 _⟩;·
  rintro li x w1⟨hsz,vs,rfl,hI⟩i hi;obtain⟨hu,o,ho,hdep⟩:=mem_ready.1 hi;have hin:i<l.length:=by have:=(Array.getElem?_eq_some_iff.1 ho).1;simpa using this
  have hol:l[i]?=some o:=by rw[List.getElem?_toArray]at ho;exact ho
  have hgo:o.guard=none:=of_decide_eq_true (List.all_eq_true.1 hgd o (List.mem_of_getElem? hol));have key:=hstep i o li vs w1 _ rfl (fun j s hj=>hev vs j s hj) hol hin hu hdep hI (fun a' w'=>li.size=l.length→(li.setIfInBounds i true).size=l.length∧∃vs,a'=puts a slots vs 0∧INV (li.setIfInBounds i true) vs w') (fun v w' hv hI' _=>by
   refine⟨by simpa using hsz,upd vs i v,?_,hI'⟩;obtain⟨s,hsi⟩:∃s,slots[i]?=some s:=⟨_,List.getElem?_eq_getElem (by omega)⟩;have hz:(o,s)∈l.zip slots:=List.mem_of_getElem? (i:=i) (by rw[List.getElem?_zip_eq_some];exact⟨hol,hsi⟩);have h2:=List.all_eq_true.1 hd _ hz;simp only[Bool.or_eq_true,decide_eq_true_eq]at h2;rcases h2 with h2|h2;·rw[h2,j117 vs v slots a 0 i s hsl hsi,Nat.zero_add]
   ·rw[hv h2,upd_same,h2];rfl);unfold wpOp;have hwn:Region.wanted o (yielded l.toArray (puts a slots vs 0).tmps)=true:=by unfold Region.wanted;rw[hgo]
  simp only[ho,hwn,if_true];exact .inl (Oper.wp_mono (fun _ _ h=>h hsz) key)
 ·rintro li x w1⟨hsz,vs,rfl,hI⟩hr;refine hend li vs w1 ?_ hI;intro j;induction j using Nat.strongRecOn with
   |_ j ih=>
    intro hj;cases hu:li.getD j true with
     |true=>rw[j50 (by omega) false true];exact hu
     |false=>
      obtain⟨o,ho,ha⟩:=y185 hB hj;have:j∈Region.ready .any l.toArray li:=mem_ready.2 ⟨hu,o,by rw[List.getElem?_toArray];exact ho,fun e hm hbn=>by have hlt:=ha e hm hbn;exact ih e.on hlt (by omega)⟩;rw[hr]at this;cases this
 ·refine(z104 a _ slots 0 fun i s hs=>⟨hlt i s hs,?_⟩).symm;simp only[Nat.zero_add];rw[List.getElem!_eq_getElem?_getD,hs];rfl
theorem getD_set_ne{li:Array Bool}{i j:Nat}{b d:Bool}(h:i≠j):(li.setIfInBounds i b).getD j d=li.getD j d:=by simp only[Array.getD_eq_getD_getElem?,Array.getElem?_setIfInBounds_ne h]
theorem k29{li:Array Bool}{i:Nat}:(li.setIfInBounds i false).getD i false=false:=by simp only[Array.getD_eq_getD_getElem?,Array.getElem?_setIfInBounds_self];split<;>rfl
theorem off_le{li:Array Bool}{i j:Nat}(h:(li.setIfInBounds i false).getD j false=true):li.getD j false=true:=by
 by_cases e:i=j;·subst e;rw[k29]at h;cases h
 ·rwa[getD_set_ne e]at h
theorem RInv.less{W:World}{F:Nat→Value→World→Prop}{al:Nat→Bool}{li li':Array Bool}{vs:Nat→Value}{w:World}(h:RInv W F al li vs w)(hl:∀j,li'.getD j false=true→li.getD j false=true):RInv W F al li' vs w:=⟨h.bel,fun j hj=>h.facts j (hl j hj),fun j k h1 h2 h3 h4 h5=>h.apart j k h1 h2 h3 (hl j h4) (hl k h5)⟩
theorem RInv.upd_off{W:World}{F:Nat→Value→World→Prop}{al:Nat→Bool}{li li':Array Bool}{vs:Nat→Value}{w:World}(h:RInv W F al li vs w)(i:Nat)(v:Value)(hi:li'.getD i false=false)(hl:∀j,li'.getD j false=true→li.getD j false=true):RInv W F al li' (upd vs i v) w:=by
 have e:∀j,li'.getD j false=true→upd vs i v j=vs j:=fun j hj=>if_neg fun h2=>by rw[h2,hi]at hj;cases hj
 exact⟨h.bel,fun j hj=>by rw[e j hj];exact h.facts j (hl j hj),fun j k h1 h2 h3 h4 h5=>by rw[e j h4,e k h5];exact h.apart j k h1 h2 h3 (hl j h4) (hl k h5)⟩
end Go.Proofs.YtkkomffmnafjkaaGreatDoor
