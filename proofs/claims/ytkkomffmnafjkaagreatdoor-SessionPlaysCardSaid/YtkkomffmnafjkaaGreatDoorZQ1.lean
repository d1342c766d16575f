/- A drawn region whose last operations wait for all others and stand in a row: .. -/
import Derived.Deep.RegionHeld
import Derived.StillTail
set_option maxHeartbeats 16000000
set_option maxRecDepth 100000
set_option linter.all false
namespace Go.Proofs.YtkkomffmnafjkaaGreatDoor
abbrev ar_:=@List.getElem?_toArray
abbrev aM_:=@Go.getD_replicate_false
abbrev bc_:=@Go.getD_set_ne
abbrev bO_:=@Go.mem_ready
open Go
def w79(P:Program)(ops:Array Oper)(Q:Exit→Act→World→Prop)(tail:List Oper):Exit→Act→World→Prop|.normal,a,w=>wpList P ops Q tail a w|e,a,w=>Q e a w
section
variable{P:Program}{md:Region.Mode}{S:World→Prop}{Q:Exit→Act→World→Prop}
theorem w116{ops:Array Oper}{tail:List Oper}{o:Oper}{a:Act}{w:World}{K:Act→World→Prop}(h:o.wp P a w K (w79 P ops Q tail)):o.wp P a w K Q:=by
 unfold Oper.wp at*;generalize(execOp a.eval o).run P w=r at*;cases r with
  |ok n w'=>cases n<;>simp only[Oper.upon]at h⊢<;>first|exact h|exact Calls.mono h (fun e w'' he=>by cases e<;>exact he)
  |halt x w'=>cases x<;>simp only[Oper.upon]at h⊢<;>exact h
def backB(md:Region.Mode)(l:List Oper)(n:Nat):Bool:=(List.range n).all fun j=>match l[j]? with|some o=>o.guard.isNone&&o.after.all fun e=>!Region.binds md e||decide (e.on<j)|none=>false
theorem j59{l:List Oper}{n j:Nat}(h:backB md l n=true)(hj:j<n):∃o,l[j]?=some o∧o.guard=none∧∀e∈o.after,Region.binds md e=true→e.on<j:=by
 have h1:=List.all_eq_true.1 h j (List.mem_range.2 hj);split at h1;·rename_i o ho;simp only[Bool.and_eq_true,Option.isNone_iff_eq_none,Array.all_eq_true_iff_forall_mem,Bool.or_eq_true,Bool.not_eq_true',decide_eq_true_eq]at h1;exact⟨o,ho,h1.1,fun e he hb=>(h1.2 e he).resolve_left (by rw[hb];simp)⟩
 ·cases h1
def w63(n g:Nat):Array Bool:=(List.replicate n true++List.replicate g false).toArray
def splitB(md:Region.Mode)(l:List Oper)(n:Nat):Bool:=decide (n<l.length)&&Region.sinkB md l.toArray n&&Region.chainB md l.toArray n&&backB md l n&&Region.seqB md l.toArray (l.length-n) n (w63 n (l.length-n))
theorem j50{x:Array Bool}{k:Nat}(h:k<x.size)(a b:Bool):x.getD k a=x.getD k b:=by simp[h]
theorem w55{ops:Array Oper}{Q':Exit→Act→World→Prop}:∀(l:List Oper)(k:Nat)(listed:Array Bool)(a:Act)(w:World)(g:Nat),(∀j,l[j]?=ops[k+j]?)→Region.seqB md ops l.length k listed=true→wpList P ops Q' l a w→l.length≤g→wpAny P md ops Q' g listed a w
 |[],_,listed,_,_,g,_,hB,h,_=>by
  have hr:Region.ready md ops listed=[]:=by simpa[Region.seqB]using hB
  cases g with|zero=>exact⟨hr,h⟩|succ g=>exact⟨fun _=>h,fun i hi=>by rw[hr]at hi;cases hi⟩
 |o::l,k,listed,a,w,0,_,_,_,hg=>by simp at hg
 |o::l,k,listed,a,w,g+1,hl,hB,h,hg=>by
  have h0:ops[k]?=some o:=by simpa using(hl 0).symm
  simp only[List.length_cons,Region.seqB,Bool.and_eq_true,decide_eq_true_eq]at hB;refine⟨fun h1=>(by rw[hB.1]at h1;cases h1),fun i hi=>?_⟩;rw[hB.1]at hi;have hik:i=k:=by simpa using hi
  subst hik;have hw:wpOp P ops Q' i (wpList P ops Q' l) a w:=by unfold wpOp;simp only[h0];exact h
  exact wpOp_mono (fun a' w' h'=>w55 l (i+1) _ a' w' g (fun j=>by have:=hl (j+1);simpa[Nat.add_assoc,Nat.add_comm 1 j]using this) hB.2 h' (by simpa using hg)) hw
theorem q117{l tail:List Oper}{n i:Nat}{o:Oper}{K K':Act→World→Prop}{a:Act}{w:World}(hi:i<n)(ho:l[i]?=some o)(hg:o.guard=none)(hK:∀a w,K a w→K' a w)(h:wpOp P (l.take n).toArray (w79 P l.toArray Q tail) i K a w):wpOp P l.toArray Q i K' a w:=by
 have h1:((l.take n).toArray)[i]?=some o:=by rw[ar_,List.getElem?_take_of_lt hi];exact ho
 have h2:(l.toArray)[i]?=some o:=by rw[ar_];exact ho
 have hw:∀y,Region.wanted o y=true:=fun y=>by unfold Region.wanted;rw[hg]
 refine wpOp_mono hK ?_;unfold wpOp at*;simp only[h1,h2,hw,if_true]at*;exact h.imp w116 id
theorem z99{l:List Oper}{n:Nat}(hB:splitB md l n=true):∀(f:Nat)(lh li:Array Bool)(a:Act)(w:World),HeadInv md l.toArray n li→lh.size=n→(∀i,i<n→lh.getD i true=li.getD i true)→wpAnyH P md (l.take n).toArray (w79 P l.toArray Q (l.drop n)) S f lh a w→wpAny P md l.toArray Q (f+(l.length-n)) li a w:=by
 simp only[splitB,Bool.and_eq_true,decide_eq_true_eq]at hB;obtain⟨⟨⟨⟨hn,hs⟩,hc⟩,hb⟩,hq⟩:=hB;have hsz:n<l.toArray.size:=by simpa using hn
 have hrd:∀(lh li:Array Bool),li.size=l.toArray.size→lh.size=n→(∀i,i<n→lh.getD i true=li.getD i true)→∀i,i<n→(i∈Region.ready md (l.take n).toArray lh↔i∈Region.ready md l.toArray li):=by
  intro lh li hli hlh he i hi;obtain⟨o,ho,hg,ha⟩:=j59 hb hi;have h1:((l.take n).toArray)[i]?=some o:=by rw[ar_,List.getElem?_take_of_lt hi];exact ho
  have h2:(l.toArray)[i]?=some o:=by rw[ar_];exact ho
  have hk:∀k,k<n→lh.getD k false=li.getD k false:=fun k hk=>by rw[j50 (by omega) false true,j50 (x:=li) (by omega) false true];exact he k hk
  rw[bO_,bO_,he i hi];constructor;·rintro⟨hu,o',ho',h⟩;rw[h1]at ho';injection ho' with ho';subst ho';exact⟨hu,o,h2,fun e hm hbn=>by rw[←hk _ (by have:=ha e hm hbn;omega)];exact h e hm hbn⟩
  ·rintro⟨hu,o',ho',h⟩;rw[h2]at ho';injection ho' with ho';subst ho';exact⟨hu,o,h1,fun e hm hbn=>by rw[hk _ (by have:=ha e hm hbn;omega)];exact h e hm hbn⟩
 have hall:∀(lh:Array Bool),lh.size=n→Region.ready md (l.take n).toArray lh=[]→∀i,i<n→lh.getD i true=true:=by
  intro lh hlh hr i;induction i using Nat.strongRecOn with
   |_ i ih=>
    intro hi;cases hu:lh.getD i true with
     |true=>rfl
     |false=>
      obtain⟨o,ho,hg,ha⟩:=j59 hb hi;have:i∈Region.ready md (l.take n).toArray lh:=bO_.2 ⟨hu,o,by rw[ar_,List.getElem?_take_of_lt hi];exact ho,fun e hm hbn=>by have hlt:=ha e hm hbn;rw[j50 (by omega) false true];exact ih e.on hlt (by omega)⟩;rw[hr]at this;cases this
 have hend:∀(f:Nat)(lh li:Array Bool)(a:Act)(w:World),HeadInv md l.toArray n li→lh.size=n→(∀i,i<n→lh.getD i true=li.getD i true)→Region.ready md (l.take n).toArray lh=[]→wpList P l.toArray Q (l.drop n) a w→wpAny P md l.toArray Q (f+(l.length-n)) li a w:=by
  intro f lh li a w inv hlh he hr h;have hL:li=w63 n (l.length-n):=by
   have hls:li.size=l.length:=by simpa using inv.size
   apply Array.ext;·simp[w63];omega
   ·intro i h1 h2;by_cases hi:i<n;·have h3:=hall lh hlh hr i hi;rw[he i hi]at h3;simp[h1]at h3;simp[w63,hi,h3]
    ·have h3:=inv.tail i (by omega) (by simpa using(by omega:i<l.length));simp[h1]at h3;simp[w63,List.getElem_append,hi,h3]
  have hdl:(l.drop n).length=l.length-n:=by simp
  refine w55 (l.drop n) n li a w _ (fun j=>by simp[List.getElem?_drop]) (by rw[hL,hdl];exact hq) h (by omega)
 intro f;induction f with
  |zero=>intro lh li a w inv hlh he h;exact hend 0 lh li a w inv hlh he h.1 h.2
  |succ f ih=>
   intro lh li a w inv hlh he h;cases hr:Region.ready md (l.take n).toArray lh with
    |nil=>exact hend (f+1) lh li a w inv hlh he hr (h.1 hr)
    |cons i0 rest=>
     have hi0:i0∈Region.ready md (l.take n).toArray lh:=by rw[hr];exact List.mem_cons_self ..
     have hi0n:i0<n:=by obtain⟨_,o,ho,_⟩:=bO_.1 hi0;have:=(Array.getElem?_eq_some_iff.1 ho).1;simp at this;omega
     have hi0':=(hrd lh li inv.size hlh he i0 hi0n).1 hi0;rw[show f+1+(l.length-n)=(f+(l.length-n))+1 by omega];refine⟨fun h0=>(by rw[h0]at hi0';cases hi0'),fun i hi=>?_⟩;have hin:i<n:=by
      rcases Nat.lt_or_ge i n with h'|h';·exact h'
      ·exact absurd hi (tail_waits hs hc hsz inv _ i0 rfl hi0n (bO_.1 hi0').1 i h')
     have hih:=(hrd lh li inv.size hlh he i hin).2 hi;obtain⟨o,ho,hg,_⟩:=j59 hb hin;refine q117 hin ho hg (fun a' w' h'=>ih (lh.setIfInBounds i true) (li.setIfInBounds i true) a' w' (inv.set hi hin) (by simpa using hlh) (fun k hk=>?_) h'.2) (h.2 i hih);by_cases hik:i=k;·
      subst hik;have hls:li.size=l.length:=by simpa using inv.size
      simp[hlh,hls,hk,show i<l.length by omega]
     ·rw[bc_ true hik,bc_ true hik];exact he k hk
theorem j95{id:Nat}{a:Act}{w:World}{l:List Oper}(n:Nat)(hm:P.follows .mixedOrders=true)(hB:splitB .any l n=true)(hS:S w.drew)(h:S w.drew→wpAnyH P .any (l.take n).toArray (w79 P l.toArray Q (l.drop n)) S n (Array.replicate n false) a w.drew):(Code.region id l.toArray true).wp P Q a w:=by
 have hn:n<l.length:=by simp only[splitB,Bool.and_eq_true,decide_eq_true_eq]at hB;exact hB.1.1.1.1
 have inv0:HeadInv .any l.toArray n (Array.replicate l.toArray.size false):=⟨by simp,fun j oj _ hl=>(by rw[aM_]at hl;cases hl),fun t _ ht=>getD_in (by simpa using ht) (aM_ _ _)⟩;refine wp_region_any hm ?_;have:=z99 hB n (Array.replicate n false) (Array.replicate l.toArray.size false) a w.drew inv0 (by simp) (fun i hi=>by simp[hi,show i<l.length by omega]) (h hS);rw[show n+(l.length-n)=l.toArray.size by simp;omega]at this;exact this
end
