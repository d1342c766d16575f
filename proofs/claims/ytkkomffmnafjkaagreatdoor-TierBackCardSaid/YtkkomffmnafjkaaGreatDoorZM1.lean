/- Plain laws on lists of spans: what is in a list, when a list is the least .. -/
import Derived.Below
set_option maxHeartbeats 16000000
set_option maxRecDepth 100000
set_option linter.all false
namespace Go.Proofs.YtkkomffmnafjkaaGreatDoor
def okS(x:Int×Int):Bool:=decide (0≤x.1)&&decide (x.1≤x.2)&&decide (x.2≤4611686018427387904)
def k181(x:Int×Int):Bool:=okS x&&decide (x.1<x.2)
theorem j19(x:Int×Int):okS x=true↔0≤x.1∧x.1≤x.2∧x.2≤4611686018427387904:=by simp[okS,and_assoc]
theorem w34(x:Int×Int):k181 x=true↔0≤x.1∧x.1<x.2∧x.2≤4611686018427387904:=by simp only[k181,Bool.and_eq_true,j19,decide_eq_true_eq];omega
def InS(L:List (Int×Int))(p:Int):Prop:=∃x∈L,okS x=true∧x.1≤p∧p<x.2
theorem k48(p:Int):¬InS [] p:=by rintro⟨x,h,_⟩;cases h
theorem y156(x:Int×Int)(L:List (Int×Int))(p:Int):InS (x::L) p↔(okS x=true∧x.1≤p∧p<x.2)∨InS L p:=by simp[InS]
theorem j38(a b:List (Int×Int))(p:Int):InS (a++b) p↔InS a p∨InS b p:=by
 simp only[InS,List.mem_append];constructor;·
  rintro⟨x,h|h,r⟩;·exact .inl ⟨x,h,r⟩
  ·exact .inr ⟨x,h,r⟩
 ·rintro(⟨x,h,r⟩|⟨x,h,r⟩);·exact⟨x,.inl h,r⟩
  ·exact⟨x,.inr h,r⟩
theorem j52(x:Int×Int)(p:Int):InS [x] p↔okS x=true∧x.1≤p∧p<x.2:=by simp[InS]
structure Canon(L:List (Int×Int)):Prop where
 good:∀x∈L,k181 x=true
 sep:L.Pairwise (fun x y=>x.2<y.1)
theorem Canon.nil:Canon []:=⟨(fun _ h=>by cases h),List.Pairwise.nil⟩
theorem Canon.one{x:Int×Int}(h:k181 x=true):Canon [x]:=⟨fun y hy=>by simp at hy;rw[hy];exact h,by simp⟩
theorem Canon.tail{x:Int×Int}{L:List (Int×Int)}(h:Canon (x::L)):Canon L:=⟨fun y hy=>h.good y (List.mem_cons_of_mem _ hy),(List.pairwise_cons.1 h.sep).2⟩
theorem Canon.head{x:Int×Int}{L:List (Int×Int)}(h:Canon (x::L)):0≤x.1∧x.1<x.2∧x.2≤4611686018427387904:=(w34 x).1 (h.good x (List.mem_cons_self ..))
theorem Canon.mem{L:List (Int×Int)}(h:Canon L){x:Int×Int}(hx:x∈L):0≤x.1∧x.1<x.2∧x.2≤4611686018427387904:=(w34 x).1 (h.good x hx)
theorem Canon.in_cons{x:Int×Int}{L:List (Int×Int)}(h:Canon (x::L))(p:Int):InS (x::L) p↔(x.1≤p∧p<x.2)∨InS L p:=by
 have:=h.head;have ho:okS x=true:=by rw[j19];omega
 rw[y156,ho];simp
theorem Canon.behind{x:Int×Int}{L:List (Int×Int)}(h:Canon (x::L)){p:Int}(hp:InS L p):x.2<p:=by obtain⟨y,hy,_,h1,_⟩:=hp;have:=(List.pairwise_cons.1 h.sep).1 y hy;omega
theorem Canon.first{x:Int×Int}{L:List (Int×Int)}(h:Canon (x::L)){p:Int}(hp:InS (x::L) p):x.1≤p:=by
 rcases(h.in_cons p).1 hp with h1|h1;·exact h1.1
 ·have:=h.behind h1;have:=h.head;omega
theorem Canon.unique:∀{a b:List (Int×Int)},Canon a→Canon b→(∀p,InS a p↔InS b p)→a=b
 |[],[],_,_,_=>rfl
 |[],y::rb,_,hb,h=>by exfalso;have:=hb.head;exact k48 y.1 ((h y.1).2 ((hb.in_cons _).2 (.inl (by omega))))
 |x::ra,[],ha,_,h=>by exfalso;have:=ha.head;exact k48 x.1 ((h x.1).1 ((ha.in_cons _).2 (.inl (by omega))))
 |x::ra,y::rb,ha,hb,h=>by
  have hx:=ha.head;have hy:=hb.head;have e1:x.1=y.1:=by have h1:=hb.first ((h x.1).1 ((ha.in_cons _).2 (.inl (by omega))));have h2:=ha.first ((h y.1).2 ((hb.in_cons _).2 (.inl (by omega))));omega
  have e2:x.2=y.2:=by
   rcases Int.lt_trichotomy x.2 y.2 with hlt|heq|hgt;·
    exfalso;have:=(h x.2).2 ((hb.in_cons _).2 (.inl (by omega)));rcases(ha.in_cons _).1 this with h1|h1;·omega
    ·have:=ha.behind h1;omega
   ·exact heq
   ·exfalso;have:=(h y.2).1 ((ha.in_cons _).2 (.inl (by omega)));rcases(hb.in_cons _).1 this with h1|h1;·omega
    ·have:=hb.behind h1;omega
  have e:x=y:=Prod.ext e1 e2;subst e;have hr:∀p,InS ra p↔InS rb p:=by
   intro p;constructor;·
    intro hp;have hlt:=ha.behind hp;rcases(hb.in_cons _).1 ((h p).1 ((ha.in_cons _).2 (.inr hp)))with h1|h1;·omega
    ·exact h1
   ·intro hp;have hlt:=hb.behind hp;rcases(ha.in_cons _).1 ((h p).2 ((hb.in_cons _).2 (.inr hp)))with h1|h1;·omega
    ·exact h1
  rw[Canon.unique ha.tail hb.tail hr]
theorem Canon.snoc{L:List (Int×Int)}{x:Int×Int}(h:Canon L)(hx:k181 x=true)(hs:∀y∈L,y.2<x.1):Canon (L++[x]):=⟨fun y hy=>by
 rcases List.mem_append.1 hy with h1|h1;·exact h.good y h1
 ·simp at h1;rw[h1];exact hx,List.pairwise_append.2 ⟨h.sep,by simp,fun a ha b hb=>by simp at hb;rw[hb];exact hs a ha⟩⟩
theorem Canon.init{L:List (Int×Int)}{x:Int×Int}(h:Canon (L++[x])):Canon L∧k181 x=true∧∀y∈L,y.2<x.1:=⟨⟨fun y hy=>h.good y (List.mem_append.2 (.inl hy)),(List.pairwise_append.1 h.sep).1⟩,h.good x (by simp),fun y hy=>(List.pairwise_append.1 h.sep).2.2 y hy x (by simp)⟩
def inB(L:List (Int×Int))(p:Int):Bool:=L.any fun x=>okS x&&decide (x.1≤p)&&decide (p<x.2)
theorem j34(L:List (Int×Int))(p:Int):inB L p=true↔InS L p:=by simp[inB,InS,and_assoc]
def sumL(L:List (Int×Int)):Int:=(L.map fun x=>x.2-x.1).sum
theorem Canon.take{L:List (Int×Int)}(h:Canon L)(k:Nat):Canon (L.take k):=⟨fun x hx=>h.good x (List.mem_of_mem_take hx),h.sep.sublist (List.take_sublist k L)⟩
def q35(L:List (Int×Int))(p:Int):Option (Int×Int):=(L.find? fun x=>decide (p<x.2)).map fun x=>(max p x.1,x.2)
theorem q121{L:List (Int×Int)}{p:Int}(h:∀x∈L,x.2≤p):q35 L p=none:=by unfold q35;rw[List.find?_eq_none.2 (fun x hx=>by have:=h x hx;simp;omega)];rfl
theorem v101{L:List (Int×Int)}{p:Int}{k:Nat}(hk:k<L.length)(h:∀x∈L.take k,x.2≤p)(hp:p<(L[k]).2):q35 L p=some (max p (L[k]).1,(L[k]).2):=by
 have hf:L.find? (fun x=>decide (p<x.2))=some L[k]:=by rw[List.find?_eq_some_iff_getElem];refine⟨by simpa using hp,k,hk,rfl,fun j hj=>?_⟩;have:=h (L[j]'(by omega)) (by rw[List.mem_take_iff_getElem];exact⟨j,by omega,rfl⟩);simp;omega
 unfold q35;rw[hf];rfl
theorem x45{L:List (Int×Int)}{k:Nat}(h:¬k<L.length):L.take k=L:=List.take_of_length_le (by omega)
theorem Canon.mono{L:List (Int×Int)}(h:Canon L){i j:Nat}(hij:i≤j)(hj:j<L.length):(L[i]'(by omega)).2≤(L[j]).2:=by
 rcases Nat.lt_or_ge i j with hlt|hge;·have h1:=List.pairwise_iff_getElem.1 h.sep i j (by omega) hj hlt;have h2:=h.mem (List.getElem_mem hj);omega
 ·obtain rfl:i=j:=by omega
  exact Int.le_refl _
structure Behind(L:List (Int×Int))(p:Int)(k:Nat):Prop where
 le:k≤L.length
 before:∀x∈L.take k,x.2≤p
 at_:∀h:k<L.length,p<(L[k]).2
theorem Behind.first{L:List (Int×Int)}{p:Int}{k:Nat}(h:Behind L p k)(hk:k<L.length):q35 L p=some (max p (L[k]).1,(L[k]).2):=v101 hk h.before (h.at_ hk)
theorem Behind.none_{L:List (Int×Int)}{p:Int}{k:Nat}(h:Behind L p k)(hk:¬k<L.length):q35 L p=none:=by have:=h.before;rw[x45 hk]at this;exact q121 this
theorem w41(L:List (Int×Int)):L=[]∨∃i l,L=i++[l]:=by
 rcases List.eq_nil_or_concat L with h|⟨i,l,h⟩;·exact .inl h
 ·exact .inr ⟨i,l,by simpa using h⟩
def q39:List Int→Int→List Int|[],n=>[n]|a::r,n=>if n≤a then(if n<a then n::a::r else a::r)else a::q39 r n
def j63(l:List Int):Prop:=l.Pairwise (·<·)
theorem w53:∀(l:List Int)(n m:Int),m∈q39 l n↔m=n∨m∈l
 |[],n,m=>by simp[q39]
 |a::r,n,m=>by
  unfold q39;by_cases h:n≤a;·
   rw[if_pos h];by_cases h2:n<a;·rw[if_pos h2];simp
   ·obtain rfl:n=a:=by omega
    rw[if_neg h2];simp
  ·rw[if_neg h];simp only[List.mem_cons,w53 r n m];constructor;·
    rintro(h|h|h);·exact .inr (.inl h)
    ·exact .inl h
    ·exact .inr (.inr h)
   ·rintro(h|h|h);·exact .inr (.inl h)
    ·exact .inl h
    ·exact .inr (.inr h)
theorem k52:∀(l:List Int)(n:Int),j63 l→j63 (q39 l n)
 |[],n,_=>by simp[q39,j63]
 |a::r,n,h=>by
  obtain⟨h1,h2⟩:=List.pairwise_cons.1 h;unfold q39;by_cases hn:n≤a;·
   rw[if_pos hn];by_cases hn2:n<a;·
    rw[if_pos hn2];refine List.pairwise_cons.2 ⟨fun b hb=>?_,h⟩;rcases List.mem_cons.1 hb with rfl|hb;·exact hn2
    ·have:=h1 b hb;omega
   ·rw[if_neg hn2];exact h
  ·rw[if_neg hn];refine List.pairwise_cons.2 ⟨fun b hb=>?_,k52 r n h2⟩;rcases(w53 r n b).1 hb with rfl|hb;·omega
   ·exact h1 b hb
theorem x52:∀(l:List Int)(n:Int),(q39 l n).length≤l.length+1
 |[],n=>by simp[q39]
 |a::r,n=>by
  have:=x52 r n;unfold q39;by_cases hn:n≤a;·
   rw[if_pos hn];by_cases hn2:n<a;·rw[if_pos hn2];simp
   ·rw[if_neg hn2];simp
  ·rw[if_neg hn];simp;omega
def x139(out:List Int)(x:Int×Int):List Int:=if okS x=true then q39 (q39 out x.1) x.2 else out
def x19(L:List (Int×Int)):List Int:=L.foldl x139 []
theorem v134(L:List (Int×Int))(x:Int×Int):x19 (L++[x])=x139 (x19 L) x:=by simp[x19]
theorem x73(L:List (Int×Int)):j63 (x19 L)∧(∀m,m∈x19 L↔∃x∈L,okS x=true∧(m=x.1∨m=x.2))∧(x19 L).length≤2*L.length:=by
 have main:∀(n:Nat)(L:List (Int×Int)),L.length=n→j63 (x19 L)∧(∀m,m∈x19 L↔∃x∈L,okS x=true∧(m=x.1∨m=x.2))∧(x19 L).length≤2*L.length:=by
  intro n;induction n with
   |zero=>intro L hn;obtain rfl:L=[]:=List.eq_nil_of_length_eq_zero hn;exact⟨List.Pairwise.nil,fun m=>by simp[x19],by simp[x19]⟩
   |succ n ih=>
    intro L hn;rcases w41 L with rfl|⟨M,x,rfl⟩;·simp at hn
    obtain⟨h1,h2,h3⟩:=ih M (by simpa using hn);rw[v134];unfold x139;by_cases ho:okS x=true;·
     rw[if_pos ho];refine⟨k52 _ _ (k52 _ _ h1),fun m=>?_,?_⟩;·
      rw[w53,w53,h2];constructor;·
       rintro(h|h|⟨y,hy,r⟩);·exact⟨x,by simp,ho,.inr h⟩
       ·exact⟨x,by simp,ho,.inl h⟩
       ·exact⟨y,by simp[hy],r⟩
      ·rintro⟨y,hy,hoy,r⟩;rcases List.mem_append.1 hy with hy|hy;·exact .inr (.inr ⟨y,hy,hoy,r⟩)
       ·simp at hy;subst hy;rcases r with r|r;·exact .inr (.inl r)
        ·exact .inl r
     ·have h4:=x52 (q39 (x19 M) x.1) x.2;have h5:=x52 (x19 M) x.1;simp;omega
    ·rw[if_neg ho];refine⟨h1,fun m=>?_,by simp;omega⟩;rw[h2];constructor;·rintro⟨y,hy,r⟩;exact⟨y,by simp[hy],r⟩
     ·rintro⟨y,hy,hoy,r⟩;rcases List.mem_append.1 hy with hy|hy;·exact⟨y,hy,hoy,r⟩
      ·simp at hy;subst hy;exact absurd hoy ho
 exact main L.length L rfl
def w56(g:Int→Bool)(out:List (Int×Int))(u v:Int):List (Int×Int):=if g u=true then match out.reverse with|[]=>[(u,v)]|l::r=>if l.2=u then r.reverse++[(l.1,v)]else out++[(u,v)]else out
theorem q112{g:Int→Bool}{out:List (Int×Int)}{u v:Int}(h:g u=false):w56 g out u v=out:=by simp[w56,h]
theorem w101{g:Int→Bool}{u v:Int}(h:g u=true):w56 g [] u v=[(u,v)]:=by simp[w56,h]
theorem k93{g:Int→Bool}{i:List (Int×Int)}{l:Int×Int}{u v:Int}(h:g u=true)(hl:l.2=u):w56 g (i++[l]) u v=i++[(l.1,v)]:=by simp[w56,h,hl]
theorem z102{g:Int→Bool}{i:List (Int×Int)}{l:Int×Int}{u v:Int}(h:g u=true)(hl:¬l.2=u):w56 g (i++[l]) u v=i++[l]++[(u,v)]:=by simp[w56,h,hl]
def ofTo(g:Int→Bool)(E:List Int):Nat→List (Int×Int)|0=>[]|k+1=>w56 g (ofTo g E k) (E.getD k 0) (E.getD (k+1) 0)
def ofL(g:Int→Bool)(E:List Int):List (Int×Int):=ofTo g E (E.length-1)
theorem j112(g:Int→Bool)(E:List Int)(hE:j63 E)(h0:∀m∈E,0≤m∧m≤4611686018427387904)(hg:∀(k:Nat)(h:k+1<E.length)(p:Int),E[k]≤p→p<E[k+1]→g p=g E[k]):∀k,k+1≤E.length→Canon (ofTo g E k)∧(∀y∈ofTo g E k,y.2≤E.getD k 0)∧∀p,InS (ofTo g E k) p↔E.getD 0 0≤p∧p<E.getD k 0∧g p=true
 |0,h=>by
  refine⟨Canon.nil,(fun y hy=>by cases hy),fun p=>?_⟩;simp only[ofTo];constructor;·exact fun hp=>absurd hp (k48 p)
  ·intro hp;omega
 |k+1,h=>by
  obtain⟨hc,hle,hin⟩:=j112 g E hE h0 hg k (by omega);have hk:k<E.length:=by omega
  have hk1:k+1<E.length:=by omega
  have hlt:E[k]<E[k+1]:=List.pairwise_iff_getElem.1 hE k (k+1) hk hk1 (by omega);have hu0:=h0 E[k] (List.getElem_mem hk);have hv0:=h0 E[k+1] (List.getElem_mem hk1);have hgk:=hg k hk1;have hmin:E.getD 0 0≤E[k]:=by
   rw[List.getD_eq_getElem?_getD,List.getElem?_eq_getElem (by omega)];rcases Nat.eq_zero_or_pos k with rfl|hp;·exact Int.le_refl _
   ·exact Int.le_of_lt (List.pairwise_iff_getElem.1 hE 0 k (by omega) hk hp)
  have ek:E.getD k 0=E[k]:=by rw[List.getD_eq_getElem?_getD,List.getElem?_eq_getElem hk];rfl
  have ek1:E.getD (k+1) 0=E[k+1]:=by rw[List.getD_eq_getElem?_getD,List.getElem?_eq_getElem hk1];rfl
  rw[ek]at hle hin;simp only[ofTo,ek,ek1];generalize E[k+1]=v at*;generalize E[k]=u at*;generalize ofTo g E k=out at*;generalize E.getD 0 0=m at*;have split:∀p,(m≤p∧p<v∧g p=true)↔(m≤p∧p<u∧g p=true)∨(u≤p∧p<v∧g u=true):=by
   intro p;constructor;·
    rintro⟨h1,h2,h3⟩;by_cases hp:p<u;·exact .inl ⟨h1,hp,h3⟩
    ·refine .inr ⟨by omega,h2,?_⟩;rw[←hgk p (by omega) h2];exact h3
   ·rintro(⟨h1,h2,h3⟩|⟨h1,h2,h3⟩);·exact⟨h1,by omega,h3⟩
    ·refine⟨by omega,h2,?_⟩;rw[hgk p h1 h2];exact h3
  cases hgu:g u;·rw[q112 hgu];refine⟨hc,fun y hy=>by have:=hle y hy;omega,fun p=>?_⟩;rw[split p,hin p,hgu];simp
  ·have hgd:k181 (u,v)=true:=by rw[w34];simp only;omega
   have hod:okS (u,v)=true:=by rw[j19];simp only;omega
   rcases w41 out with rfl|⟨i,l,rfl⟩;·rw[w101 hgu];refine⟨Canon.one hgd,fun y hy=>by simp at hy;rw[hy];exact Int.le_refl _,fun p=>?_⟩;rw[split p,←hin p,j52,hgu,hod];simp[k48]
   ·obtain⟨hci,hgl,hsl⟩:=hc.init;have gl:=(w34 l).1 hgl;have hol:okS l=true:=by rw[j19];omega
    by_cases hl:l.2=u;·
     rw[k93 hgu hl];have hgn:k181 (l.1,v)=true:=by rw[w34];simp only;omega
     have hon:okS (l.1,v)=true:=by rw[j19];simp only;omega
     refine⟨hci.snoc hgn hsl,fun y hy=>?_,fun p=>?_⟩;·
      rcases List.mem_append.1 hy with h|h;·have:=hle y (List.mem_append.2 (.inl h));omega
      ·simp at h;rw[h];exact Int.le_refl _
     ·rw[split p,←hin p,j38,j38,j52,j52,hon,hol,hgu];simp only[true_and,and_true];constructor;·
       rintro(h|h);·exact .inl (.inl h)
       ·by_cases h2:p<u;·exact .inl (.inr ⟨h.1,by omega⟩)
        ·exact .inr ⟨by omega,h.2⟩
      ·rintro((h|h)|h);·exact .inl h
       ·exact .inr ⟨h.1,by omega⟩
       ·exact .inr ⟨by omega,h.2⟩
    ·rw[z102 hgu hl];have hll:=hle l (by simp);refine⟨hc.snoc hgd (fun y hy=>?_),fun y hy=>?_,fun p=>?_⟩;·
      rcases List.mem_append.1 hy with h|h;·have:=hsl y h;simp only;omega
      ·simp at h;rw[h];simp only;omega
     ·rcases List.mem_append.1 hy with h|h;·have:=hle y h;omega
      ·simp at h;rw[h];exact Int.le_refl _
     ·rw[split p,←hin p,j38,j52,hod,hgu];simp
theorem v112{L M:List (Int×Int)}(hM:∀x∈L,x∈M){k:Nat}(h:k+1<(x19 M).length){p:Int}(h1:(x19 M)[k]≤p)(h2:p<(x19 M)[k+1]):inB L p=inB L (x19 M)[k]:=by
 obtain⟨hs,hm,_⟩:=x73 M;have none_:∀m∈x19 M,m≤(x19 M)[k]∨(x19 M)[k+1]≤m:=by
  intro m hm';obtain⟨j,hj,rfl⟩:=List.getElem_of_mem hm';rcases Nat.lt_or_ge k j with hkj|hkj;·
   right;rcases Nat.lt_or_ge (k+1) j with h3|h3;·exact Int.le_of_lt (List.pairwise_iff_getElem.1 hs (k+1) j h hj h3)
   ·obtain rfl:j=k+1:=by omega
    exact Int.le_refl _
  ·left;rcases Nat.lt_or_ge j k with h3|h3;·exact Int.le_of_lt (List.pairwise_iff_getElem.1 hs j k hj (by omega) h3)
   ·obtain rfl:j=k:=by omega
    exact Int.le_refl _
 have hlt:(x19 M)[k]<(x19 M)[k+1]:=List.pairwise_iff_getElem.1 hs k (k+1) (by omega) h (by omega);generalize(x19 M)[k]=u at*;generalize(x19 M)[k+1]=v at*;rw[Bool.eq_iff_iff,j34,j34];constructor;·rintro⟨x,hx,ho,h3,h4⟩;have e1:=none_ x.1 ((hm _).2 ⟨x,hM x hx,ho,.inl rfl⟩);have e2:=none_ x.2 ((hm _).2 ⟨x,hM x hx,ho,.inr rfl⟩);exact⟨x,hx,ho,by omega,by omega⟩
 ·rintro⟨x,hx,ho,h3,h4⟩;have e1:=none_ x.1 ((hm _).2 ⟨x,hM x hx,ho,.inl rfl⟩);have e2:=none_ x.2 ((hm _).2 ⟨x,hM x hx,ho,.inr rfl⟩);exact⟨x,hx,ho,by omega,by omega⟩
def opB(op:Int)(x y:Bool):Bool:=(op==1&&(x||y))||(op==2&&x&&y)||(op==3&&x&&!y)
def ofOp(a b:List (Int×Int))(op:Int):List (Int×Int):=ofL (fun p=>opB op (inB a p) (inB b p)) (x19 (a++b))
theorem y58(a b:List (Int×Int))(op:Int):Canon (ofOp a b op)∧∀p,InS (ofOp a b op) p↔opB op (inB a p) (inB b p)=true:=by
 obtain⟨hs,hm,_⟩:=x73 (a++b);have h0:∀m∈x19 (a++b),0≤m∧m≤4611686018427387904:=by intro m h;obtain⟨x,_,ho,r⟩:=(hm m).1 h;rw[j19]at ho;omega
 have hg:∀(k:Nat)(h:k+1<(x19 (a++b)).length)(p:Int),(x19 (a++b))[k]≤p→p<(x19 (a++b))[k+1]→opB op (inB a p) (inB b p)=opB op (inB a (x19 (a++b))[k]) (inB b (x19 (a++b))[k]):=by intro k h p h1 h2;rw[v112 (fun x hx=>List.mem_append.2 (.inl hx)) h h1 h2,v112 (fun x hx=>List.mem_append.2 (.inr hx)) h h1 h2]
 have inEnds:∀p x,x∈a++b→okS x=true→x.1≤p→p<x.2→(x19 (a++b)).getD 0 0≤p∧p<(x19 (a++b)).getD ((x19 (a++b)).length-1) 0:=by
  intro p x hx ho h1 h2;have m1:=(hm _).2 ⟨x,hx,ho,.inl rfl⟩;have m2:=(hm _).2 ⟨x,hx,ho,.inr rfl⟩;obtain⟨i,hi,e1⟩:=List.getElem_of_mem m1;obtain⟨j,hj,e2⟩:=List.getElem_of_mem m2;have g0:(x19 (a++b)).getD 0 0=(x19 (a++b))[0]'(by omega):=by rw[List.getD_eq_getElem?_getD,List.getElem?_eq_getElem (by omega)];rfl
  have g1:(x19 (a++b)).getD ((x19 (a++b)).length-1) 0=(x19 (a++b))[(x19 (a++b)).length-1]'(by omega):=by rw[List.getD_eq_getElem?_getD,List.getElem?_eq_getElem (by omega)];rfl
  rw[g0,g1];have a1:(x19 (a++b))[0]'(by omega)≤(x19 (a++b))[i]:=by
   rcases Nat.eq_zero_or_pos i with rfl|hp;·exact Int.le_refl _
   ·exact Int.le_of_lt (List.pairwise_iff_getElem.1 hs 0 i (by omega) hi hp)
  have a2:(x19 (a++b))[j]≤(x19 (a++b))[(x19 (a++b)).length-1]'(by omega):=by
   rcases Nat.lt_or_ge j ((x19 (a++b)).length-1)with hlt|hge;·exact Int.le_of_lt (List.pairwise_iff_getElem.1 hs j _ hj (by omega) hlt)
   ·have:j=(x19 (a++b)).length-1:=by omega
    subst this;exact Int.le_refl _
  omega
 have hall:∀p,opB op (inB a p) (inB b p)=true→(x19 (a++b)).getD 0 0≤p∧p<(x19 (a++b)).getD ((x19 (a++b)).length-1) 0:=by
  intro p h;have hor:inB a p=true∨inB b p=true:=by
   cases ha:inB a p;·
    cases hb:inB b p;·rw[ha,hb]at h;simp[opB]at h
    ·exact .inr rfl
   ·exact .inl rfl
  rcases hor with h|h;·obtain⟨x,hx,ho,h1,h2⟩:=(j34 _ _).1 h;exact inEnds p x (List.mem_append.2 (.inl hx)) ho h1 h2
  ·obtain⟨x,hx,ho,h1,h2⟩:=(j34 _ _).1 h;exact inEnds p x (List.mem_append.2 (.inr hx)) ho h1 h2
 unfold ofOp ofL;rcases Nat.eq_zero_or_pos (x19 (a++b)).length with hz|hp;·rw[hz];refine⟨Canon.nil,fun p=>⟨fun h=>absurd h (k48 p),fun h=>?_⟩⟩;have:=hall p h;rw[hz]at this;have e:x19 (a++b)=[]:=List.eq_nil_of_length_eq_zero hz;rw[e]at this;simp at this;omega
 ·obtain⟨hc,_,hin⟩:=j112 (fun p=>opB op (inB a p) (inB b p)) (x19 (a++b)) hs h0 hg ((x19 (a++b)).length-1) (by omega);refine⟨hc,fun p=>?_⟩;rw[hin p];constructor;·exact fun h=>h.2.2
  ·intro h;have:=hall p h;exact⟨this.1,this.2,h⟩
def cano(L:List (Int×Int)):List (Int×Int):=ofOp L [] 1
theorem q129(L:List (Int×Int))(p:Int):InS (cano L) p↔InS L p:=by rw[cano,(y58 L [] 1).2 p,←j34];simp[opB,inB]
theorem Canon.append{a b:List (Int×Int)}(ha:Canon a)(hb:Canon b)(h:∀y∈a,∀z∈b,y.2<z.1):Canon (a++b):=⟨fun y hy=>by
 rcases List.mem_append.1 hy with hy|hy;·exact ha.good y hy
 ·exact hb.good y hy,List.pairwise_append.2 ⟨ha.sep,hb.sep,h⟩⟩
theorem w73:∀{l m:List Int},l.Nodup→(∀x∈l,x∈m)→l.length≤m.length|[],_,_,_=>Nat.zero_le _|x::l,m,hn,hs=>by have hx:x∈m:=hs x (List.mem_cons_self ..);have hn':=List.nodup_cons.1 hn;have h1:=w73 (l:=l) (m:=m.erase x) hn'.2 (fun y hy=>(List.mem_erase_of_ne (fun e=>hn'.1 (by rw[←e];exact hy))).2 (hs y (List.mem_cons_of_mem _ hy)));have h2:=List.length_erase_of_mem hx;have h3:0<m.length:=List.length_pos_of_mem hx;simp only[List.length_cons];omega
def w30(x:Int×Int):Bool:=decide (x.1≤999999999999999999)&&decide (x.2≤999999999999999999)&&((decide (x.1=-1)&&decide (0≤x.2))||(decide (0≤x.1)&&(decide (x.2=-1)||decide (x.1≤x.2))))
theorem q57(x:Int×Int):w30 x=true↔x.1≤999999999999999999∧x.2≤999999999999999999∧((x.1=-1∧0≤x.2)∨(0≤x.1∧(x.2=-1∨x.1≤x.2))):=by simp[w30,and_assoc]
def allR(L:List (Int×Int)):Bool:=L.all w30
def w24(n:Int)(x:Int×Int):Int×Int:=if x.1<0 then(max (n-x.2) 0,n)else if 0≤x.2 then(x.1,min (x.2+1) n)else(x.1,n)
def hasS(x:Int×Int):Bool:=decide (x.1<x.2)
def resL(n:Int)(L:List (Int×Int)):List (Int×Int):=(L.map (w24 n)).filter hasS
theorem q102{n:Int}{L:List (Int×Int)}{k:Nat}(h:k<L.length):resL n (L.take (k+1))=resL n (L.take k)++(if hasS (w24 n L[k])=true then[w24 n L[k]]else[]):=by unfold resL;rw[List.take_succ_eq_append_getElem h,List.map_append,List.filter_append];congr 1;by_cases hh:hasS (w24 n L[k])=true<;>simp[hh]
theorem w35(n:Int)(L:List (Int×Int)):(resL n L).length≤L.length:=by unfold resL;exact Nat.le_trans (List.length_filter_le _ _) (by simp)
theorem y52{n:Int}(_h0:0≤n){L:List (Int×Int)}(hL:allR L=true){y:Int×Int}(hy:y∈resL n L):0≤y.1∧y.1<y.2∧y.2≤n:=by
 unfold resL at hy;obtain⟨hm,hs⟩:=List.mem_filter.1 hy;obtain⟨x,hx,rfl⟩:=List.mem_map.1 hm;have hr:=(q57 x).1 (List.all_eq_true.1 hL x hx);have hs':(w24 n x).1<(w24 n x).2:=by simpa[hasS]using hs
 unfold w24 at hs'⊢;split;·rename_i h1;rw[if_pos h1]at hs';simp only at hs'⊢;omega
 ·rename_i h1;rw[if_neg h1]at hs';split;·rename_i h2;rw[if_pos h2]at hs';simp only at hs'⊢;omega
  ·rename_i h2;rw[if_neg h2]at hs';simp only at hs'⊢;omega
def w36(n acc:Int):List (Int×Int)→Bool|[]=>false|x::r=>decide (2*n<acc+(x.2-x.1))||w36 n (acc+(x.2-x.1)) r
def q46(n most:Int)(L:List (Int×Int)):Bool:=decide (most<(L.length:Int))||w36 n 0 (resL n L)
theorem w193{n:Int}:∀(L:List (Int×Int))(acc:Int),(∀x∈L,x.1≤x.2)→acc+sumL L≤2*n→w36 n acc L=false
 |[],_,_,_=>rfl
 |x::r,acc,h,hs=>by
  have e:sumL (x::r)=(x.2-x.1)+sumL r:=by simp[sumL]
  have hr:0≤sumL r:=by
   clear e hs;induction r with
    |nil=>simp[sumL]
    |cons y r ih=>
     have e2:sumL (y::r)=(y.2-y.1)+sumL r:=by simp[sumL]
     have:=ih (fun z hz=>h z (by simp at hz⊢;rcases hz with rfl|hz;exact .inl rfl;exact .inr (.inr hz)));have:=h y (by simp);omega
  rw[w36,w193 r _ (fun y hy=>h y (List.mem_cons_of_mem _ hy)) (by omega)];simp;omega
def digB(c:UInt8):Bool:=decide (48≤c.toNat)&&decide (c.toNat≤57)
def v129(acc:Int):List UInt8→Option Int|[]=>some acc|c::r=>if digB c=true then v129 (acc*10+((c.toNat:Int)-48)) r else none
def numL(l:List UInt8):Option Int:=if l.length<1∨18<l.length then none else v129 0 l
theorem j202{acc:Int}{l:List UInt8}{k:Nat}(h:k<l.length):v129 acc (l.drop k)=if digB l[k]=true then v129 (acc*10+((l[k].toNat:Int)-48)) (l.drop (k+1))else none:=by rw[List.drop_eq_getElem_cons h,v129]
def cutD:List UInt8→Option (List UInt8×List UInt8)|[]=>none|c::r=>if c=45 then some ([],r)else(cutD r).map fun p=>(c::p.1,p.2)
def itemL(l:List UInt8):Option (Int×Int):=match cutD l with|none=>none|some ([],b)=>(numL b).map fun y=>(-1,y)|some (c::a,[])=>(numL (c::a)).map fun x=>(x,-1)|some (c::a,d::b)=>match numL (c::a),numL (d::b)with|some x,some y=>if x≤y then some (x,y)else none|_,_=>none
def j21(c:UInt8):Bool:=c==32||c==9
def q36(l:List UInt8):List UInt8:=(l.reverse.dropWhile j21).reverse.dropWhile j21
def itemsL(ps:List (List UInt8)):List (List UInt8):=(ps.map q36).filter fun p=>!p.isEmpty
def k129:List (List UInt8)→Option (List (Int×Int))|[]=>some []|p::r=>match itemL p,k129 r with|some x,some y=>some (x::y)|_,_=>none
def w25(g:Int)(a b:Int×Int):Prop:=a.1≤b.2+g∧b.1≤a.2+g
def inP(a b:Int×Int):Prop:=b.1≤a.1∧a.2≤b.2
theorem inP.trans{a b c:Int×Int}(h:inP a b)(k:inP b c):inP a c:=⟨Int.le_trans k.1 h.1,Int.le_trans h.2 k.2⟩
theorem inP.refl(a:Int×Int):inP a a:=⟨Int.le_refl _,Int.le_refl _⟩
structure Folds(g:Int)(L:List (Int×Int))(O:List ((Int×Int)×Nat)):Prop where
 at_:∀o∈O,∃h:o.2<L.length,inP L[o.2] o.1
 all_:∀i(h:i<L.length),∃o∈O,inP L[i] o.1∧o.2≤i
 lo:∀o∈O,∃x∈L,inP x o.1∧x.1=o.1.1
 hi:∀o∈O,∃x∈L,inP x o.1∧x.2=o.1.2
 mid:∀o∈O,∀p,o.1.1≤p→p<o.1.2→∃x∈L,x.1≤p∧p<x.2+g
structure Folded(g:Int)(L:List (Int×Int))(O:List ((Int×Int)×Nat)):Prop extends Folds g L O where
 far:O.Pairwise (fun a b=>¬w25 g a.1 b.1)
 rise:O.Pairwise (fun a b=>a.2<b.2)
theorem pw_ne{α:Type}{R:α→α→Prop}(hs:∀a b,R a b→R b a):∀{l:List α},l.Pairwise R→∀{a b:α},a∈l→b∈l→a≠b→R a b
 |[],_,a,b,ha,_,_=>by cases ha
 |x::r,h,a,b,ha,hb,hab=>by
  obtain⟨h1,h2⟩:=List.pairwise_cons.1 h;rcases List.mem_cons.1 ha with ea|ha';·
   rcases List.mem_cons.1 hb with eb|hb';·exact absurd (ea.trans eb.symm) hab
   ·rw[ea];exact h1 b hb'
  ·rcases List.mem_cons.1 hb with eb|hb';·rw[eb];exact hs _ _ (h1 a ha')
   ·exact pw_ne hs h2 ha' hb' hab
theorem w93{g:Int}{O:List ((Int×Int)×Nat)}(h:O.Pairwise (fun a b=>¬w25 g a.1 b.1)){a b:(Int×Int)×Nat}(ha:a∈O)(hb:b∈O)(hn:w25 g a.1 b.1):a=b:=by
 by_cases e:a=b;·exact e
 ·exact absurd hn (pw_ne (R:=fun a b:(Int×Int)×Nat=>¬w25 g a.1 b.1) (fun a b h k=>h ⟨k.2,k.1⟩) h ha hb e)
section
variable{g:Int}{L:List (Int×Int)}{O O':List ((Int×Int)×Nat)}
theorem q74(h0:0≤g){x a b:Int×Int}(hx:x.1<x.2)(ha:inP x a)(hb:inP x b):w25 g a b:=by unfold inP at ha hb;unfold w25;omega
theorem Folds.some_(h:Folds g L O){x:Int×Int}(hx:x∈L):∃o∈O,inP x o.1:=by obtain⟨i,hi,rfl⟩:=List.getElem_of_mem hx;obtain⟨o,ho,h1,_⟩:=h.all_ i hi;exact⟨o,ho,h1⟩
theorem Folds.sub(hL:∀x∈L,x.1<x.2)(h0:0≤g)(h:Folds g L O)(h':Folded g L O'){o:(Int×Int)×Nat}(ho:o∈O):∃o'∈O',inP o.1 o'.1:=by
 obtain⟨x,hx,hxo,hx1⟩:=h.lo o ho;obtain⟨s,hs,hxs⟩:=h'.some_ hx;refine⟨s,hs,?_⟩;by_cases hto:o.1.2≤s.1.2;·unfold inP at*;omega
 ·exfalso;obtain⟨y,hy,hyo,hy2⟩:=h.hi o ho;obtain⟨t,ht,hyt⟩:=h'.some_ hy;have hxx:=hL x hx;have hyy:=hL y hy;have hts:¬w25 g s.1 t.1:=fun hn=>by have e:=w93 h'.far hs ht hn;subst e;unfold inP at hyt;omega
  have hgap:s.1.2+g<t.1.1:=by unfold w25 at hts;unfold inP at*;omega
  obtain⟨z,hz,hz1,hz2⟩:=h.mid o ho (s.1.2+g) (by unfold inP at*;omega) (by unfold inP at*;omega);obtain⟨u,hu,hzu⟩:=h'.some_ hz;have hn:w25 g s.1 u.1:=by unfold w25;unfold inP at*;omega
  have e:=w93 h'.far hs hu hn;subst e;unfold inP at hzu;omega
theorem Folded.mem(hL:∀x∈L,x.1<x.2)(h0:0≤g)(h:Folded g L O)(h':Folded g L O'){o:(Int×Int)×Nat}(ho:o∈O):o∈O':=by
 obtain⟨s,hs,hos⟩:=h.toFolds.sub hL h0 h' ho;obtain⟨t,ht,hst⟩:=h'.toFolds.sub hL h0 h hs;obtain⟨x,hx,hxo,_⟩:=h.lo o ho;have e:o=t:=w93 h.far ho ht (q74 h0 (hL x hx) hxo (hxo.trans (hos.trans hst)));subst e;have e1:s.1=o.1:=by unfold inP at hos hst;exact Prod.ext (by omega) (by omega)
 have key:∀{P Q:List ((Int×Int)×Nat)},Folded g L P→Folded g L Q→∀{a b:(Int×Int)×Nat},a∈P→b∈Q→a.1=b.1→a.2≤b.2:=by intro P Q hP hQ a b ha hb hab;obtain⟨hlt,hin⟩:=hQ.at_ b hb;obtain⟨u,hu,hin2,hle⟩:=hP.all_ b.2 hlt;have:a=u:=w93 hP.far ha hu (q74 h0 (hL _ (List.getElem_mem hlt)) (by rw[hab];exact hin) hin2);rw[this];exact hle
 have e2:s.2=o.2:=Nat.le_antisymm (key h' h hs ho e1) (key h h' ho hs e1.symm);have:s=o:=Prod.ext e1 e2;rw[←this];exact hs
theorem x129:∀{O O':List ((Int×Int)×Nat)},O.Pairwise (fun a b=>a.2<b.2)→O'.Pairwise (fun a b=>a.2<b.2)→(∀o,o∈O↔o∈O')→O=O'
 |[],[],_,_,_=>rfl
 |[],b::r,_,_,h=>by have:=(h b).2 (List.mem_cons_self ..);cases this
 |a::r,[],_,_,h=>by have:=(h a).1 (List.mem_cons_self ..);cases this
 |a::r,b::q,h1,h2,h=>by
  obtain⟨a1,a2⟩:=List.pairwise_cons.1 h1;obtain⟨b1,b2⟩:=List.pairwise_cons.1 h2;have hab:a=b:=by
   rcases List.mem_cons.1 ((h a).1 (List.mem_cons_self ..))with e|ha;·exact e
   ·rcases List.mem_cons.1 ((h b).2 (List.mem_cons_self ..))with e|hb;·exact e.symm
    ·have:=b1 a ha;have:=a1 b hb;omega
  subst hab;rw[x129 a2 b2 fun o=>⟨fun ho=>?_,fun ho=>?_⟩];·
   rcases List.mem_cons.1 ((h o).1 (List.mem_cons_of_mem _ ho))with rfl|k;·have:=a1 o ho;omega
   ·exact k
  ·rcases List.mem_cons.1 ((h o).2 (List.mem_cons_of_mem _ ho))with rfl|k;·have:=b1 o ho;omega
   ·exact k
theorem Folded.eq(hL:∀x∈L,x.1<x.2)(h0:0≤g)(h:Folded g L O)(h':Folded g L O'):O=O':=x129 h.rise h'.rise fun _=>⟨fun ho=>h.mem hL h0 h' ho,fun ho=>h'.mem hL h0 h ho⟩
def q26(a b:Int×Int):Int×Int:=(min a.1 b.1,max a.2 b.2)
theorem w157(a b:Int×Int):inP a (q26 a b):=⟨by simp only[q26];omega,by simp only[q26];omega⟩
theorem z158(a b:Int×Int):inP b (q26 a b):=⟨by simp only[q26];omega,by simp only[q26];omega⟩
theorem Folds.merge(hL:∀x∈L,x.1<x.2)(h:Folds g L O){a b:(Int×Int)×Nat}(ha:a∈O)(hb:b∈O)(hn:w25 g a.1 b.1){q:Nat}(hq:(q=a.2∨q=b.2)∧q≤a.2∧q≤b.2)(hm:∀o∈O',o=(q26 a.1 b.1,q)∨o∈O)(hc:(q26 a.1 b.1,q)∈O')(hk:∀o∈O,o∈O'∨o=a∨o=b):Folds g L O':=by
 have i1:=w157 a.1 b.1;have i2:=z158 a.1 b.1;refine⟨fun o ho=>?_,fun i hi=>?_,fun o ho=>?_,fun o ho=>?_,fun o ho p hp1 hp2=>?_⟩;·
  rcases hm o ho with rfl|ho;·
   obtain⟨l1,n1⟩:=h.at_ a ha;obtain⟨l2,n2⟩:=h.at_ b hb;rcases hq.1 with rfl|rfl;·exact⟨l1,n1.trans i1⟩
   ·exact⟨l2,n2.trans i2⟩
  ·exact h.at_ o ho
 ·obtain⟨o,ho,h1,h2⟩:=h.all_ i hi;rcases hk o ho with ho|rfl|rfl;·exact⟨o,ho,h1,h2⟩
  ·exact⟨_,hc,h1.trans i1,by simp only;omega⟩
  ·exact⟨_,hc,h1.trans i2,by simp only;omega⟩
 ·rcases hm o ho with rfl|ho;·
   obtain⟨x,hx,x1,x2⟩:=h.lo a ha;obtain⟨y,hy,y1,y2⟩:=h.lo b hb;by_cases hab:a.1.1≤b.1.1;·exact⟨x,hx,x1.trans i1,by simp only[q26];omega⟩
   ·exact⟨y,hy,y1.trans i2,by simp only[q26];omega⟩
  ·exact h.lo o ho
 ·rcases hm o ho with rfl|ho;·
   obtain⟨x,hx,x1,x2⟩:=h.hi a ha;obtain⟨y,hy,y1,y2⟩:=h.hi b hb;by_cases hab:a.1.2≤b.1.2;·exact⟨y,hy,y1.trans i2,by simp only[q26];omega⟩
   ·exact⟨x,hx,x1.trans i1,by simp only[q26];omega⟩
  ·exact h.hi o ho
 ·rcases hm o ho with rfl|ho;·
   obtain⟨x,hx,x1,x2⟩:=h.hi a ha;obtain⟨y,hy,y1,y2⟩:=h.hi b hb;obtain⟨x',hx',x1',x2'⟩:=h.lo a ha;obtain⟨y',hy',y1',y2'⟩:=h.lo b hb;simp only[q26]at hp1 hp2;by_cases c1:a.1.1≤p∧p<a.1.2;·exact h.mid a ha p c1.1 c1.2
   ·by_cases c2:b.1.1≤p∧p<b.1.2;·exact h.mid b hb p c2.1 c2.2
    ·unfold w25 at hn;unfold inP at x1 y1;have:=hL x hx;have:=hL y hy;by_cases c3:a.1.2≤p∧a.1.1≤b.1.1;·exact⟨x,hx,by omega,by omega⟩
     ·exact⟨y,hy,by omega,by omega⟩
  ·exact h.mid o ho p hp1 hp2
end
section
variable{g:Int}{L:List (Int×Int)}
structure Sweeps(g:Int)(L:List (Int×Int))(one rest:List ((Int×Int)×Nat)):Prop where
 folds:Folds g L (one++rest)
 apart:one.Pairwise (fun a b=>a.1.2+g<b.1.1)
 ahead:∀o∈one,∀f∈rest,o.1.1≤f.1.1
 sorted:rest.Pairwise (fun a b=>a.1.1≤b.1.1)
variable{init rest one:List ((Int×Int)×Nat)}{l f:(Int×Int)×Nat}
theorem Folds.wide(hL:∀x∈L,x.1<x.2){O:List ((Int×Int)×Nat)}(h:Folds g L O){o:(Int×Int)×Nat}(ho:o∈O):o.1.1<o.1.2:=by obtain⟨h1,h2⟩:=h.at_ o ho;have:=hL _ (List.getElem_mem h1);unfold inP at h2;omega
theorem Sweeps.join(hL:∀x∈L,x.1<x.2)(h0:0≤g)(h:Sweeps g L (init++[l]) (f::rest))(hn:f.1.1-l.1.2≤g):Sweeps g L (init++[((l.1.1,max l.1.2 f.1.2),min l.2 f.2)]) rest:=by
 have hlf:=h.ahead l (by simp) f (by simp);have hfw:=h.folds.wide hL (o:=f) (by simp);have e:(l.1.1,max l.1.2 f.1.2)=q26 l.1 f.1:=by unfold q26;congr 1;omega
 obtain⟨a1,a2,a3⟩:=List.pairwise_append.1 h.apart;obtain⟨s1,s2⟩:=List.pairwise_cons.1 h.sorted;refine⟨?_,?_,?_,s2⟩;·
  rw[e];refine h.folds.merge hL (a:=l) (b:=f) (by simp) (by simp) (by unfold w25;omega) (q:=min l.2 f.2) (by omega) ?_ (by simp) ?_;·
   intro o ho;simp at ho⊢;rcases ho with ho|ho|ho;·exact .inr (.inl ho)
   ·exact .inl ho
   ·exact .inr (.inr (.inr (.inr ho)))
  ·intro o ho;simp at ho⊢;rcases ho with ho|ho|ho|ho;·exact .inl (.inl ho)
   ·exact .inr (.inl ho)
   ·exact .inr (.inr ho)
   ·exact .inl (.inr (.inr ho))
 ·refine List.pairwise_append.2 ⟨a1,List.pairwise_singleton ..,fun a ha b hb=>?_⟩;simp at hb;subst hb;exact a3 a ha l (by simp)
 ·intro o ho q hq;simp at ho;rcases ho with ho|rfl;·exact h.ahead o (by simp[ho]) q (by simp[hq])
  ·exact h.ahead l (by simp) q (by simp[hq])
theorem Sweeps.push(hL:∀x∈L,x.1<x.2)(h0:0≤g)(h:Sweeps g L (init++[l]) (f::rest))(hn:¬f.1.1-l.1.2≤g):Sweeps g L ((init++[l])++[f]) rest:=by
 obtain⟨a1,a2,a3⟩:=List.pairwise_append.1 h.apart;obtain⟨s1,s2⟩:=List.pairwise_cons.1 h.sorted;have hlw:=h.folds.wide hL (o:=l) (by simp);refine⟨by have:=h.folds;simpa using this,?_,?_,s2⟩;·
  refine List.pairwise_append.2 ⟨h.apart,List.pairwise_singleton ..,fun a ha b hb=>?_⟩;simp at hb;subst hb;simp at ha;rcases ha with ha|rfl;·have:=a3 a ha l (by simp);omega
  ·omega
 ·intro o ho q hq;simp at ho;rcases ho with ho|rfl|rfl;·exact h.ahead o (by simp[ho]) q (by simp[hq])
  ·exact h.ahead o (by simp) q (by simp[hq])
  ·exact s1 q hq
theorem Sweeps.first(h:Sweeps g L [] (f::rest)):Sweeps g L [f] rest:=by obtain⟨s1,s2⟩:=List.pairwise_cons.1 h.sorted;refine⟨by have:=h.folds;simpa using this,List.pairwise_singleton ..,?_,s2⟩;intro o ho q hq;simp at ho;subst ho;exact s1 q hq
theorem Sweeps.done(hL:∀x∈L,x.1<x.2)(h0:0≤g)(h:Sweeps g L one []){O:List ((Int×Int)×Nat)}(hp:O.Perm one)(hs:O.Pairwise (fun a b=>a.2≤b.2)):Folded g L O:=by
 have hf:Folds g L one:=by have:=h.folds;simpa using this
 have hfO:Folds g L O:=⟨fun o ho=>hf.at_ o (hp.mem_iff.1 ho),fun i hi=>by obtain⟨o,ho,h1⟩:=hf.all_ i hi;exact⟨o,hp.mem_iff.2 ho,h1⟩,fun o ho=>hf.lo o (hp.mem_iff.1 ho),fun o ho=>hf.hi o (hp.mem_iff.1 ho),fun o ho=>hf.mid o (hp.mem_iff.1 ho)⟩;have hfar1:one.Pairwise (fun a b=>¬w25 g a.1 b.1):=h.apart.imp fun hab hn=>by unfold w25 at hn;omega
 have hfar:O.Pairwise (fun a b=>¬w25 g a.1 b.1):=(hp.pairwise_iff (fun{a b}(h:¬w25 g a.1 b.1)(k:w25 g b.1 a.1)=>h ⟨k.2,k.1⟩)).2 hfar1;refine⟨hfO,hfar,?_⟩;have hne:O.Pairwise (fun a b=>a.2≠b.2):=by refine List.Pairwise.imp_of_mem (fun{a b}ha hb hab e=>?_) hfar;obtain⟨l1,n1⟩:=hfO.at_ a ha;obtain⟨l2,n2⟩:=hfO.at_ b hb;simp only[←e]at n2;exact hab (q74 h0 (hL _ (List.getElem_mem l1)) n1 n2)
 exact(hs.and hne).imp fun⟨a,b⟩=>by omega
theorem Sweeps.start{R:List ((Int×Int)×Nat)}(_hL:∀x∈L,x.1<x.2)(h0:0≤g)(hp:R.Perm L.zipIdx)(hs:R.Pairwise (fun a b=>a.1.1≤b.1.1)):Sweeps g L [] R:=by
 have hm:∀o,o∈R→L[o.2]?=some o.1:=fun o ho=>by have:=hp.mem_iff.1 ho;exact List.mk_mem_zipIdx_iff_getElem?.1 this
 refine⟨⟨fun o ho=>?_,fun i hi=>?_,fun o ho=>?_,fun o ho=>?_,fun o ho p h1 h2=>?_⟩,.nil,(fun o ho=>by cases ho),hs⟩;·obtain⟨h1,h2⟩:=List.getElem?_eq_some_iff.1 (hm o (by simpa using ho));exact⟨h1,by rw[h2];exact inP.refl _⟩
 ·exact⟨(L[i],i),by simpa using hp.mem_iff.2 (List.mk_mem_zipIdx_iff_getElem?.2 (List.getElem?_eq_getElem hi)),inP.refl _,Nat.le_refl _⟩
 ·exact⟨o.1,List.mem_of_getElem? (hm o (by simpa using ho)),inP.refl _,rfl⟩
 ·exact⟨o.1,List.mem_of_getElem? (hm o (by simpa using ho)),inP.refl _,rfl⟩
 ·exact⟨o.1,List.mem_of_getElem? (hm o (by simpa using ho)),h1,by omega⟩
end
abbrev leF(a b:(Int×Int)×Nat):Prop:=a.1.1≤b.1.1
abbrev SortF(l:List ((Int×Int)×Nat)):Prop:=l.Pairwise leF
theorem SortF.get{l:List ((Int×Int)×Nat)}(h:SortF l){i j:Nat}(hij:i≤j)(hj:j<l.length):leF (l[i]'(by omega)) l[j]:=by
 rcases Nat.lt_or_ge i j with hlt|hge;·exact List.pairwise_iff_getElem.1 h i j (by omega) hj hlt
 ·obtain rfl:i=j:=by omega
  exact Int.le_refl _
theorem SortF.take{l:List ((Int×Int)×Nat)}(h:SortF l)(k:Nat):SortF (l.take k):=List.Pairwise.sublist (List.take_sublist k l) h
theorem SortF.drop{l:List ((Int×Int)×Nat)}(h:SortF l)(k:Nat):SortF (l.drop k):=List.Pairwise.sublist (List.drop_sublist k l) h
theorem cross{X Y:List ((Int×Int)×Nat)}(hX:SortF X)(hY:SortF Y){k j:Nat}(hk:k≤X.length)(h:∀(_:0<k)(h1:k-1<X.length)(h2:j<Y.length),leF X[k-1] Y[j]):∀x∈X.take k,∀y∈Y.drop j,leF x y:=by intro x hx y hy;obtain⟨i,hi,rfl⟩:=List.getElem_of_mem hx;obtain⟨q,hq,rfl⟩:=List.getElem_of_mem hy;simp at hi hq;rw[List.getElem_take,List.getElem_drop];exact Int.le_trans (hX.get (i:=i) (j:=k-1) (by omega) (by omega)) (Int.le_trans (h (by omega) (by omega) (by omega)) (hY.get (i:=j) (j:=j+q) (by omega) (by omega)))
theorem k112{X1 X2 Y1 Y2 Z1 Z2:List ((Int×Int)×Nat)}(hX:SortF (X1++X2))(hY:SortF (Y1++Y2))(h1:∀x∈X1,∀y∈Y2,leF x y)(h2:∀y∈Y1,∀x∈X2,leF y x)(p1:Z1.Perm (X1++Y1))(p2:Z2.Perm (X2++Y2))(s1:SortF Z1)(s2:SortF Z2):SortF (Z1++Z2):=by
 refine List.pairwise_append.2 ⟨s1,s2,fun a ha b hb=>?_⟩;have ha':=p1.mem_iff.1 ha;have hb':=p2.mem_iff.1 hb;rcases List.mem_append.1 ha' with ha'|ha'<;>rcases List.mem_append.1 hb' with hb'|hb';·exact(List.pairwise_append.1 hX).2.2 a ha' b hb'
 ·exact h1 a ha' b hb'
 ·exact h2 a ha' b hb'
 ·exact(List.pairwise_append.1 hY).2.2 a ha' b hb'
theorem y134{X1 X2 Y1 Y2 Z1 Z2:List ((Int×Int)×Nat)}(p1:Z1.Perm (X1++Y1))(p2:Z2.Perm (X2++Y2)):(Z1++Z2).Perm ((X1++X2)++(Y1++Y2)):=by refine(p1.append p2).trans ?_;rw[List.append_assoc,List.append_assoc];refine List.Perm.append_left X1 ?_;rw[←List.append_assoc,←List.append_assoc];exact List.Perm.append_right Y2 List.perm_append_comm
theorem insert_sorted{A B:List ((Int×Int)×Nat)}{x:(Int×Int)×Nat}(h:SortF (A++B))(h1:∀a∈A,leF a x)(h2:∀b∈B,leF x b):SortF (A++x::B):=by
 obtain⟨a,b,c⟩:=List.pairwise_append.1 h;refine List.pairwise_append.2 ⟨a,List.pairwise_cons.2 ⟨h2,b⟩,fun p hp q hq=>?_⟩;rcases List.mem_cons.1 hq with rfl|hq;·exact h1 p hp
 ·exact c p hp q hq
theorem y147{A:List ((Int×Int)×Nat)}{x:(Int×Int)×Nat}(h:SortF A){k:Nat}(hk:k≤A.length)(h1:∀(_:0<k),leF (A[k-1]'(by omega)) x):∀a∈A.take k,leF a x:=by intro a ha;obtain⟨i,hi,rfl⟩:=List.getElem_of_mem ha;simp at hi;rw[List.getElem_take];exact Int.le_trans (h.get (i:=i) (j:=k-1) (by omega) (by omega)) (h1 (by omega))
theorem w147{A:List ((Int×Int)×Nat)}{x:(Int×Int)×Nat}(h:SortF A){k:Nat}(h1:∀(hk:k<A.length),leF x A[k]):∀a∈A.drop k,leF x a:=by intro a ha;obtain⟨i,hi,rfl⟩:=List.getElem_of_mem ha;simp at hi;rw[List.getElem_drop];exact Int.le_trans (h1 (by omega)) (h.get (i:=k) (j:=k+i) (by omega) (by omega))
section
variable{g:Int}{L R:List (Int×Int)}
def OnWay(g:Int)(L R:List (Int×Int)):Prop:=∃O:List ((Int×Int)×Nat),Folds g L O∧O.Pairwise (fun a b=>a.2<b.2)∧R=O.map Prod.fst
theorem q148(L:List (Int×Int))(h0:0≤g):Folds g L L.zipIdx:=by
 have hm:∀o,o∈L.zipIdx→L[o.2]?=some o.1:=fun o ho=>List.mk_mem_zipIdx_iff_getElem?.1 ho;refine⟨fun o ho=>?_,fun i hi=>?_,fun o ho=>?_,fun o ho=>?_,fun o ho p h1 h2=>?_⟩;·obtain⟨h1,h2⟩:=List.getElem?_eq_some_iff.1 (hm o ho);exact⟨h1,by rw[h2];exact inP.refl _⟩
 ·exact⟨(L[i],i),List.mk_mem_zipIdx_iff_getElem?.2 (List.getElem?_eq_getElem hi),inP.refl _,Nat.le_refl _⟩
 ·exact⟨o.1,List.mem_of_getElem? (hm o ho),inP.refl _,rfl⟩
 ·exact⟨o.1,List.mem_of_getElem? (hm o ho),inP.refl _,rfl⟩
 ·exact⟨o.1,List.mem_of_getElem? (hm o ho),h1,by omega⟩
theorem q158(L:List (Int×Int)):L.zipIdx.Pairwise (fun a b=>a.2<b.2):=by rw[List.pairwise_iff_getElem];intro i j hi hj hij;simpa using hij
theorem zip_fst(L:List (Int×Int)):L.zipIdx.map Prod.fst=L:=by apply List.ext_getElem?;intro i;simp
theorem OnWay.start(h0:0≤g):OnWay g L L:=⟨L.zipIdx,q148 L h0,q158 L,(zip_fst L).symm⟩
theorem OnWay.wide(hL:∀x∈L,0≤x.1∧x.1<x.2∧x.2≤4611686018427387904)(h:OnWay g L R):∀x∈R,0≤x.1∧x.1<x.2∧x.2≤4611686018427387904:=by obtain⟨O,hO,_,rfl⟩:=h;intro y hy;obtain⟨o,ho,rfl⟩:=List.mem_map.1 hy;have h0:=hO.wide (fun x hx=>(hL x hx).2.1) ho;obtain⟨x,hx,_,e1⟩:=hO.lo o ho;obtain⟨z,hz,_,e2⟩:=hO.hi o ho;have:=hL x hx;have:=hL z hz;omega
theorem OnWay.done(h:OnWay g L R)(hf:R.Pairwise (fun a b=>¬w25 g a b)):∃O,Folded g L O∧R=O.map Prod.fst:=by obtain⟨O,hO,hr,rfl⟩:=h;exact⟨O,⟨hO,List.pairwise_map.1 hf,hr⟩,rfl⟩
def k63(R:List (Int×Int))(i k:Nat)(x:Int×Int):List (Int×Int):=(R.set i x).eraseIdx k
theorem j82{α β:Type}(f:α→β):∀(l:List α)(k:Nat),(l.eraseIdx k).map f=(l.map f).eraseIdx k|[],k=>by simp|x::l,0=>by simp|x::l,k+1=>by simp[j82 f l k]
theorem OnWay.join(hL:∀x∈L,x.1<x.2)(h:OnWay g L R){i k:Nat}(hik:i<k)(hk:k<R.length)(hn:w25 g (R[i]'(by omega)) R[k]):OnWay g L (k63 R i k (q26 (R[i]'(by omega)) R[k])):=by
 obtain⟨O,hO,hr,rfl⟩:=h;have hkO:k<O.length:=by simpa using hk
 have hiO:i<O.length:=by omega
 simp only[List.getElem_map]at hn⊢;have hlt:(O[i]).2<(O[k]).2:=List.pairwise_iff_getElem.1 hr i k hiO hkO hik;refine⟨(O.set i (q26 O[i].1 O[k].1,O[i].2)).eraseIdx k,?_,?_,?_⟩;·
  refine hO.merge hL (List.getElem_mem hiO) (List.getElem_mem hkO) hn (q:=O[i].2) ⟨.inl rfl,Nat.le_refl _,by omega⟩ ?_ ?_ ?_;·
   intro o ho;have:=List.mem_of_mem_eraseIdx ho;rcases List.mem_or_eq_of_mem_set this with h|h;·exact .inr h
   ·exact .inl h
  ·rw[List.mem_eraseIdx_iff_getElem];exact⟨i,by simpa using hiO,by omega,by simp⟩
  ·intro o ho;obtain⟨j,hj,rfl⟩:=List.getElem_of_mem ho;by_cases h1:j=i;·subst h1;exact .inr (.inl rfl)
   ·by_cases h2:j=k;·subst h2;exact .inr (.inr rfl)
    ·refine .inl ?_;rw[List.mem_eraseIdx_iff_getElem];exact⟨j,by simpa using hj,h2,by rw[List.getElem_set_ne (fun e=>h1 e.symm)]⟩
 ·have e:(O.set i (q26 O[i].1 O[k].1,O[i].2)).Pairwise (fun a b=>a.2<b.2):=by
   have h1:(O.map Prod.snd).Pairwise (·<·):=List.pairwise_map.2 hr;refine List.pairwise_map.1 (?_:((O.set i (q26 O[i].1 O[k].1,O[i].2)).map Prod.snd).Pairwise (·<·));have e1:(O.set i (q26 O[i].1 O[k].1,O[i].2)).map Prod.snd=O.map Prod.snd:=by
    rw[List.map_set];apply List.ext_getElem (by simp);intro j h2 h3;rw[List.getElem_set];split;·rename_i e;subst e;simp
    ·rfl
   rw[e1];exact h1
  exact List.Pairwise.sublist (List.eraseIdx_sublist _ _) e
 ·unfold k63;rw[j82,List.map_set]
end
section
variable{g:Int}{L:List (Int×Int)}{O:List ((Int×Int)×Nat)}
def HoleAt(g:Int)(L:List (Int×Int))(p:Int):Prop:=∃a b,InS L a∧InS L b∧a<p∧p<b∧b-a≤g+1
theorem Folded.bound(hL:∀x∈L,0≤x.1∧x.1<x.2∧x.2≤4611686018427387904)(h:Folded g L O):∀x∈O.map Prod.fst,0≤x.1∧x.1<x.2∧x.2≤4611686018427387904:=OnWay.wide hL ⟨O,h.toFolds,h.rise,rfl⟩
theorem w194{x:Int×Int}(h:0≤x.1∧x.1<x.2∧x.2≤4611686018427387904):okS x=true:=by rw[j19];omega
theorem v202{x:Int×Int}{p:Int}(hL:∀x∈L,0≤x.1∧x.1<x.2∧x.2≤4611686018427387904)(hx:x∈L)(h1:x.1≤p)(h2:p<x.2):InS L p:=⟨x,hx,w194 (hL x hx),h1,h2⟩
theorem x198(hL:∀x∈L,0≤x.1∧x.1<x.2∧x.2≤4611686018427387904)(h:Folded g L O){o:(Int×Int)×Nat}(ho:o∈O){p:Int}(hp:¬InS L p)(h1:o.1.1≤p):∀(n:Nat)(b:Int),(b-p).toNat≤n→InS L b→p<b→b<o.1.2→HoleAt g L p
 |0,b,hn,hb,hpb,hbo=>by omega
 |n+1,b,hn,hb,hpb,hbo=>by
  by_cases hb1:InS L (b-1);·
   by_cases e:b-1=p;·rw[e]at hb1;exact absurd hb1 hp
   ·exact x198 hL h ho hp h1 n (b-1) (by omega) hb1 (by omega) (by omega)
  ·obtain⟨x,hx,x1,x2⟩:=h.mid o ho (b-1) (by omega) (by omega);have hxw:=hL x hx;have hx2:x.2≤b-1:=by
    rcases Int.lt_or_le (b-1) x.2 with hh|hh;·exact absurd (v202 hL hx x1 hh) hb1
    ·exact hh
   have ha:InS L (x.2-1):=v202 hL hx (by omega) (by omega);rcases Int.lt_trichotomy (x.2-1) p with hh|hh|hh;·exact⟨x.2-1,b,ha,hb,hh,hpb,by omega⟩
   ·rw[hh]at ha;exact absurd ha hp
   ·exact x198 hL h ho hp h1 n (x.2-1) (by omega) ha hh (by omega)
theorem Folded.in_iff(hL:∀x∈L,0≤x.1∧x.1<x.2∧x.2≤4611686018427387904)(h:Folded g L O)(p:Int):InS (O.map Prod.fst) p↔InS L p∨HoleAt g L p:=by
 have hB:=h.bound hL;constructor;·
  rintro⟨s,hs,_,h1,h2⟩;obtain⟨o,ho,rfl⟩:=List.mem_map.1 hs;by_cases hp:InS L p;·exact .inl hp
  ·refine .inr ?_;obtain⟨y,hy,hyo,hy2⟩:=h.hi o ho;have hyw:=hL y hy;have hb:InS L (y.2-1):=v202 hL hy (by omega) (by omega);have hne:y.2-1≠p:=fun e=>hp (e▸hb);exact x198 hL h ho hp h1 _ (y.2-1) (Nat.le_refl _) hb (by omega) (by omega)
 ·have key:∀q,InS L q→∃o∈O,o.1.1≤q∧q<o.1.2:=by rintro q⟨x,hx,_,h1,h2⟩;obtain⟨o,ho,hin⟩:=h.toFolds.some_ hx;unfold inP at hin;exact⟨o,ho,by omega,by omega⟩
  rintro(hp|⟨a,b,ha,hb,hap,hpb,hab⟩);·obtain⟨o,ho,h1,h2⟩:=key p hp;exact⟨o.1,List.mem_map_of_mem ho,w194 (hB _ (List.mem_map_of_mem ho)),h1,h2⟩
  ·obtain⟨s,hs,s1,s2⟩:=key a ha;obtain⟨t,ht,t1,t2⟩:=key b hb;have e:s=t:=w93 h.far hs ht (by unfold w25;omega);subst e;exact⟨s.1,List.mem_map_of_mem hs,w194 (hB _ (List.mem_map_of_mem hs)),by omega,by omega⟩
end
section
variable{L:List (Int×Int)}{O:List ((Int×Int)×Nat)}
theorem Folded.less(g:Int)(hL:∀x∈L,0≤x.1∧x.1<x.2∧x.2≤4611686018427387904)(h:Folded g L O):ofOp (cano L) (cano (O.map Prod.fst)) 3=[]:=by
 refine Canon.unique (y58 _ _ 3).1 Canon.nil fun p=>?_;rw[(y58 _ _ 3).2];constructor;·intro hh;exfalso;simp[opB]at hh;have h1:=(j34 _ _).1 hh.1;rw[q129]at h1;have h2:inB (cano (O.map Prod.fst)) p=true:=(j34 _ _).2 ((q129 _ _).2 ((h.in_iff hL p).2 (.inl h1)));rw[h2]at hh;simp at hh
 ·intro hh;exact absurd hh (k48 p)
theorem Folded.few{g:Int}(h:Folded g L O):O.length≤L.length:=by
 have h1:(O.map fun o=>(o.2:Int)).Nodup:=by rw[List.nodup_iff_pairwise_ne,List.pairwise_map];exact h.rise.imp fun hab=>by omega
 have:=w73 (m:=(List.range L.length).map fun n:Nat=>(n:Int)) h1 (fun q hq=>by obtain⟨o,ho,rfl⟩:=List.mem_map.1 hq;obtain⟨hlt,_⟩:=h.at_ o ho;exact List.mem_map.2 ⟨o.2,by simpa using hlt,rfl⟩);simpa using this
theorem Folded.again{g:Int}{O':List ((Int×Int)×Nat)}(h0:0≤g)(hL:∀x∈L,x.1<x.2)(h:Folded g L O)(h':Folded g (O.map Prod.fst) O'):O'.map Prod.fst=O.map Prod.fst:=by
 have hW:∀x∈O.map Prod.fst,x.1<x.2:=fun x hx=>by obtain⟨o,ho,rfl⟩:=List.mem_map.1 hx;exact h.toFolds.wide hL ho
 have hz:Folded g (O.map Prod.fst) (O.map Prod.fst).zipIdx:=by
  refine⟨q148 _ h0,?_,q158 _⟩;have:=List.pairwise_map (R:=fun a b=>¬w25 g a b) (f:=Prod.fst)|>.2 h.far;rw[List.pairwise_iff_getElem];intro i j hi hj hij;have hi':i<(O.map Prod.fst).length:=by simpa using hi
  have hj':j<(O.map Prod.fst).length:=by simpa using hj
  have:=List.pairwise_iff_getElem.1 this i j hi' hj' hij;simpa using this
 rw[h'.eq hW h0 hz,zip_fst]
theorem Folded.apart{g:Int}(h:Folded g L O){i k:Nat}(hi:i<(O.map Prod.fst).length)(hk:k<(O.map Prod.fst).length)(hne:i≠k):¬w25 g (O.map Prod.fst)[i] (O.map Prod.fst)[k]:=by
 have hf:=List.pairwise_map (R:=fun a b=>¬w25 g a b) (f:=Prod.fst)|>.2 h.far;rcases Nat.lt_or_ge i k with h1|h1;·exact List.pairwise_iff_getElem.1 hf i k hi hk h1
 ·intro hn;exact List.pairwise_iff_getElem.1 hf k i hk hi (by omega) ⟨hn.2,hn.1⟩
end
end Go.Proofs.YtkkomffmnafjkaaGreatDoor
