/- Plain laws on lists of spans: what is in a list, when a list is the least one of its set, and that there is one such list alone. Plain laws on lists of .. -/
import Derived.Below
set_option maxHeartbeats 16000000
set_option maxRecDepth 100000
set_option linter.unusedVariables false
set_option linter.unusedSimpArgs false
namespace Go.Proofs.YtbphndihjdiiiaaGreatDoor
def okS(x:Int×Int):Bool:=decide (0≤x.1)&&decide (x.1≤x.2)&&decide (x.2≤4611686018427387904)
def goodS(x:Int×Int):Bool:=okS x&&decide (x.1<x.2)
theorem okS_iff(x:Int×Int):okS x=true↔0≤x.1∧x.1≤x.2∧x.2≤4611686018427387904:=by simp[okS,and_assoc]
theorem goodS_iff(x:Int×Int):goodS x=true↔0≤x.1∧x.1<x.2∧x.2≤4611686018427387904:=by simp only[goodS,Bool.and_eq_true,okS_iff,decide_eq_true_eq];omega
def InS(L:List (Int×Int))(p:Int):Prop:=∃x∈L,okS x=true∧x.1≤p∧p<x.2
theorem InS_nil(p:Int):¬InS [] p:=by rintro⟨x,h,_⟩;cases h
theorem InS_cons(x:Int×Int)(L:List (Int×Int))(p:Int):InS (x::L) p↔(okS x=true∧x.1≤p∧p<x.2)∨InS L p:=by simp[InS]
theorem InS_append(a b:List (Int×Int))(p:Int):InS (a++b) p↔InS a p∨InS b p:=by
 simp only[InS,List.mem_append];constructor;·
  rintro⟨x,h|h,r⟩;·exact .inl ⟨x,h,r⟩
  ·exact .inr ⟨x,h,r⟩
 ·rintro(⟨x,h,r⟩|⟨x,h,r⟩);·exact⟨x,.inl h,r⟩
  ·exact⟨x,.inr h,r⟩
theorem InS_one(x:Int×Int)(p:Int):InS [x] p↔okS x=true∧x.1≤p∧p<x.2:=by simp[InS]
structure Canon(L:List (Int×Int)):Prop where
 good:∀x∈L,goodS x=true
 sep:L.Pairwise (fun x y=>x.2<y.1)
theorem Canon.nil:Canon []:=⟨(fun _ h=>by cases h),List.Pairwise.nil⟩
theorem Canon.one{x:Int×Int}(h:goodS x=true):Canon [x]:=⟨fun y hy=>by simp at hy;rw[hy];exact h,by simp⟩
theorem Canon.tail{x:Int×Int}{L:List (Int×Int)}(h:Canon (x::L)):Canon L:=⟨fun y hy=>h.good y (List.mem_cons_of_mem _ hy),(List.pairwise_cons.1 h.sep).2⟩
theorem Canon.head{x:Int×Int}{L:List (Int×Int)}(h:Canon (x::L)):0≤x.1∧x.1<x.2∧x.2≤4611686018427387904:=(goodS_iff x).1 (h.good x (List.mem_cons_self ..))
theorem Canon.mem{L:List (Int×Int)}(h:Canon L){x:Int×Int}(hx:x∈L):0≤x.1∧x.1<x.2∧x.2≤4611686018427387904:=(goodS_iff x).1 (h.good x hx)
theorem Canon.in_cons{x:Int×Int}{L:List (Int×Int)}(h:Canon (x::L))(p:Int):InS (x::L) p↔(x.1≤p∧p<x.2)∨InS L p:=by
 have:=h.head;have ho:okS x=true:=by rw[okS_iff];omega
 rw[InS_cons,ho];simp
theorem Canon.behind{x:Int×Int}{L:List (Int×Int)}(h:Canon (x::L)){p:Int}(hp:InS L p):x.2<p:=by obtain⟨y,hy,_,h1,_⟩:=hp;have:=(List.pairwise_cons.1 h.sep).1 y hy;omega
theorem Canon.first{x:Int×Int}{L:List (Int×Int)}(h:Canon (x::L)){p:Int}(hp:InS (x::L) p):x.1≤p:=by
 rcases(h.in_cons p).1 hp with h1|h1;·exact h1.1
 ·have:=h.behind h1;have:=h.head;omega
theorem Canon.unique:∀{a b:List (Int×Int)},Canon a→Canon b→(∀p,InS a p↔InS b p)→a=b
 |[],[],_,_,_=>rfl
 |[],y::rb,_,hb,h=>by exfalso;have:=hb.head;exact InS_nil y.1 ((h y.1).2 ((hb.in_cons _).2 (.inl (by omega))))
 |x::ra,[],ha,_,h=>by exfalso;have:=ha.head;exact InS_nil x.1 ((h x.1).1 ((ha.in_cons _).2 (.inl (by omega))))
 |x::ra,y::rb,ha,hb,h=>by
  have hx:=ha.head;have hy:=hb.head;have e1:x.1=y.1:=by have h1:=hb.first ((h x.1).1 ((ha.in_cons _).2 (.inl (by omega))));have h2:=ha.first ((h y.1).2 ((hb.in_cons _).2 (.inl (by omega))));omega
  have e2:x.2=y.2:=by
   rcases Int.lt_trichotomy x.2 y.2 with hlt|heq|hgt;·
    exfalso;have:=(h x.2).2 ((hb.in_cons _).2 (.inl (by omega)));rcases(ha.in_cons _).1 this with h1|h1;·omega
    ·have:=ha.behind h1;omega
   ·exact heq
   ·exfalso;have:=(h y.2).1 ((ha.in_cons _).2 (.inl (by omega)));rcases(hb.in_cons _).1 this with h1|h1;·omega
    ·have:=hb.behind h1;omega
  have e:x=y:=Prod.ext e1 e2;subst e;have hr:∀p,InS ra p↔InS rb p:=by
   intro p;constructor;·
    intro hp;have hlt:=ha.behind hp;rcases(hb.in_cons _).1 ((h p).1 ((ha.in_cons _).2 (.inr hp)))with h1|h1;·omega
    ·exact h1
   ·intro hp;have hlt:=hb.behind hp;rcases(ha.in_cons _).1 ((h p).2 ((hb.in_cons _).2 (.inr hp)))with h1|h1;·omega
    ·exact h1
  rw[Canon.unique ha.tail hb.tail hr]
theorem Canon.snoc{L:List (Int×Int)}{x:Int×Int}(h:Canon L)(hx:goodS x=true)(hs:∀y∈L,y.2<x.1):Canon (L++[x]):=⟨fun y hy=>by
 rcases List.mem_append.1 hy with h1|h1;·exact h.good y h1
 ·simp at h1;rw[h1];exact hx,List.pairwise_append.2 ⟨h.sep,by simp,fun a ha b hb=>by simp at hb;rw[hb];exact hs a ha⟩⟩
theorem Canon.init{L:List (Int×Int)}{x:Int×Int}(h:Canon (L++[x])):Canon L∧goodS x=true∧∀y∈L,y.2<x.1:=⟨⟨fun y hy=>h.good y (List.mem_append.2 (.inl hy)),(List.pairwise_append.1 h.sep).1⟩,h.good x (by simp),fun y hy=>(List.pairwise_append.1 h.sep).2.2 y hy x (by simp)⟩
def inB(L:List (Int×Int))(p:Int):Bool:=L.any fun x=>okS x&&decide (x.1≤p)&&decide (p<x.2)
theorem inB_iff(L:List (Int×Int))(p:Int):inB L p=true↔InS L p:=by simp[inB,InS,and_assoc]
theorem Canon.take{L:List (Int×Int)}(h:Canon L)(k:Nat):Canon (L.take k):=⟨fun x hx=>h.good x (List.mem_of_mem_take hx),h.sep.sublist (List.take_sublist k L)⟩
def firstL(L:List (Int×Int))(p:Int):Option (Int×Int):=(L.find? fun x=>decide (p<x.2)).map fun x=>(max p x.1,x.2)
theorem firstL_none{L:List (Int×Int)}{p:Int}(h:∀x∈L,x.2≤p):firstL L p=none:=by unfold firstL;rw[List.find?_eq_none.2 (fun x hx=>by have:=h x hx;simp;omega)];rfl
theorem firstL_at{L:List (Int×Int)}{p:Int}{k:Nat}(hk:k<L.length)(h:∀x∈L.take k,x.2≤p)(hp:p<(L[k]).2):firstL L p=some (max p (L[k]).1,(L[k]).2):=by
 have hf:L.find? (fun x=>decide (p<x.2))=some L[k]:=by rw[List.find?_eq_some_iff_getElem];refine⟨by simpa using hp,k,hk,rfl,fun j hj=>?_⟩;have:=h (L[j]'(by omega)) (by rw[List.mem_take_iff_getElem];exact⟨j,by omega,rfl⟩);simp;omega
 unfold firstL;rw[hf];rfl
theorem take_all{L:List (Int×Int)}{k:Nat}(h:¬k<L.length):L.take k=L:=List.take_of_length_le (by omega)
theorem Canon.mono{L:List (Int×Int)}(h:Canon L){i j:Nat}(hij:i≤j)(hj:j<L.length):(L[i]'(by omega)).2≤(L[j]).2:=by
 rcases Nat.lt_or_ge i j with hlt|hge;·have h1:=List.pairwise_iff_getElem.1 h.sep i j (by omega) hj hlt;have h2:=h.mem (List.getElem_mem hj);omega
 ·obtain rfl:i=j:=by omega
  exact Int.le_refl _
structure Behind(L:List (Int×Int))(p:Int)(k:Nat):Prop where
 le:k≤L.length
 before:∀x∈L.take k,x.2≤p
 at_:∀h:k<L.length,p<(L[k]).2
theorem Canon.before_of{L:List (Int×Int)}(h:Canon L){m:Nat}{p:Int}(hm:m<L.length)(hp:(L[m]).2≤p):∀x∈L.take (m+1),x.2≤p:=by intro x hx;rw[List.mem_take_iff_getElem]at hx;obtain⟨j,hj,rfl⟩:=hx;have:=h.mono (i:=j) (j:=m) (by omega) hm;omega
theorem Canon.from_of{L:List (Int×Int)}(h:Canon L){m:Nat}{p:Int}(hm:m<L.length)(hp:p<(L[m]).2):∀j,m≤j→∀hj:j<L.length,p<(L[j]).2:=by intro j hmj hj;have:=h.mono hmj hj;omega
theorem Behind.first{L:List (Int×Int)}{p:Int}{k:Nat}(h:Behind L p k)(hk:k<L.length):firstL L p=some (max p (L[k]).1,(L[k]).2):=firstL_at hk h.before (h.at_ hk)
theorem Behind.none_{L:List (Int×Int)}{p:Int}{k:Nat}(h:Behind L p k)(hk:¬k<L.length):firstL L p=none:=by have:=h.before;rw[take_all hk]at this;exact firstL_none this
def gstep(out:List (Int×Int))(x:Int×Int):List (Int×Int):=match out.reverse with|[]=>[x]|l::r=>if x.1≤l.2 then r.reverse++[(l.1,max l.2 x.2)]else out++[x]
def gatherL(L:List (Int×Int)):List (Int×Int):=L.foldl gstep []
theorem gstep_nil(x:Int×Int):gstep [] x=[x]:=rfl
theorem gstep_join{i:List (Int×Int)}{l x:Int×Int}(h:x.1≤l.2):gstep (i++[l]) x=i++[(l.1,max l.2 x.2)]:=by simp[gstep,h]
theorem gstep_new{i:List (Int×Int)}{l x:Int×Int}(h:¬x.1≤l.2):gstep (i++[l]) x=i++[l]++[x]:=by simp[gstep,h]
theorem gatherL_snoc(L:List (Int×Int))(x:Int×Int):gatherL (L++[x])=gstep (gatherL L) x:=by simp[gatherL]
theorem gatherL_step{L:List (Int×Int)}{k:Nat}(h:k<L.length):gatherL (L.take (k+1))=gstep (gatherL (L.take k)) L[k]:=by rw[List.take_succ_eq_append_getElem h,gatherL_snoc]
theorem nil_or_snoc(L:List (Int×Int)):L=[]∨∃i l,L=i++[l]:=by
 rcases List.eq_nil_or_concat L with h|⟨i,l,h⟩;·exact .inl h
 ·exact .inr ⟨i,l,by simpa using h⟩
theorem gstep_length(out:List (Int×Int))(x:Int×Int):(gstep out x).length≤out.length+1:=by
 rcases nil_or_snoc out with rfl|⟨i,l,rfl⟩;·simp[gstep_nil]
 ·by_cases h:x.1≤l.2;·rw[gstep_join h];simp
  ·rw[gstep_new h];simp
theorem gatherL_length(L:List (Int×Int)):(gatherL L).length≤L.length:=by
 have:∀(L out:List (Int×Int)),(L.foldl gstep out).length≤out.length+L.length:=by
  intro L;induction L with
   |nil=>intro out;simp
   |cons x L ih=>intro out;have h1:=ih (gstep out x);have h2:=gstep_length out x;simp only[List.foldl_cons,List.length_cons];omega
 have:=this L [];simpa[gatherL]using this
def Rising(L:List (Int×Int)):Prop:=L.Pairwise (fun x y=>x.1≤y.1)
theorem gather_inv:∀(L:List (Int×Int)),(∀x∈L,goodS x=true)→Rising L→Canon (gatherL L)∧(∀p,InS (gatherL L) p↔InS L p)∧(∀y∈gatherL L,∃x∈L,y.1=x.1):=by
 have main:∀(n:Nat)(L:List (Int×Int)),L.length=n→(∀x∈L,goodS x=true)→Rising L→Canon (gatherL L)∧(∀p,InS (gatherL L) p↔InS L p)∧(∀y∈gatherL L,∃x∈L,y.1=x.1):=by
  intro n;induction n with
   |zero=>intro L hn _ _;obtain rfl:L=[]:=List.eq_nil_of_length_eq_zero hn;exact⟨Canon.nil,fun p=>Iff.rfl,fun y hy=>by cases hy⟩
   |succ n ih=>
    intro L hn hg hr;rcases nil_or_snoc L with rfl|⟨M,x,rfl⟩;·simp at hn
    have hM:M.length=n:=by simpa using hn
    have hgM:∀y∈M,goodS y=true:=fun y hy=>hg y (List.mem_append.2 (.inl hy));have hrM:Rising M:=(List.pairwise_append.1 hr).1;have hlast:∀y∈M,y.1≤x.1:=fun y hy=>(List.pairwise_append.1 hr).2.2 y hy x (by simp);have hgx:=hg x (by simp);have gx:=(goodS_iff x).1 hgx;have hox:okS x=true:=by rw[okS_iff];omega
    obtain⟨hc,hin,hfr⟩:=ih M hM hgM hrM;rw[gatherL_snoc];rcases nil_or_snoc (gatherL M)with he|⟨i,l,he⟩;·rw[he,gstep_nil];rw[he]at hin;refine⟨Canon.one hgx,fun p=>?_,fun y hy=>⟨x,by simp,by simp at hy;rw[hy]⟩⟩;rw[InS_append,←hin p];simp[InS_nil]
    ·rw[he]at hc hin hfr⊢;obtain⟨hci,hgl,hsl⟩:=hc.init;have gl:=(goodS_iff l).1 hgl;have hol:okS l=true:=by rw[okS_iff];omega
     have hlx:l.1≤x.1:=by obtain⟨z,hz,e⟩:=hfr l (by simp);have:=hlast z hz;omega
     by_cases hj:x.1≤l.2;·
      rw[gstep_join hj];have hgn:goodS (l.1,max l.2 x.2)=true:=by rw[goodS_iff];simp only;omega
      have hon:okS (l.1,max l.2 x.2)=true:=by rw[okS_iff];simp only;omega
      refine⟨hci.snoc hgn hsl,fun p=>?_,fun y hy=>?_⟩;·
       rw[InS_append,InS_append,←hin p,InS_append,InS_one,InS_one,InS_one,hon,hol,hox];simp only[true_and];constructor;·
        rintro(h|h);·exact .inl (.inl h)
        ·by_cases h2:p<l.2;·exact .inl (.inr ⟨h.1,h2⟩)
         ·exact .inr ⟨by omega,by omega⟩
       ·rintro((h|h)|h);·exact .inl h
        ·exact .inr ⟨h.1,by omega⟩
        ·exact .inr ⟨by omega,by omega⟩
      ·rcases List.mem_append.1 hy with h|h;·obtain⟨z,hz,e⟩:=hfr y (List.mem_append.2 (.inl h));exact⟨z,List.mem_append.2 (.inl hz),e⟩
       ·simp at h;obtain⟨z,hz,e⟩:=hfr l (by simp);exact⟨z,List.mem_append.2 (.inl hz),by rw[h];exact e⟩
     ·rw[gstep_new hj];refine⟨hc.snoc hgx (fun y hy=>?_),fun p=>?_,fun y hy=>?_⟩;·
       rcases List.mem_append.1 hy with h|h;·have:=hsl y h;omega
       ·simp at h;rw[h];omega
      ·rw[InS_append,InS_append M [x],←hin p]
      ·rcases List.mem_append.1 hy with h|h;·obtain⟨z,hz,e⟩:=hfr y h;exact⟨z,List.mem_append.2 (.inl hz),e⟩
       ·simp at h;exact⟨x,by simp,by rw[h]⟩
 exact fun L=>main L.length L rfl
def insertL:List Int→Int→List Int|[],n=>[n]|a::r,n=>if n≤a then(if n<a then n::a::r else a::r)else a::insertL r n
def Strict(l:List Int):Prop:=l.Pairwise (·<·)
theorem mem_insertL:∀(l:List Int)(n m:Int),m∈insertL l n↔m=n∨m∈l
 |[],n,m=>by simp[insertL]
 |a::r,n,m=>by
  unfold insertL;by_cases h:n≤a;·
   rw[if_pos h];by_cases h2:n<a;·rw[if_pos h2];simp
   ·obtain rfl:n=a:=by omega
    rw[if_neg h2];simp
  ·rw[if_neg h];simp only[List.mem_cons,mem_insertL r n m];constructor;·
    rintro(h|h|h);·exact .inr (.inl h)
    ·exact .inl h
    ·exact .inr (.inr h)
   ·rintro(h|h|h);·exact .inr (.inl h)
    ·exact .inl h
    ·exact .inr (.inr h)
theorem strict_insertL:∀(l:List Int)(n:Int),Strict l→Strict (insertL l n)
 |[],n,_=>by simp[insertL,Strict]
 |a::r,n,h=>by
  obtain⟨h1,h2⟩:=List.pairwise_cons.1 h;unfold insertL;by_cases hn:n≤a;·
   rw[if_pos hn];by_cases hn2:n<a;·
    rw[if_pos hn2];refine List.pairwise_cons.2 ⟨fun b hb=>?_,h⟩;rcases List.mem_cons.1 hb with rfl|hb;·exact hn2
    ·have:=h1 b hb;omega
   ·rw[if_neg hn2];exact h
  ·rw[if_neg hn];refine List.pairwise_cons.2 ⟨fun b hb=>?_,strict_insertL r n h2⟩;rcases(mem_insertL r n b).1 hb with rfl|hb;·omega
   ·exact h1 b hb
theorem length_insertL:∀(l:List Int)(n:Int),(insertL l n).length≤l.length+1
 |[],n=>by simp[insertL]
 |a::r,n=>by
  have:=length_insertL r n;unfold insertL;by_cases hn:n≤a;·
   rw[if_pos hn];by_cases hn2:n<a;·rw[if_pos hn2];simp
   ·rw[if_neg hn2];simp
  ·rw[if_neg hn];simp;omega
def estep(out:List Int)(x:Int×Int):List Int:=if okS x=true then insertL (insertL out x.1) x.2 else out
def endsL(L:List (Int×Int)):List Int:=L.foldl estep []
theorem endsL_snoc(L:List (Int×Int))(x:Int×Int):endsL (L++[x])=estep (endsL L) x:=by simp[endsL]
theorem endsL_inv(L:List (Int×Int)):Strict (endsL L)∧(∀m,m∈endsL L↔∃x∈L,okS x=true∧(m=x.1∨m=x.2))∧(endsL L).length≤2*L.length:=by
 have main:∀(n:Nat)(L:List (Int×Int)),L.length=n→Strict (endsL L)∧(∀m,m∈endsL L↔∃x∈L,okS x=true∧(m=x.1∨m=x.2))∧(endsL L).length≤2*L.length:=by
  intro n;induction n with
   |zero=>intro L hn;obtain rfl:L=[]:=List.eq_nil_of_length_eq_zero hn;exact⟨List.Pairwise.nil,fun m=>by simp[endsL],by simp[endsL]⟩
   |succ n ih=>
    intro L hn;rcases nil_or_snoc L with rfl|⟨M,x,rfl⟩;·simp at hn
    obtain⟨h1,h2,h3⟩:=ih M (by simpa using hn);rw[endsL_snoc];unfold estep;by_cases ho:okS x=true;·
     rw[if_pos ho];refine⟨strict_insertL _ _ (strict_insertL _ _ h1),fun m=>?_,?_⟩;·
      rw[mem_insertL,mem_insertL,h2];constructor;·
       rintro(h|h|⟨y,hy,r⟩);·exact⟨x,by simp,ho,.inr h⟩
       ·exact⟨x,by simp,ho,.inl h⟩
       ·exact⟨y,by simp[hy],r⟩
      ·rintro⟨y,hy,hoy,r⟩;rcases List.mem_append.1 hy with hy|hy;·exact .inr (.inr ⟨y,hy,hoy,r⟩)
       ·simp at hy;subst hy;rcases r with r|r;·exact .inr (.inl r)
        ·exact .inl r
     ·have h4:=length_insertL (insertL (endsL M) x.1) x.2;have h5:=length_insertL (endsL M) x.1;simp;omega
    ·rw[if_neg ho];refine⟨h1,fun m=>?_,by simp;omega⟩;rw[h2];constructor;·rintro⟨y,hy,r⟩;exact⟨y,by simp[hy],r⟩
     ·rintro⟨y,hy,hoy,r⟩;rcases List.mem_append.1 hy with hy|hy;·exact⟨y,hy,hoy,r⟩
      ·simp at hy;subst hy;exact absurd hoy ho
 exact main L.length L rfl
def ostep(g:Int→Bool)(out:List (Int×Int))(u v:Int):List (Int×Int):=if g u=true then match out.reverse with|[]=>[(u,v)]|l::r=>if l.2=u then r.reverse++[(l.1,v)]else out++[(u,v)]else out
theorem ostep_no{g:Int→Bool}{out:List (Int×Int)}{u v:Int}(h:g u=false):ostep g out u v=out:=by simp[ostep,h]
theorem ostep_nil{g:Int→Bool}{u v:Int}(h:g u=true):ostep g [] u v=[(u,v)]:=by simp[ostep,h]
theorem ostep_join{g:Int→Bool}{i:List (Int×Int)}{l:Int×Int}{u v:Int}(h:g u=true)(hl:l.2=u):ostep g (i++[l]) u v=i++[(l.1,v)]:=by simp[ostep,h,hl]
theorem ostep_new{g:Int→Bool}{i:List (Int×Int)}{l:Int×Int}{u v:Int}(h:g u=true)(hl:¬l.2=u):ostep g (i++[l]) u v=i++[l]++[(u,v)]:=by simp[ostep,h,hl]
def ofTo(g:Int→Bool)(E:List Int):Nat→List (Int×Int)|0=>[]|k+1=>ostep g (ofTo g E k) (E.getD k 0) (E.getD (k+1) 0)
def ofL(g:Int→Bool)(E:List Int):List (Int×Int):=ofTo g E (E.length-1)
theorem ofTo_inv(g:Int→Bool)(E:List Int)(hE:Strict E)(h0:∀m∈E,0≤m∧m≤4611686018427387904)(hg:∀(k:Nat)(h:k+1<E.length)(p:Int),E[k]≤p→p<E[k+1]→g p=g E[k]):∀k,k+1≤E.length→Canon (ofTo g E k)∧(∀y∈ofTo g E k,y.2≤E.getD k 0)∧∀p,InS (ofTo g E k) p↔E.getD 0 0≤p∧p<E.getD k 0∧g p=true
 |0,h=>by
  refine⟨Canon.nil,(fun y hy=>by cases hy),fun p=>?_⟩;simp only[ofTo];constructor;·exact fun hp=>absurd hp (InS_nil p)
  ·intro hp;omega
 |k+1,h=>by
  obtain⟨hc,hle,hin⟩:=ofTo_inv g E hE h0 hg k (by omega);have hk:k<E.length:=by omega
  have hk1:k+1<E.length:=by omega
  have hlt:E[k]<E[k+1]:=List.pairwise_iff_getElem.1 hE k (k+1) hk hk1 (by omega);have hu0:=h0 E[k] (List.getElem_mem hk);have hv0:=h0 E[k+1] (List.getElem_mem hk1);have hgk:=hg k hk1;have hmin:E.getD 0 0≤E[k]:=by
   rw[List.getD_eq_getElem?_getD,List.getElem?_eq_getElem (by omega)];rcases Nat.eq_zero_or_pos k with rfl|hp;·exact Int.le_refl _
   ·exact Int.le_of_lt (List.pairwise_iff_getElem.1 hE 0 k (by omega) hk hp)
  have ek:E.getD k 0=E[k]:=by rw[List.getD_eq_getElem?_getD,List.getElem?_eq_getElem hk];rfl
  have ek1:E.getD (k+1) 0=E[k+1]:=by rw[List.getD_eq_getElem?_getD,List.getElem?_eq_getElem hk1];rfl
  rw[ek]at hle hin;simp only[ofTo,ek,ek1];generalize E[k+1]=v at*;generalize E[k]=u at*;generalize ofTo g E k=out at*;generalize E.getD 0 0=m at*;have split:∀p,(m≤p∧p<v∧g p=true)↔(m≤p∧p<u∧g p=true)∨(u≤p∧p<v∧g u=true):=by
   intro p;constructor;·
    rintro⟨h1,h2,h3⟩;by_cases hp:p<u;·exact .inl ⟨h1,hp,h3⟩
    ·refine .inr ⟨by omega,h2,?_⟩;rw[←hgk p (by omega) h2];exact h3
   ·rintro(⟨h1,h2,h3⟩|⟨h1,h2,h3⟩);·exact⟨h1,by omega,h3⟩
    ·refine⟨by omega,h2,?_⟩;rw[hgk p h1 h2];exact h3
  cases hgu:g u;·rw[ostep_no hgu];refine⟨hc,fun y hy=>by have:=hle y hy;omega,fun p=>?_⟩;rw[split p,hin p,hgu];simp
  ·have hgd:goodS (u,v)=true:=by rw[goodS_iff];simp only;omega
   have hod:okS (u,v)=true:=by rw[okS_iff];simp only;omega
   rcases nil_or_snoc out with rfl|⟨i,l,rfl⟩;·rw[ostep_nil hgu];refine⟨Canon.one hgd,fun y hy=>by simp at hy;rw[hy];exact Int.le_refl _,fun p=>?_⟩;rw[split p,←hin p,InS_one,hgu,hod];simp[InS_nil]
   ·obtain⟨hci,hgl,hsl⟩:=hc.init;have gl:=(goodS_iff l).1 hgl;have hol:okS l=true:=by rw[okS_iff];omega
    by_cases hl:l.2=u;·
     rw[ostep_join hgu hl];have hgn:goodS (l.1,v)=true:=by rw[goodS_iff];simp only;omega
     have hon:okS (l.1,v)=true:=by rw[okS_iff];simp only;omega
     refine⟨hci.snoc hgn hsl,fun y hy=>?_,fun p=>?_⟩;·
      rcases List.mem_append.1 hy with h|h;·have:=hle y (List.mem_append.2 (.inl h));omega
      ·simp at h;rw[h];exact Int.le_refl _
     ·rw[split p,←hin p,InS_append,InS_append,InS_one,InS_one,hon,hol,hgu];simp only[true_and,and_true];constructor;·
       rintro(h|h);·exact .inl (.inl h)
       ·by_cases h2:p<u;·exact .inl (.inr ⟨h.1,by omega⟩)
        ·exact .inr ⟨by omega,h.2⟩
      ·rintro((h|h)|h);·exact .inl h
       ·exact .inr ⟨h.1,by omega⟩
       ·exact .inr ⟨by omega,h.2⟩
    ·rw[ostep_new hgu hl];have hll:=hle l (by simp);refine⟨hc.snoc hgd (fun y hy=>?_),fun y hy=>?_,fun p=>?_⟩;·
      rcases List.mem_append.1 hy with h|h;·have:=hsl y h;simp only;omega
      ·simp at h;rw[h];simp only;omega
     ·rcases List.mem_append.1 hy with h|h;·have:=hle y h;omega
      ·simp at h;rw[h];exact Int.le_refl _
     ·rw[split p,←hin p,InS_append,InS_one,hod,hgu];simp
theorem in_piece{L M:List (Int×Int)}(hM:∀x∈L,x∈M){k:Nat}(h:k+1<(endsL M).length){p:Int}(h1:(endsL M)[k]≤p)(h2:p<(endsL M)[k+1]):inB L p=inB L (endsL M)[k]:=by
 obtain⟨hs,hm,_⟩:=endsL_inv M;have none_:∀m∈endsL M,m≤(endsL M)[k]∨(endsL M)[k+1]≤m:=by
  intro m hm';obtain⟨j,hj,rfl⟩:=List.getElem_of_mem hm';rcases Nat.lt_or_ge k j with hkj|hkj;·
   right;rcases Nat.lt_or_ge (k+1) j with h3|h3;·exact Int.le_of_lt (List.pairwise_iff_getElem.1 hs (k+1) j h hj h3)
   ·obtain rfl:j=k+1:=by omega
    exact Int.le_refl _
  ·left;rcases Nat.lt_or_ge j k with h3|h3;·exact Int.le_of_lt (List.pairwise_iff_getElem.1 hs j k hj (by omega) h3)
   ·obtain rfl:j=k:=by omega
    exact Int.le_refl _
 have hlt:(endsL M)[k]<(endsL M)[k+1]:=List.pairwise_iff_getElem.1 hs k (k+1) (by omega) h (by omega);generalize(endsL M)[k]=u at*;generalize(endsL M)[k+1]=v at*;rw[Bool.eq_iff_iff,inB_iff,inB_iff];constructor;·rintro⟨x,hx,ho,h3,h4⟩;have e1:=none_ x.1 ((hm _).2 ⟨x,hM x hx,ho,.inl rfl⟩);have e2:=none_ x.2 ((hm _).2 ⟨x,hM x hx,ho,.inr rfl⟩);exact⟨x,hx,ho,by omega,by omega⟩
 ·rintro⟨x,hx,ho,h3,h4⟩;have e1:=none_ x.1 ((hm _).2 ⟨x,hM x hx,ho,.inl rfl⟩);have e2:=none_ x.2 ((hm _).2 ⟨x,hM x hx,ho,.inr rfl⟩);exact⟨x,hx,ho,by omega,by omega⟩
def opB(op:Int)(x y:Bool):Bool:=(op==1&&(x||y))||(op==2&&x&&y)||(op==3&&x&&!y)
def ofOp(a b:List (Int×Int))(op:Int):List (Int×Int):=ofL (fun p=>opB op (inB a p) (inB b p)) (endsL (a++b))
theorem ofOp_inv(a b:List (Int×Int))(op:Int):Canon (ofOp a b op)∧∀p,InS (ofOp a b op) p↔opB op (inB a p) (inB b p)=true:=by
 obtain⟨hs,hm,_⟩:=endsL_inv (a++b);have h0:∀m∈endsL (a++b),0≤m∧m≤4611686018427387904:=by intro m h;obtain⟨x,_,ho,r⟩:=(hm m).1 h;rw[okS_iff]at ho;omega
 have hg:∀(k:Nat)(h:k+1<(endsL (a++b)).length)(p:Int),(endsL (a++b))[k]≤p→p<(endsL (a++b))[k+1]→opB op (inB a p) (inB b p)=opB op (inB a (endsL (a++b))[k]) (inB b (endsL (a++b))[k]):=by intro k h p h1 h2;rw[in_piece (fun x hx=>List.mem_append.2 (.inl hx)) h h1 h2,in_piece (fun x hx=>List.mem_append.2 (.inr hx)) h h1 h2]
 have inEnds:∀p x,x∈a++b→okS x=true→x.1≤p→p<x.2→(endsL (a++b)).getD 0 0≤p∧p<(endsL (a++b)).getD ((endsL (a++b)).length-1) 0:=by
  intro p x hx ho h1 h2;have m1:=(hm _).2 ⟨x,hx,ho,.inl rfl⟩;have m2:=(hm _).2 ⟨x,hx,ho,.inr rfl⟩;obtain⟨i,hi,e1⟩:=List.getElem_of_mem m1;obtain⟨j,hj,e2⟩:=List.getElem_of_mem m2;have g0:(endsL (a++b)).getD 0 0=(endsL (a++b))[0]'(by omega):=by rw[List.getD_eq_getElem?_getD,List.getElem?_eq_getElem (by omega)];rfl
  have g1:(endsL (a++b)).getD ((endsL (a++b)).length-1) 0=(endsL (a++b))[(endsL (a++b)).length-1]'(by omega):=by rw[List.getD_eq_getElem?_getD,List.getElem?_eq_getElem (by omega)];rfl
  rw[g0,g1];have a1:(endsL (a++b))[0]'(by omega)≤(endsL (a++b))[i]:=by
   rcases Nat.eq_zero_or_pos i with rfl|hp;·exact Int.le_refl _
   ·exact Int.le_of_lt (List.pairwise_iff_getElem.1 hs 0 i (by omega) hi hp)
  have a2:(endsL (a++b))[j]≤(endsL (a++b))[(endsL (a++b)).length-1]'(by omega):=by
   rcases Nat.lt_or_ge j ((endsL (a++b)).length-1)with hlt|hge;·exact Int.le_of_lt (List.pairwise_iff_getElem.1 hs j _ hj (by omega) hlt)
   ·have:j=(endsL (a++b)).length-1:=by omega
    subst this;exact Int.le_refl _
  omega
 have hall:∀p,opB op (inB a p) (inB b p)=true→(endsL (a++b)).getD 0 0≤p∧p<(endsL (a++b)).getD ((endsL (a++b)).length-1) 0:=by
  intro p h;have hor:inB a p=true∨inB b p=true:=by
   cases ha:inB a p;·
    cases hb:inB b p;·rw[ha,hb]at h;simp[opB]at h
    ·exact .inr rfl
   ·exact .inl rfl
  rcases hor with h|h;·obtain⟨x,hx,ho,h1,h2⟩:=(inB_iff _ _).1 h;exact inEnds p x (List.mem_append.2 (.inl hx)) ho h1 h2
  ·obtain⟨x,hx,ho,h1,h2⟩:=(inB_iff _ _).1 h;exact inEnds p x (List.mem_append.2 (.inr hx)) ho h1 h2
 unfold ofOp ofL;rcases Nat.eq_zero_or_pos (endsL (a++b)).length with hz|hp;·rw[hz];refine⟨Canon.nil,fun p=>⟨fun h=>absurd h (InS_nil p),fun h=>?_⟩⟩;have:=hall p h;rw[hz]at this;have e:endsL (a++b)=[]:=List.eq_nil_of_length_eq_zero hz;rw[e]at this;simp at this;omega
 ·obtain⟨hc,_,hin⟩:=ofTo_inv (fun p=>opB op (inB a p) (inB b p)) (endsL (a++b)) hs h0 hg ((endsL (a++b)).length-1) (by omega);refine⟨hc,fun p=>?_⟩;rw[hin p];constructor;·exact fun h=>h.2.2
  ·intro h;have:=hall p h;exact⟨this.1,this.2,h⟩
def cano(L:List (Int×Int)):List (Int×Int):=ofOp L [] 1
theorem cano_canon(L:List (Int×Int)):Canon (cano L):=(ofOp_inv L [] 1).1
theorem cano_in(L:List (Int×Int))(p:Int):InS (cano L) p↔InS L p:=by rw[cano,(ofOp_inv L [] 1).2 p,←inB_iff];simp[opB,inB]
theorem cano_eq{L S:List (Int×Int)}(hc:Canon S)(h:∀p,InS S p↔InS L p):S=cano L:=Canon.unique hc (cano_canon L) (fun p=>(h p).trans (cano_in L p).symm)
def goodL(L:List (Int×Int)):List (Int×Int):=L.filter goodS
theorem goodL_step{L:List (Int×Int)}{k:Nat}(h:k<L.length):goodL (L.take (k+1))=goodL (L.take k)++(if goodS L[k]=true then[L[k]]else[]):=by
 unfold goodL;rw[List.take_succ_eq_append_getElem h,List.filter_append];by_cases hg:goodS L[k]=true;·simp[List.filter,hg]
 ·simp[List.filter,hg]
theorem goodL_length(L:List (Int×Int)):(goodL L).length≤L.length:=List.length_filter_le _ _
theorem goodL_in(L:List (Int×Int))(p:Int):InS (goodL L) p↔InS L p:=by
 constructor;·rintro⟨x,hx,r⟩;exact⟨x,(List.mem_filter.1 hx).1,r⟩
 ·rintro⟨x,hx,ho,h1,h2⟩;refine⟨x,List.mem_filter.2 ⟨hx,?_⟩,ho,h1,h2⟩;rw[okS_iff]at ho;rw[goodS_iff];omega
theorem gather_cano{L M:List (Int×Int)}(hp:M.Perm (goodL L))(hr:Rising M):gatherL M=cano L:=by
 have hg:∀x∈M,goodS x=true:=fun x hx=>(List.mem_filter.1 (hp.mem_iff.1 hx)).2;obtain⟨hc,hin,_⟩:=gather_inv M hg hr;refine cano_eq hc (fun p=>?_);rw[hin p,←goodL_in L p];constructor;·rintro⟨x,hx,r⟩;exact⟨x,hp.mem_iff.1 hx,r⟩
 ·rintro⟨x,hx,r⟩;exact⟨x,hp.mem_iff.2 hx,r⟩
theorem Canon.append{a b:List (Int×Int)}(ha:Canon a)(hb:Canon b)(h:∀y∈a,∀z∈b,y.2<z.1):Canon (a++b):=⟨fun y hy=>by
 rcases List.mem_append.1 hy with hy|hy;·exact ha.good y hy
 ·exact hb.good y hy,List.pairwise_append.2 ⟨ha.sep,hb.sep,h⟩⟩
theorem nodup_length:∀{l m:List Int},l.Nodup→(∀x∈l,x∈m)→l.length≤m.length|[],_,_,_=>Nat.zero_le _|x::l,m,hn,hs=>by have hx:x∈m:=hs x (List.mem_cons_self ..);have hn':=List.nodup_cons.1 hn;have h1:=nodup_length (l:=l) (m:=m.erase x) hn'.2 (fun y hy=>(List.mem_erase_of_ne (fun e=>hn'.1 (by rw[←e];exact hy))).2 (hs y (List.mem_cons_of_mem _ hy)));have h2:=List.length_erase_of_mem hx;have h3:0<m.length:=List.length_pos_of_mem hx;simp only[List.length_cons];omega
def rightR(x:Int×Int):Bool:=decide (x.1≤999999999999999999)&&decide (x.2≤999999999999999999)&&((decide (x.1=-1)&&decide (0≤x.2))||(decide (0≤x.1)&&(decide (x.2=-1)||decide (x.1≤x.2))))
theorem rightR_iff(x:Int×Int):rightR x=true↔x.1≤999999999999999999∧x.2≤999999999999999999∧((x.1=-1∧0≤x.2)∨(0≤x.1∧(x.2=-1∨x.1≤x.2))):=by simp[rightR,and_assoc]
def allR(L:List (Int×Int)):Bool:=L.all rightR
def spanOf(n:Int)(x:Int×Int):Int×Int:=if x.1<0 then(max (n-x.2) 0,n)else if 0≤x.2 then(x.1,min (x.2+1) n)else(x.1,n)
def hasS(x:Int×Int):Bool:=decide (x.1<x.2)
def resL(n:Int)(L:List (Int×Int)):List (Int×Int):=(L.map (spanOf n)).filter hasS
theorem resL_step{n:Int}{L:List (Int×Int)}{k:Nat}(h:k<L.length):resL n (L.take (k+1))=resL n (L.take k)++(if hasS (spanOf n L[k])=true then[spanOf n L[k]]else[]):=by unfold resL;rw[List.take_succ_eq_append_getElem h,List.map_append,List.filter_append];congr 1;by_cases hh:hasS (spanOf n L[k])=true<;>simp[hh]
theorem resL_length(n:Int)(L:List (Int×Int)):(resL n L).length≤L.length:=by unfold resL;exact Nat.le_trans (List.length_filter_le _ _) (by simp)
theorem resL_in{n:Int}(_h0:0≤n){L:List (Int×Int)}(hL:allR L=true){y:Int×Int}(hy:y∈resL n L):0≤y.1∧y.1<y.2∧y.2≤n:=by
 unfold resL at hy;obtain⟨hm,hs⟩:=List.mem_filter.1 hy;obtain⟨x,hx,rfl⟩:=List.mem_map.1 hm;have hr:=(rightR_iff x).1 (List.all_eq_true.1 hL x hx);have hs':(spanOf n x).1<(spanOf n x).2:=by simpa[hasS]using hs
 unfold spanOf at hs'⊢;split;·rename_i h1;rw[if_pos h1]at hs';simp only at hs'⊢;omega
 ·rename_i h1;rw[if_neg h1]at hs';split;·rename_i h2;rw[if_pos h2]at hs';simp only at hs'⊢;omega
  ·rename_i h2;rw[if_neg h2]at hs';simp only at hs'⊢;omega
def overL(n acc:Int):List (Int×Int)→Bool|[]=>false|x::r=>decide (2*n<acc+(x.2-x.1))||overL n (acc+(x.2-x.1)) r
def costB(n most:Int)(L:List (Int×Int)):Bool:=decide (most<(L.length:Int))||overL n 0 (resL n L)
def digB(c:UInt8):Bool:=decide (48≤c.toNat)&&decide (c.toNat≤57)
def numFrom(acc:Int):List UInt8→Option Int|[]=>some acc|c::r=>if digB c=true then numFrom (acc*10+((c.toNat:Int)-48)) r else none
def numL(l:List UInt8):Option Int:=if l.length<1∨18<l.length then none else numFrom 0 l
def cutD:List UInt8→Option (List UInt8×List UInt8)|[]=>none|c::r=>if c=45 then some ([],r)else(cutD r).map fun p=>(c::p.1,p.2)
def itemL(l:List UInt8):Option (Int×Int):=match cutD l with|none=>none|some ([],b)=>(numL b).map fun y=>(-1,y)|some (c::a,[])=>(numL (c::a)).map fun x=>(x,-1)|some (c::a,d::b)=>match numL (c::a),numL (d::b)with|some x,some y=>if x≤y then some (x,y)else none|_,_=>none
def blankB(c:UInt8):Bool:=c==32||c==9
def trimL(l:List UInt8):List UInt8:=(l.reverse.dropWhile blankB).reverse.dropWhile blankB
def itemsL(ps:List (List UInt8)):List (List UInt8):=(ps.map trimL).filter fun p=>!p.isEmpty
def rangesL:List (List UInt8)→Option (List (Int×Int))|[]=>some []|p::r=>match itemL p,rangesL r with|some x,some y=>some (x::y)|_,_=>none
def nearQ(g:Int)(a b:Int×Int):Prop:=a.1≤b.2+g∧b.1≤a.2+g
def inP(a b:Int×Int):Prop:=b.1≤a.1∧a.2≤b.2
theorem inP.trans{a b c:Int×Int}(h:inP a b)(k:inP b c):inP a c:=⟨Int.le_trans k.1 h.1,Int.le_trans h.2 k.2⟩
theorem inP.refl(a:Int×Int):inP a a:=⟨Int.le_refl _,Int.le_refl _⟩
structure Folds(g:Int)(L:List (Int×Int))(O:List ((Int×Int)×Nat)):Prop where
 at_:∀o∈O,∃h:o.2<L.length,inP L[o.2] o.1
 all_:∀i(h:i<L.length),∃o∈O,inP L[i] o.1∧o.2≤i
 lo:∀o∈O,∃x∈L,inP x o.1∧x.1=o.1.1
 hi:∀o∈O,∃x∈L,inP x o.1∧x.2=o.1.2
 mid:∀o∈O,∀p,o.1.1≤p→p<o.1.2→∃x∈L,x.1≤p∧p<x.2+g
structure Folded(g:Int)(L:List (Int×Int))(O:List ((Int×Int)×Nat)):Prop extends Folds g L O where
 far:O.Pairwise (fun a b=>¬nearQ g a.1 b.1)
 rise:O.Pairwise (fun a b=>a.2<b.2)
theorem pw_ne{α:Type}{R:α→α→Prop}(hs:∀a b,R a b→R b a):∀{l:List α},l.Pairwise R→∀{a b:α},a∈l→b∈l→a≠b→R a b
 |[],_,a,b,ha,_,_=>by cases ha
 |x::r,h,a,b,ha,hb,hab=>by
  obtain⟨h1,h2⟩:=List.pairwise_cons.1 h;rcases List.mem_cons.1 ha with ea|ha';·
   rcases List.mem_cons.1 hb with eb|hb';·exact absurd (ea.trans eb.symm) hab
   ·rw[ea];exact h1 b hb'
  ·rcases List.mem_cons.1 hb with eb|hb';·rw[eb];exact hs _ _ (h1 a ha')
   ·exact pw_ne hs h2 ha' hb' hab
theorem far_ne{g:Int}{O:List ((Int×Int)×Nat)}(h:O.Pairwise (fun a b=>¬nearQ g a.1 b.1)){a b:(Int×Int)×Nat}(ha:a∈O)(hb:b∈O)(hn:nearQ g a.1 b.1):a=b:=by
 by_cases e:a=b;·exact e
 ·exact absurd hn (pw_ne (R:=fun a b:(Int×Int)×Nat=>¬nearQ g a.1 b.1) (fun a b h k=>h ⟨k.2,k.1⟩) h ha hb e)
section
variable{g:Int}{L:List (Int×Int)}{O O':List ((Int×Int)×Nat)}
theorem both_near(h0:0≤g){x a b:Int×Int}(hx:x.1<x.2)(ha:inP x a)(hb:inP x b):nearQ g a b:=by unfold inP at ha hb;unfold nearQ;omega
theorem Folds.some_(h:Folds g L O){x:Int×Int}(hx:x∈L):∃o∈O,inP x o.1:=by obtain⟨i,hi,rfl⟩:=List.getElem_of_mem hx;obtain⟨o,ho,h1,_⟩:=h.all_ i hi;exact⟨o,ho,h1⟩
theorem Folds.sub(hL:∀x∈L,x.1<x.2)(h0:0≤g)(h:Folds g L O)(h':Folded g L O'){o:(Int×Int)×Nat}(ho:o∈O):∃o'∈O',inP o.1 o'.1:=by
 obtain⟨x,hx,hxo,hx1⟩:=h.lo o ho;obtain⟨s,hs,hxs⟩:=h'.some_ hx;refine⟨s,hs,?_⟩;by_cases hto:o.1.2≤s.1.2;·unfold inP at*;omega
 ·exfalso;obtain⟨y,hy,hyo,hy2⟩:=h.hi o ho;obtain⟨t,ht,hyt⟩:=h'.some_ hy;have hxx:=hL x hx;have hyy:=hL y hy;have hts:¬nearQ g s.1 t.1:=fun hn=>by have e:=far_ne h'.far hs ht hn;subst e;unfold inP at hyt;omega
  have hgap:s.1.2+g<t.1.1:=by unfold nearQ at hts;unfold inP at*;omega
  obtain⟨z,hz,hz1,hz2⟩:=h.mid o ho (s.1.2+g) (by unfold inP at*;omega) (by unfold inP at*;omega);obtain⟨u,hu,hzu⟩:=h'.some_ hz;have hn:nearQ g s.1 u.1:=by unfold nearQ;unfold inP at*;omega
  have e:=far_ne h'.far hs hu hn;subst e;unfold inP at hzu;omega
theorem Folded.mem(hL:∀x∈L,x.1<x.2)(h0:0≤g)(h:Folded g L O)(h':Folded g L O'){o:(Int×Int)×Nat}(ho:o∈O):o∈O':=by
 obtain⟨s,hs,hos⟩:=h.toFolds.sub hL h0 h' ho;obtain⟨t,ht,hst⟩:=h'.toFolds.sub hL h0 h hs;obtain⟨x,hx,hxo,_⟩:=h.lo o ho;have e:o=t:=far_ne h.far ho ht (both_near h0 (hL x hx) hxo (hxo.trans (hos.trans hst)));subst e;have e1:s.1=o.1:=by unfold inP at hos hst;exact Prod.ext (by omega) (by omega)
 have key:∀{P Q:List ((Int×Int)×Nat)},Folded g L P→Folded g L Q→∀{a b:(Int×Int)×Nat},a∈P→b∈Q→a.1=b.1→a.2≤b.2:=by intro P Q hP hQ a b ha hb hab;obtain⟨hlt,hin⟩:=hQ.at_ b hb;obtain⟨u,hu,hin2,hle⟩:=hP.all_ b.2 hlt;have:a=u:=far_ne hP.far ha hu (both_near h0 (hL _ (List.getElem_mem hlt)) (by rw[hab];exact hin) hin2);rw[this];exact hle
 have e2:s.2=o.2:=Nat.le_antisymm (key h' h hs ho e1) (key h h' ho hs e1.symm);have:s=o:=Prod.ext e1 e2;rw[←this];exact hs
theorem rise_eq:∀{O O':List ((Int×Int)×Nat)},O.Pairwise (fun a b=>a.2<b.2)→O'.Pairwise (fun a b=>a.2<b.2)→(∀o,o∈O↔o∈O')→O=O'
 |[],[],_,_,_=>rfl
 |[],b::r,_,_,h=>by have:=(h b).2 (List.mem_cons_self ..);cases this
 |a::r,[],_,_,h=>by have:=(h a).1 (List.mem_cons_self ..);cases this
 |a::r,b::q,h1,h2,h=>by
  obtain⟨a1,a2⟩:=List.pairwise_cons.1 h1;obtain⟨b1,b2⟩:=List.pairwise_cons.1 h2;have hab:a=b:=by
   rcases List.mem_cons.1 ((h a).1 (List.mem_cons_self ..))with e|ha;·exact e
   ·rcases List.mem_cons.1 ((h b).2 (List.mem_cons_self ..))with e|hb;·exact e.symm
    ·have:=b1 a ha;have:=a1 b hb;omega
  subst hab;rw[rise_eq a2 b2 fun o=>⟨fun ho=>?_,fun ho=>?_⟩];·
   rcases List.mem_cons.1 ((h o).1 (List.mem_cons_of_mem _ ho))with rfl|k;·have:=a1 o ho;omega
   ·exact k
  ·rcases List.mem_cons.1 ((h o).2 (List.mem_cons_of_mem _ ho))with rfl|k;·have:=b1 o ho;omega
   ·exact k
theorem Folded.eq(hL:∀x∈L,x.1<x.2)(h0:0≤g)(h:Folded g L O)(h':Folded g L O'):O=O':=rise_eq h.rise h'.rise fun _=>⟨fun ho=>h.mem hL h0 h' ho,fun ho=>h'.mem hL h0 h ho⟩
def hullP(a b:Int×Int):Int×Int:=(min a.1 b.1,max a.2 b.2)
theorem hull_in1(a b:Int×Int):inP a (hullP a b):=⟨by simp only[hullP];omega,by simp only[hullP];omega⟩
theorem hull_in2(a b:Int×Int):inP b (hullP a b):=⟨by simp only[hullP];omega,by simp only[hullP];omega⟩
theorem Folds.merge(hL:∀x∈L,x.1<x.2)(h:Folds g L O){a b:(Int×Int)×Nat}(ha:a∈O)(hb:b∈O)(hn:nearQ g a.1 b.1){q:Nat}(hq:(q=a.2∨q=b.2)∧q≤a.2∧q≤b.2)(hm:∀o∈O',o=(hullP a.1 b.1,q)∨o∈O)(hc:(hullP a.1 b.1,q)∈O')(hk:∀o∈O,o∈O'∨o=a∨o=b):Folds g L O':=by
 have i1:=hull_in1 a.1 b.1;have i2:=hull_in2 a.1 b.1;refine⟨fun o ho=>?_,fun i hi=>?_,fun o ho=>?_,fun o ho=>?_,fun o ho p hp1 hp2=>?_⟩;·
  rcases hm o ho with rfl|ho;·
   obtain⟨l1,n1⟩:=h.at_ a ha;obtain⟨l2,n2⟩:=h.at_ b hb;rcases hq.1 with rfl|rfl;·exact⟨l1,n1.trans i1⟩
   ·exact⟨l2,n2.trans i2⟩
  ·exact h.at_ o ho
 ·obtain⟨o,ho,h1,h2⟩:=h.all_ i hi;rcases hk o ho with ho|rfl|rfl;·exact⟨o,ho,h1,h2⟩
  ·exact⟨_,hc,h1.trans i1,by simp only;omega⟩
  ·exact⟨_,hc,h1.trans i2,by simp only;omega⟩
 ·rcases hm o ho with rfl|ho;·
   obtain⟨x,hx,x1,x2⟩:=h.lo a ha;obtain⟨y,hy,y1,y2⟩:=h.lo b hb;by_cases hab:a.1.1≤b.1.1;·exact⟨x,hx,x1.trans i1,by simp only[hullP];omega⟩
   ·exact⟨y,hy,y1.trans i2,by simp only[hullP];omega⟩
  ·exact h.lo o ho
 ·rcases hm o ho with rfl|ho;·
   obtain⟨x,hx,x1,x2⟩:=h.hi a ha;obtain⟨y,hy,y1,y2⟩:=h.hi b hb;by_cases hab:a.1.2≤b.1.2;·exact⟨y,hy,y1.trans i2,by simp only[hullP];omega⟩
   ·exact⟨x,hx,x1.trans i1,by simp only[hullP];omega⟩
  ·exact h.hi o ho
 ·rcases hm o ho with rfl|ho;·
   obtain⟨x,hx,x1,x2⟩:=h.hi a ha;obtain⟨y,hy,y1,y2⟩:=h.hi b hb;obtain⟨x',hx',x1',x2'⟩:=h.lo a ha;obtain⟨y',hy',y1',y2'⟩:=h.lo b hb;simp only[hullP]at hp1 hp2;by_cases c1:a.1.1≤p∧p<a.1.2;·exact h.mid a ha p c1.1 c1.2
   ·by_cases c2:b.1.1≤p∧p<b.1.2;·exact h.mid b hb p c2.1 c2.2
    ·unfold nearQ at hn;unfold inP at x1 y1;have:=hL x hx;have:=hL y hy;by_cases c3:a.1.2≤p∧a.1.1≤b.1.1;·exact⟨x,hx,by omega,by omega⟩
     ·exact⟨y,hy,by omega,by omega⟩
  ·exact h.mid o ho p hp1 hp2
end
section
variable{g:Int}{L:List (Int×Int)}
structure Sweeps(g:Int)(L:List (Int×Int))(one rest:List ((Int×Int)×Nat)):Prop where
 folds:Folds g L (one++rest)
 apart:one.Pairwise (fun a b=>a.1.2+g<b.1.1)
 ahead:∀o∈one,∀f∈rest,o.1.1≤f.1.1
 sorted:rest.Pairwise (fun a b=>a.1.1≤b.1.1)
variable{init rest one:List ((Int×Int)×Nat)}{l f:(Int×Int)×Nat}
theorem Folds.wide(hL:∀x∈L,x.1<x.2){O:List ((Int×Int)×Nat)}(h:Folds g L O){o:(Int×Int)×Nat}(ho:o∈O):o.1.1<o.1.2:=by obtain⟨h1,h2⟩:=h.at_ o ho;have:=hL _ (List.getElem_mem h1);unfold inP at h2;omega
theorem Sweeps.join(hL:∀x∈L,x.1<x.2)(h0:0≤g)(h:Sweeps g L (init++[l]) (f::rest))(hn:f.1.1-l.1.2≤g):Sweeps g L (init++[((l.1.1,max l.1.2 f.1.2),min l.2 f.2)]) rest:=by
 have hlf:=h.ahead l (by simp) f (by simp);have hfw:=h.folds.wide hL (o:=f) (by simp);have e:(l.1.1,max l.1.2 f.1.2)=hullP l.1 f.1:=by unfold hullP;congr 1;omega
 obtain⟨a1,a2,a3⟩:=List.pairwise_append.1 h.apart;obtain⟨s1,s2⟩:=List.pairwise_cons.1 h.sorted;refine⟨?_,?_,?_,s2⟩;·
  rw[e];refine h.folds.merge hL (a:=l) (b:=f) (by simp) (by simp) (by unfold nearQ;omega) (q:=min l.2 f.2) (by omega) ?_ (by simp) ?_;·
   intro o ho;simp at ho⊢;rcases ho with ho|ho|ho;·exact .inr (.inl ho)
   ·exact .inl ho
   ·exact .inr (.inr (.inr (.inr ho)))
  ·intro o ho;simp at ho⊢;rcases ho with ho|ho|ho|ho;·exact .inl (.inl ho)
   ·exact .inr (.inl ho)
   ·exact .inr (.inr ho)
   ·exact .inl (.inr (.inr ho))
 ·refine List.pairwise_append.2 ⟨a1,List.pairwise_singleton ..,fun a ha b hb=>?_⟩;simp at hb;subst hb;exact a3 a ha l (by simp)
 ·intro o ho q hq;simp at ho;rcases ho with ho|rfl;·exact h.ahead o (by simp[ho]) q (by simp[hq])
  ·exact h.ahead l (by simp) q (by simp[hq])
theorem Sweeps.push(hL:∀x∈L,x.1<x.2)(h0:0≤g)(h:Sweeps g L (init++[l]) (f::rest))(hn:¬f.1.1-l.1.2≤g):Sweeps g L ((init++[l])++[f]) rest:=by
 obtain⟨a1,a2,a3⟩:=List.pairwise_append.1 h.apart;obtain⟨s1,s2⟩:=List.pairwise_cons.1 h.sorted;have hlw:=h.folds.wide hL (o:=l) (by simp);refine⟨by have:=h.folds;simpa using this,?_,?_,s2⟩;·
  refine List.pairwise_append.2 ⟨h.apart,List.pairwise_singleton ..,fun a ha b hb=>?_⟩;simp at hb;subst hb;simp at ha;rcases ha with ha|rfl;·have:=a3 a ha l (by simp);omega
  ·omega
 ·intro o ho q hq;simp at ho;rcases ho with ho|rfl|rfl;·exact h.ahead o (by simp[ho]) q (by simp[hq])
  ·exact h.ahead o (by simp) q (by simp[hq])
  ·exact s1 q hq
theorem Sweeps.first(h:Sweeps g L [] (f::rest)):Sweeps g L [f] rest:=by obtain⟨s1,s2⟩:=List.pairwise_cons.1 h.sorted;refine⟨by have:=h.folds;simpa using this,List.pairwise_singleton ..,?_,s2⟩;intro o ho q hq;simp at ho;subst ho;exact s1 q hq
theorem Sweeps.done(hL:∀x∈L,x.1<x.2)(h0:0≤g)(h:Sweeps g L one []){O:List ((Int×Int)×Nat)}(hp:O.Perm one)(hs:O.Pairwise (fun a b=>a.2≤b.2)):Folded g L O:=by
 have hf:Folds g L one:=by have:=h.folds;simpa using this
 have hfO:Folds g L O:=⟨fun o ho=>hf.at_ o (hp.mem_iff.1 ho),fun i hi=>by obtain⟨o,ho,h1⟩:=hf.all_ i hi;exact⟨o,hp.mem_iff.2 ho,h1⟩,fun o ho=>hf.lo o (hp.mem_iff.1 ho),fun o ho=>hf.hi o (hp.mem_iff.1 ho),fun o ho=>hf.mid o (hp.mem_iff.1 ho)⟩;have hfar1:one.Pairwise (fun a b=>¬nearQ g a.1 b.1):=h.apart.imp fun hab hn=>by unfold nearQ at hn;omega
 have hfar:O.Pairwise (fun a b=>¬nearQ g a.1 b.1):=(hp.pairwise_iff (fun{a b}(h:¬nearQ g a.1 b.1)(k:nearQ g b.1 a.1)=>h ⟨k.2,k.1⟩)).2 hfar1;refine⟨hfO,hfar,?_⟩;have hne:O.Pairwise (fun a b=>a.2≠b.2):=by refine List.Pairwise.imp_of_mem (fun{a b}ha hb hab e=>?_) hfar;obtain⟨l1,n1⟩:=hfO.at_ a ha;obtain⟨l2,n2⟩:=hfO.at_ b hb;simp only[←e]at n2;exact hab (both_near h0 (hL _ (List.getElem_mem l1)) n1 n2)
 exact(hs.and hne).imp fun⟨a,b⟩=>by omega
theorem Sweeps.start{R:List ((Int×Int)×Nat)}(_hL:∀x∈L,x.1<x.2)(h0:0≤g)(hp:R.Perm L.zipIdx)(hs:R.Pairwise (fun a b=>a.1.1≤b.1.1)):Sweeps g L [] R:=by
 have hm:∀o,o∈R→L[o.2]?=some o.1:=fun o ho=>by have:=hp.mem_iff.1 ho;exact List.mk_mem_zipIdx_iff_getElem?.1 this
 refine⟨⟨fun o ho=>?_,fun i hi=>?_,fun o ho=>?_,fun o ho=>?_,fun o ho p h1 h2=>?_⟩,.nil,(fun o ho=>by cases ho),hs⟩;·obtain⟨h1,h2⟩:=List.getElem?_eq_some_iff.1 (hm o (by simpa using ho));exact⟨h1,by rw[h2];exact inP.refl _⟩
 ·exact⟨(L[i],i),by simpa using hp.mem_iff.2 (List.mk_mem_zipIdx_iff_getElem?.2 (List.getElem?_eq_getElem hi)),inP.refl _,Nat.le_refl _⟩
 ·exact⟨o.1,List.mem_of_getElem? (hm o (by simpa using ho)),inP.refl _,rfl⟩
 ·exact⟨o.1,List.mem_of_getElem? (hm o (by simpa using ho)),inP.refl _,rfl⟩
 ·exact⟨o.1,List.mem_of_getElem? (hm o (by simpa using ho)),h1,by omega⟩
end
abbrev leF(a b:(Int×Int)×Nat):Prop:=a.1.1≤b.1.1
abbrev SortF(l:List ((Int×Int)×Nat)):Prop:=l.Pairwise leF
theorem SortF.get{l:List ((Int×Int)×Nat)}(h:SortF l){i j:Nat}(hij:i≤j)(hj:j<l.length):leF (l[i]'(by omega)) l[j]:=by
 rcases Nat.lt_or_ge i j with hlt|hge;·exact List.pairwise_iff_getElem.1 h i j (by omega) hj hlt
 ·obtain rfl:i=j:=by omega
  exact Int.le_refl _
theorem SortF.take{l:List ((Int×Int)×Nat)}(h:SortF l)(k:Nat):SortF (l.take k):=List.Pairwise.sublist (List.take_sublist k l) h
theorem SortF.drop{l:List ((Int×Int)×Nat)}(h:SortF l)(k:Nat):SortF (l.drop k):=List.Pairwise.sublist (List.drop_sublist k l) h
theorem cross{X Y:List ((Int×Int)×Nat)}(hX:SortF X)(hY:SortF Y){k j:Nat}(hk:k≤X.length)(h:∀(_:0<k)(h1:k-1<X.length)(h2:j<Y.length),leF X[k-1] Y[j]):∀x∈X.take k,∀y∈Y.drop j,leF x y:=by intro x hx y hy;obtain⟨i,hi,rfl⟩:=List.getElem_of_mem hx;obtain⟨q,hq,rfl⟩:=List.getElem_of_mem hy;simp at hi hq;rw[List.getElem_take,List.getElem_drop];exact Int.le_trans (hX.get (i:=i) (j:=k-1) (by omega) (by omega)) (Int.le_trans (h (by omega) (by omega) (by omega)) (hY.get (i:=j) (j:=j+q) (by omega) (by omega)))
theorem merge_sorted{X1 X2 Y1 Y2 Z1 Z2:List ((Int×Int)×Nat)}(hX:SortF (X1++X2))(hY:SortF (Y1++Y2))(h1:∀x∈X1,∀y∈Y2,leF x y)(h2:∀y∈Y1,∀x∈X2,leF y x)(p1:Z1.Perm (X1++Y1))(p2:Z2.Perm (X2++Y2))(s1:SortF Z1)(s2:SortF Z2):SortF (Z1++Z2):=by
 refine List.pairwise_append.2 ⟨s1,s2,fun a ha b hb=>?_⟩;have ha':=p1.mem_iff.1 ha;have hb':=p2.mem_iff.1 hb;rcases List.mem_append.1 ha' with ha'|ha'<;>rcases List.mem_append.1 hb' with hb'|hb';·exact(List.pairwise_append.1 hX).2.2 a ha' b hb'
 ·exact h1 a ha' b hb'
 ·exact h2 a ha' b hb'
 ·exact(List.pairwise_append.1 hY).2.2 a ha' b hb'
theorem merge_perm{X1 X2 Y1 Y2 Z1 Z2:List ((Int×Int)×Nat)}(p1:Z1.Perm (X1++Y1))(p2:Z2.Perm (X2++Y2)):(Z1++Z2).Perm ((X1++X2)++(Y1++Y2)):=by refine(p1.append p2).trans ?_;rw[List.append_assoc,List.append_assoc];refine List.Perm.append_left X1 ?_;rw[←List.append_assoc,←List.append_assoc];exact List.Perm.append_right Y2 List.perm_append_comm
theorem insert_sorted{A B:List ((Int×Int)×Nat)}{x:(Int×Int)×Nat}(h:SortF (A++B))(h1:∀a∈A,leF a x)(h2:∀b∈B,leF x b):SortF (A++x::B):=by
 obtain⟨a,b,c⟩:=List.pairwise_append.1 h;refine List.pairwise_append.2 ⟨a,List.pairwise_cons.2 ⟨h2,b⟩,fun p hp q hq=>?_⟩;rcases List.mem_cons.1 hq with rfl|hq;·exact h1 p hp
 ·exact c p hp q hq
theorem below_all{A:List ((Int×Int)×Nat)}{x:(Int×Int)×Nat}(h:SortF A){k:Nat}(hk:k≤A.length)(h1:∀(_:0<k),leF (A[k-1]'(by omega)) x):∀a∈A.take k,leF a x:=by intro a ha;obtain⟨i,hi,rfl⟩:=List.getElem_of_mem ha;simp at hi;rw[List.getElem_take];exact Int.le_trans (h.get (i:=i) (j:=k-1) (by omega) (by omega)) (h1 (by omega))
theorem above_all{A:List ((Int×Int)×Nat)}{x:(Int×Int)×Nat}(h:SortF A){k:Nat}(h1:∀(hk:k<A.length),leF x A[k]):∀a∈A.drop k,leF x a:=by intro a ha;obtain⟨i,hi,rfl⟩:=List.getElem_of_mem ha;simp at hi;rw[List.getElem_drop];exact Int.le_trans (h1 (by omega)) (h.get (i:=k) (j:=k+i) (by omega) (by omega))
section
variable{g:Int}{L R:List (Int×Int)}
def OnWay(g:Int)(L R:List (Int×Int)):Prop:=∃O:List ((Int×Int)×Nat),Folds g L O∧O.Pairwise (fun a b=>a.2<b.2)∧R=O.map Prod.fst
theorem zip_folds(L:List (Int×Int))(h0:0≤g):Folds g L L.zipIdx:=by
 have hm:∀o,o∈L.zipIdx→L[o.2]?=some o.1:=fun o ho=>List.mk_mem_zipIdx_iff_getElem?.1 ho;refine⟨fun o ho=>?_,fun i hi=>?_,fun o ho=>?_,fun o ho=>?_,fun o ho p h1 h2=>?_⟩;·obtain⟨h1,h2⟩:=List.getElem?_eq_some_iff.1 (hm o ho);exact⟨h1,by rw[h2];exact inP.refl _⟩
 ·exact⟨(L[i],i),List.mk_mem_zipIdx_iff_getElem?.2 (List.getElem?_eq_getElem hi),inP.refl _,Nat.le_refl _⟩
 ·exact⟨o.1,List.mem_of_getElem? (hm o ho),inP.refl _,rfl⟩
 ·exact⟨o.1,List.mem_of_getElem? (hm o ho),inP.refl _,rfl⟩
 ·exact⟨o.1,List.mem_of_getElem? (hm o ho),h1,by omega⟩
theorem zip_rise(L:List (Int×Int)):L.zipIdx.Pairwise (fun a b=>a.2<b.2):=by rw[List.pairwise_iff_getElem];intro i j hi hj hij;simpa using hij
theorem zip_fst(L:List (Int×Int)):L.zipIdx.map Prod.fst=L:=by apply List.ext_getElem?;intro i;simp
theorem OnWay.start(h0:0≤g):OnWay g L L:=⟨L.zipIdx,zip_folds L h0,zip_rise L,(zip_fst L).symm⟩
theorem OnWay.wide(hL:∀x∈L,0≤x.1∧x.1<x.2∧x.2≤4611686018427387904)(h:OnWay g L R):∀x∈R,0≤x.1∧x.1<x.2∧x.2≤4611686018427387904:=by obtain⟨O,hO,_,rfl⟩:=h;intro y hy;obtain⟨o,ho,rfl⟩:=List.mem_map.1 hy;have h0:=hO.wide (fun x hx=>(hL x hx).2.1) ho;obtain⟨x,hx,_,e1⟩:=hO.lo o ho;obtain⟨z,hz,_,e2⟩:=hO.hi o ho;have:=hL x hx;have:=hL z hz;omega
theorem OnWay.done(h:OnWay g L R)(hf:R.Pairwise (fun a b=>¬nearQ g a b)):∃O,Folded g L O∧R=O.map Prod.fst:=by obtain⟨O,hO,hr,rfl⟩:=h;exact⟨O,⟨hO,List.pairwise_map.1 hf,hr⟩,rfl⟩
def joinAt(R:List (Int×Int))(i k:Nat)(x:Int×Int):List (Int×Int):=(R.set i x).eraseIdx k
theorem joinAt_length{i k:Nat}(x:Int×Int)(hk:k<R.length):(joinAt R i k x).length=R.length-1:=by unfold joinAt;rw[List.length_eraseIdx];simp[hk]
theorem map_eraseAt{α β:Type}(f:α→β):∀(l:List α)(k:Nat),(l.eraseIdx k).map f=(l.map f).eraseIdx k|[],k=>by simp|x::l,0=>by simp|x::l,k+1=>by simp[map_eraseAt f l k]
theorem OnWay.join(hL:∀x∈L,x.1<x.2)(h:OnWay g L R){i k:Nat}(hik:i<k)(hk:k<R.length)(hn:nearQ g (R[i]'(by omega)) R[k]):OnWay g L (joinAt R i k (hullP (R[i]'(by omega)) R[k])):=by
 obtain⟨O,hO,hr,rfl⟩:=h;have hkO:k<O.length:=by simpa using hk
 have hiO:i<O.length:=by omega
 simp only[List.getElem_map]at hn⊢;have hlt:(O[i]).2<(O[k]).2:=List.pairwise_iff_getElem.1 hr i k hiO hkO hik;refine⟨(O.set i (hullP O[i].1 O[k].1,O[i].2)).eraseIdx k,?_,?_,?_⟩;·
  refine hO.merge hL (List.getElem_mem hiO) (List.getElem_mem hkO) hn (q:=O[i].2) ⟨.inl rfl,Nat.le_refl _,by omega⟩ ?_ ?_ ?_;·
   intro o ho;have:=List.mem_of_mem_eraseIdx ho;rcases List.mem_or_eq_of_mem_set this with h|h;·exact .inr h
   ·exact .inl h
  ·rw[List.mem_eraseIdx_iff_getElem];exact⟨i,by simpa using hiO,by omega,by simp⟩
  ·intro o ho;obtain⟨j,hj,rfl⟩:=List.getElem_of_mem ho;by_cases h1:j=i;·subst h1;exact .inr (.inl rfl)
   ·by_cases h2:j=k;·subst h2;exact .inr (.inr rfl)
    ·refine .inl ?_;rw[List.mem_eraseIdx_iff_getElem];exact⟨j,by simpa using hj,h2,by rw[List.getElem_set_ne (fun e=>h1 e.symm)]⟩
 ·have e:(O.set i (hullP O[i].1 O[k].1,O[i].2)).Pairwise (fun a b=>a.2<b.2):=by
   have h1:(O.map Prod.snd).Pairwise (·<·):=List.pairwise_map.2 hr;refine List.pairwise_map.1 (?_:((O.set i (hullP O[i].1 O[k].1,O[i].2)).map Prod.snd).Pairwise (·<·));have e1:(O.set i (hullP O[i].1 O[k].1,O[i].2)).map Prod.snd=O.map Prod.snd:=by
    rw[List.map_set];apply List.ext_getElem (by simp);intro j h2 h3;rw[List.getElem_set];split;·rename_i e;subst e;simp
    ·rfl
   rw[e1];exact h1
  exact List.Pairwise.sublist (List.eraseIdx_sublist _ _) e
 ·unfold joinAt;rw[map_eraseAt,List.map_set]
theorem joinAt_keep{i k n:Nat}{x:Int×Int}(hn:n<R.length)(h:n≠k):((R.set i x).take (n+1)).eraseIdx k=((R.set i x).take n).eraseIdx k++[(R.set i x)[n]'(by simpa using hn)]:=by
 rw[List.take_succ_eq_append_getElem (by simpa using hn)];rcases Nat.lt_or_ge k n with h1|h1;·rw[List.eraseIdx_append_of_lt_length (by simp;omega)]
 ·rw[List.eraseIdx_append_of_length_le (by simp;omega)];have e1:((R.set i x).take n).eraseIdx k=(R.set i x).take n:=List.eraseIdx_of_length_le (by simp;omega);rw[e1];congr 1;exact List.eraseIdx_of_length_le (by simp;omega)
theorem joinAt_skip{i k:Nat}{x:Int×Int}(hn:k<R.length):((R.set i x).take (k+1)).eraseIdx k=((R.set i x).take k).eraseIdx k:=by
 rw[List.take_succ_eq_append_getElem (by simpa using hn)];rw[List.eraseIdx_append_of_length_le (by simp;omega)];have e1:((R.set i x).take k).eraseIdx k=(R.set i x).take k:=List.eraseIdx_of_length_le (by simp;omega);have e2:k-((R.set i x).take k).length=0:=by simp;omega
 rw[e1,e2];simp
theorem joinAt_all{i k:Nat}{x:Int×Int}:((R.set i x).take R.length).eraseIdx k=joinAt R i k x:=by unfold joinAt;rw[List.take_of_length_le (by simp)]
theorem joinAt_len{i k n:Nat}{x:Int×Int}(hn:n≤R.length):(((R.set i x).take n).eraseIdx k).length=if k<n then n-1 else n:=by rw[List.length_eraseIdx];simp[Nat.min_eq_left hn]
end
section
variable{g:Int}{L:List (Int×Int)}{O:List ((Int×Int)×Nat)}
theorem Folded.bound(hL:∀x∈L,0≤x.1∧x.1<x.2∧x.2≤4611686018427387904)(h:Folded g L O):∀x∈O.map Prod.fst,0≤x.1∧x.1<x.2∧x.2≤4611686018427387904:=OnWay.wide hL ⟨O,h.toFolds,h.rise,rfl⟩
end
section
variable{L:List (Int×Int)}{O:List ((Int×Int)×Nat)}
theorem Folded.few{g:Int}(h:Folded g L O):O.length≤L.length:=by
 have h1:(O.map fun o=>(o.2:Int)).Nodup:=by rw[List.nodup_iff_pairwise_ne,List.pairwise_map];exact h.rise.imp fun hab=>by omega
 have:=nodup_length (m:=(List.range L.length).map fun n:Nat=>(n:Int)) h1 (fun q hq=>by obtain⟨o,ho,rfl⟩:=List.mem_map.1 hq;obtain⟨hlt,_⟩:=h.at_ o ho;exact List.mem_map.2 ⟨o.2,by simpa using hlt,rfl⟩);simpa using this
theorem Folded.again{g:Int}{O':List ((Int×Int)×Nat)}(h0:0≤g)(hL:∀x∈L,x.1<x.2)(h:Folded g L O)(h':Folded g (O.map Prod.fst) O'):O'.map Prod.fst=O.map Prod.fst:=by
 have hW:∀x∈O.map Prod.fst,x.1<x.2:=fun x hx=>by obtain⟨o,ho,rfl⟩:=List.mem_map.1 hx;exact h.toFolds.wide hL ho
 have hz:Folded g (O.map Prod.fst) (O.map Prod.fst).zipIdx:=by
  refine⟨zip_folds _ h0,?_,zip_rise _⟩;have:=List.pairwise_map (R:=fun a b=>¬nearQ g a b) (f:=Prod.fst)|>.2 h.far;rw[List.pairwise_iff_getElem];intro i j hi hj hij;have hi':i<(O.map Prod.fst).length:=by simpa using hi
  have hj':j<(O.map Prod.fst).length:=by simpa using hj
  have:=List.pairwise_iff_getElem.1 this i j hi' hj' hij;simpa using this
 rw[h'.eq hW h0 hz,zip_fst]
theorem Folded.apart{g:Int}(h:Folded g L O){i k:Nat}(hi:i<(O.map Prod.fst).length)(hk:k<(O.map Prod.fst).length)(hne:i≠k):¬nearQ g (O.map Prod.fst)[i] (O.map Prod.fst)[k]:=by
 have hf:=List.pairwise_map (R:=fun a b=>¬nearQ g a b) (f:=Prod.fst)|>.2 h.far;rcases Nat.lt_or_ge i k with h1|h1;·exact List.pairwise_iff_getElem.1 hf i k hi hk h1
 ·intro hn;exact List.pairwise_iff_getElem.1 hf k i hk hi (by omega) ⟨hn.2,hn.1⟩
end
end Go.Proofs.YtbphndihjdiiiaaGreatDoor
