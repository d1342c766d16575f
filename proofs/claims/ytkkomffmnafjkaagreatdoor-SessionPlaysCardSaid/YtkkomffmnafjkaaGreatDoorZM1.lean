/- Plain laws on lists of spans: what is in a list, when a list is the least .. -/
import Derived.Below
set_option maxHeartbeats 16000000
set_option maxRecDepth 100000
set_option linter.all false
namespace Go.Proofs.YtkkomffmnafjkaaGreatDoor
abbrev g_:=@List.length_cons
abbrev l_:=@List.eq_nil_of_length_eq_zero
abbrev n_:=@List.take_succ_eq_append_getElem
abbrev o_:=@List.getElem?_eq_getElem
abbrev p_:=@decide_eq_true_eq
abbrev q_:=@if_neg
abbrev r_:=@Bool.and_eq_true
abbrev t_:=@Nat.le_refl
abbrev u_:=@List.take_of_length_le
abbrev v_:=@Nat.zero_le
abbrev w_:=@if_pos
abbrev x_:=@List.append_assoc
abbrev y_:=@List.getElem_mem
abbrev A_:=@List.mem_append
abbrev C_:=@List.mem_cons
abbrev E_:=@List.pairwise_iff_getElem
abbrev O_:=@List.getElem?_eq_some_iff
abbrev Y_:=@List.pairwise_append
abbrev af_:=@List.pairwise_cons
abbrev ag_:=@List.drop_eq_getElem_cons
abbrev ah_:=@Nat.lt_or_ge
abbrev ai_:=@Nat.le_trans
abbrev aj_:=@List.mem_of_getElem?
abbrev ak_:=@Bool.eq_iff_iff
abbrev ao_:=@Int.le_refl
abbrev as_:=@List.getElem_of_mem
abbrev av_:=@List.all_eq_true
abbrev aJ_:=@List.getD_eq_getElem?_getD
abbrev aW_:=@List.mem_cons_self
abbrev ba_:=@List.mem_cons_of_mem
abbrev bi_:=@Nat.eq_zero_or_pos
abbrev bs_:=@List.mk_mem_zipIdx_iff_getElem?
abbrev bw_:=@List.drop_eq_nil_of_le
abbrev bM_:=@Int.le_of_lt
abbrev ce_:=@List.pairwise_map
abbrev cf_:=@List.ext_getElem?
def okS(x:Int×Int):Bool:=decide (0≤x.1)&&decide (x.1≤x.2)&&decide (x.2≤4611686018427387904)
def k181(x:Int×Int):Bool:=okS x&&decide (x.1<x.2)
theorem j19(x:Int×Int):okS x=true↔0≤x.1∧x.1≤x.2∧x.2≤4611686018427387904:=by simp[okS,and_assoc]
theorem w34(x:Int×Int):k181 x=true↔0≤x.1∧x.1<x.2∧x.2≤4611686018427387904:=by simp only[k181,r_,j19,p_];omega
def InS(L:List (Int×Int))(p:Int):Prop:=∃x∈L,okS x=true∧x.1≤p∧p<x.2
theorem k48(p:Int):¬InS [] p:=by rintro⟨x,h,_⟩;cases h
theorem y156(x:Int×Int)(L:List (Int×Int))(p:Int):InS (x::L) p↔(okS x=true∧x.1≤p∧p<x.2)∨InS L p:=by simp[InS]
theorem j38(a b:List (Int×Int))(p:Int):InS (a++b) p↔InS a p∨InS b p:=by
 simp only[InS,A_];constructor;·
  rintro⟨x,h|h,r⟩;·exact .inl ⟨x,h,r⟩
  ·exact .inr ⟨x,h,r⟩
 ·rintro(⟨x,h,r⟩|⟨x,h,r⟩);·exact⟨x,.inl h,r⟩
  ·exact⟨x,.inr h,r⟩
theorem j52(x:Int×Int)(p:Int):InS [x] p↔okS x=true∧x.1≤p∧p<x.2:=by simp[InS]
structure Canon(L:List (Int×Int)):Prop where
 good:∀x∈L,k181 x=true
 sep:L.Pairwise (fun x y=>x.2<y.1)
theorem Canon.nil:Canon []:=⟨(fun _ h=>by cases h),List.Pairwise.nil⟩
theorem Canon.one{x:Int×Int}(h:k181 x=true):Canon [x]:=⟨fun y hy=>by simp at hy;rw[hy];exact h,by simp⟩
theorem Canon.tail{x:Int×Int}{L:List (Int×Int)}(h:Canon (x::L)):Canon L:=⟨fun y hy=>h.good y (ba_ _ hy),(af_.1 h.sep).2⟩
theorem Canon.head{x:Int×Int}{L:List (Int×Int)}(h:Canon (x::L)):0≤x.1∧x.1<x.2∧x.2≤4611686018427387904:=(w34 x).1 (h.good x (aW_ ..))
theorem Canon.mem{L:List (Int×Int)}(h:Canon L){x:Int×Int}(hx:x∈L):0≤x.1∧x.1<x.2∧x.2≤4611686018427387904:=(w34 x).1 (h.good x hx)
theorem Canon.in_cons{x:Int×Int}{L:List (Int×Int)}(h:Canon (x::L))(p:Int):InS (x::L) p↔(x.1≤p∧p<x.2)∨InS L p:=by
 have:=h.head;have ho:okS x=true:=by rw[j19];omega
 rw[y156,ho];simp
theorem Canon.behind{x:Int×Int}{L:List (Int×Int)}(h:Canon (x::L)){p:Int}(hp:InS L p):x.2<p:=by obtain⟨y,hy,_,h1,_⟩:=hp;have:=(af_.1 h.sep).1 y hy;omega
theorem Canon.first{x:Int×Int}{L:List (Int×Int)}(h:Canon (x::L)){p:Int}(hp:InS (x::L) p):x.1≤p:=by
 rcases(h.in_cons p).1 hp with h1|h1;·exact h1.1
 ·have:=h.behind h1;have:=h.head;omega
theorem Canon.unique:∀{a b:List (Int×Int)},Canon a→Canon b→(∀p,InS a p↔InS b p)→a=b
 |[],[],_,_,_=>rfl
 |[],y::rb,_,hb,h=>by exfalso;have:=hb.head;exact k48 y.1 ((h y.1).2 ((hb.in_cons _).2 (.inl (by omega))))
 |x::ra,[],ha,_,h=>by exfalso;have:=ha.head;exact k48 x.1 ((h x.1).1 ((ha.in_cons _).2 (.inl (by omega))))
 |x::ra,y::rb,ha,hb,h=>by
  have hx:=ha.head;have hy:=hb.head;have e1:x.1=y.1:=by have h1:=hb.first ((h x.1).1 ((ha.in_cons _).2 (.inl (by omega))));have h2:=ha.first ((h y.1).2 ((hb.in_cons _).2 (.inl (by omega))));omega
  have e2:x.2=y.2:=by
   rcases Int.lt_trichotomy x.2 y.2 with hlt|heq|hgt;·
    exfalso;have:=(h x.2).2 ((hb.in_cons _).2 (.inl (by omega)));rcases(ha.in_cons _).1 this with h1|h1;·omega
    ·have:=ha.behind h1;omega
   ·exact heq
   ·exfalso;have:=(h y.2).1 ((ha.in_cons _).2 (.inl (by omega)));rcases(hb.in_cons _).1 this with h1|h1;·omega
    ·have:=hb.behind h1;omega
  have e:x=y:=Prod.ext e1 e2;subst e;have hr:∀p,InS ra p↔InS rb p:=by
   intro p;constructor;·
    intro hp;have hlt:=ha.behind hp;rcases(hb.in_cons _).1 ((h p).1 ((ha.in_cons _).2 (.inr hp)))with h1|h1;·omega
    ·exact h1
   ·intro hp;have hlt:=hb.behind hp;rcases(ha.in_cons _).1 ((h p).2 ((hb.in_cons _).2 (.inr hp)))with h1|h1;·omega
    ·exact h1
  rw[Canon.unique ha.tail hb.tail hr]
theorem Canon.snoc{L:List (Int×Int)}{x:Int×Int}(h:Canon L)(hx:k181 x=true)(hs:∀y∈L,y.2<x.1):Canon (L++[x]):=⟨fun y hy=>by
 rcases A_.1 hy with h1|h1;·exact h.good y h1
 ·simp at h1;rw[h1];exact hx,Y_.2 ⟨h.sep,by simp,fun a ha b hb=>by simp at hb;rw[hb];exact hs a ha⟩⟩
theorem Canon.init{L:List (Int×Int)}{x:Int×Int}(h:Canon (L++[x])):Canon L∧k181 x=true∧∀y∈L,y.2<x.1:=⟨⟨fun y hy=>h.good y (A_.2 (.inl hy)),(Y_.1 h.sep).1⟩,h.good x (by simp),fun y hy=>(Y_.1 h.sep).2.2 y hy x (by simp)⟩
def inB(L:List (Int×Int))(p:Int):Bool:=L.any fun x=>okS x&&decide (x.1≤p)&&decide (p<x.2)
theorem j34(L:List (Int×Int))(p:Int):inB L p=true↔InS L p:=by simp[inB,InS,and_assoc]
theorem w156{L:List (Int×Int)}{p:Int}{k:Nat}(h:k<L.length):inB (L.take (k+1)) p=(inB (L.take k) p||(okS L[k]&&decide ((L[k]).1≤p)&&decide (p<(L[k]).2))):=by unfold inB;rw[n_ h,List.any_append];simp
theorem x147{L:List (Int×Int)}{p:Int}{k:Nat}(h:k<L.length){x:Int×Int}(hx:L[k]=x)(ho:okS x=true)(h1:x.1≤p)(h2:p<x.2):inB L p=true:=by rw[j34];exact⟨L[k],y_ h,by rw[hx];exact ho,by rw[hx];exact h1,by rw[hx];exact h2⟩
theorem q157{L:List (Int×Int)}{p:Int}{k:Nat}(h:k<L.length){x:Int×Int}(hx:L[k]=x)(hp:inB (L.take k) p=false)(hm:¬(okS x=true∧x.1≤p∧p<x.2)):inB (L.take (k+1)) p=false:=by rw[w156 h,hp,hx];simpa[and_assoc]using hm
theorem Canon.take{L:List (Int×Int)}(h:Canon L)(k:Nat):Canon (L.take k):=⟨fun x hx=>h.good x (List.mem_of_mem_take hx),h.sep.sublist (List.take_sublist k L)⟩
def q35(L:List (Int×Int))(p:Int):Option (Int×Int):=(L.find? fun x=>decide (p<x.2)).map fun x=>(max p x.1,x.2)
theorem q121{L:List (Int×Int)}{p:Int}(h:∀x∈L,x.2≤p):q35 L p=none:=by unfold q35;rw[List.find?_eq_none.2 (fun x hx=>by have:=h x hx;simp;omega)];rfl
theorem v101{L:List (Int×Int)}{p:Int}{k:Nat}(hk:k<L.length)(h:∀x∈L.take k,x.2≤p)(hp:p<(L[k]).2):q35 L p=some (max p (L[k]).1,(L[k]).2):=by
 have hf:L.find? (fun x=>decide (p<x.2))=some L[k]:=by rw[List.find?_eq_some_iff_getElem];refine⟨by simpa using hp,k,hk,rfl,fun j hj=>?_⟩;have:=h (L[j]'(by omega)) (by rw[List.mem_take_iff_getElem];exact⟨j,by omega,rfl⟩);simp;omega
 unfold q35;rw[hf];rfl
theorem x45{L:List (Int×Int)}{k:Nat}(h:¬k<L.length):L.take k=L:=u_ (by omega)
theorem Canon.mono{L:List (Int×Int)}(h:Canon L){i j:Nat}(hij:i≤j)(hj:j<L.length):(L[i]'(by omega)).2≤(L[j]).2:=by
 rcases ah_ i j with hlt|hge;·have h1:=E_.1 h.sep i j (by omega) hj hlt;have h2:=h.mem (y_ hj);omega
 ·obtain rfl:i=j:=by omega
  exact ao_ _
structure Behind(L:List (Int×Int))(p:Int)(k:Nat):Prop where
 le:k≤L.length
 before:∀x∈L.take k,x.2≤p
 at_:∀h:k<L.length,p<(L[k]).2
theorem Canon.before_of{L:List (Int×Int)}(h:Canon L){m:Nat}{p:Int}(hm:m<L.length)(hp:(L[m]).2≤p):∀x∈L.take (m+1),x.2≤p:=by intro x hx;rw[List.mem_take_iff_getElem]at hx;obtain⟨j,hj,rfl⟩:=hx;have:=h.mono (i:=j) (j:=m) (by omega) hm;omega
theorem Canon.from_of{L:List (Int×Int)}(h:Canon L){m:Nat}{p:Int}(hm:m<L.length)(hp:p<(L[m]).2):∀j,m≤j→∀hj:j<L.length,p<(L[j]).2:=by intro j hmj hj;have:=h.mono hmj hj;omega
theorem Behind.first{L:List (Int×Int)}{p:Int}{k:Nat}(h:Behind L p k)(hk:k<L.length):q35 L p=some (max p (L[k]).1,(L[k]).2):=v101 hk h.before (h.at_ hk)
theorem Behind.none_{L:List (Int×Int)}{p:Int}{k:Nat}(h:Behind L p k)(hk:¬k<L.length):q35 L p=none:=by have:=h.before;rw[x45 hk]at this;exact q121 this
theorem Canon.in_at{L:List (Int×Int)}(h:Canon L){p:Int}{k:Nat}(hb:Behind L p k)(hk:k<L.length):inB L p=decide ((L[k]).1≤p):=by
 rw[ak_,j34,p_];constructor;·
  rintro⟨x,hx,_,h1,h2⟩;obtain⟨j,hj,rfl⟩:=as_ hx;rcases Nat.lt_trichotomy j k with hlt|rfl|hgt;·have:=hb.before L[j] (by rw[List.mem_take_iff_getElem];exact⟨j,by omega,rfl⟩);omega
  ·exact h1
  ·have h3:=E_.1 h.sep k j hk hj hgt;have h4:=hb.at_ hk;omega
 ·intro h1;have h2:=h.mem (y_ hk);exact⟨L[k],y_ hk,by rw[j19];omega,h1,hb.at_ hk⟩
theorem Behind.in_none{L:List (Int×Int)}{p:Int}{k:Nat}(hb:Behind L p k)(hk:¬k<L.length):inB L p=false:=by rw[←Bool.not_eq_true,j34];rintro⟨x,hx,_,_,h2⟩;have:=hb.before x (by rw[x45 hk];exact hx);omega
def x49(out:List (Int×Int))(x:Int×Int):List (Int×Int):=match out.reverse with|[]=>[x]|l::r=>if x.1≤l.2 then r.reverse++[(l.1,max l.2 x.2)]else out++[x]
def w27(L:List (Int×Int)):List (Int×Int):=L.foldl x49 []
theorem k101(x:Int×Int):x49 [] x=[x]:=rfl
theorem j66{i:List (Int×Int)}{l x:Int×Int}(h:x.1≤l.2):x49 (i++[l]) x=i++[(l.1,max l.2 x.2)]:=by simp[x49,h]
theorem j73{i:List (Int×Int)}{l x:Int×Int}(h:¬x.1≤l.2):x49 (i++[l]) x=i++[l]++[x]:=by simp[x49,h]
theorem k73(L:List (Int×Int))(x:Int×Int):w27 (L++[x])=x49 (w27 L) x:=by simp[w27]
theorem w111{L:List (Int×Int)}{k:Nat}(h:k<L.length):w27 (L.take (k+1))=x49 (w27 (L.take k)) L[k]:=by rw[n_ h,k73]
theorem w41(L:List (Int×Int)):L=[]∨∃i l,L=i++[l]:=by
 rcases List.eq_nil_or_concat L with h|⟨i,l,h⟩;·exact .inl h
 ·exact .inr ⟨i,l,by simpa using h⟩
theorem z112(out:List (Int×Int))(x:Int×Int):(x49 out x).length≤out.length+1:=by
 rcases w41 out with rfl|⟨i,l,rfl⟩;·simp[k101]
 ·by_cases h:x.1≤l.2;·rw[j66 h];simp
  ·rw[j73 h];simp
theorem y97(L:List (Int×Int)):(w27 L).length≤L.length:=by
 have:∀(L out:List (Int×Int)),(L.foldl x49 out).length≤out.length+L.length:=by
  intro L;induction L with
   |nil=>intro out;simp
   |cons x L ih=>intro out;have h1:=ih (x49 out x);have h2:=z112 out x;simp only[List.foldl_cons,g_];omega
 have:=this L [];simpa[w27]using this
def q63(L:List (Int×Int)):Prop:=L.Pairwise (fun x y=>x.1≤y.1)
theorem q134:∀(L:List (Int×Int)),(∀x∈L,k181 x=true)→q63 L→Canon (w27 L)∧(∀p,InS (w27 L) p↔InS L p)∧(∀y∈w27 L,∃x∈L,y.1=x.1):=by
 have main:∀(n:Nat)(L:List (Int×Int)),L.length=n→(∀x∈L,k181 x=true)→q63 L→Canon (w27 L)∧(∀p,InS (w27 L) p↔InS L p)∧(∀y∈w27 L,∃x∈L,y.1=x.1):=by
  intro n;induction n with
   |zero=>intro L hn _ _;obtain rfl:L=[]:=l_ hn;exact⟨Canon.nil,fun p=>Iff.rfl,fun y hy=>by cases hy⟩
   |succ n ih=>
    intro L hn hg hr;rcases w41 L with rfl|⟨M,x,rfl⟩;·simp at hn
    have hM:M.length=n:=by simpa using hn
    have hgM:∀y∈M,k181 y=true:=fun y hy=>hg y (A_.2 (.inl hy));have hrM:q63 M:=(Y_.1 hr).1;have hlast:∀y∈M,y.1≤x.1:=fun y hy=>(Y_.1 hr).2.2 y hy x (by simp);have hgx:=hg x (by simp);have gx:=(w34 x).1 hgx;have hox:okS x=true:=by rw[j19];omega
    obtain⟨hc,hin,hfr⟩:=ih M hM hgM hrM;rw[k73];rcases w41 (w27 M)with he|⟨i,l,he⟩;·rw[he,k101];rw[he]at hin;refine⟨Canon.one hgx,fun p=>?_,fun y hy=>⟨x,by simp,by simp at hy;rw[hy]⟩⟩;rw[j38,←hin p];simp[k48]
    ·rw[he]at hc hin hfr⊢;obtain⟨hci,hgl,hsl⟩:=hc.init;have gl:=(w34 l).1 hgl;have hol:okS l=true:=by rw[j19];omega
     have hlx:l.1≤x.1:=by obtain⟨z,hz,e⟩:=hfr l (by simp);have:=hlast z hz;omega
     by_cases hj:x.1≤l.2;·
      rw[j66 hj];have hgn:k181 (l.1,max l.2 x.2)=true:=by rw[w34];simp only;omega
      have hon:okS (l.1,max l.2 x.2)=true:=by rw[j19];simp only;omega
      refine⟨hci.snoc hgn hsl,fun p=>?_,fun y hy=>?_⟩;·
       rw[j38,j38,←hin p,j38,j52,j52,j52,hon,hol,hox];simp only[true_and];constructor;·
        rintro(h|h);·exact .inl (.inl h)
        ·by_cases h2:p<l.2;·exact .inl (.inr ⟨h.1,h2⟩)
         ·exact .inr ⟨by omega,by omega⟩
       ·rintro((h|h)|h);·exact .inl h
        ·exact .inr ⟨h.1,by omega⟩
        ·exact .inr ⟨by omega,by omega⟩
      ·rcases A_.1 hy with h|h;·obtain⟨z,hz,e⟩:=hfr y (A_.2 (.inl h));exact⟨z,A_.2 (.inl hz),e⟩
       ·simp at h;obtain⟨z,hz,e⟩:=hfr l (by simp);exact⟨z,A_.2 (.inl hz),by rw[h];exact e⟩
     ·rw[j73 hj];refine⟨hc.snoc hgx (fun y hy=>?_),fun p=>?_,fun y hy=>?_⟩;·
       rcases A_.1 hy with h|h;·have:=hsl y h;omega
       ·simp at h;rw[h];omega
      ·rw[j38,j38 M [x],←hin p]
      ·rcases A_.1 hy with h|h;·obtain⟨z,hz,e⟩:=hfr y h;exact⟨z,A_.2 (.inl hz),e⟩
       ·simp at h;exact⟨x,by simp,by rw[h]⟩
 exact fun L=>main L.length L rfl
def q39:List Int→Int→List Int|[],n=>[n]|a::r,n=>if n≤a then(if n<a then n::a::r else a::r)else a::q39 r n
def j63(l:List Int):Prop:=l.Pairwise (·<·)
theorem w53:∀(l:List Int)(n m:Int),m∈q39 l n↔m=n∨m∈l
 |[],n,m=>by simp[q39]
 |a::r,n,m=>by
  unfold q39;by_cases h:n≤a;·
   rw[w_ h];by_cases h2:n<a;·rw[w_ h2];simp
   ·obtain rfl:n=a:=by omega
    rw[q_ h2];simp
  ·rw[q_ h];simp only[C_,w53 r n m];constructor;·
    rintro(h|h|h);·exact .inr (.inl h)
    ·exact .inl h
    ·exact .inr (.inr h)
   ·rintro(h|h|h);·exact .inr (.inl h)
    ·exact .inl h
    ·exact .inr (.inr h)
theorem k52:∀(l:List Int)(n:Int),j63 l→j63 (q39 l n)
 |[],n,_=>by simp[q39,j63]
 |a::r,n,h=>by
  obtain⟨h1,h2⟩:=af_.1 h;unfold q39;by_cases hn:n≤a;·
   rw[w_ hn];by_cases hn2:n<a;·
    rw[w_ hn2];refine af_.2 ⟨fun b hb=>?_,h⟩;rcases C_.1 hb with rfl|hb;·exact hn2
    ·have:=h1 b hb;omega
   ·rw[q_ hn2];exact h
  ·rw[q_ hn];refine af_.2 ⟨fun b hb=>?_,k52 r n h2⟩;rcases(w53 r n b).1 hb with rfl|hb;·omega
   ·exact h1 b hb
theorem x52:∀(l:List Int)(n:Int),(q39 l n).length≤l.length+1
 |[],n=>by simp[q39]
 |a::r,n=>by
  have:=x52 r n;unfold q39;by_cases hn:n≤a;·
   rw[w_ hn];by_cases hn2:n<a;·rw[w_ hn2];simp
   ·rw[q_ hn2];simp
  ·rw[q_ hn];simp;omega
def x139(out:List Int)(x:Int×Int):List Int:=if okS x=true then q39 (q39 out x.1) x.2 else out
def x19(L:List (Int×Int)):List Int:=L.foldl x139 []
theorem v134(L:List (Int×Int))(x:Int×Int):x19 (L++[x])=x139 (x19 L) x:=by simp[x19]
theorem k166{L:List (Int×Int)}{k:Nat}(h:k<L.length):x19 (L.take (k+1))=x139 (x19 (L.take k)) L[k]:=by rw[n_ h,v134]
theorem x73(L:List (Int×Int)):j63 (x19 L)∧(∀m,m∈x19 L↔∃x∈L,okS x=true∧(m=x.1∨m=x.2))∧(x19 L).length≤2*L.length:=by
 have main:∀(n:Nat)(L:List (Int×Int)),L.length=n→j63 (x19 L)∧(∀m,m∈x19 L↔∃x∈L,okS x=true∧(m=x.1∨m=x.2))∧(x19 L).length≤2*L.length:=by
  intro n;induction n with
   |zero=>intro L hn;obtain rfl:L=[]:=l_ hn;exact⟨List.Pairwise.nil,fun m=>by simp[x19],by simp[x19]⟩
   |succ n ih=>
    intro L hn;rcases w41 L with rfl|⟨M,x,rfl⟩;·simp at hn
    obtain⟨h1,h2,h3⟩:=ih M (by simpa using hn);rw[v134];unfold x139;by_cases ho:okS x=true;·
     rw[w_ ho];refine⟨k52 _ _ (k52 _ _ h1),fun m=>?_,?_⟩;·
      rw[w53,w53,h2];constructor;·
       rintro(h|h|⟨y,hy,r⟩);·exact⟨x,by simp,ho,.inr h⟩
       ·exact⟨x,by simp,ho,.inl h⟩
       ·exact⟨y,by simp[hy],r⟩
      ·rintro⟨y,hy,hoy,r⟩;rcases A_.1 hy with hy|hy;·exact .inr (.inr ⟨y,hy,hoy,r⟩)
       ·simp at hy;subst hy;rcases r with r|r;·exact .inr (.inl r)
        ·exact .inl r
     ·have h4:=x52 (q39 (x19 M) x.1) x.2;have h5:=x52 (x19 M) x.1;simp;omega
    ·rw[q_ ho];refine⟨h1,fun m=>?_,by simp;omega⟩;rw[h2];constructor;·rintro⟨y,hy,r⟩;exact⟨y,by simp[hy],r⟩
     ·rintro⟨y,hy,hoy,r⟩;rcases A_.1 hy with hy|hy;·exact⟨y,hy,hoy,r⟩
      ·simp at hy;subst hy;exact absurd hoy ho
 exact main L.length L rfl
def w56(g:Int→Bool)(out:List (Int×Int))(u v:Int):List (Int×Int):=if g u=true then match out.reverse with|[]=>[(u,v)]|l::r=>if l.2=u then r.reverse++[(l.1,v)]else out++[(u,v)]else out
theorem q112{g:Int→Bool}{out:List (Int×Int)}{u v:Int}(h:g u=false):w56 g out u v=out:=by simp[w56,h]
theorem w101{g:Int→Bool}{u v:Int}(h:g u=true):w56 g [] u v=[(u,v)]:=by simp[w56,h]
theorem k93{g:Int→Bool}{i:List (Int×Int)}{l:Int×Int}{u v:Int}(h:g u=true)(hl:l.2=u):w56 g (i++[l]) u v=i++[(l.1,v)]:=by simp[w56,h,hl]
theorem z102{g:Int→Bool}{i:List (Int×Int)}{l:Int×Int}{u v:Int}(h:g u=true)(hl:¬l.2=u):w56 g (i++[l]) u v=i++[l]++[(u,v)]:=by simp[w56,h,hl]
def ofTo(g:Int→Bool)(E:List Int):Nat→List (Int×Int)|0=>[]|k+1=>w56 g (ofTo g E k) (E.getD k 0) (E.getD (k+1) 0)
theorem q82(g:Int→Bool)(E:List Int):∀k,(ofTo g E k).length≤k
 |0=>by simp[ofTo]
 |k+1=>by
  have:=q82 g E k;unfold ofTo;generalize ofTo g E k=out at*;generalize E.getD k 0=u;generalize E.getD (k+1) 0=v;cases hg:g u;·rw[q112 hg];omega
  ·rcases w41 out with rfl|⟨i,l,rfl⟩;·rw[w101 hg];simp
   ·by_cases hl:l.2=u;·rw[k93 hg hl];simp at this⊢;omega
    ·rw[z102 hg hl];simp at this⊢;omega
def ofL(g:Int→Bool)(E:List Int):List (Int×Int):=ofTo g E (E.length-1)
theorem j112(g:Int→Bool)(E:List Int)(hE:j63 E)(h0:∀m∈E,0≤m∧m≤4611686018427387904)(hg:∀(k:Nat)(h:k+1<E.length)(p:Int),E[k]≤p→p<E[k+1]→g p=g E[k]):∀k,k+1≤E.length→Canon (ofTo g E k)∧(∀y∈ofTo g E k,y.2≤E.getD k 0)∧∀p,InS (ofTo g E k) p↔E.getD 0 0≤p∧p<E.getD k 0∧g p=true
 |0,h=>by
  refine⟨Canon.nil,(fun y hy=>by cases hy),fun p=>?_⟩;simp only[ofTo];constructor;·exact fun hp=>absurd hp (k48 p)
  ·intro hp;omega
 |k+1,h=>by
  obtain⟨hc,hle,hin⟩:=j112 g E hE h0 hg k (by omega);have hk:k<E.length:=by omega
  have hk1:k+1<E.length:=by omega
  have hlt:E[k]<E[k+1]:=E_.1 hE k (k+1) hk hk1 (by omega);have hu0:=h0 E[k] (y_ hk);have hv0:=h0 E[k+1] (y_ hk1);have hgk:=hg k hk1;have hmin:E.getD 0 0≤E[k]:=by
   rw[aJ_,o_ (by omega)];rcases bi_ k with rfl|hp;·exact ao_ _
   ·exact bM_ (E_.1 hE 0 k (by omega) hk hp)
  have ek:E.getD k 0=E[k]:=by rw[aJ_,o_ hk];rfl
  have ek1:E.getD (k+1) 0=E[k+1]:=by rw[aJ_,o_ hk1];rfl
  rw[ek]at hle hin;simp only[ofTo,ek,ek1];generalize E[k+1]=v at*;generalize E[k]=u at*;generalize ofTo g E k=out at*;generalize E.getD 0 0=m at*;have split:∀p,(m≤p∧p<v∧g p=true)↔(m≤p∧p<u∧g p=true)∨(u≤p∧p<v∧g u=true):=by
   intro p;constructor;·
    rintro⟨h1,h2,h3⟩;by_cases hp:p<u;·exact .inl ⟨h1,hp,h3⟩
    ·refine .inr ⟨by omega,h2,?_⟩;rw[←hgk p (by omega) h2];exact h3
   ·rintro(⟨h1,h2,h3⟩|⟨h1,h2,h3⟩);·exact⟨h1,by omega,h3⟩
    ·refine⟨by omega,h2,?_⟩;rw[hgk p h1 h2];exact h3
  cases hgu:g u;·rw[q112 hgu];refine⟨hc,fun y hy=>by have:=hle y hy;omega,fun p=>?_⟩;rw[split p,hin p,hgu];simp
  ·have hgd:k181 (u,v)=true:=by rw[w34];simp only;omega
   have hod:okS (u,v)=true:=by rw[j19];simp only;omega
   rcases w41 out with rfl|⟨i,l,rfl⟩;·rw[w101 hgu];refine⟨Canon.one hgd,fun y hy=>by simp at hy;rw[hy];exact ao_ _,fun p=>?_⟩;rw[split p,←hin p,j52,hgu,hod];simp[k48]
   ·obtain⟨hci,hgl,hsl⟩:=hc.init;have gl:=(w34 l).1 hgl;have hol:okS l=true:=by rw[j19];omega
    by_cases hl:l.2=u;·
     rw[k93 hgu hl];have hgn:k181 (l.1,v)=true:=by rw[w34];simp only;omega
     have hon:okS (l.1,v)=true:=by rw[j19];simp only;omega
     refine⟨hci.snoc hgn hsl,fun y hy=>?_,fun p=>?_⟩;·
      rcases A_.1 hy with h|h;·have:=hle y (A_.2 (.inl h));omega
      ·simp at h;rw[h];exact ao_ _
     ·rw[split p,←hin p,j38,j38,j52,j52,hon,hol,hgu];simp only[true_and,and_true];constructor;·
       rintro(h|h);·exact .inl (.inl h)
       ·by_cases h2:p<u;·exact .inl (.inr ⟨h.1,by omega⟩)
        ·exact .inr ⟨by omega,h.2⟩
      ·rintro((h|h)|h);·exact .inl h
       ·exact .inr ⟨h.1,by omega⟩
       ·exact .inr ⟨by omega,h.2⟩
    ·rw[z102 hgu hl];have hll:=hle l (by simp);refine⟨hc.snoc hgd (fun y hy=>?_),fun y hy=>?_,fun p=>?_⟩;·
      rcases A_.1 hy with h|h;·have:=hsl y h;simp only;omega
      ·simp at h;rw[h];simp only;omega
     ·rcases A_.1 hy with h|h;·have:=hle y h;omega
      ·simp at h;rw[h];exact ao_ _
     ·rw[split p,←hin p,j38,j52,hod,hgu];simp
theorem v112{L M:List (Int×Int)}(hM:∀x∈L,x∈M){k:Nat}(h:k+1<(x19 M).length){p:Int}(h1:(x19 M)[k]≤p)(h2:p<(x19 M)[k+1]):inB L p=inB L (x19 M)[k]:=by
 obtain⟨hs,hm,_⟩:=x73 M;have none_:∀m∈x19 M,m≤(x19 M)[k]∨(x19 M)[k+1]≤m:=by
  intro m hm';obtain⟨j,hj,rfl⟩:=as_ hm';rcases ah_ k j with hkj|hkj;·
   right;rcases ah_ (k+1) j with h3|h3;·exact bM_ (E_.1 hs (k+1) j h hj h3)
   ·obtain rfl:j=k+1:=by omega
    exact ao_ _
  ·left;rcases ah_ j k with h3|h3;·exact bM_ (E_.1 hs j k hj (by omega) h3)
   ·obtain rfl:j=k:=by omega
    exact ao_ _
 have hlt:(x19 M)[k]<(x19 M)[k+1]:=E_.1 hs k (k+1) (by omega) h (by omega);generalize(x19 M)[k]=u at*;generalize(x19 M)[k+1]=v at*;rw[ak_,j34,j34];constructor;·rintro⟨x,hx,ho,h3,h4⟩;have e1:=none_ x.1 ((hm _).2 ⟨x,hM x hx,ho,.inl rfl⟩);have e2:=none_ x.2 ((hm _).2 ⟨x,hM x hx,ho,.inr rfl⟩);exact⟨x,hx,ho,by omega,by omega⟩
 ·rintro⟨x,hx,ho,h3,h4⟩;have e1:=none_ x.1 ((hm _).2 ⟨x,hM x hx,ho,.inl rfl⟩);have e2:=none_ x.2 ((hm _).2 ⟨x,hM x hx,ho,.inr rfl⟩);exact⟨x,hx,ho,by omega,by omega⟩
def opB(op:Int)(x y:Bool):Bool:=(op==1&&(x||y))||(op==2&&x&&y)||(op==3&&x&&!y)
def ofOp(a b:List (Int×Int))(op:Int):List (Int×Int):=ofL (fun p=>opB op (inB a p) (inB b p)) (x19 (a++b))
theorem y58(a b:List (Int×Int))(op:Int):Canon (ofOp a b op)∧∀p,InS (ofOp a b op) p↔opB op (inB a p) (inB b p)=true:=by
 obtain⟨hs,hm,_⟩:=x73 (a++b);have h0:∀m∈x19 (a++b),0≤m∧m≤4611686018427387904:=by intro m h;obtain⟨x,_,ho,r⟩:=(hm m).1 h;rw[j19]at ho;omega
 have hg:∀(k:Nat)(h:k+1<(x19 (a++b)).length)(p:Int),(x19 (a++b))[k]≤p→p<(x19 (a++b))[k+1]→opB op (inB a p) (inB b p)=opB op (inB a (x19 (a++b))[k]) (inB b (x19 (a++b))[k]):=by intro k h p h1 h2;rw[v112 (fun x hx=>A_.2 (.inl hx)) h h1 h2,v112 (fun x hx=>A_.2 (.inr hx)) h h1 h2]
 have inEnds:∀p x,x∈a++b→okS x=true→x.1≤p→p<x.2→(x19 (a++b)).getD 0 0≤p∧p<(x19 (a++b)).getD ((x19 (a++b)).length-1) 0:=by
  intro p x hx ho h1 h2;have m1:=(hm _).2 ⟨x,hx,ho,.inl rfl⟩;have m2:=(hm _).2 ⟨x,hx,ho,.inr rfl⟩;obtain⟨i,hi,e1⟩:=as_ m1;obtain⟨j,hj,e2⟩:=as_ m2;have g0:(x19 (a++b)).getD 0 0=(x19 (a++b))[0]'(by omega):=by rw[aJ_,o_ (by omega)];rfl
  have g1:(x19 (a++b)).getD ((x19 (a++b)).length-1) 0=(x19 (a++b))[(x19 (a++b)).length-1]'(by omega):=by rw[aJ_,o_ (by omega)];rfl
  rw[g0,g1];have a1:(x19 (a++b))[0]'(by omega)≤(x19 (a++b))[i]:=by
   rcases bi_ i with rfl|hp;·exact ao_ _
   ·exact bM_ (E_.1 hs 0 i (by omega) hi hp)
  have a2:(x19 (a++b))[j]≤(x19 (a++b))[(x19 (a++b)).length-1]'(by omega):=by
   rcases ah_ j ((x19 (a++b)).length-1)with hlt|hge;·exact bM_ (E_.1 hs j _ hj (by omega) hlt)
   ·have:j=(x19 (a++b)).length-1:=by omega
    subst this;exact ao_ _
  omega
 have hall:∀p,opB op (inB a p) (inB b p)=true→(x19 (a++b)).getD 0 0≤p∧p<(x19 (a++b)).getD ((x19 (a++b)).length-1) 0:=by
  intro p h;have hor:inB a p=true∨inB b p=true:=by
   cases ha:inB a p;·
    cases hb:inB b p;·rw[ha,hb]at h;simp[opB]at h
    ·exact .inr rfl
   ·exact .inl rfl
  rcases hor with h|h;·obtain⟨x,hx,ho,h1,h2⟩:=(j34 _ _).1 h;exact inEnds p x (A_.2 (.inl hx)) ho h1 h2
  ·obtain⟨x,hx,ho,h1,h2⟩:=(j34 _ _).1 h;exact inEnds p x (A_.2 (.inr hx)) ho h1 h2
 unfold ofOp ofL;rcases bi_ (x19 (a++b)).length with hz|hp;·rw[hz];refine⟨Canon.nil,fun p=>⟨fun h=>absurd h (k48 p),fun h=>?_⟩⟩;have:=hall p h;rw[hz]at this;have e:x19 (a++b)=[]:=l_ hz;rw[e]at this;simp at this;omega
 ·obtain⟨hc,_,hin⟩:=j112 (fun p=>opB op (inB a p) (inB b p)) (x19 (a++b)) hs h0 hg ((x19 (a++b)).length-1) (by omega);refine⟨hc,fun p=>?_⟩;rw[hin p];constructor;·exact fun h=>h.2.2
  ·intro h;have:=hall p h;exact⟨this.1,this.2,h⟩
theorem j121(a b:List (Int×Int))(op:Int):(ofOp a b op).length≤2*(a.length+b.length):=by have h1:=q82 (fun p=>opB op (inB a p) (inB b p)) (x19 (a++b)) ((x19 (a++b)).length-1);have h2:=(x73 (a++b)).2.2;unfold ofOp ofL;simp at h2;omega
def cano(L:List (Int×Int)):List (Int×Int):=ofOp L [] 1
theorem j31(L:List (Int×Int)):Canon (cano L):=(y58 L [] 1).1
theorem q129(L:List (Int×Int))(p:Int):InS (cano L) p↔InS L p:=by rw[cano,(y58 L [] 1).2 p,←j34];simp[opB,inB]
theorem j129{L S:List (Int×Int)}(hc:Canon S)(h:∀p,InS S p↔InS L p):S=cano L:=Canon.unique hc (j31 L) (fun p=>(h p).trans (q129 L p).symm)
theorem w175{S:List (Int×Int)}(hc:Canon S):cano S=S:=(j129 hc (fun _=>Iff.rfl)).symm
theorem k46(L:List (Int×Int)):(cano L).length≤2*L.length:=by have:=j121 L [] 1;simpa[cano]using this
def x44(L:List (Int×Int)):List (Int×Int):=L.filter k181
theorem k134{L:List (Int×Int)}{k:Nat}(h:k<L.length):x44 (L.take (k+1))=x44 (L.take k)++(if k181 L[k]=true then[L[k]]else[]):=by
 unfold x44;rw[n_ h,List.filter_append];by_cases hg:k181 L[k]=true;·simp[List.filter,hg]
 ·simp[List.filter,hg]
theorem y73(L:List (Int×Int)):(x44 L).length≤L.length:=List.length_filter_le _ _
theorem j157(L:List (Int×Int))(p:Int):InS (x44 L) p↔InS L p:=by
 constructor;·rintro⟨x,hx,r⟩;exact⟨x,(List.mem_filter.1 hx).1,r⟩
 ·rintro⟨x,hx,ho,h1,h2⟩;refine⟨x,List.mem_filter.2 ⟨hx,?_⟩,ho,h1,h2⟩;rw[j19]at ho;rw[w34];omega
theorem v121{L M:List (Int×Int)}(hp:M.Perm (x44 L))(hr:q63 M):w27 M=cano L:=by
 have hg:∀x∈M,k181 x=true:=fun x hx=>(List.mem_filter.1 (hp.mem_iff.1 hx)).2;obtain⟨hc,hin,_⟩:=q134 M hg hr;refine j129 hc (fun p=>?_);rw[hin p,←j157 L p];constructor;·rintro⟨x,hx,r⟩;exact⟨x,hp.mem_iff.1 hx,r⟩
 ·rintro⟨x,hx,r⟩;exact⟨x,hp.mem_iff.2 hx,r⟩
theorem k157(a b:List (Int×Int))(op:Int)(p:Int):inB (ofOp a b op) p=opB op (inB a p) (inB b p):=by rw[ak_,j34];exact(y58 a b op).2 p
theorem Canon.in_mem{L:List (Int×Int)}(h:Canon L){z:Int×Int}(hz:z∈L):InS L z.1:=by have:=h.mem hz;exact⟨z,hz,by rw[j19];omega,by omega,by omega⟩
theorem Canon.in_last{L:List (Int×Int)}(h:Canon L){z:Int×Int}(hz:z∈L):InS L (z.2-1):=by have:=h.mem hz;exact⟨z,hz,by rw[j19];omega,by omega,by omega⟩
theorem Canon.cons'{x:Int×Int}{L:List (Int×Int)}(h:Canon L)(hx:k181 x=true)(hp:∀p,InS L p→x.2<p):Canon (x::L):=⟨fun y hy=>by
 rcases C_.1 hy with rfl|hy;·exact hx
 ·exact h.good y hy,af_.2 ⟨fun z hz=>hp _ (h.in_mem hz),h.sep⟩⟩
theorem Canon.append{a b:List (Int×Int)}(ha:Canon a)(hb:Canon b)(h:∀y∈a,∀z∈b,y.2<z.1):Canon (a++b):=⟨fun y hy=>by
 rcases A_.1 hy with hy|hy;·exact ha.good y hy
 ·exact hb.good y hy,Y_.2 ⟨ha.sep,hb.sep,h⟩⟩
theorem drop_at{L:List (Int×Int)}{k:Nat}(h:k<L.length):L.drop k=L[k]::L.drop (k+1):=ag_ h
theorem q173{L:List (Int×Int)}{k:Nat}(h:¬k<L.length):L.drop k=[]:=bw_ (by omega)
def v169(f t:Int):List (Int×Int):=if f<t then[(f,t)]else[]
def cutL(t:Int):Int→List (Int×Int)→List (Int×Int)|f,[]=>v169 f t|f,y::b=>if y.1<t then v169 f y.1++cutL t (max f y.2) b else v169 f t
theorem y177(t f:Int):cutL t f []=v169 f t:=rfl
theorem w179{t f:Int}{y:Int×Int}{b:List (Int×Int)}(h:y.1<t):cutL t f (y::b)=v169 f y.1++cutL t (max f y.2) b:=by rw[cutL,w_ h]
theorem w177{t f:Int}{y:Int×Int}{b:List (Int×Int)}(h:¬y.1<t):cutL t f (y::b)=v169 f t:=by rw[cutL,q_ h]
theorem j173{f t:Int}(hf:0≤f)(ht:t≤4611686018427387904)(p:Int):InS (v169 f t) p↔f≤p∧p<t:=by
 unfold v169;split;·rw[j52,j19];simp only;omega
 ·constructor;·intro h;exact absurd h (k48 p)
  ·intro h;omega
theorem x172{f t:Int}(hf:0≤f)(ht:t≤4611686018427387904):Canon (v169 f t):=by
 unfold v169;split;·exact Canon.one (by rw[w34];simp only;omega)
 ·exact Canon.nil
theorem z178:∀(b:List (Int×Int))(t f:Int),Canon b→0≤f→t≤4611686018427387904→Canon (cutL t f b)∧∀p,InS (cutL t f b) p↔f≤p∧p<t∧¬InS b p
 |[],t,f,_,hf,ht=>by rw[y177];exact⟨x172 hf ht,fun p=>by rw[j173 hf ht];simp[k48]⟩
 |y::b,t,f,hb,hf,ht=>by
  have hy:=hb.head;by_cases h:y.1<t;·
   rw[w179 h];obtain⟨h1,h2⟩:=z178 b t (max f y.2) hb.tail (by omega) ht;refine⟨?_,fun p=>?_⟩;·
    unfold v169;split;·refine h1.cons' (by rw[w34];simp only;omega) (fun p hp=>?_);have:=(h2 p).1 hp;simp only;omega
    ·exact h1
   ·rw[j38,j173 hf (by omega),h2 p,hb.in_cons];constructor;·
     rintro(h3|⟨h3,h4,h5⟩);·
      refine⟨h3.1,by omega,?_⟩;rintro(h4|h4);·omega
      ·have:=hb.behind h4;omega
     ·refine⟨by omega,h4,?_⟩;rintro(h6|h6);·omega
      ·exact h5 h6
    ·rintro⟨h3,h4,h5⟩;by_cases h6:p<y.1;·exact .inl ⟨h3,h6⟩
     ·have h7:¬p<y.2:=fun h7=>h5 (.inl ⟨by omega,h7⟩);exact .inr ⟨by omega,h4,fun h8=>h5 (.inr h8)⟩
  ·rw[w177 h];refine⟨x172 hf ht,fun p=>?_⟩;rw[j173 hf ht];constructor;·rintro⟨h1,h2⟩;refine⟨h1,h2,fun h3=>?_⟩;have:=hb.first h3;omega
   ·rintro⟨h1,h2,_⟩;exact⟨h1,h2⟩
def q169(f:Int)(b:List (Int×Int)):List (Int×Int):=b.dropWhile fun y=>decide (y.2≤f)
theorem q183(f:Int):q169 f []=[]:=rfl
theorem z176{f:Int}{y:Int×Int}{b:List (Int×Int)}(h:y.2≤f):q169 f (y::b)=q169 f b:=by simp[q169,List.dropWhile,h]
theorem q178{f:Int}{y:Int×Int}{b:List (Int×Int)}(h:¬y.2≤f):q169 f (y::b)=y::b:=by simp[q169,List.dropWhile,h]
theorem j179(f:Int){b:List (Int×Int)}(hb:Canon b):Canon (q169 f b):=⟨fun x hx=>hb.good x ((List.dropWhile_sublist _).mem hx),hb.sep.sublist (List.dropWhile_sublist _)⟩
theorem z170(f p:Int)(h:f≤p):∀(b:List (Int×Int)),InS (q169 f b) p↔InS b p
 |[]=>Iff.rfl
 |y::b=>by
  by_cases hy:y.2≤f;·
   rw[z176 hy,z170 f p h b,y156];constructor;·exact .inr
   ·rintro(h1|h1);·omega
    ·exact h1
  ·rw[q178 hy]
def w169:List (Int×Int)→List (Int×Int)→List (Int×Int)|[],_=>[]|x::a,b=>cutL x.2 x.1 (q169 x.1 b)++w169 a (q169 x.1 b)
theorem q176(b:List (Int×Int)):w169 [] b=[]:=rfl
theorem j174(x:Int×Int)(a b:List (Int×Int)):w169 (x::a) b=cutL x.2 x.1 (q169 x.1 b)++w169 a (q169 x.1 b):=rfl
theorem j176:∀(a b:List (Int×Int)),Canon a→Canon b→Canon (w169 a b)∧∀p,InS (w169 a b) p↔InS a p∧¬InS b p
 |[],b,_,_=>⟨Canon.nil,fun p=>by rw[q176];simp[k48]⟩
 |x::a,b,ha,hb=>by
  have hx:=ha.head;have hs:=j179 x.1 hb;obtain⟨c1,c2⟩:=z178 (q169 x.1 b) x.2 x.1 hs hx.1 hx.2.2;obtain⟨l1,l2⟩:=j176 a (q169 x.1 b) ha.tail hs;rw[j174];refine⟨c1.append l1 (fun y hy z hz=>?_),fun p=>?_⟩;·have h1:=(c2 _).1 (c1.in_last hy);have h2:=ha.behind ((l2 _).1 (l1.in_mem hz)).1;omega
  ·rw[j38,c2 p,l2 p,ha.in_cons];constructor;·
    rintro(⟨h1,h2,h3⟩|⟨h1,h2⟩);·exact⟨.inl ⟨h1,h2⟩,fun h4=>h3 ((z170 _ _ h1 b).2 h4)⟩
    ·have:=ha.behind h1;exact⟨.inr h1,fun h4=>h2 ((z170 _ _ (by omega) b).2 h4)⟩
   ·rintro⟨h1|h1,h2⟩;·exact .inl ⟨h1.1,h1.2,fun h4=>h2 ((z170 _ _ h1.1 b).1 h4)⟩
    ·have:=ha.behind h1;exact .inr ⟨h1,fun h4=>h2 ((z170 _ _ (by omega) b).1 h4)⟩
theorem less_eq{a b:List (Int×Int)}(ha:Canon a)(hb:Canon b):w169 a b=ofOp a b 3:=by obtain⟨hc,hin⟩:=j176 a b ha hb;refine Canon.unique hc (y58 a b 3).1 (fun p=>?_);rw[hin p,(y58 a b 3).2 p,←j34,←j34];simp[opB]
theorem w73:∀{l m:List Int},l.Nodup→(∀x∈l,x∈m)→l.length≤m.length|[],_,_,_=>v_ _|x::l,m,hn,hs=>by have hx:x∈m:=hs x (aW_ ..);have hn':=List.nodup_cons.1 hn;have h1:=w73 (l:=l) (m:=m.erase x) hn'.2 (fun y hy=>(List.mem_erase_of_ne (fun e=>hn'.1 (by rw[←e];exact hy))).2 (hs y (ba_ _ hy)));have h2:=List.length_erase_of_mem hx;have h3:0<m.length:=List.length_pos_of_mem hx;simp only[g_];omega
def w30(x:Int×Int):Bool:=decide (x.1≤999999999999999999)&&decide (x.2≤999999999999999999)&&((decide (x.1=-1)&&decide (0≤x.2))||(decide (0≤x.1)&&(decide (x.2=-1)||decide (x.1≤x.2))))
theorem q57(x:Int×Int):w30 x=true↔x.1≤999999999999999999∧x.2≤999999999999999999∧((x.1=-1∧0≤x.2)∨(0≤x.1∧(x.2=-1∨x.1≤x.2))):=by simp[w30,and_assoc]
def allR(L:List (Int×Int)):Bool:=L.all w30
def w24(n:Int)(x:Int×Int):Int×Int:=if x.1<0 then(max (n-x.2) 0,n)else if 0≤x.2 then(x.1,min (x.2+1) n)else(x.1,n)
def hasS(x:Int×Int):Bool:=decide (x.1<x.2)
def resL(n:Int)(L:List (Int×Int)):List (Int×Int):=(L.map (w24 n)).filter hasS
theorem q102{n:Int}{L:List (Int×Int)}{k:Nat}(h:k<L.length):resL n (L.take (k+1))=resL n (L.take k)++(if hasS (w24 n L[k])=true then[w24 n L[k]]else[]):=by unfold resL;rw[n_ h,List.map_append,List.filter_append];congr 1;by_cases hh:hasS (w24 n L[k])=true<;>simp[hh]
theorem w35(n:Int)(L:List (Int×Int)):(resL n L).length≤L.length:=by unfold resL;exact ai_ (List.length_filter_le _ _) (by simp)
theorem y52{n:Int}(_h0:0≤n){L:List (Int×Int)}(hL:allR L=true){y:Int×Int}(hy:y∈resL n L):0≤y.1∧y.1<y.2∧y.2≤n:=by
 unfold resL at hy;obtain⟨hm,hs⟩:=List.mem_filter.1 hy;obtain⟨x,hx,rfl⟩:=List.mem_map.1 hm;have hr:=(q57 x).1 (av_.1 hL x hx);have hs':(w24 n x).1<(w24 n x).2:=by simpa[hasS]using hs
 unfold w24 at hs'⊢;split;·rename_i h1;rw[w_ h1]at hs';simp only at hs'⊢;omega
 ·rename_i h1;rw[q_ h1]at hs';split;·rename_i h2;rw[w_ h2]at hs';simp only at hs'⊢;omega
  ·rename_i h2;rw[q_ h2]at hs';simp only at hs'⊢;omega
def w36(n acc:Int):List (Int×Int)→Bool|[]=>false|x::r=>decide (2*n<acc+(x.2-x.1))||w36 n (acc+(x.2-x.1)) r
def q46(n most:Int)(L:List (Int×Int)):Bool:=decide (most<(L.length:Int))||w36 n 0 (resL n L)
def digB(c:UInt8):Bool:=decide (48≤c.toNat)&&decide (c.toNat≤57)
def v129(acc:Int):List UInt8→Option Int|[]=>some acc|c::r=>if digB c=true then v129 (acc*10+((c.toNat:Int)-48)) r else none
def numL(l:List UInt8):Option Int:=if l.length<1∨18<l.length then none else v129 0 l
def cutD:List UInt8→Option (List UInt8×List UInt8)|[]=>none|c::r=>if c=45 then some ([],r)else(cutD r).map fun p=>(c::p.1,p.2)
def itemL(l:List UInt8):Option (Int×Int):=match cutD l with|none=>none|some ([],b)=>(numL b).map fun y=>(-1,y)|some (c::a,[])=>(numL (c::a)).map fun x=>(x,-1)|some (c::a,d::b)=>match numL (c::a),numL (d::b)with|some x,some y=>if x≤y then some (x,y)else none|_,_=>none
def j21(c:UInt8):Bool:=c==32||c==9
def q36(l:List UInt8):List UInt8:=(l.reverse.dropWhile j21).reverse.dropWhile j21
def itemsL(ps:List (List UInt8)):List (List UInt8):=(ps.map q36).filter fun p=>!p.isEmpty
def k129:List (List UInt8)→Option (List (Int×Int))|[]=>some []|p::r=>match itemL p,k129 r with|some x,some y=>some (x::y)|_,_=>none
def w25(g:Int)(a b:Int×Int):Prop:=a.1≤b.2+g∧b.1≤a.2+g
def inP(a b:Int×Int):Prop:=b.1≤a.1∧a.2≤b.2
theorem inP.trans{a b c:Int×Int}(h:inP a b)(k:inP b c):inP a c:=⟨Int.le_trans k.1 h.1,Int.le_trans h.2 k.2⟩
theorem inP.refl(a:Int×Int):inP a a:=⟨ao_ _,ao_ _⟩
structure Folds(g:Int)(L:List (Int×Int))(O:List ((Int×Int)×Nat)):Prop where
 at_:∀o∈O,∃h:o.2<L.length,inP L[o.2] o.1
 all_:∀i(h:i<L.length),∃o∈O,inP L[i] o.1∧o.2≤i
 lo:∀o∈O,∃x∈L,inP x o.1∧x.1=o.1.1
 hi:∀o∈O,∃x∈L,inP x o.1∧x.2=o.1.2
 mid:∀o∈O,∀p,o.1.1≤p→p<o.1.2→∃x∈L,x.1≤p∧p<x.2+g
structure Folded(g:Int)(L:List (Int×Int))(O:List ((Int×Int)×Nat)):Prop extends Folds g L O where
 far:O.Pairwise (fun a b=>¬w25 g a.1 b.1)
 rise:O.Pairwise (fun a b=>a.2<b.2)
theorem pw_ne{α:Type}{R:α→α→Prop}(hs:∀a b,R a b→R b a):∀{l:List α},l.Pairwise R→∀{a b:α},a∈l→b∈l→a≠b→R a b
 |[],_,a,b,ha,_,_=>by cases ha
 |x::r,h,a,b,ha,hb,hab=>by
  obtain⟨h1,h2⟩:=af_.1 h;rcases C_.1 ha with ea|ha';·
   rcases C_.1 hb with eb|hb';·exact absurd (ea.trans eb.symm) hab
   ·rw[ea];exact h1 b hb'
  ·rcases C_.1 hb with eb|hb';·rw[eb];exact hs _ _ (h1 a ha')
   ·exact pw_ne hs h2 ha' hb' hab
theorem w93{g:Int}{O:List ((Int×Int)×Nat)}(h:O.Pairwise (fun a b=>¬w25 g a.1 b.1)){a b:(Int×Int)×Nat}(ha:a∈O)(hb:b∈O)(hn:w25 g a.1 b.1):a=b:=by
 by_cases e:a=b;·exact e
 ·exact absurd hn (pw_ne (R:=fun a b:(Int×Int)×Nat=>¬w25 g a.1 b.1) (fun a b h k=>h ⟨k.2,k.1⟩) h ha hb e)
section
variable{g:Int}{L:List (Int×Int)}{O O':List ((Int×Int)×Nat)}
theorem q74(h0:0≤g){x a b:Int×Int}(hx:x.1<x.2)(ha:inP x a)(hb:inP x b):w25 g a b:=by unfold inP at ha hb;unfold w25;omega
theorem Folds.some_(h:Folds g L O){x:Int×Int}(hx:x∈L):∃o∈O,inP x o.1:=by obtain⟨i,hi,rfl⟩:=as_ hx;obtain⟨o,ho,h1,_⟩:=h.all_ i hi;exact⟨o,ho,h1⟩
theorem Folds.sub(hL:∀x∈L,x.1<x.2)(h0:0≤g)(h:Folds g L O)(h':Folded g L O'){o:(Int×Int)×Nat}(ho:o∈O):∃o'∈O',inP o.1 o'.1:=by
 obtain⟨x,hx,hxo,hx1⟩:=h.lo o ho;obtain⟨s,hs,hxs⟩:=h'.some_ hx;refine⟨s,hs,?_⟩;by_cases hto:o.1.2≤s.1.2;·unfold inP at*;omega
 ·exfalso;obtain⟨y,hy,hyo,hy2⟩:=h.hi o ho;obtain⟨t,ht,hyt⟩:=h'.some_ hy;have hxx:=hL x hx;have hyy:=hL y hy;have hts:¬w25 g s.1 t.1:=fun hn=>by have e:=w93 h'.far hs ht hn;subst e;unfold inP at hyt;omega
  have hgap:s.1.2+g<t.1.1:=by unfold w25 at hts;unfold inP at*;omega
  obtain⟨z,hz,hz1,hz2⟩:=h.mid o ho (s.1.2+g) (by unfold inP at*;omega) (by unfold inP at*;omega);obtain⟨u,hu,hzu⟩:=h'.some_ hz;have hn:w25 g s.1 u.1:=by unfold w25;unfold inP at*;omega
  have e:=w93 h'.far hs hu hn;subst e;unfold inP at hzu;omega
theorem Folded.mem(hL:∀x∈L,x.1<x.2)(h0:0≤g)(h:Folded g L O)(h':Folded g L O'){o:(Int×Int)×Nat}(ho:o∈O):o∈O':=by
 obtain⟨s,hs,hos⟩:=h.toFolds.sub hL h0 h' ho;obtain⟨t,ht,hst⟩:=h'.toFolds.sub hL h0 h hs;obtain⟨x,hx,hxo,_⟩:=h.lo o ho;have e:o=t:=w93 h.far ho ht (q74 h0 (hL x hx) hxo (hxo.trans (hos.trans hst)));subst e;have e1:s.1=o.1:=by unfold inP at hos hst;exact Prod.ext (by omega) (by omega)
 have key:∀{P Q:List ((Int×Int)×Nat)},Folded g L P→Folded g L Q→∀{a b:(Int×Int)×Nat},a∈P→b∈Q→a.1=b.1→a.2≤b.2:=by intro P Q hP hQ a b ha hb hab;obtain⟨hlt,hin⟩:=hQ.at_ b hb;obtain⟨u,hu,hin2,hle⟩:=hP.all_ b.2 hlt;have:a=u:=w93 hP.far ha hu (q74 h0 (hL _ (y_ hlt)) (by rw[hab];exact hin) hin2);rw[this];exact hle
 have e2:s.2=o.2:=Nat.le_antisymm (key h' h hs ho e1) (key h h' ho hs e1.symm);have:s=o:=Prod.ext e1 e2;rw[←this];exact hs
theorem x129:∀{O O':List ((Int×Int)×Nat)},O.Pairwise (fun a b=>a.2<b.2)→O'.Pairwise (fun a b=>a.2<b.2)→(∀o,o∈O↔o∈O')→O=O'
 |[],[],_,_,_=>rfl
 |[],b::r,_,_,h=>by have:=(h b).2 (aW_ ..);cases this
 |a::r,[],_,_,h=>by have:=(h a).1 (aW_ ..);cases this
 |a::r,b::q,h1,h2,h=>by
  obtain⟨a1,a2⟩:=af_.1 h1;obtain⟨b1,b2⟩:=af_.1 h2;have hab:a=b:=by
   rcases C_.1 ((h a).1 (aW_ ..))with e|ha;·exact e
   ·rcases C_.1 ((h b).2 (aW_ ..))with e|hb;·exact e.symm
    ·have:=b1 a ha;have:=a1 b hb;omega
  subst hab;rw[x129 a2 b2 fun o=>⟨fun ho=>?_,fun ho=>?_⟩];·
   rcases C_.1 ((h o).1 (ba_ _ ho))with rfl|k;·have:=a1 o ho;omega
   ·exact k
  ·rcases C_.1 ((h o).2 (ba_ _ ho))with rfl|k;·have:=b1 o ho;omega
   ·exact k
theorem Folded.eq(hL:∀x∈L,x.1<x.2)(h0:0≤g)(h:Folded g L O)(h':Folded g L O'):O=O':=x129 h.rise h'.rise fun _=>⟨fun ho=>h.mem hL h0 h' ho,fun ho=>h'.mem hL h0 h ho⟩
def q26(a b:Int×Int):Int×Int:=(min a.1 b.1,max a.2 b.2)
theorem w157(a b:Int×Int):inP a (q26 a b):=⟨by simp only[q26];omega,by simp only[q26];omega⟩
theorem z158(a b:Int×Int):inP b (q26 a b):=⟨by simp only[q26];omega,by simp only[q26];omega⟩
theorem Folds.merge(hL:∀x∈L,x.1<x.2)(h:Folds g L O){a b:(Int×Int)×Nat}(ha:a∈O)(hb:b∈O)(hn:w25 g a.1 b.1){q:Nat}(hq:(q=a.2∨q=b.2)∧q≤a.2∧q≤b.2)(hm:∀o∈O',o=(q26 a.1 b.1,q)∨o∈O)(hc:(q26 a.1 b.1,q)∈O')(hk:∀o∈O,o∈O'∨o=a∨o=b):Folds g L O':=by
 have i1:=w157 a.1 b.1;have i2:=z158 a.1 b.1;refine⟨fun o ho=>?_,fun i hi=>?_,fun o ho=>?_,fun o ho=>?_,fun o ho p hp1 hp2=>?_⟩;·
  rcases hm o ho with rfl|ho;·
   obtain⟨l1,n1⟩:=h.at_ a ha;obtain⟨l2,n2⟩:=h.at_ b hb;rcases hq.1 with rfl|rfl;·exact⟨l1,n1.trans i1⟩
   ·exact⟨l2,n2.trans i2⟩
  ·exact h.at_ o ho
 ·obtain⟨o,ho,h1,h2⟩:=h.all_ i hi;rcases hk o ho with ho|rfl|rfl;·exact⟨o,ho,h1,h2⟩
  ·exact⟨_,hc,h1.trans i1,by simp only;omega⟩
  ·exact⟨_,hc,h1.trans i2,by simp only;omega⟩
 ·rcases hm o ho with rfl|ho;·
   obtain⟨x,hx,x1,x2⟩:=h.lo a ha;obtain⟨y,hy,y1,y2⟩:=h.lo b hb;by_cases hab:a.1.1≤b.1.1;·exact⟨x,hx,x1.trans i1,by simp only[q26];omega⟩
   ·exact⟨y,hy,y1.trans i2,by simp only[q26];omega⟩
  ·exact h.lo o ho
 ·rcases hm o ho with rfl|ho;·
   obtain⟨x,hx,x1,x2⟩:=h.hi a ha;obtain⟨y,hy,y1,y2⟩:=h.hi b hb;by_cases hab:a.1.2≤b.1.2;·exact⟨y,hy,y1.trans i2,by simp only[q26];omega⟩
   ·exact⟨x,hx,x1.trans i1,by simp only[q26];omega⟩
  ·exact h.hi o ho
 ·rcases hm o ho with rfl|ho;·
   obtain⟨x,hx,x1,x2⟩:=h.hi a ha;obtain⟨y,hy,y1,y2⟩:=h.hi b hb;obtain⟨x',hx',x1',x2'⟩:=h.lo a ha;obtain⟨y',hy',y1',y2'⟩:=h.lo b hb;simp only[q26]at hp1 hp2;by_cases c1:a.1.1≤p∧p<a.1.2;·exact h.mid a ha p c1.1 c1.2
   ·by_cases c2:b.1.1≤p∧p<b.1.2;·exact h.mid b hb p c2.1 c2.2
    ·unfold w25 at hn;unfold inP at x1 y1;have:=hL x hx;have:=hL y hy;by_cases c3:a.1.2≤p∧a.1.1≤b.1.1;·exact⟨x,hx,by omega,by omega⟩
     ·exact⟨y,hy,by omega,by omega⟩
  ·exact h.mid o ho p hp1 hp2
end
section
variable{g:Int}{L:List (Int×Int)}
structure Sweeps(g:Int)(L:List (Int×Int))(one rest:List ((Int×Int)×Nat)):Prop where
 folds:Folds g L (one++rest)
 apart:one.Pairwise (fun a b=>a.1.2+g<b.1.1)
 ahead:∀o∈one,∀f∈rest,o.1.1≤f.1.1
 sorted:rest.Pairwise (fun a b=>a.1.1≤b.1.1)
variable{init rest one:List ((Int×Int)×Nat)}{l f:(Int×Int)×Nat}
theorem Folds.wide(hL:∀x∈L,x.1<x.2){O:List ((Int×Int)×Nat)}(h:Folds g L O){o:(Int×Int)×Nat}(ho:o∈O):o.1.1<o.1.2:=by obtain⟨h1,h2⟩:=h.at_ o ho;have:=hL _ (y_ h1);unfold inP at h2;omega
theorem Sweeps.join(hL:∀x∈L,x.1<x.2)(h0:0≤g)(h:Sweeps g L (init++[l]) (f::rest))(hn:f.1.1-l.1.2≤g):Sweeps g L (init++[((l.1.1,max l.1.2 f.1.2),min l.2 f.2)]) rest:=by
 have hlf:=h.ahead l (by simp) f (by simp);have hfw:=h.folds.wide hL (o:=f) (by simp);have e:(l.1.1,max l.1.2 f.1.2)=q26 l.1 f.1:=by unfold q26;congr 1;omega
 obtain⟨a1,a2,a3⟩:=Y_.1 h.apart;obtain⟨s1,s2⟩:=af_.1 h.sorted;refine⟨?_,?_,?_,s2⟩;·
  rw[e];refine h.folds.merge hL (a:=l) (b:=f) (by simp) (by simp) (by unfold w25;omega) (q:=min l.2 f.2) (by omega) ?_ (by simp) ?_;·
   intro o ho;simp at ho⊢;rcases ho with ho|ho|ho;·exact .inr (.inl ho)
   ·exact .inl ho
   ·exact .inr (.inr (.inr (.inr ho)))
  ·intro o ho;simp at ho⊢;rcases ho with ho|ho|ho|ho;·exact .inl (.inl ho)
   ·exact .inr (.inl ho)
   ·exact .inr (.inr ho)
   ·exact .inl (.inr (.inr ho))
 ·refine Y_.2 ⟨a1,List.pairwise_singleton ..,fun a ha b hb=>?_⟩;simp at hb;subst hb;exact a3 a ha l (by simp)
 ·intro o ho q hq;simp at ho;rcases ho with ho|rfl;·exact h.ahead o (by simp[ho]) q (by simp[hq])
  ·exact h.ahead l (by simp) q (by simp[hq])
theorem Sweeps.push(hL:∀x∈L,x.1<x.2)(h0:0≤g)(h:Sweeps g L (init++[l]) (f::rest))(hn:¬f.1.1-l.1.2≤g):Sweeps g L ((init++[l])++[f]) rest:=by
 obtain⟨a1,a2,a3⟩:=Y_.1 h.apart;obtain⟨s1,s2⟩:=af_.1 h.sorted;have hlw:=h.folds.wide hL (o:=l) (by simp);refine⟨by have:=h.folds;simpa using this,?_,?_,s2⟩;·
  refine Y_.2 ⟨h.apart,List.pairwise_singleton ..,fun a ha b hb=>?_⟩;simp at hb;subst hb;simp at ha;rcases ha with ha|rfl;·have:=a3 a ha l (by simp);omega
  ·omega
 ·intro o ho q hq;simp at ho;rcases ho with ho|rfl|rfl;·exact h.ahead o (by simp[ho]) q (by simp[hq])
  ·exact h.ahead o (by simp) q (by simp[hq])
  ·exact s1 q hq
theorem Sweeps.first(h:Sweeps g L [] (f::rest)):Sweeps g L [f] rest:=by obtain⟨s1,s2⟩:=af_.1 h.sorted;refine⟨by have:=h.folds;simpa using this,List.pairwise_singleton ..,?_,s2⟩;intro o ho q hq;simp at ho;subst ho;exact s1 q hq
theorem Sweeps.done(hL:∀x∈L,x.1<x.2)(h0:0≤g)(h:Sweeps g L one []){O:List ((Int×Int)×Nat)}(hp:O.Perm one)(hs:O.Pairwise (fun a b=>a.2≤b.2)):Folded g L O:=by
 have hf:Folds g L one:=by have:=h.folds;simpa using this
 have hfO:Folds g L O:=⟨fun o ho=>hf.at_ o (hp.mem_iff.1 ho),fun i hi=>by obtain⟨o,ho,h1⟩:=hf.all_ i hi;exact⟨o,hp.mem_iff.2 ho,h1⟩,fun o ho=>hf.lo o (hp.mem_iff.1 ho),fun o ho=>hf.hi o (hp.mem_iff.1 ho),fun o ho=>hf.mid o (hp.mem_iff.1 ho)⟩;have hfar1:one.Pairwise (fun a b=>¬w25 g a.1 b.1):=h.apart.imp fun hab hn=>by unfold w25 at hn;omega
 have hfar:O.Pairwise (fun a b=>¬w25 g a.1 b.1):=(hp.pairwise_iff (fun{a b}(h:¬w25 g a.1 b.1)(k:w25 g b.1 a.1)=>h ⟨k.2,k.1⟩)).2 hfar1;refine⟨hfO,hfar,?_⟩;have hne:O.Pairwise (fun a b=>a.2≠b.2):=by refine List.Pairwise.imp_of_mem (fun{a b}ha hb hab e=>?_) hfar;obtain⟨l1,n1⟩:=hfO.at_ a ha;obtain⟨l2,n2⟩:=hfO.at_ b hb;simp only[←e]at n2;exact hab (q74 h0 (hL _ (y_ l1)) n1 n2)
 exact(hs.and hne).imp fun⟨a,b⟩=>by omega
theorem Sweeps.start{R:List ((Int×Int)×Nat)}(_hL:∀x∈L,x.1<x.2)(h0:0≤g)(hp:R.Perm L.zipIdx)(hs:R.Pairwise (fun a b=>a.1.1≤b.1.1)):Sweeps g L [] R:=by
 have hm:∀o,o∈R→L[o.2]?=some o.1:=fun o ho=>by have:=hp.mem_iff.1 ho;exact bs_.1 this
 refine⟨⟨fun o ho=>?_,fun i hi=>?_,fun o ho=>?_,fun o ho=>?_,fun o ho p h1 h2=>?_⟩,.nil,(fun o ho=>by cases ho),hs⟩;·obtain⟨h1,h2⟩:=O_.1 (hm o (by simpa using ho));exact⟨h1,by rw[h2];exact inP.refl _⟩
 ·exact⟨(L[i],i),by simpa using hp.mem_iff.2 (bs_.2 (o_ hi)),inP.refl _,t_ _⟩
 ·exact⟨o.1,aj_ (hm o (by simpa using ho)),inP.refl _,rfl⟩
 ·exact⟨o.1,aj_ (hm o (by simpa using ho)),inP.refl _,rfl⟩
 ·exact⟨o.1,aj_ (hm o (by simpa using ho)),h1,by omega⟩
end
abbrev leF(a b:(Int×Int)×Nat):Prop:=a.1.1≤b.1.1
abbrev SortF(l:List ((Int×Int)×Nat)):Prop:=l.Pairwise leF
theorem SortF.get{l:List ((Int×Int)×Nat)}(h:SortF l){i j:Nat}(hij:i≤j)(hj:j<l.length):leF (l[i]'(by omega)) l[j]:=by
 rcases ah_ i j with hlt|hge;·exact E_.1 h i j (by omega) hj hlt
 ·obtain rfl:i=j:=by omega
  exact ao_ _
theorem SortF.take{l:List ((Int×Int)×Nat)}(h:SortF l)(k:Nat):SortF (l.take k):=List.Pairwise.sublist (List.take_sublist k l) h
theorem SortF.drop{l:List ((Int×Int)×Nat)}(h:SortF l)(k:Nat):SortF (l.drop k):=List.Pairwise.sublist (List.drop_sublist k l) h
theorem cross{X Y:List ((Int×Int)×Nat)}(hX:SortF X)(hY:SortF Y){k j:Nat}(hk:k≤X.length)(h:∀(_:0<k)(h1:k-1<X.length)(h2:j<Y.length),leF X[k-1] Y[j]):∀x∈X.take k,∀y∈Y.drop j,leF x y:=by intro x hx y hy;obtain⟨i,hi,rfl⟩:=as_ hx;obtain⟨q,hq,rfl⟩:=as_ hy;simp at hi hq;rw[List.getElem_take,List.getElem_drop];exact Int.le_trans (hX.get (i:=i) (j:=k-1) (by omega) (by omega)) (Int.le_trans (h (by omega) (by omega) (by omega)) (hY.get (i:=j) (j:=j+q) (by omega) (by omega)))
theorem k112{X1 X2 Y1 Y2 Z1 Z2:List ((Int×Int)×Nat)}(hX:SortF (X1++X2))(hY:SortF (Y1++Y2))(h1:∀x∈X1,∀y∈Y2,leF x y)(h2:∀y∈Y1,∀x∈X2,leF y x)(p1:Z1.Perm (X1++Y1))(p2:Z2.Perm (X2++Y2))(s1:SortF Z1)(s2:SortF Z2):SortF (Z1++Z2):=by
 refine Y_.2 ⟨s1,s2,fun a ha b hb=>?_⟩;have ha':=p1.mem_iff.1 ha;have hb':=p2.mem_iff.1 hb;rcases A_.1 ha' with ha'|ha'<;>rcases A_.1 hb' with hb'|hb';·exact(Y_.1 hX).2.2 a ha' b hb'
 ·exact h1 a ha' b hb'
 ·exact h2 a ha' b hb'
 ·exact(Y_.1 hY).2.2 a ha' b hb'
theorem y134{X1 X2 Y1 Y2 Z1 Z2:List ((Int×Int)×Nat)}(p1:Z1.Perm (X1++Y1))(p2:Z2.Perm (X2++Y2)):(Z1++Z2).Perm ((X1++X2)++(Y1++Y2)):=by refine(p1.append p2).trans ?_;rw[x_,x_];refine List.Perm.append_left X1 ?_;rw[←x_,←x_];exact List.Perm.append_right Y2 List.perm_append_comm
theorem insert_sorted{A B:List ((Int×Int)×Nat)}{x:(Int×Int)×Nat}(h:SortF (A++B))(h1:∀a∈A,leF a x)(h2:∀b∈B,leF x b):SortF (A++x::B):=by
 obtain⟨a,b,c⟩:=Y_.1 h;refine Y_.2 ⟨a,af_.2 ⟨h2,b⟩,fun p hp q hq=>?_⟩;rcases C_.1 hq with rfl|hq;·exact h1 p hp
 ·exact c p hp q hq
theorem y147{A:List ((Int×Int)×Nat)}{x:(Int×Int)×Nat}(h:SortF A){k:Nat}(hk:k≤A.length)(h1:∀(_:0<k),leF (A[k-1]'(by omega)) x):∀a∈A.take k,leF a x:=by intro a ha;obtain⟨i,hi,rfl⟩:=as_ ha;simp at hi;rw[List.getElem_take];exact Int.le_trans (h.get (i:=i) (j:=k-1) (by omega) (by omega)) (h1 (by omega))
theorem w147{A:List ((Int×Int)×Nat)}{x:(Int×Int)×Nat}(h:SortF A){k:Nat}(h1:∀(hk:k<A.length),leF x A[k]):∀a∈A.drop k,leF x a:=by intro a ha;obtain⟨i,hi,rfl⟩:=as_ ha;simp at hi;rw[List.getElem_drop];exact Int.le_trans (h1 (by omega)) (h.get (i:=k) (j:=k+i) (by omega) (by omega))
section
variable{g:Int}{L R:List (Int×Int)}
def OnWay(g:Int)(L R:List (Int×Int)):Prop:=∃O:List ((Int×Int)×Nat),Folds g L O∧O.Pairwise (fun a b=>a.2<b.2)∧R=O.map Prod.fst
theorem q148(L:List (Int×Int))(h0:0≤g):Folds g L L.zipIdx:=by
 have hm:∀o,o∈L.zipIdx→L[o.2]?=some o.1:=fun o ho=>bs_.1 ho;refine⟨fun o ho=>?_,fun i hi=>?_,fun o ho=>?_,fun o ho=>?_,fun o ho p h1 h2=>?_⟩;·obtain⟨h1,h2⟩:=O_.1 (hm o ho);exact⟨h1,by rw[h2];exact inP.refl _⟩
 ·exact⟨(L[i],i),bs_.2 (o_ hi),inP.refl _,t_ _⟩
 ·exact⟨o.1,aj_ (hm o ho),inP.refl _,rfl⟩
 ·exact⟨o.1,aj_ (hm o ho),inP.refl _,rfl⟩
 ·exact⟨o.1,aj_ (hm o ho),h1,by omega⟩
theorem q158(L:List (Int×Int)):L.zipIdx.Pairwise (fun a b=>a.2<b.2):=by rw[E_];intro i j hi hj hij;simpa using hij
theorem zip_fst(L:List (Int×Int)):L.zipIdx.map Prod.fst=L:=by apply cf_;intro i;simp
theorem OnWay.start(h0:0≤g):OnWay g L L:=⟨L.zipIdx,q148 L h0,q158 L,(zip_fst L).symm⟩
theorem OnWay.wide(hL:∀x∈L,0≤x.1∧x.1<x.2∧x.2≤4611686018427387904)(h:OnWay g L R):∀x∈R,0≤x.1∧x.1<x.2∧x.2≤4611686018427387904:=by obtain⟨O,hO,_,rfl⟩:=h;intro y hy;obtain⟨o,ho,rfl⟩:=List.mem_map.1 hy;have h0:=hO.wide (fun x hx=>(hL x hx).2.1) ho;obtain⟨x,hx,_,e1⟩:=hO.lo o ho;obtain⟨z,hz,_,e2⟩:=hO.hi o ho;have:=hL x hx;have:=hL z hz;omega
theorem OnWay.done(h:OnWay g L R)(hf:R.Pairwise (fun a b=>¬w25 g a b)):∃O,Folded g L O∧R=O.map Prod.fst:=by obtain⟨O,hO,hr,rfl⟩:=h;exact⟨O,⟨hO,ce_.1 hf,hr⟩,rfl⟩
def k63(R:List (Int×Int))(i k:Nat)(x:Int×Int):List (Int×Int):=(R.set i x).eraseIdx k
theorem j106{i k:Nat}(x:Int×Int)(hk:k<R.length):(k63 R i k x).length=R.length-1:=by unfold k63;rw[List.length_eraseIdx];simp[hk]
theorem j82{α β:Type}(f:α→β):∀(l:List α)(k:Nat),(l.eraseIdx k).map f=(l.map f).eraseIdx k|[],k=>by simp|x::l,0=>by simp|x::l,k+1=>by simp[j82 f l k]
theorem OnWay.join(hL:∀x∈L,x.1<x.2)(h:OnWay g L R){i k:Nat}(hik:i<k)(hk:k<R.length)(hn:w25 g (R[i]'(by omega)) R[k]):OnWay g L (k63 R i k (q26 (R[i]'(by omega)) R[k])):=by
 obtain⟨O,hO,hr,rfl⟩:=h;have hkO:k<O.length:=by simpa using hk
 have hiO:i<O.length:=by omega
 simp only[List.getElem_map]at hn⊢;have hlt:(O[i]).2<(O[k]).2:=E_.1 hr i k hiO hkO hik;refine⟨(O.set i (q26 O[i].1 O[k].1,O[i].2)).eraseIdx k,?_,?_,?_⟩;·
  refine hO.merge hL (y_ hiO) (y_ hkO) hn (q:=O[i].2) ⟨.inl rfl,t_ _,by omega⟩ ?_ ?_ ?_;·
   intro o ho;have:=List.mem_of_mem_eraseIdx ho;rcases List.mem_or_eq_of_mem_set this with h|h;·exact .inr h
   ·exact .inl h
  ·rw[List.mem_eraseIdx_iff_getElem];exact⟨i,by simpa using hiO,by omega,by simp⟩
  ·intro o ho;obtain⟨j,hj,rfl⟩:=as_ ho;by_cases h1:j=i;·subst h1;exact .inr (.inl rfl)
   ·by_cases h2:j=k;·subst h2;exact .inr (.inr rfl)
    ·refine .inl ?_;rw[List.mem_eraseIdx_iff_getElem];exact⟨j,by simpa using hj,h2,by rw[List.getElem_set_ne (fun e=>h1 e.symm)]⟩
 ·have e:(O.set i (q26 O[i].1 O[k].1,O[i].2)).Pairwise (fun a b=>a.2<b.2):=by
   have h1:(O.map Prod.snd).Pairwise (·<·):=ce_.2 hr;refine ce_.1 (?_:((O.set i (q26 O[i].1 O[k].1,O[i].2)).map Prod.snd).Pairwise (·<·));have e1:(O.set i (q26 O[i].1 O[k].1,O[i].2)).map Prod.snd=O.map Prod.snd:=by
    rw[List.map_set];apply List.ext_getElem (by simp);intro j h2 h3;rw[List.getElem_set];split;·rename_i e;subst e;simp
    ·rfl
   rw[e1];exact h1
  exact List.Pairwise.sublist (List.eraseIdx_sublist _ _) e
 ·unfold k63;rw[j82,List.map_set]
theorem k121{i k n:Nat}{x:Int×Int}(hn:n<R.length)(h:n≠k):((R.set i x).take (n+1)).eraseIdx k=((R.set i x).take n).eraseIdx k++[(R.set i x)[n]'(by simpa using hn)]:=by
 rw[n_ (by simpa using hn)];rcases ah_ k n with h1|h1;·rw[List.eraseIdx_append_of_lt_length (by simp;omega)]
 ·rw[List.eraseIdx_append_of_length_le (by simp;omega)];have e1:((R.set i x).take n).eraseIdx k=(R.set i x).take n:=List.eraseIdx_of_length_le (by simp;omega);rw[e1];congr 1;exact List.eraseIdx_of_length_le (by simp;omega)
theorem x121{i k:Nat}{x:Int×Int}(hn:k<R.length):((R.set i x).take (k+1)).eraseIdx k=((R.set i x).take k).eraseIdx k:=by
 rw[n_ (by simpa using hn)];rw[List.eraseIdx_append_of_length_le (by simp;omega)];have e1:((R.set i x).take k).eraseIdx k=(R.set i x).take k:=List.eraseIdx_of_length_le (by simp;omega);have e2:k-((R.set i x).take k).length=0:=by simp;omega
 rw[e1,e2];simp
theorem z94{i k:Nat}{x:Int×Int}:((R.set i x).take R.length).eraseIdx k=k63 R i k x:=by unfold k63;rw[u_ (by simp)]
theorem w134{i k n:Nat}{x:Int×Int}(hn:n≤R.length):(((R.set i x).take n).eraseIdx k).length=if k<n then n-1 else n:=by rw[List.length_eraseIdx];simp[Nat.min_eq_left hn]
end
section
variable{g:Int}{L:List (Int×Int)}{O:List ((Int×Int)×Nat)}
end
section
variable{L:List (Int×Int)}{O:List ((Int×Int)×Nat)}
theorem Folded.few{g:Int}(h:Folded g L O):O.length≤L.length:=by
 have h1:(O.map fun o=>(o.2:Int)).Nodup:=by rw[List.nodup_iff_pairwise_ne,ce_];exact h.rise.imp fun hab=>by omega
 have:=w73 (m:=(List.range L.length).map fun n:Nat=>(n:Int)) h1 (fun q hq=>by obtain⟨o,ho,rfl⟩:=List.mem_map.1 hq;obtain⟨hlt,_⟩:=h.at_ o ho;exact List.mem_map.2 ⟨o.2,by simpa using hlt,rfl⟩);simpa using this
theorem Folded.apart{g:Int}(h:Folded g L O){i k:Nat}(hi:i<(O.map Prod.fst).length)(hk:k<(O.map Prod.fst).length)(hne:i≠k):¬w25 g (O.map Prod.fst)[i] (O.map Prod.fst)[k]:=by
 have hf:=ce_ (R:=fun a b=>¬w25 g a b) (f:=Prod.fst)|>.2 h.far;rcases ah_ i k with h1|h1;·exact E_.1 hf i k hi hk h1
 ·intro hn;exact E_.1 hf k i hk hi (by omega) ⟨hn.2,hn.1⟩
end
