/- From a row's reading to what the walks ask: slices of spans and spans that .. -/
import Derived.Test.YtkkomffmnafjkaaGreatDoorZB1
import Derived.ProofKit
import Derived.OpenShut
import Derived.Deep.DeepHandedRow
import Derived.Deep.Slices
set_option maxHeartbeats 16000000
set_option maxRecDepth 100000
set_option linter.all false
namespace Go.Proofs.YtkkomffmnafjkaaGreatDoor
open Go.ChangeShapes Go.WideShapes Go.ChangeAt Go.RowKit
theorem Tryz.own:ownKnob Tryz.prog.godebug=none:=by kernel_rfl
theorem Tryz.laidOut:laidOutB Tryz.prog=true:=by kernel_rfl
section
variable{H:Type}{enc:TypeId×Value→H}{P:Program}
theorem y69{f:Func}{s:ChangeSpec}{apart fresh handsOn again:Bool}{W W':World}{args:Array Value}{v:Value}{ds gs:List (DataW H)}{before pa pv:List MemPlace}(hW:DataW.Whole enc P f.params.toList s.vars apart W args.toList ds gs before)(hres:∀(b:Nat)(sp:Nat→Bool)(hd:Bool),DataW.TrodAll enc P W' b sp hd f.resultTypes.toList (v.resultList f.resultTypes.size) (s.fn H (ds++gs)).results [])(hargs:∀sp:Nat→Bool,(∀p∈before,sp p.block=true)→DataW.TrodAll enc P W' 0 sp true f.params.toList args.toList (s.fn H (ds++gs)).args pa)(hvars:∀sp:Nat→Bool,(∀p∈before,sp p.block=true)→DataW.TrodVars enc P W' sp s.vars (s.fn H (ds++gs)).vars pv)(hps:before=pa++pv)(hb:Below W.heap.size W W')(hok:∀(j:Nat)(t:TypeId)(r:Value),f.resultTypes[j]?=some t→(v.resultList f.resultTypes.size)[j]?=some r→Value.okWide P W' .any 0 t r):s.post enc P f apart fresh handsOn again W args v W':=by
 have hlt:∀p∈before,p.block<W.heap.size:=fun p hp=>hW.lt p hp;have hold:∀p∈before,(fun b=>decide (b<W.heap.size)) p.block=true:=fun p hp=>by simpa using hlt p hp
 refine⟨ds,gs,before,[],pa,pv,hW,hres _ _ _,hargs _ hold,hvars _ hold,World.keptBut_mono (fun p hp=>⟨hp,?_⟩) (hb.frame (·∈before)),fun _=>?_⟩;·rw[hps,A_]at hp;exact Or.inr hp
 ·obtain⟨_,_,_,_,_,hz,hn⟩:=hW;refine⟨hok,_,_,([]++pa)++pv,⟨[]++pa,pv,trodAll_append (hargs _ (fun _ _=>rfl)) (hres _ _ _),hvars _ (fun _ _=>rfl),rfl,?_,?_⟩,?_⟩;·
   intro b off hp;have hin:MemPlace.cell b off∈before:=by rw[hps];simpa using hp
   rw[hb.frozen (hlt _ hin)];exact hz b off hin
  ·intro ha;have:=hn ha;rw[hps]at this;simpa using this
  ·intro p hp _;rw[hps];simpa using hp
variable{w:World}{base:Nat}{spare:Nat→Bool}{held:Bool}{n:Nat}
theorem x59{a:Addr}{v:Value}(h:w.cell? a=some v):a.spot=none:=by
 unfold World.cell? at h;split at h;·
  split at h;·cases h
  ·rename_i hs;simpa using hs
 ·cases h
theorem y140{c0 c1:Value}{y:DataW H×List MemPlace}(h:DataW.trod enc Tryz.prog w base spare held n 59 [c0,c1]=some y):∃a b:Int,c0=.int .i64 a∧c1=.int .i64 b:=by
 obtain⟨xs,m,_,_,_,hlen,hg⟩:=ax_ Tryz.underlying59 h;have k2:Tryz.prog.cellsOf 2=1:=by kernel_rfl
 match xs,hlen with
  |[y0,y1],_=>have g0:=hg 0 _ rfl;have g1:=hg 1 _ rfl;simp only[ab_,Z_]at g0 g1;obtain⟨a,e0,_⟩:=K_ L_ g0;obtain⟨b,e1,_⟩:=K_ L_ g1;exact⟨a,b,by simpa[k2]using e0,by simpa[k2]using e1⟩
theorem q124{fuel:Nat}{A:Option Addr}{len c:Nat}{x:DataW H×List MemPlace}(h:DataW.trod enc Tryz.prog w base spare held fuel 48 [.slice A len c]=some x):∃L,len=L.length∧Sp w A c L∧L.length≤9223372036854775807:=by
 rcases Deep.open_slice bS_ h with⟨h0,_⟩|⟨a,len',cap,m,n',D,Pl,hcs,hb,hl,hm,hmm,hx,hi⟩;·simp only[bm_,bI_,and_true]at h0;obtain⟨rfl,rfl,rfl⟩:=h0;exact⟨[],rfl,Sp.nil w,by simp⟩
 ·simp only[bm_,bI_,and_true]at hcs;obtain⟨rfl,rfl,rfl⟩:=hcs;have hc:Tryz.prog.cellsOf 59=2:=by kernel_rfl
  have each:∀i,i<len→∃x:Int×Int,w.cell? (a.add (i*2))=some (.int .i64 x.1)∧w.cell? (a.add (i*2+1))=some (.int .i64 x.2):=by
   intro i hi';obtain⟨cs',hcs,ht⟩:=hi i (by rw[hmm];split<;>omega);rw[hc]at hcs;obtain⟨_,hlen,hcell⟩:=World.cells?_some hcs;match cs',hlen with
    |[c0,c1],_=>obtain⟨f,t,rfl,rfl⟩:=y140 ht;have h0:=hcell 0 (by omega);have h1:=hcell 1 (by omega);rw[Go.Deep.add_add]at h0 h1;exact⟨(f,t),by simpa using h0,by simpa using h1⟩
  obtain⟨f,hf⟩:∃f:Nat→Int×Int,∀i,i<len→w.cell? (a.add (i*2))=some (.int .i64 (f i).1)∧w.cell? (a.add (i*2+1))=some (.int .i64 (f i).2):=⟨fun i=>if h:i<len then Classical.choose (each i h)else(0,0),fun i h=>by simp only[dif_pos h];exact Classical.choose_spec (each i h)⟩;refine⟨(List.range len).map f,by simp,⟨by simpa using hl,(fun e=>by cases e),fun hn=>?_⟩,by simp only[maxLen]at hm;simp;omega⟩;have hn':0<len:=by simpa using hn
  have h0:=(hf 0 hn').1;have hs:=x59 (show w.cell? a=_ from h0);obtain⟨b,off,sp⟩:=a;simp only at hs;subst hs;have hadd:∀j,(⟨b,off,none⟩:Addr).add j=⟨b,off+j,none⟩:=fun j=>by unfold Addr.add;split<;>simp_all
  refine⟨b,off,rfl,aI_ w ⟨b,off,none⟩ h0,fun i x hx=>?_⟩;simp only[bo_,aO_]at hx;obtain⟨j,hj,rfl⟩:=hx;have hjl:j<len∧j=i:=by obtain⟨h1,h2⟩:=O_.1 hj;simp at h1 h2;omega
  obtain⟨hjl,rfl⟩:=hjl;have:=hf j hjl;rw[hadd,hadd,←Nat.add_assoc]at this;exact this
end
section
variable{H:Type}{enc:TypeId×Value→H}{P:Program}
variable{w:World}{base:Nat}{spare:Nat→Bool}{held:Bool}{n:Nat}
theorem w140{c0 c1:Value}{y:DataW H×List MemPlace}(h:DataW.trod enc Tryz.prog w base spare held n 81 [c0,c1]=some y):∃a b:Int,c0=.int .i64 a∧c1=.int .i64 b:=by
 obtain⟨xs,m,_,_,_,hlen,hg⟩:=ax_ Tryz.underlying81 h;have k2:Tryz.prog.cellsOf 2=1:=by kernel_rfl
 match xs,hlen with
  |[y0,y1],_=>have g0:=hg 0 _ rfl;have g1:=hg 1 _ rfl;simp only[ab_,Z_]at g0 g1;obtain⟨a,e0,_⟩:=K_ L_ g0;obtain⟨b,e1,_⟩:=K_ L_ g1;exact⟨a,b,by simpa[k2]using e0,by simpa[k2]using e1⟩
theorem j124{fuel:Nat}{A:Option Addr}{len c:Nat}{x:DataW H×List MemPlace}(h:DataW.trod enc Tryz.prog w base spare held fuel 22 [.slice A len c]=some x):∃L,len=L.length∧Sp w A c L∧L.length≤9223372036854775807:=by
 rcases Deep.open_slice Tryz.underlying22 h with⟨h0,_⟩|⟨a,len',cap,m,n',D,Pl,hcs,hb,hl,hm,hmm,hx,hi⟩;·simp only[bm_,bI_,and_true]at h0;obtain⟨rfl,rfl,rfl⟩:=h0;exact⟨[],rfl,Sp.nil w,by simp⟩
 ·simp only[bm_,bI_,and_true]at hcs;obtain⟨rfl,rfl,rfl⟩:=hcs;have hc:Tryz.prog.cellsOf 81=2:=by kernel_rfl
  have each:∀i,i<len→∃x:Int×Int,w.cell? (a.add (i*2))=some (.int .i64 x.1)∧w.cell? (a.add (i*2+1))=some (.int .i64 x.2):=by
   intro i hi';obtain⟨cs',hcs,ht⟩:=hi i (by rw[hmm];split<;>omega);rw[hc]at hcs;obtain⟨_,hlen,hcell⟩:=World.cells?_some hcs;match cs',hlen with
    |[c0,c1],_=>obtain⟨f,t,rfl,rfl⟩:=w140 ht;have h0:=hcell 0 (by omega);have h1:=hcell 1 (by omega);rw[Go.Deep.add_add]at h0 h1;exact⟨(f,t),by simpa using h0,by simpa using h1⟩
  obtain⟨f,hf⟩:∃f:Nat→Int×Int,∀i,i<len→w.cell? (a.add (i*2))=some (.int .i64 (f i).1)∧w.cell? (a.add (i*2+1))=some (.int .i64 (f i).2):=⟨fun i=>if h:i<len then Classical.choose (each i h)else(0,0),fun i h=>by simp only[dif_pos h];exact Classical.choose_spec (each i h)⟩;refine⟨(List.range len).map f,by simp,⟨by simpa using hl,(fun e=>by cases e),fun hn=>?_⟩,by simp only[maxLen]at hm;simp;omega⟩;have hn':0<len:=by simpa using hn
  have h0:=(hf 0 hn').1;have hs:=x59 (show w.cell? a=_ from h0);obtain⟨b,off,sp⟩:=a;simp only at hs;subst hs;have hadd:∀j,(⟨b,off,none⟩:Addr).add j=⟨b,off+j,none⟩:=fun j=>by unfold Addr.add;split<;>simp_all
  refine⟨b,off,rfl,aI_ w ⟨b,off,none⟩ h0,fun i x hx=>?_⟩;simp only[bo_,aO_]at hx;obtain⟨j,hj,rfl⟩:=hx;have hjl:j<len∧j=i:=by obtain⟨h1,h2⟩:=O_.1 hj;simp at h1 h2;omega
  obtain⟨hjl,rfl⟩:=hjl;have:=hf j hjl;rw[hadd,hadd,←Nat.add_assoc]at this;exact this
end
