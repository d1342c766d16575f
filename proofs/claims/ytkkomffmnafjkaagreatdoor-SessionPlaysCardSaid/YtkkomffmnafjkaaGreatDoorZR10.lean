/- From a row's reading to what the walks of the Session laws ask: a case, a .. -/
import Derived.Test.YtkkomffmnafjkaaGreatDoorZR3
import Derived.Test.YtkkomffmnafjkaaGreatDoorZO30
import Derived.LaidSub
import Derived.LaidMore
import Derived.Lay
set_option maxHeartbeats 16000000
set_option maxRecDepth 100000
set_option linter.all false
namespace Go.Proofs.YtkkomffmnafjkaaGreatDoor
open Go.ChangeShapes Go.WideShapes Go.ChangeAt Go.RowKit
def tzTab:List Int:=[0,1,56,2,57,49,28,3,61,58,42,50,38,29,17,4,62,47,59,36,45,43,51,22,53,39,33,30,24,18,12,5,63,55,48,27,60,41,37,16,46,35,44,21,52,32,23,11,54,26,40,15,34,20,31,10,25,14,19,9,13,8,7,6]
theorem gTZ:Tryz.prog.globalNamed "math/bits.deBruijn64tab" =some 7:=by kernel_rfl
theorem k59{W:World}(h1:laidMet Tryz.prog [("internal/strconv.uint64pow10",Lib.tabData .u64 Lib.pow10Tab)] W)(h2:laidMet Tryz.prog [("math/bits.deBruijn64tab",Lib.tabData .u8 tzTab)] W):Env W:=by have t1:=Lib.tabIs_of_head (g:=3) (t:=336) (e:=261) (n:=20) (by kernel_rfl) (by kernel_rfl) Tryz.underlying336 Tryz.underlying261 (by kernel_rfl) (by kernel_rfl) h1;have t2:Lib.TabIs Tryz.prog W "math/bits.deBruijn64tab" .u8 tzTab:=Lib.tabIs_of_head (g:=7) (t:=365) (e:=5) (n:=64) (by kernel_rfl) (by kernel_rfl) Tryz.underlying365 be_ (by kernel_rfl) (by kernel_rfl) h2;refine⟨t1,?_⟩;have h0:=World.var?_cell gTZ t2 15;simpa[tzTab]using h0
theorem v170{W:World}(h:laidMetH Tryz.prog Rows.sessionPlaysRow.laid W):Env W:=by rw[MakeChecks.laidMetH_plain _ _ _ (by kernel_rfl)]at h;have h1:laidMet Tryz.prog [("internal/strconv.uint64pow10",Rows.laid_internal_strconv_uint64pow10)] W:=laidMet.filter (fun x=>x.1== "internal/strconv.uint64pow10") h;have h2:laidMet Tryz.prog [("math/bits.deBruijn64tab",Rows.laid_math_bits_deBruijn64tab)] W:=laidMet.filter (fun x=>x.1== "math/bits.deBruijn64tab") h;exact k59 h1 h2
section
variable{H:Type}{enc:TypeId×Value→H}{w:World}{base:Nat}{spare:Nat→Bool}{held:Bool}{n:Nat}
theorem i64_wf'{q:Int}(h:(Lit.int .i64 q).wf=true):-9223372036854775808≤q∧q≤9223372036854775807:=by
 have h1:IntKind.i64.min≤q∧q≤IntKind.i64.max:=by simpa[Lit.wf]using h
 exact⟨h1.1,h1.2⟩
theorem u8_wf'{q:Int}(h:(Lit.int .u8 q).wf=true):0≤q∧q≤255:=by
 have h1:IntKind.u8.min≤q∧q≤IntKind.u8.max:=by simpa[Lit.wf]using h
 exact⟨h1.1,h1.2⟩
theorem x17{α:Type}{l:List α}{n:Nat}(h:l.length=n+1):∃a r,l=a::r∧r.length=n:=by cases l with|nil=>cases h|cons a r=>exact⟨a,r,rfl,Nat.succ.inj h⟩
def Held(P:Program)(t:TypeId)(d:DataW H):Prop:=(d.weights P t).all (·≤reachBytes)=true
theorem k61{P:Program}:∀{ts:List TypeId}{ds:List (DataW H)}{j:Nat}{t:TypeId}{d:DataW H},(DataW.weightsEach P ts ds).all (·≤reachBytes)=true→ts[j]?=some t→ds[j]?=some d→Held P t d
 |t::ts,d::ds,0,_,_,h,h1,h2=>by rw[DataW.weightsEach,bx_,r_]at h;injection h1 with h1;injection h2 with h2;subst h1 h2;exact h.1
 |t::ts,d::ds,j+1,_,_,h,h1,h2=>by rw[DataW.weightsEach,bx_,r_]at h;exact k61 h.2 (by simpa using h1) (by simpa using h2)
theorem q54{P:Program}{ST:TypeId}{fs:Array Field}(hu:P.underlying ST=some (.struct fs)){ps:List (DataW H)}(h:Held P ST (.agg ps)){j:Nat}{t:TypeId}{d:DataW H}(h1:(fs.toList.map (·.type))[j]?=some t)(h2:ps[j]?=some d):Held P t d:=by unfold Held at h;rw[DataW.weights,hu]at h;exact k61 h h1 h2
theorem z151{P:Program}{t:TypeId}{l:List UInt8}(h:Held P t (DataW.lit (H:=H) (.string l))):l.length≤1000000000000000:=by
 unfold Held at h;rw[DataW.weights]at h;simp only[List.all_cons,List.all_nil,Bool.and_true,p_]at h;have:reachBytes≤1000000000000000:=by decide
 omega
theorem y67{α:Type} [Inhabited α]{P:Program}{en:α→List Value}{k:Nat}{T ST:TypeId}{Pw:α→Prop}(hk:0<k)(hlen:∀x,(en x).length=k)(hu:P.underlying ST=some (.slice T))(hc:P.cellsOf T=k)(hcells:∀(n:Nat)(cs:List Value)(y:DataW H×List MemPlace),cs.length=k→DataW.trod enc P w base spare held n T cs=some y→∃x,cs=en x∧Pw x){fuel:Nat}{A:Option Addr}{len c:Nat}{x:DataW H×List MemPlace}(h:DataW.trod enc P w base spare held fuel ST [.slice A len c]=some x):∃L:List α,len=L.length∧SpG en k w A c L∧(∀x∈L,Pw x)∧L.length≤9223372036854775807:=by
 rcases Deep.open_slice hu h with⟨h0,_⟩|⟨a,len',cap,m,n',D,Pl,hcs,hb,hl,hm,hmm,hx,hi⟩;·simp only[bm_,bI_,and_true]at h0;obtain⟨rfl,rfl,rfl⟩:=h0;exact⟨[],rfl,SpG.nil w,fun x hx=>by simp at hx,by simp⟩
 ·simp only[bm_,bI_,and_true]at hcs;obtain⟨rfl,rfl,rfl⟩:=hcs;have each:∀i,i<len→∃x:α,(∀j v,(en x)[j]?=some v→w.cell? (a.add (i*k+j))=some v)∧Pw x:=by
   intro i hi';obtain⟨cs',hcs,ht⟩:=hi i (by rw[hmm];split<;>omega);rw[hc]at hcs;obtain⟨_,hlen',hcell⟩:=World.cells?_some hcs;obtain⟨x,rfl,hp⟩:=hcells _ _ _ hlen' ht;refine⟨x,fun j v hj=>?_,hp⟩;have hjk:j<k:=by have:=(O_.1 hj).1;rw[hlen]at this;exact this
   have h1:=hcell j hjk;rw[Go.Deep.add_add]at h1;rw[h1];exact hj
  obtain⟨f,hf⟩:∃f:Nat→α,∀i,i<len→(∀j v,(en (f i))[j]?=some v→w.cell? (a.add (i*k+j))=some v)∧Pw (f i):=⟨fun i=>if h:i<len then Classical.choose (each i h)else default,fun i h=>by simp only[dif_pos h];exact Classical.choose_spec (each i h)⟩;refine⟨(List.range len).map f,by simp,⟨by simpa using hl,(fun e=>by cases e),fun i hi'=>?_⟩,fun x hx=>?_,by simp only[maxLen]at hm;simp;omega⟩;·
   have hi2:i<len:=by simpa using hi'
   obtain⟨v0,hv0⟩:∃v,(en (f 0))[0]?=some v:=⟨_,o_ (by rw[hlen];exact hk)⟩;have h0:=(hf 0 (by omega)).1 0 v0 hv0;have ha0:a.add (0*k+0)=a:=by simp[Addr.add]
   rw[ha0]at h0;have hs:=x59 h0;obtain⟨b,off,sp⟩:=a;simp only at hs;subst hs;have hadd:∀j,(⟨b,off,none⟩:Addr).add j=⟨b,off+j,none⟩:=fun j=>by unfold Addr.add;split<;>simp_all
   refine⟨b,off,rfl,aI_ w ⟨b,off,none⟩ h0,fun j v hj=>?_⟩;have h3:=(hf i hi2).1 j v (by simpa using hj);rw[hadd,←Nat.add_assoc]at h3;exact h3
  ·obtain⟨i,hi2,rfl⟩:=List.mem_map.1 hx;exact(hf i (by simpa using hi2)).2
theorem open_slice1{P:Program}{ST T:TypeId}(hu:P.underlying ST=some (.slice T)){v:Value}{x:DataW H×List MemPlace}(h:DataW.trod enc P w base spare held n ST [v]=some x):∃A len c,v=.slice A len c:=by
 rcases Deep.open_slice hu h with⟨h0,_⟩|⟨a,len',cap,m,n',D,Pl,hcs,_⟩;·simp only[bm_,and_true]at h0;exact⟨_,_,_,h0⟩
 ·simp only[bm_,and_true]at hcs;exact⟨_,_,_,hcs⟩
theorem j140(n:Nat)(cs:List Value)(y:DataW H×List MemPlace)(_hl:cs.length=1)(h:DataW.trod enc Tryz.prog w base spare held n 9 cs=some y):∃x:List UInt8,cs=encT x∧True:=by obtain⟨s,e,_⟩:=bJ_ ay_ h;exact⟨s.data.toList,by rw[e];simp[encT],trivial⟩
theorem k123{v:Value}{x:DataW H×List MemPlace}(h:DataW.trod enc Tryz.prog w base spare held n 43 [v]=some x):∃A c L,v=.slice A (List.length L) c∧SpG encT 1 w A c L∧L.length≤9223372036854775807:=by obtain⟨A,len,c,rfl⟩:=open_slice1 Tryz.underlying43 h;obtain⟨L,rfl,h1,_,h2⟩:=y67 (Pw:=fun _=>True) (k:=1) (by decide) (fun _=>rfl) Tryz.underlying43 (by kernel_rfl) j140 h;exact⟨A,c,L,rfl,h1,h2⟩
theorem x123{v:Value}{x:DataW H×List MemPlace}(h:DataW.trod enc Tryz.prog w base spare held n 22 [v]=some x):∃A c L,v=.slice A (List.length L) c∧Sp w A c L∧L.length≤9223372036854775807:=by obtain⟨A,len,c,rfl⟩:=open_slice1 Tryz.underlying22 h;obtain⟨L,rfl,h1,h2⟩:=j124 h;exact⟨A,c,L,rfl,h1,h2⟩
theorem j85{v:Value}{x:DataW H×List MemPlace}(h:DataW.trod enc Tryz.prog w base spare held n 48 [v]=some x):∃A c L,v=.slice A (List.length L) c∧Sp w A c L∧L.length≤9223372036854775807:=by obtain⟨A,len,c,rfl⟩:=open_slice1 bS_ h;obtain⟨L,rfl,h1,h2⟩:=q124 h;exact⟨A,c,L,rfl,h1,h2⟩
theorem q104{c0 c1:Value}{y:DataW H×List MemPlace}(h:DataW.trod enc Tryz.prog w base spare held n 25 [c0,c1]=some y):∃(qt:ByteArray)(qk:Bool),(c0=.string qt∧c1=.bool qk)∧qt.size≤maxLen:=by
 obtain⟨xs,m,_,hx,_,hlen,hg⟩:=ax_ Tryz.underlying25 h;have k0:Tryz.prog.cellsOf 4=1:=by kernel_rfl
 have k1:Tryz.prog.cellsOf 9=1:=by kernel_rfl
 match xs,hlen with
  |[y0,y1],_=>
   have g0:=hg 0 _ rfl;have g1:=hg 1 _ rfl;simp only[ab_,Z_]at g0 g1;obtain⟨qt,e0,_,z0⟩:=bJ_ ay_ g0;obtain rfl:c0=.string qt:=by simpa[k1]using e0
   obtain⟨qk,e1,_⟩:=aV_ am_ g1;obtain rfl:c1=.bool qk:=by simpa[k0]using e1
   exact⟨qt,qk,⟨rfl,rfl⟩,z0⟩
theorem v140(n:Nat)(cs:List Value)(y:DataW H×List MemPlace)(hl:cs.length=2)(h:DataW.trod enc Tryz.prog w base spare held n 25 cs=some y):∃x:TagL,cs=q27 x∧True:=by obtain⟨c0,l0,rfl,hl0⟩:=x17 hl;obtain⟨c1,l1,rfl,hl1⟩:=x17 hl0;obtain rfl:l1=[]:=l_ hl1;obtain⟨t,k,⟨rfl,rfl⟩,_⟩:=q104 h;exact⟨(t.data.toList,k),rfl,trivial⟩
theorem k95{v:Value}{x:DataW H×List MemPlace}(h:DataW.trod enc Tryz.prog w base spare held n 23 [v]=some x):∃A c L,v=.slice A (List.length L) c∧SpG q27 2 w A c L∧L.length≤9223372036854775807:=by obtain⟨A,len,c,rfl⟩:=open_slice1 Tryz.underlying23 h;obtain⟨L,rfl,h1,_,h2⟩:=y67 (Pw:=fun _=>True) (k:=2) (by decide) (fun _=>rfl) Tryz.underlying23 (by kernel_rfl) v140 h;exact⟨A,c,L,rfl,h1,h2⟩
theorem k140{c0 c1:Value}{y:DataW H×List MemPlace}(h:DataW.trod enc Tryz.prog w base spare held n 25 [c0,c1]=some y)(hw:Held Tryz.prog 25 y.1):∃(qt:ByteArray)(qk:Bool),(c0=.string qt∧c1=.bool qk)∧qt.data.toList.length≤1000000000000000∧qt.size≤maxLen:=by
 obtain⟨xs,m,_,hx,_,hlen,hg⟩:=ax_ Tryz.underlying25 h;rw[hx]at hw;have k0:Tryz.prog.cellsOf 4=1:=by kernel_rfl
 have k1:Tryz.prog.cellsOf 9=1:=by kernel_rfl
 match xs,hlen with
  |[y0,y1],_=>
   have g0:=hg 0 _ rfl;have g1:=hg 1 _ rfl;simp only[ab_,Z_]at g0 g1;have hw2:=q54 Tryz.underlying25 hw (j:=0) rfl rfl;obtain⟨qt,e0,x0,z0⟩:=bJ_ ay_ g0;subst x0;obtain rfl:c0=.string qt:=by simpa[k1]using e0
   obtain⟨qk,e1,_⟩:=aV_ am_ g1;obtain rfl:c1=.bool qk:=by simpa[k0]using e1
   exact⟨qt,qk,⟨rfl,rfl⟩,z151 hw2,z0⟩
theorem y123{c0 c1 c2 c3 c4 c5 c6 c7:Value}{y:DataW H×List MemPlace}(h:DataW.trod enc Tryz.prog w base spare held n 27 [c0,c1,c2,c3,c4,c5,c6,c7]=some y)(hw:Held Tryz.prog 27 y.1):∃(qaA:Option Addr)(qac:Nat)(qaL:List TagL)(qbA:Option Addr)(qbc:Nat)(qbL:List TagL)(qc:Bool)(qd:Bool)(qe:Int)(qf:Int)(qgt:ByteArray)(qgk:Bool),(c0=.slice qaA qaL.length qac∧c1=.slice qbA qbL.length qbc∧c2=.bool qc∧c3=.bool qd∧c4=.int .i64 qe∧c5=.int .i64 qf∧c6=.string qgt∧c7=.bool qgk)∧qgt.data.toList.length≤1000000000000000∧SpG q27 2 w qaA qac qaL∧qaL.length≤9223372036854775807∧SpG q27 2 w qbA qbc qbL∧qbL.length≤9223372036854775807∧(Lit.int .i64 qe).wf=true∧(Lit.int .i64 qf).wf=true∧qgt.size≤maxLen:=by
 obtain⟨xs,m,_,hx,_,hlen,hg⟩:=ax_ Tryz.underlying27 h;rw[hx]at hw;have k0:Tryz.prog.cellsOf 23=1:=by kernel_rfl
 have k1:Tryz.prog.cellsOf 25=2:=by kernel_rfl
 have k2:Tryz.prog.cellsOf 4=1:=by kernel_rfl
 have k3:Tryz.prog.cellsOf 2=1:=by kernel_rfl
 match xs,hlen with
  |[y0,y1,y2,y3,y4,y5,y6],_=>
   have g0:=hg 0 _ rfl;have g1:=hg 1 _ rfl;have g2:=hg 2 _ rfl;have g3:=hg 3 _ rfl;have g4:=hg 4 _ rfl;have g5:=hg 5 _ rfl;have g6:=hg 6 _ rfl;simp only[ab_,Z_]at g0 g1 g2 g3 g4 g5 g6;obtain⟨qaA,qac,qaL,rfl,z0,y0⟩:=k95 g0;obtain⟨qbA,qbc,qbL,rfl,z1,y1⟩:=k95 g1;obtain⟨qc,e2,_⟩:=aV_ am_ g2;obtain rfl:c2=.bool qc:=by simpa[k2]using e2
   obtain⟨qd,e3,_⟩:=aV_ am_ g3;obtain rfl:c3=.bool qd:=by simpa[k2]using e3
   obtain⟨qe,e4,_,z4⟩:=K_ L_ g4;obtain rfl:c4=.int .i64 qe:=by simpa[k3]using e4
   obtain⟨qf,e5,_,z5⟩:=K_ L_ g5;obtain rfl:c5=.int .i64 qf:=by simpa[k3]using e5
   have hw2:=q54 Tryz.underlying27 hw (j:=6) rfl rfl;obtain⟨qgt,qgk,⟨rfl,rfl⟩,hf,z6_0⟩:=k140 g6 hw2;exact⟨qaA,qac,qaL,qbA,qbc,qbL,qc,qd,qe,qf,qgt,qgk,⟨rfl,rfl,rfl,rfl,rfl,rfl,rfl,rfl⟩,hf,z0,y0,z1,y1,z4,z5,z6_0⟩
theorem j99{c0 c1 c2 c3 c4 c5 c6 c7 c8 c9 c10:Value}{y:DataW H×List MemPlace}(h:DataW.trod enc Tryz.prog w base spare held n 29 [c0,c1,c2,c3,c4,c5,c6,c7,c8,c9,c10]=some y)(hw:Held Tryz.prog 29 y.1):∃(qh:Bool)(qo:ByteArray)(qsA:Option Addr)(qsc:Nat)(qsL:List (Int×Int))(qcaA:Option Addr)(qcac:Nat)(qcaL:List TagL)(qcbA:Option Addr)(qcbc:Nat)(qcbL:List TagL)(qcc:Bool)(qcd:Bool)(qce:Int)(qcf:Int)(qcgt:ByteArray)(qcgk:Bool),(c0=.bool qh∧c1=.string qo∧c2=.slice qsA qsL.length qsc∧c3=.slice qcaA qcaL.length qcac∧c4=.slice qcbA qcbL.length qcbc∧c5=.bool qcc∧c6=.bool qcd∧c7=.int .i64 qce∧c8=.int .i64 qcf∧c9=.string qcgt∧c10=.bool qcgk)∧qcgt.data.toList.length≤1000000000000000∧qo.size≤maxLen∧Sp w qsA qsc qsL∧qsL.length≤9223372036854775807∧SpG q27 2 w qcaA qcac qcaL∧qcaL.length≤9223372036854775807∧SpG q27 2 w qcbA qcbc qcbL∧qcbL.length≤9223372036854775807∧(Lit.int .i64 qce).wf=true∧(Lit.int .i64 qcf).wf=true∧qcgt.size≤maxLen:=by
 obtain⟨xs,m,_,hx,_,hlen,hg⟩:=ax_ bk_ h;rw[hx]at hw;have k0:Tryz.prog.cellsOf 22=1:=by kernel_rfl
 have k1:Tryz.prog.cellsOf 27=8:=by kernel_rfl
 have k2:Tryz.prog.cellsOf 4=1:=by kernel_rfl
 have k3:Tryz.prog.cellsOf 9=1:=by kernel_rfl
 match xs,hlen with
  |[y0,y1,y2,y3],_=>
   have g0:=hg 0 _ rfl;have g1:=hg 1 _ rfl;have g2:=hg 2 _ rfl;have g3:=hg 3 _ rfl;simp only[ab_,Z_]at g0 g1 g2 g3;obtain⟨qh,e0,_⟩:=aV_ am_ g0;obtain rfl:c0=.bool qh:=by simpa[k2]using e0
   obtain⟨qo,e1,_,z1⟩:=bJ_ ay_ g1;obtain rfl:c1=.string qo:=by simpa[k3]using e1
   obtain⟨qsA,qsc,qsL,rfl,z2,y2⟩:=x123 g2;have hw2:=q54 bk_ hw (j:=3) rfl rfl;obtain⟨qcaA,qcac,qcaL,qcbA,qcbc,qcbL,qcc,qcd,qce,qcf,qcgt,qcgk,⟨rfl,rfl,rfl,rfl,rfl,rfl,rfl,rfl⟩,hf,z3_0,z3_1,z3_2,z3_3,z3_4,z3_5,z3_6⟩:=y123 g3 hw2;exact⟨qh,qo,qsA,qsc,qsL,qcaA,qcac,qcaL,qcbA,qcbc,qcbL,qcc,qcd,qce,qcf,qcgt,qcgk,⟨rfl,rfl,rfl,rfl,rfl,rfl,rfl,rfl,rfl,rfl,rfl⟩,hf,z1,z2,y2,z3_0,z3_1,z3_2,z3_3,z3_4,z3_5,z3_6⟩
theorem x140{c0 c1 c2 c3 c4 c5 c6 c7 c8 c9 c10:Value}{y:DataW H×List MemPlace}(h:DataW.trod enc Tryz.prog w base spare held n 45 [c0,c1,c2,c3,c4,c5,c6,c7,c8,c9,c10]=some y):∃(qtt:ByteArray)(qtk:Bool)(qn0:Int)(qn1:Int)(qn2:Int)(qn3:Int)(qn4:Int)(qn5:Int)(qkA:Option Addr)(qkc:Nat)(qkL:List (List UInt8))(qe:ByteArray)(qp:Bool),(c0=.string qtt∧c1=.bool qtk∧c2=.int .i64 qn0∧c3=.int .i64 qn1∧c4=.int .i64 qn2∧c5=.int .i64 qn3∧c6=.int .i64 qn4∧c7=.int .i64 qn5∧c8=.slice qkA qkL.length qkc∧c9=.string qe∧c10=.bool qp)∧qtt.size≤maxLen∧(Lit.int .i64 qn0).wf=true∧(Lit.int .i64 qn1).wf=true∧(Lit.int .i64 qn2).wf=true∧(Lit.int .i64 qn3).wf=true∧(Lit.int .i64 qn4).wf=true∧(Lit.int .i64 qn5).wf=true∧SpG encT 1 w qkA qkc qkL∧qkL.length≤9223372036854775807∧qe.size≤maxLen:=by
 obtain⟨xs,m,_,hx,_,hlen,hg⟩:=ax_ Tryz.underlying45 h;have k0:Tryz.prog.cellsOf 43=1:=by kernel_rfl
 have k1:Tryz.prog.cellsOf 25=2:=by kernel_rfl
 have k2:Tryz.prog.cellsOf 4=1:=by kernel_rfl
 have k3:Tryz.prog.cellsOf 2=1:=by kernel_rfl
 have k4:Tryz.prog.cellsOf 9=1:=by kernel_rfl
 match xs,hlen with
  |[y0,y1,y2,y3,y4,y5,y6,y7,y8,y9],_=>
   have g0:=hg 0 _ rfl;have g1:=hg 1 _ rfl;have g2:=hg 2 _ rfl;have g3:=hg 3 _ rfl;have g4:=hg 4 _ rfl;have g5:=hg 5 _ rfl;have g6:=hg 6 _ rfl;have g7:=hg 7 _ rfl;have g8:=hg 8 _ rfl;have g9:=hg 9 _ rfl;simp only[ab_,Z_]at g0 g1 g2 g3 g4 g5 g6 g7 g8 g9;obtain⟨qtt,qtk,⟨rfl,rfl⟩,z0_0⟩:=q104 g0;obtain⟨qn0,e1,_,z1⟩:=K_ L_ g1;obtain rfl:c2=.int .i64 qn0:=by simpa[k3]using e1
   obtain⟨qn1,e2,_,z2⟩:=K_ L_ g2;obtain rfl:c3=.int .i64 qn1:=by simpa[k3]using e2
   obtain⟨qn2,e3,_,z3⟩:=K_ L_ g3;obtain rfl:c4=.int .i64 qn2:=by simpa[k3]using e3
   obtain⟨qn3,e4,_,z4⟩:=K_ L_ g4;obtain rfl:c5=.int .i64 qn3:=by simpa[k3]using e4
   obtain⟨qn4,e5,_,z5⟩:=K_ L_ g5;obtain rfl:c6=.int .i64 qn4:=by simpa[k3]using e5
   obtain⟨qn5,e6,_,z6⟩:=K_ L_ g6;obtain rfl:c7=.int .i64 qn5:=by simpa[k3]using e6
   obtain⟨qkA,qkc,qkL,rfl,z7,y7⟩:=k123 g7;obtain⟨qe,e8,_,z8⟩:=bJ_ ay_ g8;obtain rfl:c9=.string qe:=by simpa[k4]using e8
   obtain⟨qp,e9,_⟩:=aV_ am_ g9;obtain rfl:c10=.bool qp:=by simpa[k2]using e9
   exact⟨qtt,qtk,qn0,qn1,qn2,qn3,qn4,qn5,qkA,qkc,qkL,qe,qp,⟨rfl,rfl,rfl,rfl,rfl,rfl,rfl,rfl,rfl,rfl,rfl⟩,z0_0,z1,z2,z3,z4,z5,z6,z7,y7,z8⟩
theorem k117{c0 c1 c2 c3 c4 c5 c6 c7 c8 c9:Value}{y:DataW H×List MemPlace}(h:DataW.trod enc Tryz.prog w base spare held n 33 [c0,c1,c2,c3,c4,c5,c6,c7,c8,c9]=some y):∃(qn0:Int)(qn1:Int)(qn2:Int)(qn3:Int)(qn4:Int)(qn5:Int)(qn6:Int)(qn7:Int)(qn8:Int)(qn9:Int),(c0=.int .i64 qn0∧c1=.int .i64 qn1∧c2=.int .i64 qn2∧c3=.int .i64 qn3∧c4=.int .i64 qn4∧c5=.int .i64 qn5∧c6=.int .i64 qn6∧c7=.int .i64 qn7∧c8=.int .i64 qn8∧c9=.int .i64 qn9)∧(Lit.int .i64 qn0).wf=true∧(Lit.int .i64 qn1).wf=true∧(Lit.int .i64 qn2).wf=true∧(Lit.int .i64 qn3).wf=true∧(Lit.int .i64 qn4).wf=true∧(Lit.int .i64 qn5).wf=true∧(Lit.int .i64 qn6).wf=true∧(Lit.int .i64 qn7).wf=true∧(Lit.int .i64 qn8).wf=true∧(Lit.int .i64 qn9).wf=true:=by
 obtain⟨xs,m,_,hx,_,hlen,hg⟩:=ax_ Tryz.underlying33 h;have k0:Tryz.prog.cellsOf 3=1:=by kernel_rfl
 have k1:Tryz.prog.cellsOf 2=1:=by kernel_rfl
 match xs,hlen with
  |[y0,y1,y2,y3,y4,y5,y6,y7,y8,y9],_=>
   have g0:=hg 0 _ rfl;have g1:=hg 1 _ rfl;have g2:=hg 2 _ rfl;have g3:=hg 3 _ rfl;have g4:=hg 4 _ rfl;have g5:=hg 5 _ rfl;have g6:=hg 6 _ rfl;have g7:=hg 7 _ rfl;have g8:=hg 8 _ rfl;have g9:=hg 9 _ rfl;simp only[ab_,Z_]at g0 g1 g2 g3 g4 g5 g6 g7 g8 g9;obtain⟨qn0,e0,_,z0⟩:=K_ L_ g0;obtain rfl:c0=.int .i64 qn0:=by simpa[k1]using e0
   obtain⟨qn1,e1,_,z1⟩:=K_ L_ g1;obtain rfl:c1=.int .i64 qn1:=by simpa[k1]using e1
   obtain⟨qn2,e2,_,z2⟩:=K_ L_ g2;obtain rfl:c2=.int .i64 qn2:=by simpa[k1]using e2
   obtain⟨qn3,e3,_,z3⟩:=K_ cc_ g3;obtain rfl:c3=.int .i64 qn3:=by simpa[k0]using e3
   obtain⟨qn4,e4,_,z4⟩:=K_ cc_ g4;obtain rfl:c4=.int .i64 qn4:=by simpa[k0]using e4
   obtain⟨qn5,e5,_,z5⟩:=K_ cc_ g5;obtain rfl:c5=.int .i64 qn5:=by simpa[k0]using e5
   obtain⟨qn6,e6,_,z6⟩:=K_ L_ g6;obtain rfl:c6=.int .i64 qn6:=by simpa[k1]using e6
   obtain⟨qn7,e7,_,z7⟩:=K_ L_ g7;obtain rfl:c7=.int .i64 qn7:=by simpa[k1]using e7
   obtain⟨qn8,e8,_,z8⟩:=K_ L_ g8;obtain rfl:c8=.int .i64 qn8:=by simpa[k1]using e8
   obtain⟨qn9,e9,_,z9⟩:=K_ L_ g9;obtain rfl:c9=.int .i64 qn9:=by simpa[k1]using e9
   exact⟨qn0,qn1,qn2,qn3,qn4,qn5,qn6,qn7,qn8,qn9,⟨rfl,rfl,rfl,rfl,rfl,rfl,rfl,rfl,rfl,rfl⟩,z0,z1,z2,z3,z4,z5,z6,z7,z8,z9⟩
theorem k85{c0 c1 c2:Value}{y:DataW H×List MemPlace}(h:DataW.trod enc Tryz.prog w base spare held n 31 [c0,c1,c2]=some y):∃(qn0:Int)(qn1:Int)(qn2:Int),(c0=.int .i64 qn0∧c1=.int .i64 qn1∧c2=.int .i64 qn2)∧(Lit.int .i64 qn0).wf=true∧(Lit.int .i64 qn1).wf=true∧(Lit.int .i64 qn2).wf=true:=by
 obtain⟨xs,m,_,hx,_,hlen,hg⟩:=ax_ Tryz.underlying31 h;have k0:Tryz.prog.cellsOf 2=1:=by kernel_rfl
 match xs,hlen with
  |[y0,y1,y2],_=>
   have g0:=hg 0 _ rfl;have g1:=hg 1 _ rfl;have g2:=hg 2 _ rfl;simp only[ab_,Z_]at g0 g1 g2;obtain⟨qn0,e0,_,z0⟩:=K_ L_ g0;obtain rfl:c0=.int .i64 qn0:=by simpa[k0]using e0
   obtain⟨qn1,e1,_,z1⟩:=K_ L_ g1;obtain rfl:c1=.int .i64 qn1:=by simpa[k0]using e1
   obtain⟨qn2,e2,_,z2⟩:=K_ L_ g2;obtain rfl:c2=.int .i64 qn2:=by simpa[k0]using e2
   exact⟨qn0,qn1,qn2,⟨rfl,rfl,rfl⟩,z0,z1,z2⟩
theorem y85{c0 c1 c2 c3 c4 c5 c6 c7 c8 c9 c10 c11 c12 c13 c14 c15 c16:Value}{y:DataW H×List MemPlace}(h:DataW.trod enc Tryz.prog w base spare held n 47 [c0,c1,c2,c3,c4,c5,c6,c7,c8,c9,c10,c11,c12,c13,c14,c15,c16]=some y):∃(qi:Int)(qo:ByteArray)(qmtt:ByteArray)(qmtk:Bool)(qmn0:Int)(qmn1:Int)(qmn2:Int)(qmn3:Int)(qmn4:Int)(qmn5:Int)(qmkA:Option Addr)(qmkc:Nat)(qmkL:List (List UInt8))(qme:ByteArray)(qmp:Bool)(qn0:Int)(qn1:Int)(qn2:Int)(qt:Bool),(c0=.int .i64 qi∧c1=.string qo∧c2=.string qmtt∧c3=.bool qmtk∧c4=.int .i64 qmn0∧c5=.int .i64 qmn1∧c6=.int .i64 qmn2∧c7=.int .i64 qmn3∧c8=.int .i64 qmn4∧c9=.int .i64 qmn5∧c10=.slice qmkA qmkL.length qmkc∧c11=.string qme∧c12=.bool qmp∧c13=.int .i64 qn0∧c14=.int .i64 qn1∧c15=.int .i64 qn2∧c16=.bool qt)∧(Lit.int .i64 qi).wf=true∧qo.size≤maxLen∧qmtt.size≤maxLen∧(Lit.int .i64 qmn0).wf=true∧(Lit.int .i64 qmn1).wf=true∧(Lit.int .i64 qmn2).wf=true∧(Lit.int .i64 qmn3).wf=true∧(Lit.int .i64 qmn4).wf=true∧(Lit.int .i64 qmn5).wf=true∧SpG encT 1 w qmkA qmkc qmkL∧qmkL.length≤9223372036854775807∧qme.size≤maxLen∧(Lit.int .i64 qn0).wf=true∧(Lit.int .i64 qn1).wf=true∧(Lit.int .i64 qn2).wf=true:=by
 obtain⟨xs,m,_,hx,_,hlen,hg⟩:=ax_ Tryz.underlying47 h;have k0:Tryz.prog.cellsOf 45=11:=by kernel_rfl
 have k1:Tryz.prog.cellsOf 4=1:=by kernel_rfl
 have k2:Tryz.prog.cellsOf 2=1:=by kernel_rfl
 have k3:Tryz.prog.cellsOf 9=1:=by kernel_rfl
 match xs,hlen with
  |[y0,y1,y2,y3,y4,y5,y6],_=>
   have g0:=hg 0 _ rfl;have g1:=hg 1 _ rfl;have g2:=hg 2 _ rfl;have g3:=hg 3 _ rfl;have g4:=hg 4 _ rfl;have g5:=hg 5 _ rfl;have g6:=hg 6 _ rfl;simp only[ab_,Z_]at g0 g1 g2 g3 g4 g5 g6;obtain⟨qi,e0,_,z0⟩:=K_ L_ g0;obtain rfl:c0=.int .i64 qi:=by simpa[k2]using e0
   obtain⟨qo,e1,_,z1⟩:=bJ_ ay_ g1;obtain rfl:c1=.string qo:=by simpa[k3]using e1
   obtain⟨qmtt,qmtk,qmn0,qmn1,qmn2,qmn3,qmn4,qmn5,qmkA,qmkc,qmkL,qme,qmp,⟨rfl,rfl,rfl,rfl,rfl,rfl,rfl,rfl,rfl,rfl,rfl⟩,z2_0,z2_1,z2_2,z2_3,z2_4,z2_5,z2_6,z2_7,z2_8,z2_9⟩:=x140 g2;obtain⟨qn0,e3,_,z3⟩:=K_ L_ g3;obtain rfl:c13=.int .i64 qn0:=by simpa[k2]using e3
   obtain⟨qn1,e4,_,z4⟩:=K_ L_ g4;obtain rfl:c14=.int .i64 qn1:=by simpa[k2]using e4
   obtain⟨qn2,e5,_,z5⟩:=K_ L_ g5;obtain rfl:c15=.int .i64 qn2:=by simpa[k2]using e5
   obtain⟨qt,e6,_⟩:=aV_ am_ g6;obtain rfl:c16=.bool qt:=by simpa[k1]using e6
   exact⟨qi,qo,qmtt,qmtk,qmn0,qmn1,qmn2,qmn3,qmn4,qmn5,qmkA,qmkc,qmkL,qme,qmp,qn0,qn1,qn2,qt,⟨rfl,rfl,rfl,rfl,rfl,rfl,rfl,rfl,rfl,rfl,rfl,rfl,rfl,rfl,rfl,rfl,rfl⟩,z0,z1,z2_0,z2_1,z2_2,z2_3,z2_4,z2_5,z2_6,z2_7,z2_8,z2_9,z3,z4,z5⟩
theorem y162{c0 c1 c2 c3 c4 c5 c6 c7 c8 c9 c10 c11 c12 c13 c14 c15 c16 c17 c18 c19 c20 c21 c22 c23 c24 c25 c26:Value}{y:DataW H×List MemPlace}(h:DataW.trod enc Tryz.prog w base spare held n 50 [c0,c1,c2,c3,c4,c5,c6,c7,c8,c9,c10,c11,c12,c13,c14,c15,c16,c17,c18,c19,c20,c21,c22,c23,c24,c25,c26]=some y):∃(qk:Int)(qei:Int)(qeo:ByteArray)(qemtt:ByteArray)(qemtk:Bool)(qemn0:Int)(qemn1:Int)(qemn2:Int)(qemn3:Int)(qemn4:Int)(qemn5:Int)(qemkA:Option Addr)(qemkc:Nat)(qemkL:List (List UInt8))(qeme:ByteArray)(qemp:Bool)(qen0:Int)(qen1:Int)(qen2:Int)(qet:Bool)(qan0:Int)(qan1:Int)(qan2:Int)(qn:Int)(qhA:Option Addr)(qhc:Nat)(qhL:List (Int×Int))(qfA:Option Addr)(qfc:Nat)(qfL:List (Int×Int))(qt:Bool)(ql:Bool)(qj:Bool),(c0=.int .u8 qk∧c1=.int .i64 qei∧c2=.string qeo∧c3=.string qemtt∧c4=.bool qemtk∧c5=.int .i64 qemn0∧c6=.int .i64 qemn1∧c7=.int .i64 qemn2∧c8=.int .i64 qemn3∧c9=.int .i64 qemn4∧c10=.int .i64 qemn5∧c11=.slice qemkA qemkL.length qemkc∧c12=.string qeme∧c13=.bool qemp∧c14=.int .i64 qen0∧c15=.int .i64 qen1∧c16=.int .i64 qen2∧c17=.bool qet∧c18=.int .i64 qan0∧c19=.int .i64 qan1∧c20=.int .i64 qan2∧c21=.int .i64 qn∧c22=.slice qhA qhL.length qhc∧c23=.slice qfA qfL.length qfc∧c24=.bool qt∧c25=.bool ql∧c26=.bool qj)∧(Lit.int .u8 qk).wf=true∧(Lit.int .i64 qei).wf=true∧qeo.size≤maxLen∧qemtt.size≤maxLen∧(Lit.int .i64 qemn0).wf=true∧(Lit.int .i64 qemn1).wf=true∧(Lit.int .i64 qemn2).wf=true∧(Lit.int .i64 qemn3).wf=true∧(Lit.int .i64 qemn4).wf=true∧(Lit.int .i64 qemn5).wf=true∧SpG encT 1 w qemkA qemkc qemkL∧qemkL.length≤9223372036854775807∧qeme.size≤maxLen∧(Lit.int .i64 qen0).wf=true∧(Lit.int .i64 qen1).wf=true∧(Lit.int .i64 qen2).wf=true∧(Lit.int .i64 qan0).wf=true∧(Lit.int .i64 qan1).wf=true∧(Lit.int .i64 qan2).wf=true∧(Lit.int .i64 qn).wf=true∧Sp w qhA qhc qhL∧qhL.length≤9223372036854775807∧Sp w qfA qfc qfL∧qfL.length≤9223372036854775807:=by
 obtain⟨xs,m,_,hx,_,hlen,hg⟩:=ax_ bv_ h;have k0:Tryz.prog.cellsOf 48=1:=by kernel_rfl
 have k1:Tryz.prog.cellsOf 4=1:=by kernel_rfl
 have k2:Tryz.prog.cellsOf 31=3:=by kernel_rfl
 have k3:Tryz.prog.cellsOf 47=17:=by kernel_rfl
 have k4:Tryz.prog.cellsOf 2=1:=by kernel_rfl
 have k5:Tryz.prog.cellsOf 5=1:=by kernel_rfl
 match xs,hlen with
  |[y0,y1,y2,y3,y4,y5,y6,y7,y8],_=>
   have g0:=hg 0 _ rfl;have g1:=hg 1 _ rfl;have g2:=hg 2 _ rfl;have g3:=hg 3 _ rfl;have g4:=hg 4 _ rfl;have g5:=hg 5 _ rfl;have g6:=hg 6 _ rfl;have g7:=hg 7 _ rfl;have g8:=hg 8 _ rfl;simp only[ab_,Z_]at g0 g1 g2 g3 g4 g5 g6 g7 g8;obtain⟨qk,e0,_,z0⟩:=K_ be_ g0;obtain rfl:c0=.int .u8 qk:=by simpa[k5]using e0
   obtain⟨qei,qeo,qemtt,qemtk,qemn0,qemn1,qemn2,qemn3,qemn4,qemn5,qemkA,qemkc,qemkL,qeme,qemp,qen0,qen1,qen2,qet,⟨rfl,rfl,rfl,rfl,rfl,rfl,rfl,rfl,rfl,rfl,rfl,rfl,rfl,rfl,rfl,rfl,rfl⟩,z1_0,z1_1,z1_2,z1_3,z1_4,z1_5,z1_6,z1_7,z1_8,z1_9,z1_10,z1_11,z1_12,z1_13,z1_14⟩:=y85 g1;obtain⟨qan0,qan1,qan2,⟨rfl,rfl,rfl⟩,z2_0,z2_1,z2_2⟩:=k85 g2;obtain⟨qn,e3,_,z3⟩:=K_ L_ g3;obtain rfl:c21=.int .i64 qn:=by simpa[k4]using e3
   obtain⟨qhA,qhc,qhL,rfl,z4,y4⟩:=j85 g4;obtain⟨qfA,qfc,qfL,rfl,z5,y5⟩:=j85 g5;obtain⟨qt,e6,_⟩:=aV_ am_ g6;obtain rfl:c24=.bool qt:=by simpa[k1]using e6
   obtain⟨ql,e7,_⟩:=aV_ am_ g7;obtain rfl:c25=.bool ql:=by simpa[k1]using e7
   obtain⟨qj,e8,_⟩:=aV_ am_ g8;obtain rfl:c26=.bool qj:=by simpa[k1]using e8
   exact⟨qk,qei,qeo,qemtt,qemtk,qemn0,qemn1,qemn2,qemn3,qemn4,qemn5,qemkA,qemkc,qemkL,qeme,qemp,qen0,qen1,qen2,qet,qan0,qan1,qan2,qn,qhA,qhc,qhL,qfA,qfc,qfL,qt,ql,qj,⟨rfl,rfl,rfl,rfl,rfl,rfl,rfl,rfl,rfl,rfl,rfl,rfl,rfl,rfl,rfl,rfl,rfl,rfl,rfl,rfl,rfl,rfl,rfl,rfl,rfl,rfl,rfl⟩,z0,z1_0,z1_1,z1_2,z1_3,z1_4,z1_5,z1_6,z1_7,z1_8,z1_9,z1_10,z1_11,z1_12,z1_13,z1_14,z2_0,z2_1,z2_2,z3,z4,y4,z5,y5⟩
theorem q151(n:Nat)(cs:List Value)(y:DataW H×List MemPlace)(hl:cs.length=27)(h:DataW.trod enc Tryz.prog w base spare held n 50 cs=some y):∃x:OpX,cs=w19 x∧OpAt w x:=by obtain⟨c0,l0,rfl,hl0⟩:=x17 hl;obtain⟨c1,l1,rfl,hl1⟩:=x17 hl0;obtain⟨c2,l2,rfl,hl2⟩:=x17 hl1;obtain⟨c3,l3,rfl,hl3⟩:=x17 hl2;obtain⟨c4,l4,rfl,hl4⟩:=x17 hl3;obtain⟨c5,l5,rfl,hl5⟩:=x17 hl4;obtain⟨c6,l6,rfl,hl6⟩:=x17 hl5;obtain⟨c7,l7,rfl,hl7⟩:=x17 hl6;obtain⟨c8,l8,rfl,hl8⟩:=x17 hl7;obtain⟨c9,l9,rfl,hl9⟩:=x17 hl8;obtain⟨c10,l10,rfl,hl10⟩:=x17 hl9;obtain⟨c11,l11,rfl,hl11⟩:=x17 hl10;obtain⟨c12,l12,rfl,hl12⟩:=x17 hl11;obtain⟨c13,l13,rfl,hl13⟩:=x17 hl12;obtain⟨c14,l14,rfl,hl14⟩:=x17 hl13;obtain⟨c15,l15,rfl,hl15⟩:=x17 hl14;obtain⟨c16,l16,rfl,hl16⟩:=x17 hl15;obtain⟨c17,l17,rfl,hl17⟩:=x17 hl16;obtain⟨c18,l18,rfl,hl18⟩:=x17 hl17;obtain⟨c19,l19,rfl,hl19⟩:=x17 hl18;obtain⟨c20,l20,rfl,hl20⟩:=x17 hl19;obtain⟨c21,l21,rfl,hl21⟩:=x17 hl20;obtain⟨c22,l22,rfl,hl22⟩:=x17 hl21;obtain⟨c23,l23,rfl,hl23⟩:=x17 hl22;obtain⟨c24,l24,rfl,hl24⟩:=x17 hl23;obtain⟨c25,l25,rfl,hl25⟩:=x17 hl24;obtain⟨c26,l26,rfl,hl26⟩:=x17 hl25;obtain rfl:l26=[]:=l_ hl26;clear hl0 hl1 hl2 hl3 hl4 hl5 hl6 hl7 hl8 hl9 hl10 hl11 hl12 hl13 hl14 hl15 hl16 hl17 hl18 hl19 hl20 hl21 hl22 hl23 hl24 hl25 hl26 hl;obtain⟨qk,qei,qeo,qemtt,qemtk,qemn0,qemn1,qemn2,qemn3,qemn4,qemn5,qemkA,qemkc,qemkL,qeme,qemp,qen0,qen1,qen2,qet,qan0,qan1,qan2,qn,qhA,qhc,qhL,qfA,qfc,qfL,qt,ql,qj,⟨rfl,rfl,rfl,rfl,rfl,rfl,rfl,rfl,rfl,rfl,rfl,rfl,rfl,rfl,rfl,rfl,rfl,rfl,rfl,rfl,rfl,rfl,rfl,rfl,rfl,rfl,rfl⟩,z0,z1,z2,z3,z4,z5,z6,z7,z8,z9,z10,z11,z12,z13,z14,z15,z16,z17,z18,z19,z20,z21,z22,z23⟩:=y162 h;exact⟨⟨qk,qei,qeo.data.toList,⟨qemtt.data.toList,qemtk,qemn0,qemn1,qemn2,qemn3,qemn4,qemn5,qemkL,qeme.data.toList,qemp⟩,qemkA,qemkc,qen0,qen1,qen2,qet,qan0,qan1,qan2,qn,qhA,qhc,qhL,qfA,qfc,qfL,qt,ql,qj⟩,rfl,⟨z10,z20,z22,u8_wf' z0,i64_wf' z19,z21,z23,z11⟩⟩
theorem j151{v:Value}{x:DataW H×List MemPlace}(h:DataW.trod enc Tryz.prog w base spare held n 34 [v]=some x):∃A c L,v=.slice A (List.length L) c∧SpG w19 27 w A c L∧L.length≤9223372036854775807∧∀o∈L,OpAt w o:=by obtain⟨A,len,c,rfl⟩:=open_slice1 Tryz.underlying34 h;obtain⟨L,rfl,h1,h3,h2⟩:=y67 (Pw:=OpAt w) (k:=27) (by decide) (fun _=>rfl) Tryz.underlying34 (by kernel_rfl) q151 h;exact⟨A,c,L,rfl,h1,h2,h3⟩
theorem w123{c0 c1 c2 c3 c4 c5 c6 c7 c8 c9 c10 c11 c12 c13 c14 c15 c16 c17 c18 c19 c20 c21 c22 c23 c24:Value}{y:DataW H×List MemPlace}(h:DataW.trod enc Tryz.prog w base spare held n 36 [c0,c1,c2,c3,c4,c5,c6,c7,c8,c9,c10,c11,c12,c13,c14,c15,c16,c17,c18,c19,c20,c21,c22,c23,c24]=some y)(hw:Held Tryz.prog 36 y.1):∃(qqh:Bool)(qqo:ByteArray)(qqsA:Option Addr)(qqsc:Nat)(qqsL:List (Int×Int))(qqcaA:Option Addr)(qqcac:Nat)(qqcaL:List TagL)(qqcbA:Option Addr)(qqcbc:Nat)(qqcbL:List TagL)(qqcc:Bool)(qqcd:Bool)(qqce:Int)(qqcf:Int)(qqcgt:ByteArray)(qqcgk:Bool)(qan0:Int)(qan1:Int)(qan2:Int)(qcn0:Int)(qcn1:Int)(qcn2:Int)(qcn3:Int)(qcn4:Int)(qcn5:Int)(qcn6:Int)(qcn7:Int)(qcn8:Int)(qcn9:Int)(qlA:Option Addr)(qlc:Nat)(qlL:List OpX),(c0=.bool qqh∧c1=.string qqo∧c2=.slice qqsA qqsL.length qqsc∧c3=.slice qqcaA qqcaL.length qqcac∧c4=.slice qqcbA qqcbL.length qqcbc∧c5=.bool qqcc∧c6=.bool qqcd∧c7=.int .i64 qqce∧c8=.int .i64 qqcf∧c9=.string qqcgt∧c10=.bool qqcgk∧c11=.int .i64 qan0∧c12=.int .i64 qan1∧c13=.int .i64 qan2∧c14=.int .i64 qcn0∧c15=.int .i64 qcn1∧c16=.int .i64 qcn2∧c17=.int .i64 qcn3∧c18=.int .i64 qcn4∧c19=.int .i64 qcn5∧c20=.int .i64 qcn6∧c21=.int .i64 qcn7∧c22=.int .i64 qcn8∧c23=.int .i64 qcn9∧c24=.slice qlA qlL.length qlc)∧qqcgt.data.toList.length≤1000000000000000∧qqo.size≤maxLen∧Sp w qqsA qqsc qqsL∧qqsL.length≤9223372036854775807∧SpG q27 2 w qqcaA qqcac qqcaL∧qqcaL.length≤9223372036854775807∧SpG q27 2 w qqcbA qqcbc qqcbL∧qqcbL.length≤9223372036854775807∧(Lit.int .i64 qqce).wf=true∧(Lit.int .i64 qqcf).wf=true∧qqcgt.size≤maxLen∧(Lit.int .i64 qan0).wf=true∧(Lit.int .i64 qan1).wf=true∧(Lit.int .i64 qan2).wf=true∧(Lit.int .i64 qcn0).wf=true∧(Lit.int .i64 qcn1).wf=true∧(Lit.int .i64 qcn2).wf=true∧(Lit.int .i64 qcn3).wf=true∧(Lit.int .i64 qcn4).wf=true∧(Lit.int .i64 qcn5).wf=true∧(Lit.int .i64 qcn6).wf=true∧(Lit.int .i64 qcn7).wf=true∧(Lit.int .i64 qcn8).wf=true∧(Lit.int .i64 qcn9).wf=true∧SpG w19 27 w qlA qlc qlL∧qlL.length≤9223372036854775807∧(∀o∈qlL,OpAt w o):=by
 obtain⟨xs,m,_,hx,_,hlen,hg⟩:=ax_ Tryz.underlying36 h;rw[hx]at hw;have k0:Tryz.prog.cellsOf 34=1:=by kernel_rfl
 have k1:Tryz.prog.cellsOf 33=10:=by kernel_rfl
 have k2:Tryz.prog.cellsOf 29=11:=by kernel_rfl
 have k3:Tryz.prog.cellsOf 31=3:=by kernel_rfl
 match xs,hlen with
  |[y0,y1,y2,y3],_=>have g0:=hg 0 _ rfl;have g1:=hg 1 _ rfl;have g2:=hg 2 _ rfl;have g3:=hg 3 _ rfl;simp only[ab_,Z_]at g0 g1 g2 g3;have hw2:=q54 Tryz.underlying36 hw (j:=0) rfl rfl;obtain⟨qqh,qqo,qqsA,qqsc,qqsL,qqcaA,qqcac,qqcaL,qqcbA,qqcbc,qqcbL,qqcc,qqcd,qqce,qqcf,qqcgt,qqcgk,⟨rfl,rfl,rfl,rfl,rfl,rfl,rfl,rfl,rfl,rfl,rfl⟩,hf,z0_0,z0_1,z0_2,z0_3,z0_4,z0_5,z0_6,z0_7,z0_8,z0_9⟩:=j99 g0 hw2;obtain⟨qan0,qan1,qan2,⟨rfl,rfl,rfl⟩,z1_0,z1_1,z1_2⟩:=k85 g1;obtain⟨qcn0,qcn1,qcn2,qcn3,qcn4,qcn5,qcn6,qcn7,qcn8,qcn9,⟨rfl,rfl,rfl,rfl,rfl,rfl,rfl,rfl,rfl,rfl⟩,z2_0,z2_1,z2_2,z2_3,z2_4,z2_5,z2_6,z2_7,z2_8,z2_9⟩:=k117 g2;obtain⟨qlA,qlc,qlL,rfl,z3,y3,x3⟩:=j151 g3;exact⟨qqh,qqo,qqsA,qqsc,qqsL,qqcaA,qqcac,qqcaL,qqcbA,qqcbc,qqcbL,qqcc,qqcd,qqce,qqcf,qqcgt,qqcgk,qan0,qan1,qan2,qcn0,qcn1,qcn2,qcn3,qcn4,qcn5,qcn6,qcn7,qcn8,qcn9,qlA,qlc,qlL,⟨rfl,rfl,rfl,rfl,rfl,rfl,rfl,rfl,rfl,rfl,rfl,rfl,rfl,rfl,rfl,rfl,rfl,rfl,rfl,rfl,rfl,rfl,rfl,rfl,rfl⟩,hf,z0_0,z0_1,z0_2,z0_3,z0_4,z0_5,z0_6,z0_7,z0_8,z0_9,z1_0,z1_1,z1_2,z2_0,z2_1,z2_2,z2_3,z2_4,z2_5,z2_6,z2_7,z2_8,z2_9,z3,y3,x3⟩
theorem j104{r:Reach}{b0:Nat}{v:Value}{d:DataW H}{p:List MemPlace}(hv:Value.okWide Tryz.prog w r b0 36 v)(h:DataW.Trod enc Tryz.prog w base spare held 36 v d p)(hw:Held Tryz.prog 36 d):∃(rq:ReqC)(A:Option Addr)(c:Nat)(A1:Option Addr)(c1:Nat)(A2:Option Addr)(c2:Nat)(a1 a2 a3:Int)(g:CfgL)(LA:Option Addr)(lc:Nat)(L:List OpX),v=.agg (k57 rq A c A1 c1 A2 c2 a1 a2 a3 g LA L.length lc)∧ReqAt rq w A c A1 c1 A2 c2∧rq.L.length≤9223372036854775807∧rq.k.M.length≤9223372036854775807∧rq.k.N.length≤9223372036854775807∧(Lit.int .i64 g.cs).wf=true∧SpG w19 27 w LA lc L∧L.length≤9223372036854775807∧(∀o∈L,OpAt w o)∧rq.k.rt.length≤1000000000000000:=by
 obtain⟨cs,rfl,hsz⟩:=okWide_struct Tryz.underlying36 hv;have k:Tryz.prog.cellsOf 36=25:=by kernel_rfl
 clear hv;obtain⟨l⟩:=cs;have hl0:l.length=25:=hsz.trans k;clear hsz k;obtain⟨c0,l,rfl,hl1⟩:=x17 hl0;obtain⟨c1,l,rfl,hl2⟩:=x17 hl1;obtain⟨c2,l,rfl,hl3⟩:=x17 hl2;obtain⟨c3,l,rfl,hl4⟩:=x17 hl3;obtain⟨c4,l,rfl,hl5⟩:=x17 hl4;obtain⟨c5,l,rfl,hl6⟩:=x17 hl5;obtain⟨c6,l,rfl,hl7⟩:=x17 hl6;obtain⟨c7,l,rfl,hl8⟩:=x17 hl7;obtain⟨c8,l,rfl,hl9⟩:=x17 hl8;obtain⟨c9,l,rfl,hl10⟩:=x17 hl9;obtain⟨c10,l,rfl,hl11⟩:=x17 hl10;obtain⟨c11,l,rfl,hl12⟩:=x17 hl11;obtain⟨c12,l,rfl,hl13⟩:=x17 hl12;obtain⟨c13,l,rfl,hl14⟩:=x17 hl13;obtain⟨c14,l,rfl,hl15⟩:=x17 hl14;obtain⟨c15,l,rfl,hl16⟩:=x17 hl15;obtain⟨c16,l,rfl,hl17⟩:=x17 hl16;obtain⟨c17,l,rfl,hl18⟩:=x17 hl17;obtain⟨c18,l,rfl,hl19⟩:=x17 hl18;obtain⟨c19,l,rfl,hl20⟩:=x17 hl19;obtain⟨c20,l,rfl,hl21⟩:=x17 hl20;obtain⟨c21,l,rfl,hl22⟩:=x17 hl21;obtain⟨c22,l,rfl,hl23⟩:=x17 hl22;obtain⟨c23,l,rfl,hl24⟩:=x17 hl23;obtain⟨c24,l,rfl,hl25⟩:=x17 hl24;obtain rfl:l=[]:=l_ hl25;·obtain⟨fuel,hf0⟩:=h;obtain⟨qqh,qqo,qqsA,qqsc,qqsL,qqcaA,qqcac,qqcaL,qqcbA,qqcbc,qqcbL,qqcc,qqcd,qqce,qqcf,qqcgt,qqcgk,qan0,qan1,qan2,qcn0,qcn1,qcn2,qcn3,qcn4,qcn5,qcn6,qcn7,qcn8,qcn9,qlA,qlc,qlL,⟨e0,e1,e2,e3,e4,e5,e6,e7,e8,e9,e10,e11,e12,e13,e14,e15,e16,e17,e18,e19,e20,e21,e22,e23,e24⟩,hf,z0,z1,z2,z3,z4,z5,z6,z7,z8,z9,z10,z11,z12,z13,z14,z15,z16,z17,z18,z19,z20,z21,z22,z23,z24,z25⟩:=w123 (show DataW.trod enc Tryz.prog w base spare held fuel 36 [c0,c1,c2,c3,c4,c5,c6,c7,c8,c9,c10,c11,c12,c13,c14,c15,c16,c17,c18,c19,c20,c21,c22,c23,c24]=some _ from hf0) hw;exact⟨⟨qqh,qqo.data.toList,qqsL,⟨qqcaL,qqcbL,qqcc,qqcd,qqce,qqcf,qqcgt.data.toList,qqcgk⟩⟩,qqsA,qqsc,qqcaA,qqcac,qqcbA,qqcbc,qan0,qan1,qan2,⟨qcn0,qcn1,qcn2,qcn3,qcn4,qcn5,qcn6,qcn7,qcn8,qcn9⟩,qlA,qlc,qlL,by rw[e0,e1,e2,e3,e4,e5,e6,e7,e8,e9,e10,e11,e12,e13,e14,e15,e16,e17,e18,e19,e20,e21,e22,e23,e24];rfl,⟨z1,z3,z5⟩,z2,z4,z6,z16,z23,z24,z25,hf⟩
end
