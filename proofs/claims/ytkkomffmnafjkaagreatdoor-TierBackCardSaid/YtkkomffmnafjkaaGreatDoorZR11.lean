/- From a row's reading to what the walk of TierBack asks: a fetch, a version, .. -/
import Derived.Test.YtkkomffmnafjkaaGreatDoorZR3
import Derived.Test.YtkkomffmnafjkaaGreatDoorZE3
import Derived.Test.YtkkomffmnafjkaaGreatDoorZI5
import Derived.Lib.LaidTab
import Derived.Shelf.Vars
import Derived.Stop.LaidErr
import Derived.LaidSub
import Derived.LaidMore
import Derived.Lay
import Derived.Deep.Slices
set_option maxHeartbeats 16000000
set_option maxRecDepth 100000
set_option linter.all false
namespace Go.Proofs.YtkkomffmnafjkaaGreatDoor
open Go.ChangeShapes Go.WideShapes Go.ChangeAt Go.RowKit
def tzTab:List Int:=[0,1,56,2,57,49,28,3,61,58,42,50,38,29,17,4,62,47,59,36,45,43,51,22,53,39,33,30,24,18,12,5,63,55,48,27,60,41,37,16,46,35,44,21,52,32,23,11,54,26,40,15,34,20,31,10,25,14,19,9,13,8,7,6]
theorem gTZ:Tryz.prog.globalNamed "math/bits.deBruijn64tab" =some 7:=by kernel_rfl
theorem k59{W:World}(h1:laidMet Tryz.prog [("internal/strconv.uint64pow10",Lib.tabData .u64 Lib.pow10Tab)] W)(h2:laidMet Tryz.prog [("math/bits.deBruijn64tab",Lib.tabData .u8 tzTab)] W):Env W:=by have t1:=Lib.tabIs_of_head (g:=3) (t:=336) (e:=261) (n:=20) (by kernel_rfl) (by kernel_rfl) Tryz.underlying336 Tryz.underlying261 (by kernel_rfl) (by kernel_rfl) h1;have t2:Lib.TabIs Tryz.prog W "math/bits.deBruijn64tab" .u8 tzTab:=Lib.tabIs_of_head (g:=7) (t:=365) (e:=5) (n:=64) (by kernel_rfl) (by kernel_rfl) Tryz.underlying365 Tryz.underlying5 (by kernel_rfl) (by kernel_rfl) h2;refine⟨t1,?_⟩;have h0:=World.var?_cell gTZ t2 15;simpa[tzTab]using h0
theorem k197{W:World}(h:laidMetH Tryz.prog Rows.tierBackRow.laid W):Env W:=by rw[MakeChecks.laidMetH_plain _ _ _ (by kernel_rfl)]at h;have h1:laidMet Tryz.prog [("internal/strconv.uint64pow10",Rows.laid_internal_strconv_uint64pow10)] W:=laidMet.filter (fun x=>x.1== "internal/strconv.uint64pow10") h;have h2:laidMet Tryz.prog [("math/bits.deBruijn64tab",Rows.laid_math_bits_deBruijn64tab)] W:=laidMet.filter (fun x=>x.1== "math/bits.deBruijn64tab") h;exact k59 h1 h2
theorem gES:Tryz.prog.globalNamed "strconv.ErrSyntax" =some 1:=by kernel_rfl
theorem gESType:(Tryz.prog.globals[1]?).map (·.type)=some 182:=by kernel_rfl
theorem gER:Tryz.prog.globalNamed "strconv.ErrRange" =some 2:=by kernel_rfl
theorem gERType:(Tryz.prog.globals[2]?).map (·.type)=some 182:=by kernel_rfl
theorem j207:Tryz.prog.cellsOf 357=1:=by kernel_rfl
theorem j204:Tryz.prog.cellsOf 9=1:=by kernel_rfl
theorem starES: "*" ++ "errors.errorString" = "*errors.errorString" :=by decide
theorem rowES(u:TypeId)(h:Tryz.prog.typeName? 3 u=some "*errors.errorString"):u=355:=typeName_ptr_named (nm:= "errors.errorString") (by rw[starES];kernel_rfl) (by kernel_rfl) (by decide) u (by rw[starES];exact h)
theorem j201{W:World}(h1:laidMet Tryz.prog [("strconv.ErrSyntax",Rows.laid_strconv_ErrSyntax)] W)(h2:laidMet Tryz.prog [("strconv.ErrRange",Rows.laid_strconv_ErrRange)] W):ErrsOk W:=by obtain⟨a0,s0,hv0,-,-,-⟩:=laid_sentinel h1 gES gESType Tryz.underlying182 rowES Tryz.underlying355 Tryz.underlying357 rfl rfl Tryz.underlying9 j207 j204;obtain⟨a1,s1,hv1,-,-,-⟩:=laid_sentinel h2 gER gERType Tryz.underlying182 rowES Tryz.underlying355 Tryz.underlying357 rfl rfl Tryz.underlying9 j207 j204;exact⟨⟨_,by have h0:=World.var?_cell gES hv0 0;simpa using h0,Or.inr ⟨_,_,rfl⟩⟩,⟨_,by have h0:=World.var?_cell gER hv1 0;simpa using h0,Or.inr ⟨_,_,rfl⟩⟩⟩
theorem k201{W:World}(h:W.ShapedOpen Tryz.prog):∃m,W.cell? ⟨0,0,none⟩=some (.int .i64 m):=cell_of_shapedOpen_int (P:=Tryz.prog) (g:=0) (t:=3) (zero:=#[.int .i64 0]) h (of_decide_eq_true (by kernel_rfl)) (by kernel_rfl) rfl (by kernel_rfl) (by kernel_rfl) Tryz.underlying3
theorem v195{W:World}(h:laidMetH Tryz.prog Rows.tierBackRow.laid W)(hs:W.ShapedOpen Tryz.prog):EnvR W:=by refine⟨k197 h,?_,k201 hs⟩;rw[MakeChecks.laidMetH_plain _ _ _ (by kernel_rfl)]at h;exact j201 (laidMet.filter (fun x=>x.1== "strconv.ErrSyntax") h) (laidMet.filter (fun x=>x.1== "strconv.ErrRange") h)
section
variable{H:Type}{enc:TypeId×Value→H}{w:World}{base:Nat}{spare:Nat→Bool}{held:Bool}{n:Nat}
theorem i64_wf'{q:Int}(h:(Lit.int .i64 q).wf=true):-9223372036854775808≤q∧q≤9223372036854775807:=by
 have h1:IntKind.i64.min≤q∧q≤IntKind.i64.max:=by simpa[Lit.wf]using h
 exact⟨h1.1,h1.2⟩
theorem x17{α:Type}{l:List α}{n:Nat}(h:l.length=n+1):∃a r,l=a::r∧r.length=n:=by cases l with|nil=>cases h|cons a r=>exact⟨a,r,rfl,Nat.succ.inj h⟩
theorem y67{α:Type} [Inhabited α]{P:Program}{en:α→List Value}{k:Nat}{T ST:TypeId}{Pw:α→Prop}(hk:0<k)(hlen:∀x,(en x).length=k)(hu:P.underlying ST=some (.slice T))(hc:P.cellsOf T=k)(hcells:∀(n:Nat)(cs:List Value)(y:DataW H×List MemPlace),cs.length=k→DataW.trod enc P w base spare held n T cs=some y→∃x,cs=en x∧Pw x){fuel:Nat}{A:Option Addr}{len c:Nat}{x:DataW H×List MemPlace}(h:DataW.trod enc P w base spare held fuel ST [.slice A len c]=some x):∃L:List α,len=L.length∧SpG en k w A c L∧(∀x∈L,Pw x)∧L.length≤9223372036854775807:=by
 rcases Deep.open_slice hu h with⟨h0,_⟩|⟨a,len',cap,m,n',D,Pl,hcs,hb,hl,hm,hmm,hx,hi⟩;·simp only[List.cons.injEq,Value.slice.injEq,and_true]at h0;obtain⟨rfl,rfl,rfl⟩:=h0;exact⟨[],rfl,SpG.nil w,fun x hx=>by simp at hx,by simp⟩
 ·simp only[List.cons.injEq,Value.slice.injEq,and_true]at hcs;obtain⟨rfl,rfl,rfl⟩:=hcs;have each:∀i,i<len→∃x:α,(∀j v,(en x)[j]?=some v→w.cell? (a.add (i*k+j))=some v)∧Pw x:=by
   intro i hi';obtain⟨cs',hcs,ht⟩:=hi i (by rw[hmm];split<;>omega);rw[hc]at hcs;obtain⟨_,hlen',hcell⟩:=World.cells?_some hcs;obtain⟨x,rfl,hp⟩:=hcells _ _ _ hlen' ht;refine⟨x,fun j v hj=>?_,hp⟩;have hjk:j<k:=by have:=(List.getElem?_eq_some_iff.1 hj).1;rw[hlen]at this;exact this
   have h1:=hcell j hjk;rw[Go.Deep.add_add]at h1;rw[h1];exact hj
  obtain⟨f,hf⟩:∃f:Nat→α,∀i,i<len→(∀j v,(en (f i))[j]?=some v→w.cell? (a.add (i*k+j))=some v)∧Pw (f i):=⟨fun i=>if h:i<len then Classical.choose (each i h)else default,fun i h=>by simp only[dif_pos h];exact Classical.choose_spec (each i h)⟩;refine⟨(List.range len).map f,by simp,⟨by simpa using hl,(fun e=>by cases e),fun i hi'=>?_⟩,fun x hx=>?_,by simp only[maxLen]at hm;simp;omega⟩;·
   have hi2:i<len:=by simpa using hi'
   obtain⟨v0,hv0⟩:∃v,(en (f 0))[0]?=some v:=⟨_,List.getElem?_eq_getElem (by rw[hlen];exact hk)⟩;have h0:=(hf 0 (by omega)).1 0 v0 hv0;have ha0:a.add (0*k+0)=a:=by simp[Addr.add]
   rw[ha0]at h0;have hs:=x59 h0;obtain⟨b,off,sp⟩:=a;simp only at hs;subst hs;have hadd:∀j,(⟨b,off,none⟩:Addr).add j=⟨b,off+j,none⟩:=fun j=>by unfold Addr.add;split<;>simp_all
   refine⟨b,off,rfl,World.block_lt_of_cell? w ⟨b,off,none⟩ h0,fun j v hj=>?_⟩;have h3:=(hf i hi2).1 j v (by simpa using hj);rw[hadd,←Nat.add_assoc]at h3;exact h3
  ·obtain⟨i,hi2,rfl⟩:=List.mem_map.1 hx;exact(hf i (by simpa using hi2)).2
theorem open_slice1{P:Program}{ST T:TypeId}(hu:P.underlying ST=some (.slice T)){v:Value}{x:DataW H×List MemPlace}(h:DataW.trod enc P w base spare held n ST [v]=some x):∃A len c,v=.slice A len c:=by
 rcases Deep.open_slice hu h with⟨h0,_⟩|⟨a,len',cap,m,n',D,Pl,hcs,_⟩;·simp only[List.cons.injEq,and_true]at h0;exact⟨_,_,_,h0⟩
 ·simp only[List.cons.injEq,and_true]at hcs;exact⟨_,_,_,hcs⟩
theorem j140(n:Nat)(cs:List Value)(y:DataW H×List MemPlace)(_hl:cs.length=1)(h:DataW.trod enc Tryz.prog w base spare held n 9 cs=some y):∃x:List UInt8,cs=encT x∧True:=by obtain⟨s,e,_⟩:=DataW.trod_string Tryz.underlying9 h;exact⟨s.data.toList,by rw[e];simp[encT],trivial⟩
theorem k123{v:Value}{x:DataW H×List MemPlace}(h:DataW.trod enc Tryz.prog w base spare held n 43 [v]=some x):∃A c L,v=.slice A (List.length L) c∧SpG encT 1 w A c L∧L.length≤9223372036854775807:=by obtain⟨A,len,c,rfl⟩:=open_slice1 Tryz.underlying43 h;obtain⟨L,rfl,h1,_,h2⟩:=y67 (Pw:=fun _=>True) (k:=1) (by decide) (fun _=>rfl) Tryz.underlying43 (by kernel_rfl) j140 h;exact⟨A,c,L,rfl,h1,h2⟩
theorem q104{c0 c1:Value}{y:DataW H×List MemPlace}(h:DataW.trod enc Tryz.prog w base spare held n 25 [c0,c1]=some y):∃(qt:ByteArray)(qk:Bool),(c0=.string qt∧c1=.bool qk)∧qt.size≤maxLen:=by
 obtain⟨xs,m,_,hx,_,hlen,hg⟩:=DataW.trod_struct Tryz.underlying25 h;have k0:Tryz.prog.cellsOf 4=1:=by kernel_rfl
 have k1:Tryz.prog.cellsOf 9=1:=by kernel_rfl
 match xs,hlen with
  |[y0,y1],_=>
   have g0:=hg 0 _ rfl;have g1:=hg 1 _ rfl;simp only[List.getElem?_cons_zero,List.getElem?_cons_succ]at g0 g1;obtain⟨qt,e0,_,z0⟩:=DataW.trod_string Tryz.underlying9 g0;obtain rfl:c0=.string qt:=by simpa[k1]using e0
   obtain⟨qk,e1,_⟩:=DataW.trod_bool Tryz.underlying4 g1;obtain rfl:c1=.bool qk:=by simpa[k0]using e1
   exact⟨qt,qk,⟨rfl,rfl⟩,z0⟩
theorem k206{c0 c1:Value}{y:DataW H×List MemPlace}(h:DataW.trod enc Tryz.prog w base spare held n 59 [c0,c1]=some y):∃(qf:Int)(qt:Int),(c0=.int .i64 qf∧c1=.int .i64 qt)∧(Lit.int .i64 qf).wf=true∧(Lit.int .i64 qt).wf=true:=by
 obtain⟨xs,m,_,hx,_,hlen,hg⟩:=DataW.trod_struct Tryz.underlying59 h;have k0:Tryz.prog.cellsOf 2=1:=by kernel_rfl
 match xs,hlen with
  |[y0,y1],_=>
   have g0:=hg 0 _ rfl;have g1:=hg 1 _ rfl;simp only[List.getElem?_cons_zero,List.getElem?_cons_succ]at g0 g1;obtain⟨qf,e0,_,z0⟩:=DataW.trod_int Tryz.underlying2 g0;obtain rfl:c0=.int .i64 qf:=by simpa[k0]using e0
   obtain⟨qt,e1,_,z1⟩:=DataW.trod_int Tryz.underlying2 g1;obtain rfl:c1=.int .i64 qt:=by simpa[k0]using e1
   exact⟨qf,qt,⟨rfl,rfl⟩,z0,z1⟩
theorem x206{c0 c1 c2 c3 c4 c5 c6:Value}{y:DataW H×List MemPlace}(h:DataW.trod enc Tryz.prog w base spare held n 61 [c0,c1,c2,c3,c4,c5,c6]=some y):∃(qo:ByteArray)(qsf:Int)(qst:Int)(qmt:ByteArray)(qmk:Bool)(qnt:ByteArray)(qnk:Bool),(c0=.string qo∧c1=.int .i64 qsf∧c2=.int .i64 qst∧c3=.string qmt∧c4=.bool qmk∧c5=.string qnt∧c6=.bool qnk)∧qo.size≤maxLen∧(Lit.int .i64 qsf).wf=true∧(Lit.int .i64 qst).wf=true∧qmt.size≤maxLen∧qnt.size≤maxLen:=by
 obtain⟨xs,m,_,hx,_,hlen,hg⟩:=DataW.trod_struct Tryz.underlying61 h;have k0:Tryz.prog.cellsOf 59=2:=by kernel_rfl
 have k1:Tryz.prog.cellsOf 25=2:=by kernel_rfl
 have k2:Tryz.prog.cellsOf 9=1:=by kernel_rfl
 match xs,hlen with
  |[y0,y1,y2,y3],_=>
   have g0:=hg 0 _ rfl;have g1:=hg 1 _ rfl;have g2:=hg 2 _ rfl;have g3:=hg 3 _ rfl;simp only[List.getElem?_cons_zero,List.getElem?_cons_succ]at g0 g1 g2 g3;obtain⟨qo,e0,_,z0⟩:=DataW.trod_string Tryz.underlying9 g0;obtain rfl:c0=.string qo:=by simpa[k2]using e0
   obtain⟨qsf,qst,⟨rfl,rfl⟩,z1_0,z1_1⟩:=k206 g1;obtain⟨qmt,qmk,⟨rfl,rfl⟩,z2_0⟩:=q104 g2;obtain⟨qnt,qnk,⟨rfl,rfl⟩,z3_0⟩:=q104 g3;exact⟨qo,qsf,qst,qmt,qmk,qnt,qnk,⟨rfl,rfl,rfl,rfl,rfl,rfl,rfl⟩,z0,z1_0,z1_1,z2_0,z3_0⟩
theorem x140{c0 c1 c2 c3 c4 c5 c6 c7 c8 c9 c10:Value}{y:DataW H×List MemPlace}(h:DataW.trod enc Tryz.prog w base spare held n 45 [c0,c1,c2,c3,c4,c5,c6,c7,c8,c9,c10]=some y):∃(qtt:ByteArray)(qtk:Bool)(qn0:Int)(qn1:Int)(qn2:Int)(qn3:Int)(qn4:Int)(qn5:Int)(qkA:Option Addr)(qkc:Nat)(qkL:List (List UInt8))(qe:ByteArray)(qp:Bool),(c0=.string qtt∧c1=.bool qtk∧c2=.int .i64 qn0∧c3=.int .i64 qn1∧c4=.int .i64 qn2∧c5=.int .i64 qn3∧c6=.int .i64 qn4∧c7=.int .i64 qn5∧c8=.slice qkA qkL.length qkc∧c9=.string qe∧c10=.bool qp)∧qtt.size≤maxLen∧(Lit.int .i64 qn0).wf=true∧(Lit.int .i64 qn1).wf=true∧(Lit.int .i64 qn2).wf=true∧(Lit.int .i64 qn3).wf=true∧(Lit.int .i64 qn4).wf=true∧(Lit.int .i64 qn5).wf=true∧SpG encT 1 w qkA qkc qkL∧qkL.length≤9223372036854775807∧qe.size≤maxLen:=by
 obtain⟨xs,m,_,hx,_,hlen,hg⟩:=DataW.trod_struct Tryz.underlying45 h;have k0:Tryz.prog.cellsOf 43=1:=by kernel_rfl
 have k1:Tryz.prog.cellsOf 25=2:=by kernel_rfl
 have k2:Tryz.prog.cellsOf 4=1:=by kernel_rfl
 have k3:Tryz.prog.cellsOf 2=1:=by kernel_rfl
 have k4:Tryz.prog.cellsOf 9=1:=by kernel_rfl
 match xs,hlen with
  |[y0,y1,y2,y3,y4,y5,y6,y7,y8,y9],_=>
   have g0:=hg 0 _ rfl;have g1:=hg 1 _ rfl;have g2:=hg 2 _ rfl;have g3:=hg 3 _ rfl;have g4:=hg 4 _ rfl;have g5:=hg 5 _ rfl;have g6:=hg 6 _ rfl;have g7:=hg 7 _ rfl;have g8:=hg 8 _ rfl;have g9:=hg 9 _ rfl;simp only[List.getElem?_cons_zero,List.getElem?_cons_succ]at g0 g1 g2 g3 g4 g5 g6 g7 g8 g9;obtain⟨qtt,qtk,⟨rfl,rfl⟩,z0_0⟩:=q104 g0;obtain⟨qn0,e1,_,z1⟩:=DataW.trod_int Tryz.underlying2 g1;obtain rfl:c2=.int .i64 qn0:=by simpa[k3]using e1
   obtain⟨qn1,e2,_,z2⟩:=DataW.trod_int Tryz.underlying2 g2;obtain rfl:c3=.int .i64 qn1:=by simpa[k3]using e2
   obtain⟨qn2,e3,_,z3⟩:=DataW.trod_int Tryz.underlying2 g3;obtain rfl:c4=.int .i64 qn2:=by simpa[k3]using e3
   obtain⟨qn3,e4,_,z4⟩:=DataW.trod_int Tryz.underlying2 g4;obtain rfl:c5=.int .i64 qn3:=by simpa[k3]using e4
   obtain⟨qn4,e5,_,z5⟩:=DataW.trod_int Tryz.underlying2 g5;obtain rfl:c6=.int .i64 qn4:=by simpa[k3]using e5
   obtain⟨qn5,e6,_,z6⟩:=DataW.trod_int Tryz.underlying2 g6;obtain rfl:c7=.int .i64 qn5:=by simpa[k3]using e6
   obtain⟨qkA,qkc,qkL,rfl,z7,y7⟩:=k123 g7;obtain⟨qe,e8,_,z8⟩:=DataW.trod_string Tryz.underlying9 g8;obtain rfl:c9=.string qe:=by simpa[k4]using e8
   obtain⟨qp,e9,_⟩:=DataW.trod_bool Tryz.underlying4 g9;obtain rfl:c10=.bool qp:=by simpa[k2]using e9
   exact⟨qtt,qtk,qn0,qn1,qn2,qn3,qn4,qn5,qkA,qkc,qkL,qe,qp,⟨rfl,rfl,rfl,rfl,rfl,rfl,rfl,rfl,rfl,rfl,rfl⟩,z0_0,z1,z2,z3,z4,z5,z6,z7,y7,z8⟩
theorem q210{r:Reach}{b0:Nat}{v:Value}{d:DataW H}{p:List MemPlace}(hv:Value.okWide Tryz.prog w r b0 61 v)(h:DataW.Trod enc Tryz.prog w base spare held 61 v d p):∃(ob:ByteArray)(fr te:Int)(mt:ByteArray)(mw:Bool)(nt:ByteArray)(nw:Bool),v=.agg #[.string ob,.int .i64 fr,.int .i64 te,.string mt,.bool mw,.string nt,.bool nw]∧True:=by
 obtain⟨cs,rfl,hsz⟩:=okWide_struct Tryz.underlying61 hv;have k:Tryz.prog.cellsOf 61=7:=by kernel_rfl
 clear hv;obtain⟨l⟩:=cs;have hl0:l.length=7:=hsz.trans k;clear hsz k;obtain⟨c0,l,rfl,hl1⟩:=x17 hl0;obtain⟨c1,l,rfl,hl2⟩:=x17 hl1;obtain⟨c2,l,rfl,hl3⟩:=x17 hl2;obtain⟨c3,l,rfl,hl4⟩:=x17 hl3;obtain⟨c4,l,rfl,hl5⟩:=x17 hl4;obtain⟨c5,l,rfl,hl6⟩:=x17 hl5;obtain⟨c6,l,rfl,hl7⟩:=x17 hl6;obtain rfl:l=[]:=List.eq_nil_of_length_eq_zero hl7;·obtain⟨fuel,hf0⟩:=h;obtain⟨qo,qsf,qst,qmt,qmk,qnt,qnk,⟨e0,e1,e2,e3,e4,e5,e6⟩,z0,z1,z2,z3,z4⟩:=x206 (show DataW.trod enc Tryz.prog w base spare held fuel 61 [c0,c1,c2,c3,c4,c5,c6]=some _ from hf0);exact⟨qo,qsf,qst,qmt,qmk,qnt,qnk,by rw[e0,e1,e2,e3,e4,e5,e6],trivial⟩
theorem y214{r:Reach}{b0:Nat}{v:Value}{d:DataW H}{p:List MemPlace}(hv:Value.okWide Tryz.prog w r b0 45 v)(h:DataW.Trod enc Tryz.prog w base spare held 45 v d p):∃(m:MetaL)(KA:Option Addr)(kc:Nat),v=j25 m KA kc∧SpG encT 1 w KA kc m.keys:=by
 obtain⟨cs,rfl,hsz⟩:=okWide_struct Tryz.underlying45 hv;have k:Tryz.prog.cellsOf 45=11:=by kernel_rfl
 clear hv;obtain⟨l⟩:=cs;have hl0:l.length=11:=hsz.trans k;clear hsz k;obtain⟨c0,l,rfl,hl1⟩:=x17 hl0;obtain⟨c1,l,rfl,hl2⟩:=x17 hl1;obtain⟨c2,l,rfl,hl3⟩:=x17 hl2;obtain⟨c3,l,rfl,hl4⟩:=x17 hl3;obtain⟨c4,l,rfl,hl5⟩:=x17 hl4;obtain⟨c5,l,rfl,hl6⟩:=x17 hl5;obtain⟨c6,l,rfl,hl7⟩:=x17 hl6;obtain⟨c7,l,rfl,hl8⟩:=x17 hl7;obtain⟨c8,l,rfl,hl9⟩:=x17 hl8;obtain⟨c9,l,rfl,hl10⟩:=x17 hl9;obtain⟨c10,l,rfl,hl11⟩:=x17 hl10;obtain rfl:l=[]:=List.eq_nil_of_length_eq_zero hl11;·obtain⟨fuel,hf0⟩:=h;obtain⟨qtt,qtk,qn0,qn1,qn2,qn3,qn4,qn5,qkA,qkc,qkL,qe,qp,⟨e0,e1,e2,e3,e4,e5,e6,e7,e8,e9,e10⟩,z0,z1,z2,z3,z4,z5,z6,z7,z8,z9⟩:=x140 (show DataW.trod enc Tryz.prog w base spare held fuel 45 [c0,c1,c2,c3,c4,c5,c6,c7,c8,c9,c10]=some _ from hf0);exact⟨⟨qtt.data.toList,qtk,qn0,qn1,qn2,qn3,qn4,qn5,qkL,qe.data.toList,qp⟩,qkA,qkc,by rw[e0,e1,e2,e3,e4,e5,e6,e7,e8,e9,e10];rfl,z7⟩
end
end Go.Proofs.YtkkomffmnafjkaaGreatDoor
