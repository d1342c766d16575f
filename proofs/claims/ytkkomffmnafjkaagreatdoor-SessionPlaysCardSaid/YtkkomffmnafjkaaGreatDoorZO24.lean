/- Sessions that meet a version: what is told, and how they lie then. -/
import Derived.Test.YtkkomffmnafjkaaGreatDoorZO8
import Derived.Test.YtkkomffmnafjkaaGreatDoorZL8
set_option maxHeartbeats 16000000
set_option maxRecDepth 100000
set_option linter.all false
namespace Go.Proofs.YtkkomffmnafjkaaGreatDoor
open Go.RowKit
def k182(m:MetaL)(A:Option Addr)(c:Nat):Array Value:=#[.string ⟨m.tag.toArray⟩,.bool m.weak,.int .i64 m.mo,.int .i64 m.len,.int .i64 m.hv,.int .i64 m.fresh,.int .i64 m.wh,.int .i64 m.er,.slice A m.keys.length c,.string ⟨m.ten.toArray⟩,.bool m.keep]
def entV(id:Int)(ob:List UInt8)(m:MetaL)(A:Option Addr)(c:Nat)(x1 x2 x3:Int)(tu:Bool):Array Value:=#[.int .i64 id,.string ⟨ob.toArray⟩,.string ⟨m.tag.toArray⟩,.bool m.weak,.int .i64 m.mo,.int .i64 m.len,.int .i64 m.hv,.int .i64 m.fresh,.int .i64 m.wh,.int .i64 m.er,.slice A m.keys.length c,.string ⟨m.ten.toArray⟩,.bool m.keep,.int .i64 x1,.int .i64 x2,.int .i64 x3,.bool tu]
def outC(r:ReqC)(m:MetaL):Int:=chkV (chk1 r.k.M r.k.am r.k.un m.mo (m.tag,m.weak)) (chk2 r.k.N r.k.an r.k.si m.mo m.len (m.tag,m.weak)) (chk3 r.L.length (r.k.rt,r.k.rw) (m.tag,m.weak))
def reqZ(r:ReqC):ReqL:=⟨r.hd,⟨r.ob.toArray⟩,none,0,r.L,none,0,0,none,0,0,r.k.am,r.k.an,r.k.si,r.k.un,⟨r.k.rt.toArray⟩,r.k.rw⟩
def reqX(r:ReqC)(A:Option Addr)(c:Nat)(A1:Option Addr)(c1:Nat)(A2:Option Addr)(c2:Nat):ReqL:=⟨r.hd,⟨r.ob.toArray⟩,A,c,r.L,A1,r.k.M.length,c1,A2,r.k.N.length,c2,r.k.am,r.k.an,r.k.si,r.k.un,⟨r.k.rt.toArray⟩,r.k.rw⟩
def SesL.meetS(s:SesL)(id:Int)(ps:List w17):SesL:=if ps=[]then{s with st:=3,en:=0,lf:=[]}else{s with st:=2,en:=id,lf:=ps}
def MeetE(a:AnsL)(n:Int)(S:List Nat)(e:Ending)(w':World):Prop:=∃A c k B d j,k=a.fs.length∧j=a.ps.length∧e=.returned (.tuple #[.agg #[.int .i64 a.st,.slice A k c,.slice B j d,.int .i64 a.sz],.int .i64 n])∧SpT 176 w18 2 w' A c a.fs∧SpT 89 j18 3 w' B d a.ps∧∀x,B=some x→x.block∉S
def q67(r:ReqC)(g:CfgL)(S:List Nat)(b:Nat)(s:SesL)(id:Int)(ok:Prop)(m:MetaL)(seed:Int)(w:World)(e:Ending)(w':World):Prop:=(s.st≠1→e=.returned (.tuple #[ansZ,.int .i64 11])∧SesAt r g S w' b s∧Below w.heap.size w w')∧(s.st=1→¬ok→e=.returned (.tuple #[ansZ,.int .i64 1])∧SesAt r g S w' b s∧Below w.heap.size w w')∧(s.st=1→ok→∃a S',AnsP (reqZ r) m (outC r m) g.cs seed a∧MeetE a 0 S' e w'∧SesAt r g S' w' b (s.meetS id a.ps)∧(∀k∈S',k∈S∨w.heap.size≤k)∧Mut S w w')
def w74(r:ReqC)(g:CfgL)(S:List Nat)(b:Nat)(s:SesL)(id:Int)(ok:Prop)(m:MetaL)(seed:Int)(w:World)(e:Ending)(w':World):Prop:=(s.st≠1→e=.returned (.tuple #[ansZ,.int .i64 11])∧SexAt r g S w' b s∧Below w.heap.size w w')∧(s.st=1→¬ok→e=.returned (.tuple #[ansZ,.int .i64 1])∧SexAt r g S w' b s∧Below w.heap.size w w')∧(s.st=1→ok→∃a,AnsP (reqZ r) m (outC r m) g.cs seed a∧MeetE a 0 [] e w'∧SexAt r g S w' b (s.meetS id a.ps)∧Mut [b] w w')
theorem q98{r:ReqC}(h:j23 r=true):allR r.L=true∧r.L.length≤70:=by unfold j23 at h;simp only[r_,p_]at h;exact⟨h.1.2,by omega⟩
theorem prow_of{w:World}{base c:Nat}{A:Option Addr}{L:List w17}(h:OwnG 89 j18 3 w base A c L)(h0:L≠[]):∃g,base≤g∧g<w.heap.size∧∀S,g∈S→PRow S w A c L:=by
 rcases h.2 with⟨_,h2⟩|⟨g,cap,cur,hv,hb,hg,_⟩;·exact absurd (l_ h2) h0
 ·injection hv with h1;exact⟨g,hb,q14 hg,fun S hS=>⟨h.spg (fun _=>rfl),fun _=>⟨g,0,cur,h1,hg,hS⟩⟩⟩
theorem SpT.mut_ty{α:Type}{T T':TypeId}{en:α→List Value}{n:Nat}{w w':World}{A:Option Addr}{c:Nat}{L:List α}{b:Nat}{cs:Array Value}{f:Nat×Nat}(h:SpT T en n w A c L)(hb:w.heap[b]?=some (.cells cs T' f))(hT:T≠T')(hm:Mut [b] w w'):SpT T en n w' A c L:=by
 have hne:∀a,A=some a→a.block∉[b]:=fun a ha=>by obtain⟨cs',f',hc⟩:=h.ty a ha;simpa using k36 hc hb hT
 exact⟨h.sp.mut (fun _=>hne) hm,fun a ha=>by obtain⟨cs',f',hc⟩:=h.ty a ha;exact⟨cs',f',hm.blk _ _ hc (hne a ha)⟩⟩
theorem SpT.mut{α:Type}{T:TypeId}{en:α→List Value}{n:Nat}{w w':World}{A:Option Addr}{c:Nat}{L:List α}{S:List Nat}(h:SpT T en n w A c L)(hne:∀a,A=some a→a.block∉S)(hm:Mut S w w'):SpT T en n w' A c L:=⟨h.sp.mut (fun _=>hne) hm,fun a ha=>by obtain⟨cs',f',hc⟩:=h.ty a ha;exact⟨cs',f',hm.blk _ _ hc (hne a ha)⟩⟩
theorem w49{α:Type}{T T':TypeId}{en:α→List Value}{n:Nat}{w:World}{A:Option Addr}{c:Nat}{L:List α}{b:Nat}{cs:Array Value}{f:Nat×Nat}(h:SpT T en n w A c L)(hb:w.heap[b]?=some (.cells cs T' f))(hT:T≠T'):∀a,A=some a→a.block≠b:=fun a ha=>by obtain⟨cs',f',hc⟩:=h.ty a ha;exact k36 hc hb hT
theorem k165{α:Type}{T:TypeId}{en:α→List Value}{n:Nat}{w:World}{A:Option Addr}{c:Nat}{L:List α}(h:SpT T en n w A c L):∀a,A=some a→a.block<w.heap.size:=fun a ha=>by obtain⟨cs',f',hc⟩:=h.ty a ha;exact q14 hc
theorem j79{w w':World}{base c:Nat}{A:Option Addr}{L:List w17}{T:List Nat}(h:OwnG 89 j18 3 w base A c L)(h0:L≠[])(hm:Mut T w w')(hT:∀k∈T,k<base):∃g,base≤g∧g<w'.heap.size∧∀S,g∈S→PRow S w' A c L:=by
 rcases h.2 with⟨_,h2⟩|⟨g,cap,cur,hv,hb,hg,_⟩;·exact absurd (l_ h2) h0
 ·injection hv with h1;have hn:g∉T:=fun hi=>by have:=hT _ hi;omega
  have hg':=hm.blk _ _ hg hn;have hsp:SpG j18 3 w A c L:=h.spg (fun _=>rfl);exact⟨g,hb,q14 hg',fun S hS=>⟨hsp.mut (fun _ a ha=>by rw[h1]at ha;injection ha with ha;rw[←ha];exact hn) hm,fun _=>⟨g,0,cur,h1,hg',hS⟩⟩⟩
theorem k40{w:World}{b:Nat}{C:Array Value}{T:TypeId}{f:Nat×Nat}{cs:List Value}(h:w.heap[b]?=some (.cells C T f))(off:Nat)(hs:(C.toList.drop off).take cs.length=cs):w.rangeAt b off cs:=fun j v hv=>by refine j14 (i:=off+j) h ?_;rw[←hs]at hv;have hj:=(O_.1 hv).1;rw[aq_ (by rw[N_]at hj;omega),List.getElem?_drop]at hv;simpa using hv
theorem q136{w w':World}{b:Nat}{cs:Array Value}{T:TypeId}(h:Stored w b cs T w'):Mut [b] w w':=by obtain⟨g1,g2,g3,g4,_⟩:=q40 h;exact⟨g1,g2,g3,g4,fun k o hk hn=>(h.ne k (by simpa using hn)).trans hk⟩
theorem SpT.store_ty{α:Type}{T T':TypeId}{en:α→List Value}{n:Nat}{w w':World}{A:Option Addr}{c:Nat}{L:List α}{b:Nat}{cs old:Array Value}{f:Nat×Nat}(h:SpT T en n w A c L)(hs:Stored w b cs T' w')(hb:w.heap[b]?=some (.cells old T' f))(hT:T≠T'):SpT T en n w' A c L:=h.mut_ty hb hT (q136 hs)
def k79(r:ReqC)(A:Option Addr)(c:Nat)(A1:Option Addr)(c1:Nat)(A2:Option Addr)(c2:Nat)(m:MetaL)(KA:Option Addr)(kc:Nat)(g:CfgL)(o seed:Int)(b eb:Nat):List (Value→World→Prop):=[fun v _=>v=.pointer (some ⟨b,0,none⟩),fun v _=>v=.pointer (some ⟨b,0,none⟩),fun v _=>v=.pointer (some ⟨b,0,none⟩),fun v _=>v=.agg (reqC r A c A1 c1 A2 c2),fun v _=>v=.pointer (some ⟨eb,2,none⟩),fun v _=>v=.agg (k182 m KA kc),fun v _=>v=.pointer (some ⟨b,0,none⟩),fun v _=>v=.pointer (some ⟨b,0,none⟩),fun v _=>v=.pointer (some ⟨b,0,none⟩),fun v _=>v=.agg (reqC r A c A1 c1 A2 c2),fun v _=>v=.pointer (some ⟨eb,2,none⟩),fun v _=>v=.agg (k182 m KA kc),fun v _=>v=.int .i64 o,fun v _=>v=.pointer (some ⟨b,0,none⟩),fun v _=>v=.pointer (some ⟨b,0,none⟩),fun v _=>v=.pointer (some ⟨b,14,none⟩),fun v _=>v=.agg (cfgC g),fun v _=>v=.int .i64 seed,GA (reqX r A c A1 c1 A2 c2) m o g.cs seed]
theorem j136(r:ReqC)(A:Option Addr)(c:Nat)(A1:Option Addr)(c1:Nat)(A2:Option Addr)(c2:Nat)(m:MetaL)(KA:Option Addr)(kc:Nat)(g:CfgL)(o seed:Int)(b eb:Nat):∀f∈k79 r A c A1 c1 A2 c2 m KA kc g o seed b eb,∀v w w',f v w→Below w.heap.size w w'→f v w':=by
 intro f hf;simp only[k79,C_,H_,au_]at hf;rcases hf with rfl|rfl|rfl|rfl|rfl|rfl|rfl|rfl|rfl|rfl|rfl|rfl|rfl|rfl|rfl|rfl|rfl|rfl|rfl;·exact fun _ _ _ h _=>h
 ·exact fun _ _ _ h _=>h
 ·exact fun _ _ _ h _=>h
 ·exact fun _ _ _ h _=>h
 ·exact fun _ _ _ h _=>h
 ·exact fun _ _ _ h _=>h
 ·exact fun _ _ _ h _=>h
 ·exact fun _ _ _ h _=>h
 ·exact fun _ _ _ h _=>h
 ·exact fun _ _ _ h _=>h
 ·exact fun _ _ _ h _=>h
 ·exact fun _ _ _ h _=>h
 ·exact fun _ _ _ h _=>h
 ·exact fun _ _ _ h _=>h
 ·exact fun _ _ _ h _=>h
 ·exact fun _ _ _ h _=>h
 ·exact fun _ _ _ h _=>h
 ·exact fun _ _ _ h _=>h
 ·exact GA.mono
