/- Plain laws of a fence's states, and small laws on blocks known whole. Rows .. -/
import Derived.Test.YtbphndihjdiiiaaGreatDoorZD1
import Derived.Test.YtbphndihjdiiiaaGreatDoorZB11
set_option maxHeartbeats 16000000
set_option maxRecDepth 100000
set_option linter.all false
namespace Go.Proofs.YtbphndihjdiiiaaGreatDoor
open Go.RowKit
theorem cell_grown{w w':World}{po b o:Nat}(h:w.grownBy w' (some po))(hb:b<w.heap.size)(hne:b≠po):w'.cell? ⟨b,o,none⟩=w.cell? ⟨b,o,none⟩:=bI_ (w:=w) (w':=w') (a:=⟨b,o,none⟩) (h.block b hb (by intro e;injection e with e;exact hne e))
theorem Sp.grown{w w':World}{A:Option Addr}{c:Nat}{L:List (Int×Int)}{po:Nat}(h:Sp w A c L)(hne:OffB A po)(hg:w.grownBy w' (some po)):Sp w' A c L:=⟨h.le,h.nil_,fun hn=>by obtain⟨b,off,e,hb,hc⟩:=h.at' hn;have hs:=hg.size;have hb':b≠po:=hne _ e;exact⟨b,off,e,by omega,fun i x hx=>by rw[cell_grown hg hb hb',cell_grown hg hb hb'];exact hc i x hx⟩⟩
theorem v144{w W:World}{p:Addr}(h:w.grownBy W (some p.block))(u:Value):w.grownBy (W.setCell p u) (some p.block):=⟨h.os,h.tape,h.output,by have:=h.size;simp[World.setCell];omega,fun k hk hne=>(aF_ W p u k (fun e=>hne (by rw[e]))).trans (h.block k hk hne)⟩
theorem j3{W w':World}{g:Nat}{o:Obj}(hb:Below W.heap.size W w')(h:W.heap[g]?=some o):w'.heap[g]?=some o:=(hb.block g (W_.1 h).1).trans h
theorem j14{w:World}{g i:Nat}{cs:Array Value}{t:TypeId}{f:Nat×Nat}{v:Value}(h:w.heap[g]?=some (.cells cs t f))(hv:cs[i]?=some v):w.cell? ⟨g,i,none⟩=some v:=(ag_ h i).trans hv
theorem bc{w:World}{g:Nat}(i:Nat){cs:Array Value}{t:TypeId}{f:Nat×Nat}{v:Value}(h:w.heap[g]?=some (.cells cs t f))(hv:cs[i]?=some v):w.cell? ⟨g,i,none⟩=some v:=j14 h hv
theorem bc2 {w : World} {g : Nat} {cs : Array Value} {t : TypeId} {f : Nat × Nat} {v0 v1 : Value} (h : w.heap[g]? = some (.cells cs t f)) (h0:cs[0]?=some v0) (h1:cs[1]?=some v1):w.cell? ⟨g,0,none⟩=some v0∧w.cell? ⟨g,1,none⟩=some v1:=⟨bc 0 h h0,bc 1 h h1⟩
theorem bc3 {w : World} {g : Nat} {cs : Array Value} {t : TypeId} {f : Nat × Nat} {v0 v1 v2 : Value} (h : w.heap[g]? = some (.cells cs t f)) (h0:cs[0]?=some v0) (h1:cs[1]?=some v1) (h2:cs[2]?=some v2):w.cell? ⟨g,0,none⟩=some v0∧w.cell? ⟨g,1,none⟩=some v1∧w.cell? ⟨g,2,none⟩=some v2:=⟨bc 0 h h0,bc 1 h h1,bc 2 h h2⟩
theorem bc4 {w : World} {g : Nat} {cs : Array Value} {t : TypeId} {f : Nat × Nat} {v0 v1 v2 v3 : Value} (h : w.heap[g]? = some (.cells cs t f)) (h0:cs[0]?=some v0) (h1:cs[1]?=some v1) (h2:cs[2]?=some v2) (h3:cs[3]?=some v3):w.cell? ⟨g,0,none⟩=some v0∧w.cell? ⟨g,1,none⟩=some v1∧w.cell? ⟨g,2,none⟩=some v2∧w.cell? ⟨g,3,none⟩=some v3:=⟨bc 0 h h0,bc 1 h h1,bc 2 h h2,bc 3 h h3⟩
theorem bc5 {w : World} {g : Nat} {cs : Array Value} {t : TypeId} {f : Nat × Nat} {v0 v1 v2 v3 v4 : Value} (h : w.heap[g]? = some (.cells cs t f)) (h0:cs[0]?=some v0) (h1:cs[1]?=some v1) (h2:cs[2]?=some v2) (h3:cs[3]?=some v3) (h4:cs[4]?=some v4):w.cell? ⟨g,0,none⟩=some v0∧w.cell? ⟨g,1,none⟩=some v1∧w.cell? ⟨g,2,none⟩=some v2∧w.cell? ⟨g,3,none⟩=some v3∧w.cell? ⟨g,4,none⟩=some v4:=⟨bc 0 h h0,bc 1 h h1,bc 2 h h2,bc 3 h h3,bc 4 h h4⟩
theorem bc7 {w : World} {g : Nat} {cs : Array Value} {t : TypeId} {f : Nat × Nat} {v0 v1 v2 v3 v4 v5 v6 : Value} (h : w.heap[g]? = some (.cells cs t f)) (h0:cs[0]?=some v0) (h1:cs[1]?=some v1) (h2:cs[2]?=some v2) (h3:cs[3]?=some v3) (h4:cs[4]?=some v4) (h5:cs[5]?=some v5) (h6:cs[6]?=some v6):w.cell? ⟨g,0,none⟩=some v0∧w.cell? ⟨g,1,none⟩=some v1∧w.cell? ⟨g,2,none⟩=some v2∧w.cell? ⟨g,3,none⟩=some v3∧w.cell? ⟨g,4,none⟩=some v4∧w.cell? ⟨g,5,none⟩=some v5∧w.cell? ⟨g,6,none⟩=some v6:=⟨bc 0 h h0,bc 1 h h1,bc 2 h h2,bc 3 h h3,bc 4 h h4,bc 5 h h5,bc 6 h h6⟩
theorem bc8 {w : World} {g : Nat} {t : TypeId} {f : Nat × Nat} {v0 v1 v2 v3 v4 v5 v6 v7 : Value} (h : w.heap[g]? = some (.cells #[v0,v1,v2,v3,v4,v5,v6,v7] t f)):w.cell? ⟨g,0,none⟩=some v0∧w.cell? ⟨g,1,none⟩=some v1∧w.cell? ⟨g,2,none⟩=some v2∧w.cell? ⟨g,3,none⟩=some v3∧w.cell? ⟨g,4,none⟩=some v4∧w.cell? ⟨g,5,none⟩=some v5∧w.cell? ⟨g,6,none⟩=some v6∧w.cell? ⟨g,7,none⟩=some v7:=⟨bc 0 h rfl,bc 1 h rfl,bc 2 h rfl,bc 3 h rfl,bc 4 h rfl,bc 5 h rfl,bc 6 h rfl,bc 7 h rfl⟩
theorem bc10 {w : World} {g : Nat} {t : TypeId} {f : Nat × Nat} {v0 v1 v2 v3 v4 v5 v6 v7 v8 v9 : Value} (h : w.heap[g]? = some (.cells #[v0,v1,v2,v3,v4,v5,v6,v7,v8,v9] t f)):w.cell? ⟨g,0,none⟩=some v0∧w.cell? ⟨g,1,none⟩=some v1∧w.cell? ⟨g,2,none⟩=some v2∧w.cell? ⟨g,3,none⟩=some v3∧w.cell? ⟨g,4,none⟩=some v4∧w.cell? ⟨g,5,none⟩=some v5∧w.cell? ⟨g,6,none⟩=some v6∧w.cell? ⟨g,7,none⟩=some v7∧w.cell? ⟨g,8,none⟩=some v8∧w.cell? ⟨g,9,none⟩=some v9:=⟨bc 0 h rfl,bc 1 h rfl,bc 2 h rfl,bc 3 h rfl,bc 4 h rfl,bc 5 h rfl,bc 6 h rfl,bc 7 h rfl,bc 8 h rfl,bc 9 h rfl⟩
theorem bc11 {w : World} {g : Nat} {t : TypeId} {f : Nat × Nat} {v0 v1 v2 v3 v4 v5 v6 v7 v8 v9 v10 : Value} (h : w.heap[g]? = some (.cells #[v0,v1,v2,v3,v4,v5,v6,v7,v8,v9,v10] t f)):w.cell? ⟨g,0,none⟩=some v0∧w.cell? ⟨g,1,none⟩=some v1∧w.cell? ⟨g,2,none⟩=some v2∧w.cell? ⟨g,3,none⟩=some v3∧w.cell? ⟨g,4,none⟩=some v4∧w.cell? ⟨g,5,none⟩=some v5∧w.cell? ⟨g,6,none⟩=some v6∧w.cell? ⟨g,7,none⟩=some v7∧w.cell? ⟨g,8,none⟩=some v8∧w.cell? ⟨g,9,none⟩=some v9∧w.cell? ⟨g,10,none⟩=some v10:=⟨bc 0 h rfl,bc 1 h rfl,bc 2 h rfl,bc 3 h rfl,bc 4 h rfl,bc 5 h rfl,bc 6 h rfl,bc 7 h rfl,bc 8 h rfl,bc 9 h rfl,bc 10 h rfl⟩
theorem bc25 {w : World} {g : Nat} {t : TypeId} {f : Nat × Nat} {v0 v1 v2 v3 v4 v5 v6 v7 v8 v9 v10 v11 v12 v13 v14 v15 v16 v17 v18 v19 v20 v21 v22 v23 v24 : Value} (h : w.heap[g]? = some (.cells #[v0,v1,v2,v3,v4,v5,v6,v7,v8,v9,v10,v11,v12,v13,v14,v15,v16,v17,v18,v19,v20,v21,v22,v23,v24] t f)):w.cell? ⟨g,0,none⟩=some v0∧w.cell? ⟨g,1,none⟩=some v1∧w.cell? ⟨g,2,none⟩=some v2∧w.cell? ⟨g,3,none⟩=some v3∧w.cell? ⟨g,4,none⟩=some v4∧w.cell? ⟨g,5,none⟩=some v5∧w.cell? ⟨g,6,none⟩=some v6∧w.cell? ⟨g,7,none⟩=some v7∧w.cell? ⟨g,8,none⟩=some v8∧w.cell? ⟨g,9,none⟩=some v9∧w.cell? ⟨g,10,none⟩=some v10∧w.cell? ⟨g,11,none⟩=some v11∧w.cell? ⟨g,12,none⟩=some v12∧w.cell? ⟨g,13,none⟩=some v13∧w.cell? ⟨g,14,none⟩=some v14∧w.cell? ⟨g,15,none⟩=some v15∧w.cell? ⟨g,16,none⟩=some v16∧w.cell? ⟨g,17,none⟩=some v17∧w.cell? ⟨g,18,none⟩=some v18∧w.cell? ⟨g,19,none⟩=some v19∧w.cell? ⟨g,20,none⟩=some v20∧w.cell? ⟨g,21,none⟩=some v21∧w.cell? ⟨g,22,none⟩=some v22∧w.cell? ⟨g,23,none⟩=some v23∧w.cell? ⟨g,24,none⟩=some v24:=⟨bc 0 h rfl,bc 1 h rfl,bc 2 h rfl,bc 3 h rfl,bc 4 h rfl,bc 5 h rfl,bc 6 h rfl,bc 7 h rfl,bc 8 h rfl,bc 9 h rfl,bc 10 h rfl,bc 11 h rfl,bc 12 h rfl,bc 13 h rfl,bc 14 h rfl,bc 15 h rfl,bc 16 h rfl,bc 17 h rfl,bc 18 h rfl,bc 19 h rfl,bc 20 h rfl,bc 21 h rfl,bc 22 h rfl,bc 23 h rfl,bc 24 h rfl⟩
theorem q13{w:World}{g i:Nat}{cs:Array Value}{t:TypeId}(h:w.heap[g]?=some (.cells cs t (0,0))):w.frozen? ⟨g,i,none⟩=false:=Lib.frozen_of_heap h i
theorem bf4 {w : World} {g : Nat} {t : TypeId} {v0 v1 v2 v3 : Value} (h : w.heap[g]? = some (.cells #[v0,v1,v2,v3] t (0,0))):w.cell? ⟨g,0,none⟩=some v0∧w.cell? ⟨g,1,none⟩=some v1∧w.cell? ⟨g,2,none⟩=some v2∧w.cell? ⟨g,3,none⟩=some v3∧w.frozen? ⟨g,0,none⟩=false∧w.frozen? ⟨g,1,none⟩=false∧w.frozen? ⟨g,2,none⟩=false∧w.frozen? ⟨g,3,none⟩=false:=⟨bc 0 h rfl,bc 1 h rfl,bc 2 h rfl,bc 3 h rfl,q13 h,q13 h,q13 h,q13 h⟩
theorem q177{w:World}{g:Nat}{a0 a1 a2 a3 a4 a5 a6 a7:Value}{t:TypeId}{f:Nat×Nat}(h:w.heap[g]?=some (.cells #[a0,a1,a2,a3,a4,a5,a6,a7] t f)):w.cell? ⟨g,1,none⟩=some a1∧w.cell? ⟨g,2,none⟩=some a2∧w.cell? ⟨g,3,none⟩=some a3:=⟨j14 h rfl,j14 h rfl,j14 h rfl⟩
theorem q14{w:World}{g:Nat}{o:Obj}(h:w.heap[g]?=some o):g<w.heap.size:=(W_.1 h).1
theorem j17{w:World}{o:Obj}{g:Nat}(hg:g=w.heap.size):(w.alloc o).heap[g]?=some o:=by subst hg;exact heap_alloc_new w o
theorem j16{w:World}{o o':Obj}{g:Nat}(h:w.heap[g]?=some o):(w.alloc o').heap[g]?=some o:=(Below.heap_alloc w o' g (q14 h)).trans h
theorem box1(w:World)(A:Array Value)(T:TypeId):∃W,w.alloc (.cells A T)=W∧Hid (W.heap[w.heap.size]?=some (.cells A T (0,0)))∧Hid (Below w.heap.size w W):=⟨_,rfl,j17 rfl,q11 (b_ _ _) _⟩
theorem w48(w:World)(A:Array Value)(T:TypeId):∃W,w.alloc (.cells A T)=W∧Hid (W.heap[w.heap.size]?=some (.cells A T (0,0)))∧Below w.heap.size w W:=⟨_,rfl,j17 rfl,q11 (b_ _ _) _⟩
theorem box2(w:World)(A:Array Value)(T:TypeId)(C:Array Value)(U:TypeId):∃W,(w.alloc (.cells A T)).alloc (.cells C U)=W∧Hid (W.heap[w.heap.size]?=some (.cells A T (0,0)))∧Hid (W.heap[w.heap.size+1]?=some (.cells C U (0,0)))∧Hid (Below w.heap.size w W):=⟨_,rfl,j16 (j17 rfl),j17 (by simp),q11 (q11 (b_ _ _) _) _⟩
theorem q18{w:World}{o:Obj}{g:Nat}(h:w.heap[g]?=some o):w.drew.heap[g]?=some o:=h
theorem j32{w:World}{o:Obj}{g n:Nat}(h:w.heap[g]?=some o):(w.drewN n).heap[g]?=some o:=h
theorem w15{w:World}{o:Obj}{g:Nat}{p:Addr}{v:Value}(hne:g≠p.block)(h:w.heap[g]?=some o):(w.setCell p v).heap[g]?=some o:=(aF_ w p v g hne).trans h
theorem j15{w:World}{g i:Nat}{cs:Array Value}{t:TypeId}{f:Nat×Nat}{v:Value}(h:w.heap[g]?=some (.cells cs t f)):(w.setCell ⟨g,i,none⟩ v).heap[g]?=some (.cells (cs.setIfInBounds i v) t f):=by simp[World.setCell,bz_,h]
theorem Sp.grown'{w w':World}{A:Option Addr}{c:Nat}{L:List (Int×Int)}{po:Nat}(h:Sp w A c L)(hne:0<L.length→OffB A po)(hg:w.grownBy w' (some po)):Sp w' A c L:=⟨h.le,h.nil_,fun hn=>(h.grown (hne hn) hg).at' hn⟩
theorem Sp.setOff{w:World}{A:Option Addr}{c:Nat}{L:List (Int×Int)}{p:Addr}(h:Sp w A c L)(hne:0<L.length→OffB A p.block)(v:Value):Sp (w.setCell p v) A c L:=h.grown' hne (v144 (bT_ _ _) v)
structure NoPair(cs:Array Value):Prop where
 out:∀o a b,cs[o]?=some (.int .i64 a)→cs[o+1]?=some (.int .i64 b)→False
theorem Sp.off_blk{w:World}{A:Option Addr}{c:Nat}{L:List (Int×Int)}{g:Nat}{cs:Array Value}{t:TypeId}{f:Nat×Nat}(h:Sp w A c L)(hl:0<L.length)(hb:w.heap[g]?=some (.cells cs t f))(hno:NoPair cs):OffB A g:=by obtain⟨b,off,e,_,hc⟩:=h.at' hl;intro a ha;rw[e]at ha;injection ha with ha;subst ha;rintro rfl;have:=hc 0 L[0] (p_ hl);rw[ag_ hb,ag_ hb]at this;exact hno.out _ _ _ this.1 this.2
theorem q51(v:Value):NoPair #[v]:=by refine⟨fun o a b h1 h2=>?_⟩;simp at h2
def k168(R H F:List (Int×Int)):List (Int×Int):=ofOp (ofOp R H 3) F 3
def z169(tu fa jo:Bool)(R H F:List (Int×Int)):List (Int×Int):=if(!tu&&!fa&&jo)=true then[]else k168 R H F
theorem q174(a b:List (Int×Int))(op:Int):Canon (ofOp a b op):=(y58 a b op).1
theorem y178(R H F:List (Int×Int)):Canon (k168 R H F):=q174 _ _ _
theorem w178(tu fa jo:Bool)(R H F:List (Int×Int)):Canon (z169 tu fa jo R H F):=by
 unfold z169;split;·exact Canon.nil
 ·exact y178 R H F
theorem j177(R H F:List (Int×Int)):(k168 R H F).length≤2*(2*(R.length+H.length)+F.length):=by have h1:=j121 (ofOp R H 3) F 3;have h2:=j121 R H 3;unfold k168;omega
theorem v177(tu fa jo:Bool)(R H F:List (Int×Int)):(z169 tu fa jo R H F).length≤2*(2*(R.length+H.length)+F.length):=by
 unfold z169;split;·simp
 ·exact j177 R H F
theorem k177(R H F:List (Int×Int))(p:Int):inB (k168 R H F) p=(inB R p&&!inB H p&&!inB F p):=by unfold k168;rw[k157,k157];cases inB R p<;>cases inB H p<;>cases inB F p<;>rfl
theorem w172{tu fa jo:Bool}{R H F:List (Int×Int)}(h:(!tu&&!fa&&jo)=true):z169 tu fa jo R H F=[]:=w_ h
theorem j168{tu fa jo:Bool}{R H F:List (Int×Int)}(h:(!tu&&!fa&&jo)=false):z169 tu fa jo R H F=k168 R H F:=s_ (by rw[h];simp)
def w168(he tu fa jo:Bool)(ag:Int)(R H F:List (Int×Int)):Int:=match R with|[]=>6|x::_=>if(!(z169 tu fa jo R H F).isEmpty&&!he)=true then(if 0<ag then 4 else 5)else if inB H x.1=true then 1 else if inB F x.1=true then 2 else if(z169 tu fa jo R H F).isEmpty=true then 3 else 5
theorem z180{tu fa jo:Bool}{x:Int×Int}{R H F:List (Int×Int)}(hc:Canon (x::R))(h1:inB H x.1=false)(h2:inB F x.1=false):inB (z169 tu fa jo (x::R) H F) x.1=!(z169 tu fa jo (x::R) H F).isEmpty:=by
 have hx:=hc.head;have hin:inB (x::R) x.1=true:=by rw[j34,hc.in_cons];exact .inl (by omega)
 cases hl:(!tu&&!fa&&jo);·
  rw[j168 hl,k177,hin,h1,h2];have hw:inB (k168 (x::R) H F) x.1=true:=by rw[k177,hin,h1,h2];rfl
  cases hY:k168 (x::R) H F with|nil=>rw[hY]at hw;cases hw|cons y r=>rfl
 ·rw[w172 hl];rfl
theorem z179{L:List (Int×Int)}(hc:Canon L):q35 L 0=L.head?:=by
 cases L with
  |nil=>rfl
  |cons x r=>
   have hx:=hc.head;have:=v101 (L:=x::r) (p:=0) (k:=0) (by simp) (by simp) (by simp;omega);rw[this];have e:max 0 x.1=x.1:=by omega
   simp[e]
theorem q182(A:Option Addr)(c:Nat)(w:World)(h:Sp w A c []):Calls Tryz.prog 43 #[.agg #[.slice A 0 c],.int .i64 0] w fun e w'=>e=.returned (.tuple #[.agg #[.int .i64 0,.int .i64 0],.bool false])∧Below w.heap.size w w':=(v142 A c [] 0 w h Canon.nil (by simp)).mono fun _ _⟨he,hb⟩=>⟨he,hb⟩
theorem q180(A:Option Addr)(c:Nat)(x:Int×Int)(r:List (Int×Int))(w:World)(h:Sp w A c (x::r))(hc:Canon (x::r))(hl:(x::r).length≤1000000):Calls Tryz.prog 43 #[.agg #[.slice A (x::r).length c],.int .i64 0] w fun e w'=>e=.returned (.tuple #[.agg #[.int .i64 x.1,.int .i64 x.2],.bool true])∧Below w.heap.size w w':=(v142 A c (x::r) 0 w h hc hl).mono fun _ _⟨he,hb⟩=>⟨by rw[he,z179 hc];rfl,hb⟩
section
variable{γ:Type}{w w':World}{r i base c n:Nat}{T T':TypeId}{en:γ→List Value}{A:Option Addr}{L:List γ}{cs:Array Value}{f:Nat×Nat}
theorem q181(W:World)(p:Addr)(v:Value):W.grownBy (W.setCell p v) (some p.block):=by have h:=Below.setCell (b_ 0 W) (p:=p) (v_ _) v;exact⟨h.os,h.tape,h.output,h.size,fun k _ hne=>aF_ W p v k (by intro e;exact hne (by rw[e]))⟩
theorem OwnG.ne_ty(h:OwnG T en n w base A c L)(hr:w.heap[r]?=some (.cells cs T' f))(hT:T≠T'):(Value.slice A L.length c).ownBlock≠some r:=by
 intro e;rcases h.2 with⟨hv,_⟩|⟨g,cap,cur,hv,_,hg,_⟩;·rw[hv]at e;simp[Value.ownBlock]at e
 ·rw[hv]at e;simp[Value.ownBlock]at e;subst e;rw[hg]at hr;injection hr with hr;injection hr with h1 h2 h3;exact hT h2
theorem OwnG.set_ty(h:OwnG T en n w base A c L)(hr:w.heap[r]?=some (.cells cs T' f))(hT:T≠T')(v:Value):OwnG T en n (w.setCell ⟨r,i,none⟩ v) base A c L:=ay_ h (q181 w ⟨r,i,none⟩ v) (.inr (h.ne_ty hr hT))
theorem w20{o:Obj}(hr:w.heap[r]?=some o)(hg:w.grownBy w' (Value.slice A L.length c).ownBlock)(hne:(Value.slice A L.length c).ownBlock≠some r):w'.heap[r]?=some o:=(hg.block r (q14 hr) (fun e=>hne e.symm)).trans hr
def Off(w w':World)(PO:Nat)(B:Option Nat):Prop:=∀(k:Nat)(o:Obj),w.heap[k]?=some o→k≠PO→B≠some k→w'.heap[k]?=some o
def w96(T ST:TypeId)(en:γ→List Value)(n:Nat)(w0 w:World)(PO:Nat)(A:Option Addr)(c:Nat)(L X:List γ)(e:Ending)(w':World):Prop:=e=.returned (.tuple #[])∧∃A' c' m,m=(L++X).length∧w'.heap[PO]?=some (.cells #[.slice A' m c'] ST (0,0))∧OwnG T en n w' w0.heap.size A' c' (L++X)∧Below w0.heap.size w0 w'∧Off w w' PO (Value.slice A L.length c).ownBlock
theorem Off.block{PO:Nat}{B:Option Nat}(h:Off w w' PO B){k:Nat}{o:Obj}(hk:w.heap[k]?=some o)(h1:k≠PO)(h2:B≠some k):w'.heap[k]?=some o:=h k o hk h1 h2
theorem z97{PO:Nat}{B:Option Nat}{w1 w2:World}{v:Value}(h1:∀(k:Nat)(o:Obj),w.heap[k]?=some o→w1.heap[k]?=some o)(h2:w1.grownBy w2 B):Off w (w2.setCell ⟨PO,i,none⟩ v) PO B:=by intro k o hk hp hb;have e1:=h1 k o hk;have e2:w2.heap[k]?=some o:=(h2.block k (q14 e1) (fun e=>hb e.symm)).trans e1;exact w15 hp e2
end
def toN(H:List (Int×Int))(cs f t:Int):Int:=match q35 H f with|some x=>if x.1=f then min (min t x.2) (f+cs)else f|none=>f
structure ToP(H:List (Int×Int))(cs f t e:Int):Prop where
 lo:f≤e
 hi:e≤t
 most:e≤f+cs
 there:∀j,f≤j→j<e→inB H j=true
 end_:e=t∨e=f+cs∨inB H e=false
theorem ToP.uniq{H:List (Int×Int)}{cs f t a b:Int}(ha:ToP H cs f t a)(hb:ToP H cs f t b):a=b:=by
 rcases Int.lt_trichotomy a b with h|h|h;·
  rcases ha.end_ with h1|h1|h1;·have:=hb.hi;omega
  ·have:=hb.most;omega
  ·have:=hb.there a ha.lo h;rw[h1]at this;cases this
 ·exact h
 ·rcases hb.end_ with h1|h1|h1;·have:=ha.hi;omega
  ·have:=ha.most;omega
  ·have:=ha.there b hb.lo h;rw[h1]at this;cases this
theorem x71{H:List (Int×Int)}(hc:Canon H)(f:Int):(q35 H f=none∧∀j,f≤j→inB H j=false)∨∃x∈H,q35 H f=some (max f x.1,x.2)∧f<x.2∧(∀j,f≤j→j<x.1→inB H j=false)∧(∀j,x.1≤j→j<x.2→inB H j=true)∧inB H x.2=false:=by
 induction H with
  |nil=>exact .inl ⟨rfl,fun j _=>rfl⟩
  |cons x r ih=>
   by_cases h:f<x.2;·
    right;refine⟨x,by simp,v101 (L:=x::r) (k:=0) (by simp) (by simp) (by simpa using h),h,?_,?_,?_⟩;·intro j _ hj;rw[P_];intro hh;have:=hc.first ((j34 _ _).1 hh);omega
    ·intro j h1 h2;rw[j34,hc.in_cons];exact .inl ⟨h1,h2⟩
    ·rw[P_];intro hh;rcases(hc.in_cons _).1 ((j34 _ _).1 hh)with h3|h3;·omega
     ·have:=hc.behind h3;omega
   ·have hstep:q35 (x::r) f=q35 r f:=by unfold q35;rw[List.find?_cons_of_neg (by simp;omega)]
    have hin:∀j,x.2≤j→inB (x::r) j=inB r j:=by intro j hj;rw[ae_,j34,j34,hc.in_cons];exact⟨fun h'=>h'.resolve_left (by omega),.inr⟩
    rcases ih hc.tail with⟨h1,h2⟩|⟨y,hy,h1,h2,h3,h4,h5⟩;·exact .inl ⟨hstep.trans h1,fun j hj=>(hin j (by omega)).trans (h2 j hj)⟩
    ·have hyb:x.2<y.1:=by have:=(af_.1 hc.sep).1 y hy;exact this
     exact .inr ⟨y,aM_ _ hy,hstep.trans h1,h2,fun j a b=>(hin j (by omega)).trans (h3 j a b),fun j a b=>(hin j (by omega)).trans (h4 j a b),(hin _ (by omega)).trans h5⟩
theorem j87{H:List (Int×Int)}(hc:Canon H){cs f t:Int}(hcs:1≤cs)(hft:f<t):ToP H cs f t (toN H cs f t):=by
 unfold toN;rcases x71 hc f with⟨h1,h2⟩|⟨x,_,h1,h2,h3,h4,h5⟩;·rw[h1];exact⟨by simp,by simp;omega,by simp;omega,fun j a b=>by simp at b;omega,.inr (.inr (h2 f (ap_ f)))⟩
 ·rw[h1];simp only;by_cases hm:max f x.1=f;·
   rw[w_ hm];have hx:x.1≤f:=by omega
   refine⟨by omega,by omega,by omega,fun j a b=>h4 j (by omega) (by omega),?_⟩;by_cases e1:min (min t x.2) (f+cs)=t;·exact .inl e1
   ·by_cases e2:min (min t x.2) (f+cs)=f+cs;·exact .inr (.inl e2)
    ·have e3:min (min t x.2) (f+cs)=x.2:=by omega
     rw[e3];exact .inr (.inr h5)
  ·rw[s_ hm];exact⟨by omega,by omega,by omega,fun j a b=>by omega,.inr (.inr (h3 f (ap_ f) (by omega)))⟩
theorem q109{H:List (Int×Int)}(hc:Canon H){cs f t e:Int}(hcs:1≤cs)(hft:f<t)(h:ToP H cs f t e):e=toN H cs f t:=h.uniq (j87 hc hcs hft)
def k58(p:w17):Prop:=(p.1≠[]∧p.2=(0,0))∨(p.1=[]∧okS p.2=true∧p.2.1<p.2.2)
def j40(p:w17):Bool:=p.1.isEmpty&&decide (p.2.2=4611686018427387904)
def j29:List w17→Prop|[]=>True|p::r=>k58 p∧(r≠[]→j40 p=false)∧j29 r
def j182(H:List (Int×Int))(cs:Int)(p:w17)(r:List w17):Option (w17×List w17):=if p.1=[]then if toN H cs p.2.1 p.2.2=p.2.1 then none else some (([],(p.2.1,toN H cs p.2.1 p.2.2)),if toN H cs p.2.1 p.2.2=p.2.2 then r else([],(toN H cs p.2.1 p.2.2,p.2.2))::r)else some ((p.1.take cs.toNat,p.2),if p.1.length≤cs.toNat then r else(p.1.drop cs.toNat,p.2)::r)
def w43(H:List (Int×Int))(cs:Int):List w17→Option (w17×List w17)|[]=>none|p::r=>j182 H cs p r
theorem j126{H:List (Int×Int)}(hc:Canon H){cs:Int}(hcs:1≤cs){L L':List w17}{p:w17}(hL:j29 L)(h:w43 H cs L=some (p,L')):j29 L'∧k58 p:=by
 cases L with
  |nil=>cases h
  |cons q r=>
   obtain⟨h1,h2,h3⟩:=hL;change j182 H cs q r=some (p,L')at h;unfold j182 at h;rcases h1 with⟨a1,a2⟩|⟨a1,a2,a3⟩;·
    rw[s_ a1]at h;injection h with h;injection h with h4 h5;have hp:k58 p:=by
     rw[←h4];refine .inl ⟨?_,a2⟩;intro e;rcases List.take_eq_nil_iff.1 e with e|e;·omega
     ·exact a1 e
    refine⟨?_,hp⟩;rw[←h5];split;·exact h3
    ·next hlt=>
      refine⟨.inl ⟨?_,a2⟩,fun _=>?_,h3⟩;·intro e;have:=bm_.1 e;exact hlt this
      ·unfold j40;rw[show(q.1.drop cs.toNat).isEmpty=false by rw[bi_];intro e;exact hlt (bm_.1 e)];rfl
   ·rw[w_ a1]at h;have hT:=j87 hc hcs a3;obtain⟨o1,o2,o3⟩:=(j19 q.2).1 a2;split at h;·cases h
    ·next hne=>
      injection h with h;injection h with h4 h5;have hlo:=hT.lo;have hhi:=hT.hi;have hp:k58 p:=by rw[←h4];exact .inr ⟨rfl,(j19 _).2 ⟨o1,by simp only;omega,by simp only;omega⟩,by simp only;omega⟩
      refine⟨?_,hp⟩;rw[←h5];split;·exact h3
      ·next hne2=>refine⟨.inr ⟨rfl,(j19 _).2 ⟨by simp only;omega,by simp only;omega,by simp only;omega⟩,by simp only;omega⟩,fun hr=>?_,h3⟩;have:=h2 hr;unfold j40 at this⊢;simpa[a1]using this
def x36(n:Int):List w17→Option (List w17)|[]=>none|[p]=>if j40 p=true∧0≤n∧n≤1099511627776∧p.2.1≤n then some (if p.2.1=n then[]else[([],(p.2.1,n))])else none|p::q::r=>(x36 n (q::r)).map (p::·)
theorem y169(he:Bool)(A1:Option Addr)(c1:Nat)(R:List (Int×Int))(A2:Option Addr)(c2:Nat)(H:List (Int×Int))(A3:Option Addr)(c3:Nat)(F:List (Int×Int))(tu fa:Bool)(ag:Int)(jo:Bool)(w:World)(h1:Sp w A1 c1 R)(h2:Sp w A2 c2 H)(h3:Sp w A3 c3 F)(k1:Canon R)(k2:Canon H)(k3:Canon F)(l1:R.length≤10000)(l2:H.length≤10000)(l3:F.length≤10000):Calls Tryz.prog 257 #[.agg #[.bool he,.slice A1 R.length c1,.slice A2 H.length c2,.slice A3 F.length c3,.bool tu,.bool fa,.int .i64 ag,.bool jo]] w (q171 (k168 R H F) w):=by
 have S1_0:=a_ (h1);have S2_0:=a_ (h2);have S3_0:=a_ (h3);clear h1 h2 h3;have K1:=a_ k1;have K2:=a_ k2;have K3:=a_ k3;clear k1 k2 k3;go_enter Tryz.func257,Tryz.ntmps257;have lw:=j121 R H 3;have tok1:True:=trivial;go_wp2_with fail;go_region_held3(fun w'=>w'.cell? ⟨w.heap.size,1,none⟩=some (.slice A1 R.length c1)∧w'.cell? ⟨w.heap.size,2,none⟩=some (.slice A2 H.length c2)∧w'.cell? ⟨w.heap.size,3,none⟩=some (.slice A3 F.length c3))(first|(refine q177 (t:=202) (f:=(0,0)) (a0:=.bool he) (a1:=.slice A1 R.length c1) (a2:=.slice A2 H.length c2) (a3:=.slice A3 F.length c3) (a4:=.bool tu) (a5:=.bool fa) (a6:=.int .i64 ag) (a7:=.bool jo) ?_;repeat(first|(with_reducible exact Bs_2.out)|(with_reducible exact Bs_1.out)|(with_reducible exact j17 rfl)|(with_reducible refine j16 ?_)|(with_reducible refine w15 (by show w.heap.size≠w.heap.size+1;omega) ?_)|(with_reducible refine q18 ?_)|(with_reducible refine j32 ?_))))(first
  |(go_at_call 289;have _tk:=tok1;clear _tk tok1;refine(z177 A1 c1 R A2 c2 H _ (by repeat(first|exact S1_0.out|refine Sp.alloc ?_ _|refine Sp.drewN ?_ _|refine Sp.drew ?_)) (by repeat(first|exact S2_0.out|refine Sp.alloc ?_ _|refine Sp.drewN ?_ _|refine Sp.drew ?_)) K1.out K2.out (by omega) (by omega)).mono ?_;rintro e1 w1⟨Au,cu,rfl,hs1,hb1⟩;have HB_1:Hid (Below w.heap.size w w1):=q12 hb1 (by repeat(first|exact b_ _ _|refine q15 ?_ _|refine x15 ?_|refine q11 ?_ _));have S1_1:Hid (Sp w1 A1 c1 (R)):=Sp.below (by repeat(first|exact S1_0.out|refine Sp.alloc ?_ _|refine Sp.drewN ?_ _|refine Sp.drew ?_)) hb1;have S2_1:Hid (Sp w1 A2 c2 (H)):=Sp.below (by repeat(first|exact S2_0.out|refine Sp.alloc ?_ _|refine Sp.drewN ?_ _|refine Sp.drew ?_)) hb1;have S3_1:Hid (Sp w1 A3 c3 (F)):=Sp.below (by repeat(first|exact S3_0.out|refine Sp.alloc ?_ _|refine Sp.drewN ?_ _|refine Sp.drew ?_)) hb1;have Bs_1:Hid (w1.heap[w.heap.size]?=some (.cells #[.bool he,.slice A1 R.length c1,.slice A2 H.length c2,.slice A3 F.length c3,.bool tu,.bool fa,.int .i64 ag,.bool jo] 202 (0,0))):=j3 hb1 (by repeat(first|exact j17 (by first|rfl|(simp;done)|(simp;omega))|refine j16 ?_|refine j32 ?_|refine q18 ?_));have Br_1:Hid (w1.heap[w.heap.size+1]?=some (.cells #[.slice none 0 0] 26 (0,0))):=j3 hb1 (by repeat(first|exact j17 (by first|rfl|(simp;done)|(simp;omega))|refine j16 ?_|refine j32 ?_|refine q18 ?_));have sz_1:w.heap.size<w1.heap.size:=q14 Bs_1.out;have rz_1:w.heap.size+1<w1.heap.size:=q14 Br_1.out;have Su_1:Hid (Sp w1 Au cu (ofOp R H 3)):=hs1;clear S1_0 S2_0 S3_0 hs1 hb1;have tok2:True:=trivial)
  |(go_at_call 289;have _tk:=tok2;clear _tk tok2;refine(z177 Au cu (ofOp R H 3) A3 c3 F _ (by repeat(first|exact Su_1.out|refine Sp.alloc ?_ _|refine Sp.drewN ?_ _|refine Sp.drew ?_)) (by repeat(first|exact S3_1.out|refine Sp.alloc ?_ _|refine Sp.drewN ?_ _|refine Sp.drew ?_)) (q174 _ _ _) K3.out (by omega) (by omega)).mono ?_;rintro e2 w2⟨Av,cv,rfl,hs2,hb2⟩;have HB_2:Hid (Below w.heap.size w w2):=q12 hb2 (by repeat(first|exact HB_1.out|refine q15 ?_ _|refine x15 ?_|refine q11 ?_ _));have S1_2:Hid (Sp w2 A1 c1 (R)):=Sp.below (by repeat(first|exact S1_1.out|refine Sp.alloc ?_ _|refine Sp.drewN ?_ _|refine Sp.drew ?_)) hb2;have S2_2:Hid (Sp w2 A2 c2 (H)):=Sp.below (by repeat(first|exact S2_1.out|refine Sp.alloc ?_ _|refine Sp.drewN ?_ _|refine Sp.drew ?_)) hb2;have S3_2:Hid (Sp w2 A3 c3 (F)):=Sp.below (by repeat(first|exact S3_1.out|refine Sp.alloc ?_ _|refine Sp.drewN ?_ _|refine Sp.drew ?_)) hb2;have Su_2:Hid (Sp w2 Au cu (ofOp R H 3)):=Sp.below (by repeat(first|exact Su_1.out|refine Sp.alloc ?_ _|refine Sp.drewN ?_ _|refine Sp.drew ?_)) hb2;have Bs_2:Hid (w2.heap[w.heap.size]?=some (.cells #[.bool he,.slice A1 R.length c1,.slice A2 H.length c2,.slice A3 F.length c3,.bool tu,.bool fa,.int .i64 ag,.bool jo] 202 (0,0))):=j3 hb2 (j3 (W:=w1) (by(repeat(first|exact b_ _ _|refine q15 ?_ _|refine x15 ?_|refine q11 ?_ _|refine w14 ?_ (by simp) _))) Bs_1.out);have Br_2:Hid (w2.heap[w.heap.size+1]?=some (.cells #[.slice none 0 0] 26 (0,0))):=j3 hb2 (j3 (W:=w1) (by(repeat(first|exact b_ _ _|refine q15 ?_ _|refine x15 ?_|refine q11 ?_ _|refine w14 ?_ (by simp) _))) Br_1.out);have sz_2:w.heap.size<w2.heap.size:=q14 Bs_2.out;have rz_2:w.heap.size+1<w2.heap.size:=q14 Br_2.out;have Sv_2:Hid (Sp w2 Av cv (k168 R H F)):=hs2;have r0_2:w2.cell? ⟨w.heap.size+1,0,none⟩=some (.slice none 0 0):=j14 Br_2.out rfl;have rf0_2:w2.frozen? ⟨w.heap.size+1,0,none⟩=false:=q13 Br_2.out;clear S1_1 S2_1 S3_1 Su_1 Bs_1 sz_1 Br_1 rz_1 hs2 HB_1 hb2;have tok3:True:=trivial));have OV:=a_ (fun h0=>Sv_2.out.off_blk h0 Br_2.out (q51 _));go_wp2_with fail;refine m_ (by simp[results,Tryz.results257,go_sem,r0_2];try rfl) rfl ?_;exact⟨Av,cv,rfl,(by repeat(first|(with_reducible exact Sv_2.out)|(with_reducible refine Sp.alloc ?_ _)|(with_reducible refine Sp.drewN ?_ _)|(with_reducible refine Sp.drew ?_)|(refine Sp.setOff ?_ OV.out _))),(by repeat(first|(with_reducible exact HB_2.out)|(with_reducible refine q15 ?_ _)|(with_reducible refine x15 ?_)|(with_reducible refine q11 ?_ _)|(with_reducible refine w14 ?_ (by first|omega|(dsimp only;omega)) _)))⟩
theorem z185(he:Bool)(A1:Option Addr)(c1:Nat)(R:List (Int×Int))(A2:Option Addr)(c2:Nat)(H:List (Int×Int))(A3:Option Addr)(c3:Nat)(F:List (Int×Int))(tu fa:Bool)(ag:Int)(jo:Bool)(w:World)(h1:Sp w A1 c1 R)(h2:Sp w A2 c2 H)(h3:Sp w A3 c3 F)(k1:Canon R)(k2:Canon H)(k3:Canon F)(l1:R.length≤10000)(l2:H.length≤10000)(l3:F.length≤10000):Calls Tryz.prog 207 #[.agg #[.bool he,.slice A1 R.length c1,.slice A2 H.length c2,.slice A3 F.length c3,.bool tu,.bool fa,.int .i64 ag,.bool jo]] w (q171 (z169 tu fa jo R H F) w):=by
 have S1_0:=a_ (h1);have S2_0:=a_ (h2);have S3_0:=a_ (h3);clear h1 h2 h3;have K1:=a_ k1;have K2:=a_ k2;have K3:=a_ k3;clear k1 k2 k3;cases tu<;>cases fa<;>cases jo;rotate_left;·rw[w172 (by rfl)];go_enter Tryz.func207,Tryz.ntmps207;go_wp2_with fail;refine m_ (by simp[results,Tryz.results207,go_sem];try rfl) rfl ?_;exact⟨none,0,rfl,Sp.nil _,by(repeat(first|exact b_ _ _|refine q15 ?_ _|refine x15 ?_|refine q11 ?_ _|refine w14 ?_ (by simp) _))⟩
 all_goals rw[j168 (by rfl)];go_enter Tryz.func207,Tryz.ntmps207;go_wp2_with fail;refine(y169 _ A1 c1 R A2 c2 H A3 c3 F _ _ _ _ _ (by repeat(first|exact S1_0.out|refine Sp.alloc ?_ _|refine Sp.drewN ?_ _|refine Sp.drew ?_)) (by repeat(first|exact S2_0.out|refine Sp.alloc ?_ _|refine Sp.drewN ?_ _|refine Sp.drew ?_)) (by repeat(first|exact S3_0.out|refine Sp.alloc ?_ _|refine Sp.drewN ?_ _|refine Sp.drew ?_)) K1.out K2.out K3.out l1 l2 l3).mono ?_;rintro e1 w1⟨Av,cv,rfl,hs1,hb1⟩;have HB_1:Hid (Below w.heap.size w w1):=q12 hb1 (by repeat(first|exact b_ _ _|refine q15 ?_ _|refine x15 ?_|refine q11 ?_ _));have S1_1:Hid (Sp w1 A1 c1 (R)):=Sp.below (by repeat(first|exact S1_0.out|refine Sp.alloc ?_ _|refine Sp.drewN ?_ _|refine Sp.drew ?_)) hb1;have S2_1:Hid (Sp w1 A2 c2 (H)):=Sp.below (by repeat(first|exact S2_0.out|refine Sp.alloc ?_ _|refine Sp.drewN ?_ _|refine Sp.drew ?_)) hb1;have S3_1:Hid (Sp w1 A3 c3 (F)):=Sp.below (by repeat(first|exact S3_0.out|refine Sp.alloc ?_ _|refine Sp.drewN ?_ _|refine Sp.drew ?_)) hb1;have Br_1:Hid (w1.heap[w.heap.size+1]?=some (.cells #[.slice none 0 0] 26 (0,0))):=j3 hb1 (by repeat(first|exact j17 (by first|rfl|(simp;done)|(simp;omega))|refine j16 ?_|refine j32 ?_|refine q18 ?_));have r0_1:w1.cell? ⟨w.heap.size+1,0,none⟩=some (.slice none 0 0):=j14 Br_1.out rfl;have rf0_1:w1.frozen? ⟨w.heap.size+1,0,none⟩=false:=q13 Br_1.out;have rz_1:w.heap.size+1<w1.heap.size:=q14 Br_1.out;have Sv_1:Hid (Sp w1 Av cv (k168 R H F)):=hs1;clear S1_0 S2_0 S3_0 hs1 hb1;have OV:=a_ (fun h0=>Sv_1.out.off_blk h0 Br_1.out (q51 _));go_wp2_with fail;refine m_ (by simp[results,Tryz.results207,go_sem,r0_1];try rfl) rfl ?_;exact⟨Av,cv,rfl,(by repeat(first|(with_reducible exact Sv_1.out)|(with_reducible refine Sp.alloc ?_ _)|(with_reducible refine Sp.drewN ?_ _)|(with_reducible refine Sp.drew ?_)|(refine Sp.setOff ?_ OV.out _))),(by repeat(first|(with_reducible exact HB_1.out)|(with_reducible refine q15 ?_ _)|(with_reducible refine x15 ?_)|(with_reducible refine q11 ?_ _)|(with_reducible refine w14 ?_ (by first|omega|(dsimp only;omega)) _)))⟩
theorem x175(A:Option Addr)(c:Nat)(L:List (Int×Int))(e:L=[])(w:World)(h:Sp w A c L):Calls Tryz.prog 43 #[.agg #[.slice A L.length c],.int .i64 0] w fun e w'=>e=.returned (.tuple #[.agg #[.int .i64 0,.int .i64 0],.bool false])∧Below w.heap.size w w':=by subst e;exact q182 A c w h
theorem y175(A:Option Addr)(c:Nat)(L:List (Int×Int))(x1 x2:Int)(r:List (Int×Int))(e:L=(x1,x2)::r)(w:World)(h:Sp w A c L)(hc:Canon L)(hl:L.length≤1000000):Calls Tryz.prog 43 #[.agg #[.slice A L.length c],.int .i64 0] w fun e w'=>e=.returned (.tuple #[.agg #[.int .i64 x1,.int .i64 x2],.bool true])∧Below w.heap.size w w':=by subst e;exact q180 A c (x1,x2) r w h hc hl
theorem x177(L:List (Int×Int)):L=[]∨∃x1 x2 r,L=(x1,x2)::r:=by cases L with|nil=>exact .inl rfl|cons x r=>exact .inr ⟨x.1,x.2,r,rfl⟩
theorem k172{he tu fa jo:Bool}{ag:Int}{R H F:List (Int×Int)}(e:R=[]):w168 he tu fa jo ag R H F=6:=by subst e;rfl
theorem y171{he tu fa jo:Bool}{ag:Int}{R H F:List (Int×Int)}{x1 x2:Int}{r:List (Int×Int)}(e:R=(x1,x2)::r):w168 he tu fa jo ag R H F=if(!(z169 tu fa jo R H F).isEmpty&&!he)=true then(if 0<ag then 4 else 5)else if inB H x1=true then 1 else if inB F x1=true then 2 else if(z169 tu fa jo R H F).isEmpty=true then 3 else 5:=by subst e;rfl
theorem q179{tu fa jo:Bool}{x1 x2:Int}{r R H F:List (Int×Int)}(e:R=(x1,x2)::r)(hc:Canon R)(h1:inB H x1=false)(h2:inB F x1=false):inB (z169 tu fa jo R H F) x1=!(z169 tu fa jo R H F).isEmpty:=by subst e;exact z180 hc h1 h2
