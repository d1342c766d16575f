/- A range over a function whose iterator keeps its place in cells of its own: .. -/
import Derived.RangeFuncNested
import Derived.RangeFuncBound
import Derived.Shelf.RegionOpen
import Derived.OwnWalkIn
import Derived.LoopNIn
import Derived.LoopIn
import Derived.Test.YtkkomffmnafjkaaGreatDoorZS7
set_option maxHeartbeats 16000000
set_option maxRecDepth 100000
set_option linter.all false
namespace Go.Proofs.YtkkomffmnafjkaaGreatDoor
abbrev aH_:=@Go.World.putObj_heap_other
open Go Go.RowKit
structure Books(D l:Nat)(r:Loop)(W:World):Prop where
 rec_:W.heap[l]?=some (.loop r)
 def_:W.heap[D]?=some (.deferred (some []))
theorem Books.keep{D l:Nat}{r:Loop}{W W':World}(h:Books D l r W)(k:KeepsOthers W W'):Books D l r W':=⟨k.same _ _ h.rec_ rfl,k.same _ _ h.def_ rfl⟩
theorem Books.turn{D l:Nat}{r:Loop}{W:World}(h:Books D l r W)(hne:D≠l)(r':Loop):Books D l r' (W.putObj l (.loop r')):=⟨World.putObj_heap_same (X_.1 h.rec_).1,(aH_ hne).trans h.def_⟩
def q186{α:Type}(Kp:World→World→Prop)(I:List α→World→Prop)(Ix:Code→List α→World→Prop)(xs:List α)(W:World):Exit→Act→World→Prop|.normal,_,W'=>KeepsOthers W W'∧Kp W W'∧I xs W'|.ret,_,W'=>KeepsOthers W W'∧Ix .ret xs W'|.exit id,_,W'=>KeepsOthers W W'∧Ix (.exit id) xs W'|.goto t,_,W'=>KeepsOthers W W'∧Ix (.goto t) xs W'|.panic _,_,_=>False|.outgrown,_,_=>False
def Stands{β:Type}(B:Nat)(I:β→World→Prop):Prop:=∀s W l o o',I s W→B≤l→W.heap[l]?=some o→o.isCells=false→I s (W.putObj l o')
def Serves{α:Type}(F:Fence)(n:Nat)(P:Program)(gf:Nat)(lb:Array Value)(encs:α→Array Value)(Ok:List α→α→Prop)(Kp:World→World→Prop)(I:List α→World→Prop)(Ix:Code→List α→World→Prop)(S:List α→Prop)(W:World):Prop:=∀(l:Nat)(B:World→Prop)(Bx:Code→World→Prop),(∀A A',KeepsOthers A A'→B A→B A')→(∀pre x A,Ok pre x→I pre A→B A→YieldAt F (n-1) P l (encs x) A fun e A'=>(e=.returned (.bool true)∧I (pre++[x]) A'∧B A'∧Kp A A')∨(e=.returned (.bool false)∧∃c,Ix c (pre++[x]) A'∧Bx c A'))→I [] W→B W→CallsIn F n P gf (#[.func (.yield l) #[] #[]]++lb) W fun e A'=>(∃v,e=.returned v)∧((∃xs,S xs∧I xs A'∧B A')∨(∃pre c,(∃suf,S (pre++suf))∧Ix c pre A'∧Bx c A'))
variable{F:Fence}{n:Nat}{P:Program}
attribute[local go_sem]Oper.semAt_some
def KeepsBoxes(bs:Nat)(W W':World):Prop:=∀b,bs≤b→b<bs+3→W'.heap[b]?=W.heap[b]?
theorem KeepsBoxes.refl(bs:Nat)(W:World):KeepsBoxes bs W W:=fun _ _ _=>rfl
theorem KeepsBoxes.trans{bs:Nat}{A B C:World}(h:KeepsBoxes bs A B)(k:KeepsBoxes bs B C):KeepsBoxes bs A C:=fun b h1 h2=>(k b h1 h2).trans (h b h1 h2)
theorem KeepsBoxes.put{bs:Nat}{W:World}{l:Nat}(hl:bs+3≤l)(o:Obj):KeepsBoxes bs W (W.putObj l o):=fun b _ h2=>aH_ (by omega)
structure SplitAt(bs:Nat)(rest:List UInt8)(W:World):Prop where
 s:W.heap[bs]?=some (.cells #[.string ⟨rest.toArray⟩] 9 (0,0))
 sep:W.heap[bs+1]?=some (.cells #[.string ⟨#[44]⟩] 9 (0,0))
 save:W.heap[bs+2]?=some (.cells #[.int .i64 0] 3 (0,0))
theorem SplitAt.keep{bs:Nat}{rest:List UInt8}{W W':World}(h:SplitAt bs rest W)(k:KeepsBoxes bs W W'):SplitAt bs rest W':=⟨(k _ (by omega) (by omega)).trans h.s,(k _ (by omega) (by omega)).trans h.sep,(k _ (by omega) (by omega)).trans h.save⟩
theorem SplitAt.next{bs:Nat}{rest:List UInt8}{W:World}(h:SplitAt bs rest W)(r:List UInt8):SplitAt bs r (W.setCell ⟨bs,0,none⟩ (.string ⟨r.toArray⟩)):=⟨by simp[World.setCell,bC_,h.s],(aG_ W _ _ _ (by simp)).trans h.sep,(aG_ W _ _ _ (by simp)).trans h.save⟩
def j131(bs:Nat)(W:World):Nat:=match W.cell? ⟨bs,0,none⟩with|some (Value.string s)=>s.size|_=>0
theorem SplitAt.cell{bs:Nat}{rest:List UInt8}{W:World}(h:SplitAt bs rest W):W.cell? ⟨bs,0,none⟩=some (.string ⟨rest.toArray⟩):=ad_ h.s 0
theorem SplitAt.len{bs:Nat}{rest:List UInt8}{W:World}(h:SplitAt bs rest W):j131 bs W=rest.length:=by unfold j131;rw[h.cell];exact q19 rest
variable{F:Fence}{n:Nat}{P:Program}
theorem w173{α:Type}{g:Operand}{ps:Array Tmp}{assign body:Code}{Q:Exit→Act→World→Prop}{a:Act}{w:World}(hro:F.round=none)(h1:1≤n){gf:Nat}{lb:Array Value}(hg:a.eval g=.func (.func gf) #[] lb)(hFg:F.fn gf)(eg:∀args w,(callFunc gf args).run P w=.ok (.enter gf args) w){encs:α→Array Value}{Ok:List α→α→Prop}{Kp:World→World→Prop}(hps:∀x,(encs x).size=ps.size)(hKt:∀{A B C:World},Kp A B→Kp B C→Kp A C)(hKb:∀(W:World)(l:Nat)(o o':Obj),w.heap.size≤l→W.heap[l]?=some o→o.isCells=false→Kp W (W.putObj l o'))(I:List α→World→Prop)(Ix:Code→List α→World→Prop)(hI:Stands w.heap.size I)(hIx:∀c,Stands w.heap.size (Ix c)){S:List α→Prop}(h0:∀o o',I [] ((w.alloc o).alloc o'))(hserves:∀W,I [] W→Below w.heap.size w W→Serves F (n-1) P gf lb encs Ok Kp I Ix S W)(J:List α→α→Act→World→Prop)(hJ:∀pre x a' W l o o',J pre x a' W→w.heap.size≤l→W.heap[l]?=some o→o.isCells=false→J pre x a' (W.putObj l o'))(hassign:∀(l:Nat)(pre:List α)(x:α)(W:World),Ok pre x→I pre W→assign.wpIn (F.inRound l) (n-1-1) P (Exit.then (fun a' W'=>J pre x a' W'∧KeepsOthers W W'∧Kp W W') (fun _ _ _=>False)) {tmps:=(ps.zip (encs x)).foldl (fun t(p,v)=>t.setIfInBounds p v) a.tmps,defers:=[]} W)(hbody:∀(l:Nat)(pre:List α)(x:α)(a':Act)(W:World),J pre x a' W→body.wpIn (F.inRound l) (n-1-1) P (q186 Kp I Ix (pre++[x]) W) a' W)(hdone:∀(D:Nat)(xs:List α)(W:World),w.heap.size≤D→S xs→I xs W→W.heap[D]?=some (.deferred (some []))→Q .normal {a with defers:={target:=.collected D,args:=#[]}::a.defers} W)(hstop:∀(D:Nat)(c:Code)(pre:List α)(W:World),w.heap.size≤D→(∃suf,S (pre++suf))→Ix c pre W→W.heap[D]?=some (.deferred (some []))→c.wpIn F n P Q {a with defers:={target:=.collected D,args:=#[]}::a.defers} W):(Code.rangeFunc g ps assign body).wpIn F n P Q a w:=by
 refine wpIn_rangeFunc fun fn hfn=>?_;rw[hro];obtain⟨rc,hrc⟩:∃rc:LoopState→Option Code→Loop,rc=fun st pe=>{state:=st,pending:=pe,fn,tmps:=a.tmps,params:=ps,assign,body,defers:=w.heap.size}:=⟨_,rfl⟩;have hDl:w.heap.size≠w.heap.size+1:=by omega
 obtain⟨W1,hW1⟩:∃W1,(w.alloc (.deferred (some []))).alloc (.loop (rc .ready none))=W1:=⟨_,rfl⟩;have hB1:Books w.heap.size (w.heap.size+1) (rc .ready none) W1:=by rw[←hW1];refine⟨?_,(Below.heap_alloc _ _ _ (by simp)).trans (World.alloc_heap_new w _)⟩;have:=World.alloc_heap_new (w.alloc (.deferred (some []))) (.loop (rc .ready none));rwa[World.size_alloc]at this
 have hI1:I [] W1:=by rw[←hW1];exact h0 _ _
 have hbel1:Below w.heap.size w W1:=by rw[←hW1];exact((b_ _ w).alloc (t_ _) _).alloc (by simp) _
 refine⟨w.heap.size+1,[{target:=.collected w.heap.size,args:=#[]}],W1,{target:=.fn (.func gf) lb,args:=#[.func (.yield (w.heap.size+1)) #[] #[]]},W1,gf,#[.func (.yield (w.heap.size+1)) #[] #[]]++lb,W1,?_,?_,?_,?_,fun _=>h1,?_⟩;·rw[←hW1,hrc];exact run_enterLoop_outer _ _ _ _ _
 ·simp only[resolve,hg];simp[go_sem]
 ·intro f' hf';simp[Target.leads]at hf';subst hf';exact hFg
 ·simp[invoke,go_sem,eg]
 have fin:∀(jump:Option Code)(W3:World),Books w.heap.size (w.heap.size+1) {rc .ready none with state:=.busy} W3→(Instr.endRound (w.heap.size+1) jump).run P W3=.ok (.bool jump.isNone) (W3.putObj (w.heap.size+1) (.loop (rc (if jump.isNone then .ready else .done) jump))):=fun jump W3 hb=>by have:=run_endRound (P:=P) jump hb.rec_;rw[hrc]at this⊢;exact this
 refine((hserves W1 hI1 hbel1) (w.heap.size+1) (Books w.heap.size (w.heap.size+1) (rc .ready none)) (fun c=>Books w.heap.size (w.heap.size+1) (rc .done (some c))) (fun A A' hk hb=>hb.keep hk) ?_ hI1 hB1).mono ?_;·
  rintro pre x W hok hi hb;have hy:=run_yield (P:=P) (args:=encs x) hb.rec_ (by rw[hrc];exact hps x);rw[hrc]at hy;refine⟨fn,_,assign,body,hy,roundIn_of_wpIn hfn (wpIn_mono (hassign (w.heap.size+1) pre x W hok hi) ?_)⟩;rintro e0 a0 W0 h00;obtain⟨rfl,h00⟩:e0=.normal∧(J pre x a0 W0∧KeepsOthers W W0∧Kp W W0):=by cases e0<;>first|exact⟨rfl,h00⟩|exact h00.elim
  obtain⟨hj0,hko0,hkp0⟩:=h00;have hb0:=hb.keep hko0;refine⟨_,run_beginRound hb0.rec_ (by rw[hrc]),?_⟩;have hb2:=hb0.turn hDl {rc .ready none with state:=.busy};refine wpIn_mono (hbody _ pre x _ _ (hJ _ _ _ _ _ _ _ hj0 (by omega) hb0.rec_ rfl)) ?_;have hw2:Kp W (W0.putObj (w.heap.size+1) (.loop {rc .ready none with state:=.busy})):=hKt hkp0 (hKb _ _ _ _ (by omega) hb0.rec_ rfl);rintro e a3 W3 hp;cases e with
   |normal=>obtain⟨hk3,hkp3,hi3⟩:=hp;have hb3:=hb2.keep hk3;exact⟨_,_,fin none W3 hb3,.inl ⟨rfl,hI _ _ _ _ _ hi3 (by omega) hb3.rec_ rfl,hb3.turn hDl _,hKt (hKt hw2 hkp3) (hKb _ _ _ _ (by omega) hb3.rec_ rfl)⟩⟩
   |ret=>obtain⟨hk3,hi3⟩:=hp;have hb3:=hb2.keep hk3;exact⟨_,_,fin (some .ret) W3 hb3,.inr ⟨rfl,.ret,hIx _ _ _ _ _ _ hi3 (by omega) hb3.rec_ rfl,hb3.turn hDl _⟩⟩
   |exit id=>obtain⟨hk3,hi3⟩:=hp;have hb3:=hb2.keep hk3;exact⟨_,_,fin (some (.exit id)) W3 hb3,.inr ⟨rfl,.exit id,hIx _ _ _ _ _ _ hi3 (by omega) hb3.rec_ rfl,hb3.turn hDl _⟩⟩
   |goto t=>obtain⟨hk3,hi3⟩:=hp;have hb3:=hb2.keep hk3;exact⟨_,_,fin (some (.goto t)) W3 hb3,.inr ⟨rfl,.goto t,hIx _ _ _ _ _ _ hi3 (by omega) hb3.rec_ rfl,hb3.turn hDl _⟩⟩
   |panic ch=>exact hp.elim
   |outgrown=>exact hp.elim
 ·rintro e W2⟨⟨v,rfl⟩,(⟨xs,hS,hi,hb⟩|⟨pre,c,hsuf,hi,hb⟩)⟩;·have he:=run_endLoop (P:=P) hb.rec_ (by rw[hrc];simp);rw[hrc]at he;exact⟨none,_,he,hdone _ xs _ (t_ _) hS (hI _ _ _ _ _ hi (by omega) hb.rec_ rfl) ((aH_ hDl).trans hb.def_)⟩
  ·have he:=run_endLoop (P:=P) hb.rec_ (by rw[hrc];simp);rw[hrc]at he;exact⟨some c,_,he,hstop _ c pre _ (t_ _) hsuf (hIx _ _ _ _ _ _ hi (by omega) hb.rec_ rfl) ((aH_ hDl).trans hb.def_)⟩
