/- The walk of ShapeSeeds. The walk of ShapeBare. -/
import Derived.Test.YtkkomffmnafjkaaGreatDoorZO11
import Derived.Test.YtkkomffmnafjkaaGreatDoorZI20
import Derived.Test.YtkkomffmnafjkaaGreatDoorZB10
import Derived.Test.YtkkomffmnafjkaaGreatDoorZD1
import Derived.IntWalk
import Derived.Test.YtkkomffmnafjkaaGreatDoorZM1
import Derived.Deep.RegionHeld3
import Derived.BigQuiet
import Derived.Lib.QuietBelow
import Derived.Test.YtkkomffmnafjkaaGreatDoorZQ1
set_option maxHeartbeats 16000000
set_option maxRecDepth 100000
set_option linter.all false
namespace Go.Proofs.YtkkomffmnafjkaaGreatDoor
open Go.RowKit Go.Sort
theorem SpT.stored{α:Type}{T T':TypeId}{en:α→List Value}{n:Nat}{w w':World}{A:Option Addr}{c:Nat}{L:List α}{b:Nat}{cs old:Array Value}{f:Nat×Nat}(h:SpT T en n w A c L)(hs:Stored w b cs T' w')(hb:w.heap[b]?=some (.cells old T' f))(hT:T≠T'):SpT T en n w' A c L:=by
 have hne:∀a,A=some a→a.block≠b:=fun a ha=>by obtain⟨cs',f',hc⟩:=h.ty a ha;exact k36 hc hb hT
 refine⟨⟨h.sp.le,h.sp.nil_,fun k hk=>?_⟩,fun a ha=>?_⟩;·
  obtain⟨b',off,e,hl,h1⟩:=h.sp.at' k hk;have hn:=hne _ e;have hh:w'.heap[b']?=w.heap[b']?:=hs.ne _ hn;refine⟨b',off,e,?_,fun j u hj=>(k72 hh).trans (h1 j u hj)⟩;rcases Nat.lt_or_ge b' w'.heap.size with h2|h2;·exact h2
  ·rw[Array.getElem?_eq_none h2,Array.getElem?_eq_getElem hl]at hh;cases hh
 ·obtain⟨cs',f',hc⟩:=h.ty a ha;exact⟨cs',f',(hs.ne _ (hne a ha)).trans hc⟩
theorem FineP.none{r r':ReqL}{m:MetaL}{o:Int}(h:FineP r m o)(hL:r'.L=[]):FineP r' m o:=⟨by rw[hL];decide,by rw[hL];rfl,h.ok,h.out⟩
section
variable{gs:List (Value→World→Prop)}{base:Nat}{T:TypeId}{Z:Array Value}{j:Nat}{g:Value→World→Prop}{v:Value}{w:World}
theorem FG.have(hj:gs[j]?=some g)(h:g v w):FG gs base T Z j v w:=by unfold FG;rw[hj];exact h
theorem FG.get(hj:gs[j]?=some g)(h:FG gs base T Z j v w):g v w:=by unfold FG at h;rw[hj]at h;exact h
theorem FG.blk(hj:gs[j]?=none)(h:FG gs base T Z j v w):∃b,base≤b∧v=.pointer (some ⟨b,0,none⟩)∧w.heap[b]?=some (.cells Z T (0,0)):=by unfold FG at h;rw[hj]at h;exact h
end
end Go.Proofs.YtkkomffmnafjkaaGreatDoor
