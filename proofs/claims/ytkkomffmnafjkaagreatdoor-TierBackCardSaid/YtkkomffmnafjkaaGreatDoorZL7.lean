/- Contracts of the document's Counts and with. Contract of the document's Shape. -/
import Derived.Test.YtkkomffmnafjkaaGreatDoorZJ9
import Derived.Test.YtkkomffmnafjkaaGreatDoorZI20
import Derived.Test.YtkkomffmnafjkaaGreatDoorZI14
import Derived.Test.YtkkomffmnafjkaaGreatDoorZI5
import Derived.Deep.RegionHeld3
import Derived.Lib.QuietBelow
import Derived.Lib.SlBytesConst
import Derived.Test.YtkkomffmnafjkaaGreatDoorZB10
import Derived.Test.YtkkomffmnafjkaaGreatDoorZD1
import Derived.IntWalk
import Derived.Deep.DeepCutAuto
import Derived.Test.YtkkomffmnafjkaaGreatDoorZT11B
set_option maxHeartbeats 16000000
set_option maxRecDepth 100000
set_option linter.all false
namespace Go.Proofs.YtkkomffmnafjkaaGreatDoor
open Go.RowKit
theorem SpT.only{α:Type}{T T':TypeId}{en:α→List Value}{n:Nat}{w w':World}{A:Option Addr}{c:Nat}{L:List α}{b:Nat}{old:Array Value}{f:Nat×Nat}(h:SpT T en n w A c L)(hne':∀k,k≠b→w'.heap[k]?=w.heap[k]?)(hb:w.heap[b]?=some (.cells old T' f))(hT:T≠T'):SpT T en n w' A c L:=by
 have hne:∀a,A=some a→a.block≠b:=fun a ha=>by obtain⟨cs',f',hc⟩:=h.ty a ha;exact k36 hc hb hT
 refine⟨⟨h.sp.le,h.sp.nil_,fun k hk=>?_⟩,fun a ha=>?_⟩;·
  obtain⟨b',off,e,hl,h1⟩:=h.sp.at' k hk;have hn:=hne _ e;have hh:w'.heap[b']?=w.heap[b']?:=hne' _ hn;refine⟨b',off,e,?_,fun j u hj=>(k72 hh).trans (h1 j u hj)⟩;rcases Nat.lt_or_ge b' w'.heap.size with h2|h2;·exact h2
  ·rw[Array.getElem?_eq_none h2,Array.getElem?_eq_getElem hl]at hh;cases hh
 ·obtain⟨cs',f',hc⟩:=h.ty a ha;exact⟨cs',f',(hne' _ (hne a ha)).trans hc⟩
structure ShapeSt(w:World)(B1 B2 B3:Nat)(RC MC CC AC:Array Value)(BA:Nat)(wx:World):Prop where
 rb:wx.heap[w.heap.size]?=some (.cells RC 29 (0,0))
 mb:wx.heap[B1]?=some (.cells MC 45 (0,0))
 cb:wx.heap[B2]?=some (.cells CC 33 (0,0))
 zb:wx.heap[B3]?=some (.cells q33 74 (0,0))
 ab:wx.heap[BA]?=some (.cells AC 74 (0,0))
 ne:w.heap.size<BA∧B1<BA∧B2<BA∧B3<BA∧w.heap.size≤B3
 bel:Below w.heap.size w wx
section
variable{w wx w':World}{RC MC CC AC:Array Value}{BA B1 B2 B3:Nat}
theorem ShapeSt.below(h:ShapeSt w B1 B2 B3 RC MC CC AC BA wx)(hb:Below wx.heap.size wx w'):ShapeSt w B1 B2 B3 RC MC CC AC BA w':=⟨j3 hb h.rb,j3 hb h.mb,j3 hb h.cb,j3 hb h.zb,j3 hb h.ab,h.ne,q12 hb h.bel⟩
theorem ShapeSt.set(h:ShapeSt w B1 B2 B3 RC MC CC AC BA wx)(i:Nat)(v:Value):ShapeSt w B1 B2 B3 RC MC CC (AC.setIfInBounds i v) BA (wx.setCell ⟨BA,i,none⟩ v):=by obtain⟨h0,h1,h2,h3,h4⟩:=h.ne;exact⟨z11 (Nat.ne_of_lt h0) h.rb,z11 (Nat.ne_of_lt h1) h.mb,z11 (Nat.ne_of_lt h2) h.cb,z11 (Nat.ne_of_lt h3) h.zb,j15 h.ab,h.ne,w14 h.bel (Nat.le_of_lt h0) _⟩
theorem ShapeSt.drew(h:ShapeSt w B1 B2 B3 RC MC CC AC BA wx):ShapeSt w B1 B2 B3 RC MC CC AC BA wx.drew:=⟨h.rb,h.mb,h.cb,h.zb,h.ab,h.ne,x15 h.bel⟩
theorem SpT.built{α:Type}{en:α→List Value}{n:Nat}{T:TypeId}(hl:∀x,(en x).length=n)(w:World)(L:List α)(cs:Array Value)(hcs:cs.toList=w180 en L):SpT T en n (w.alloc (.cells cs T)) (some ⟨w.heap.size,0,none⟩) L.length L:=⟨SpG.built hl w L cs hcs T,fun a ha=>⟨cs,(0,0),by injection ha with ha;subst ha;exact j17 rfl⟩⟩
end
end Go.Proofs.YtkkomffmnafjkaaGreatDoor
