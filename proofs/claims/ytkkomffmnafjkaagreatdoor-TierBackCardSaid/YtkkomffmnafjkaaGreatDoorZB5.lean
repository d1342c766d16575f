/- Contracts of the reference's insert, ends and of: the pieces between all .. -/
import Derived.Test.YtkkomffmnafjkaaGreatDoorZB4
import Derived.Test.YtkkomffmnafjkaaGreatDoorZM1
import Derived.Maps.AppendAt
import Derived.RegionTactic
import Derived.OwnWalk
set_option maxHeartbeats 16000000
set_option maxRecDepth 100000
set_option linter.all false
namespace Go.Proofs.YtkkomffmnafjkaaGreatDoor
open Go.RowKit
def SpI(w:World)(A:Option Addr)(c:Nat)(l:List Int):Prop:=l.length≤c∧(0<l.length→∃b off,A=some ⟨b,off,none⟩∧b<w.heap.size∧∀i x,l[i]?=some x→w.cell? ⟨b,off+i,none⟩=some (.int .i64 x))
theorem SpI.below{w w':World}{A:Option Addr}{c:Nat}{l:List Int}(h:SpI w A c l)(hb:Below w.heap.size w w'):SpI w' A c l:=⟨h.1,fun hn=>by obtain⟨b,off,e,hlt,hc⟩:=h.2 hn;exact⟨b,off,e,Nat.lt_of_lt_of_le hlt hb.size,fun i x hx=>(hb.cell (p:=⟨b,off+i,none⟩) hlt).trans (hc i x hx)⟩⟩
theorem SpI.at_{w:World}{A:Option Addr}{c:Nat}{l:List Int}(h:SpI w A c l){k:Nat}(hk:k<l.length):∃b off,A=some ⟨b,off,none⟩∧b<w.heap.size∧w.cell? ⟨b,off+k,none⟩=some (.int .i64 l[k]):=by obtain⟨b,off,e,hb,hc⟩:=h.2 (by omega);exact⟨b,off,e,hb,hc k _ (List.getElem?_eq_getElem hk)⟩
def OwnI(w:World)(base:Nat)(A:Option Addr)(c:Nat)(l:List Int):Prop:=w.ownsRow base 2 1 (.slice A l.length c) l.length (l.map (Value.int .i64))
theorem OwnI.nil(w:World)(base:Nat):OwnI w base none 0 []:=World.ownsRow_nil w base _ _
theorem OwnI.alloc{w:World}{base:Nat}{A:Option Addr}{c:Nat}{l:List Int}(h:OwnI w base A c l)(o:Obj):OwnI (w.alloc o) base A c l:=World.ownsRow.alloc h o
theorem OwnI.drewN{w:World}{base:Nat}{A:Option Addr}{c:Nat}{l:List Int}(h:OwnI w base A c l)(n:Nat):OwnI (w.drewN n) base A c l:=h
theorem OwnI.drew{w:World}{base:Nat}{A:Option Addr}{c:Nat}{l:List Int}(h:OwnI w base A c l):OwnI w.drew base A c l:=World.ownsRow.drew h
theorem OwnI.below{w w':World}{base:Nat}{A:Option Addr}{c:Nat}{l:List Int}(h:OwnI w base A c l)(hb:Below w.heap.size w w'):OwnI w' base A c l:=World.ownsRow.kept (row:=none) h ⟨hb.os,hb.tape,hb.output,hb.size,fun k hk _=>hb.block k hk⟩ (by cases A<;>simp[Value.ownBlock])
theorem OwnI.base_le{w:World}{base base':Nat}{A:Option Addr}{c:Nat}{l:List Int}(h:OwnI w base A c l)(hb:base'≤base):OwnI w base' A c l:=by
 refine⟨h.1,?_⟩;rcases h.2 with h2|⟨g,cap,cur,hv,hg,r⟩;·exact .inl h2
 ·exact .inr ⟨g,cap,cur,hv,by omega,r⟩
theorem OwnI.at_{w:World}{base:Nat}{A:Option Addr}{c:Nat}{l:List Int}(h:OwnI w base A c l)(hn:0<l.length):∃g,A=some ⟨g,0,none⟩∧base≤g∧g<w.heap.size:=by obtain⟨g,cap,hv,hb,hlt⟩:=World.ownsRow.form h hn;injection hv with hA;exact⟨g,hA,hb,hlt⟩
theorem OwnI.cell{w:World}{base g c:Nat}{l:List Int}(h:OwnI w base (some ⟨g,0,none⟩) c l){k:Nat}(hk:k<l.length):w.cell? ⟨g,k,none⟩=some (.int .i64 l[k]):=by rw[World.ownsRow.cellAt h k (by omega)];simp[hk]
theorem OwnI.kept{w w':World}{base g c:Nat}{l:List Int}{row:Option Nat}(h:OwnI w base (some ⟨g,0,none⟩) c l)(hg:w.grownBy w' row)(hne:row≠some g):OwnI w' base (some ⟨g,0,none⟩) c l:=World.ownsRow.kept h hg (.inr (fun e=>hne (by rw[←e];rfl)))
theorem OwnI.set{w:World}{base g c b o:Nat}{l:List Int}(h:OwnI w base (some ⟨g,0,none⟩) c l)(hne:b≠g)(u:Value):OwnI (w.setCell ⟨b,o,none⟩ u) base (some ⟨g,0,none⟩) c l:=h.kept (row:=some b) ⟨rfl,rfl,rfl,by simp,fun k _ hk=>heap_setCell_other w ⟨b,o,none⟩ k u (fun e=>hk (by simp[e]))⟩ (fun e=>hne (by injection e))
end Go.Proofs.YtkkomffmnafjkaaGreatDoor
