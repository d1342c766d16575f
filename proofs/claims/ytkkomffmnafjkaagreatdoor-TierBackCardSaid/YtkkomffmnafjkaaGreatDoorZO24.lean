/- Sessions that meet a version: what is told, and how they lie then. -/
import Derived.Test.YtkkomffmnafjkaaGreatDoorZO11
import Derived.Test.YtkkomffmnafjkaaGreatDoorZI20
import Derived.Test.YtkkomffmnafjkaaGreatDoorZI5
import Derived.Test.YtkkomffmnafjkaaGreatDoorZO8
import Derived.Test.YtkkomffmnafjkaaGreatDoorZB10
import Derived.Test.YtkkomffmnafjkaaGreatDoorZD1
import Derived.IntWalk
import Derived.Test.YtkkomffmnafjkaaGreatDoorZM1
import Derived.Test.YtkkomffmnafjkaaGreatDoorZL7
set_option maxHeartbeats 16000000
set_option maxRecDepth 100000
set_option linter.all false
namespace Go.Proofs.YtkkomffmnafjkaaGreatDoor
open Go.RowKit
theorem SpT.mut_ty{α:Type}{T T':TypeId}{en:α→List Value}{n:Nat}{w w':World}{A:Option Addr}{c:Nat}{L:List α}{b:Nat}{cs:Array Value}{f:Nat×Nat}(h:SpT T en n w A c L)(hb:w.heap[b]?=some (.cells cs T' f))(hT:T≠T')(hm:Mut [b] w w'):SpT T en n w' A c L:=by
 have hne:∀a,A=some a→a.block∉[b]:=fun a ha=>by obtain⟨cs',f',hc⟩:=h.ty a ha;simpa using k36 hc hb hT
 exact⟨h.sp.mut (fun _=>hne) hm,fun a ha=>by obtain⟨cs',f',hc⟩:=h.ty a ha;exact⟨cs',f',hm.blk _ _ hc (hne a ha)⟩⟩
theorem SpT.mut{α:Type}{T:TypeId}{en:α→List Value}{n:Nat}{w w':World}{A:Option Addr}{c:Nat}{L:List α}{S:List Nat}(h:SpT T en n w A c L)(hne:∀a,A=some a→a.block∉S)(hm:Mut S w w'):SpT T en n w' A c L:=⟨h.sp.mut (fun _=>hne) hm,fun a ha=>by obtain⟨cs',f',hc⟩:=h.ty a ha;exact⟨cs',f',hm.blk _ _ hc (hne a ha)⟩⟩
theorem w49{α:Type}{T T':TypeId}{en:α→List Value}{n:Nat}{w:World}{A:Option Addr}{c:Nat}{L:List α}{b:Nat}{cs:Array Value}{f:Nat×Nat}(h:SpT T en n w A c L)(hb:w.heap[b]?=some (.cells cs T' f))(hT:T≠T'):∀a,A=some a→a.block≠b:=fun a ha=>by obtain⟨cs',f',hc⟩:=h.ty a ha;exact k36 hc hb hT
theorem q136{w w':World}{b:Nat}{cs:Array Value}{T:TypeId}(h:Stored w b cs T w'):Mut [b] w w':=by obtain⟨g1,g2,g3,g4,_⟩:=q40 h;exact⟨g1,g2,g3,g4,fun k o hk hn=>(h.ne k (by simpa using hn)).trans hk⟩
end Go.Proofs.YtkkomffmnafjkaaGreatDoor
