/- A range over a function whose iterator keeps its place in cells of its own: .. -/
import Derived.RangeFuncNested
import Derived.RangeFuncBound
import Derived.RangeFuncCalls
import Derived.RangeFuncLeaves
import Derived.Shelf.Abstract
import Derived.Shelf.RegionOpen
import Derived.WalkKit
import Derived.OwnWalkIn
import Derived.TacticsInMore
import Derived.LoopNIn
import Derived.LoopIn
import Derived.Test.YtkkomffmnafjkaaGreatDoorZS7
set_option maxHeartbeats 16000000
set_option maxRecDepth 100000
set_option linter.all false
namespace Go.Proofs.YtkkomffmnafjkaaGreatDoor
open Go Go.RowKit
structure Books(D l:Nat)(r:Loop)(W:World):Prop where
 rec_:W.heap[l]?=some (.loop r)
 def_:W.heap[D]?=some (.deferred (some []))
theorem Books.keep{D l:Nat}{r:Loop}{W W':World}(h:Books D l r W)(k:KeepsOthers W W'):Books D l r W':=⟨k.same _ _ h.rec_ rfl,k.same _ _ h.def_ rfl⟩
variable{F:Fence}{n:Nat}{P:Program}
attribute[local go_sem]Oper.semAt_some
def KeepsBoxes(bs:Nat)(W W':World):Prop:=∀b,bs≤b→b<bs+3→W'.heap[b]?=W.heap[b]?
theorem KeepsBoxes.refl(bs:Nat)(W:World):KeepsBoxes bs W W:=fun _ _ _=>rfl
theorem KeepsBoxes.trans{bs:Nat}{A B C:World}(h:KeepsBoxes bs A B)(k:KeepsBoxes bs B C):KeepsBoxes bs A C:=fun b h1 h2=>(k b h1 h2).trans (h b h1 h2)
theorem KeepsBoxes.put{bs:Nat}{W:World}{l:Nat}(hl:bs+3≤l)(o:Obj):KeepsBoxes bs W (W.putObj l o):=fun b _ h2=>World.putObj_heap_other (by omega)
structure SplitAt(bs:Nat)(rest:List UInt8)(W:World):Prop where
 s:W.heap[bs]?=some (.cells #[.string ⟨rest.toArray⟩] 9 (0,0))
 sep:W.heap[bs+1]?=some (.cells #[.string ⟨#[44]⟩] 9 (0,0))
 save:W.heap[bs+2]?=some (.cells #[.int .i64 0] 3 (0,0))
theorem SplitAt.keep{bs:Nat}{rest:List UInt8}{W W':World}(h:SplitAt bs rest W)(k:KeepsBoxes bs W W'):SplitAt bs rest W':=⟨(k _ (by omega) (by omega)).trans h.s,(k _ (by omega) (by omega)).trans h.sep,(k _ (by omega) (by omega)).trans h.save⟩
theorem SplitAt.next{bs:Nat}{rest:List UInt8}{W:World}(h:SplitAt bs rest W)(r:List UInt8):SplitAt bs r (W.setCell ⟨bs,0,none⟩ (.string ⟨r.toArray⟩)):=⟨by simp[World.setCell,Array.getElem?_modify,h.s],(Below.heap_setCell W _ _ _ (by simp)).trans h.sep,(Below.heap_setCell W _ _ _ (by simp)).trans h.save⟩
def j131(bs:Nat)(W:World):Nat:=match W.cell? ⟨bs,0,none⟩with|some (Value.string s)=>s.size|_=>0
theorem SplitAt.cell{bs:Nat}{rest:List UInt8}{W:World}(h:SplitAt bs rest W):W.cell? ⟨bs,0,none⟩=some (.string ⟨rest.toArray⟩):=Lib.cell_of_heap h.s 0
theorem SplitAt.len{bs:Nat}{rest:List UInt8}{W:World}(h:SplitAt bs rest W):j131 bs W=rest.length:=by unfold j131;rw[h.cell];exact q19 rest
end Go.Proofs.YtkkomffmnafjkaaGreatDoor
