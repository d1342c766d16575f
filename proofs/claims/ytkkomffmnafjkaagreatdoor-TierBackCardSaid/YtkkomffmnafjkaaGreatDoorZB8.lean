/- Contract of ranges.Of: the least list of the bytes of some spans. -/
import Derived.Test.YtkkomffmnafjkaaGreatDoorZB5
import Derived.IntWalk
import Derived.Test.YtkkomffmnafjkaaGreatDoorZM1
import Derived.Test.YtkkomffmnafjkaaGreatDoorZLaid
set_option maxHeartbeats 16000000
set_option maxRecDepth 100000
set_option linter.all false
namespace Go.Proofs.YtkkomffmnafjkaaGreatDoor
open Go.RowKit Go.Shelf Go.Sort
def k60(x:Int×Int):List Value:=[.int .i64 x.1,.int .i64 x.2]
theorem Own.holdsK{w:World}{base g c:Nat}{L:List (Int×Int)}(h:Own w base (some ⟨g,0,none⟩) c L):HoldsK k60 2 w g 0 L.toArray:=by
 intro j hj;simp at hj;have hc:=World.ownsRow.cellAt h j (by omega);refine⟨?_,World.ownsRow.frozenAt h _|>fun hf=>by simpa using hf⟩;rw[Nat.zero_add,hc,get_flatK _ _ _ _ (by simpa using hj)];have hi:j/2<L.length:=by omega
 have he:=w44 L (j/2) L[j/2] (List.getElem?_eq_getElem hi);have e1:(L.toArray)[j/2]! =L[j/2]:=by simp[hi]
 rw[e1];obtain⟨x,hx⟩:∃x,L[j/2]=x:=⟨_,rfl⟩;rw[hx]at he⊢;rcases Nat.mod_two_eq_zero_or_one j with hm|hm;·
  have e2:2*(j/2)=j:=by omega
  rw[e2]at he;rw[hm,he.1];rfl
 ·have e2:2*(j/2)+1=j:=by omega
  rw[e2]at he;rw[hm,he.2];rfl
end Go.Proofs.YtkkomffmnafjkaaGreatDoor
