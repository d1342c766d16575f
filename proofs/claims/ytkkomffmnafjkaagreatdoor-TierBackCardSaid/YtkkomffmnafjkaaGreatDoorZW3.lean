/- Contract of spec's Parse. -/
import Derived.Test.YtkkomffmnafjkaaGreatDoorZW2
import Derived.Test.YtkkomffmnafjkaaGreatDoorZS9
set_option maxHeartbeats 16000000
set_option maxRecDepth 100000
set_option linter.all false
namespace Go.Proofs.YtkkomffmnafjkaaGreatDoor
open Go Go.RowKit
attribute[local go_sem]Oper.semAt_some
theorem qb_lt{w:World}{g:Nat}{o:Obj}(h:w.heap[g]?=some o):g<w.heap.size:=(Array.getElem?_eq_some_iff.1 h).1
theorem q80{B:Nat}{W w':World}{g:Nat}{o:Obj}(hb:Below B W w')(hB:W.heap.size≤B)(h:W.heap[g]?=some o):w'.heap[g]?=some o:=(hb.block g (Nat.lt_of_lt_of_le (qb_lt h) hB)).trans h
theorem qb_set(W:World)(p:Addr)(v:Value):W.grownBy (W.setCell p v) (some p.block):=by have h:=Below.setCell (Below.refl 0 W) (p:=p) (Nat.zero_le _) v;exact⟨h.os,h.tape,h.output,h.size,fun k _ hne=>Below.heap_setCell W p v k (by intro e;exact hne (by rw[e]))⟩
theorem OwnQ.off{W W':World}{base k:Nat}{A:Option Addr}{c:Nat}{L:List (Int×Int)}(h:OwnQ W base A c L)(hg:W.grownBy W' (some k))(hk:k<base):OwnQ W' base A c L:=World.ownsRow.kept h hg (.inr fun e=>by have:=(World.ownsRow.lt h _ e).1;omega)
structure ParseInv(w:World)(b1:Nat)(pre:List (List UInt8))(W:World):Prop where
 ex:∃ys A c,k129 (itemsL pre)=some ys∧W.heap[b1]?=some (.cells #[.slice A (ys.take 64).length c] 22 (0,0))∧W.heap[b1+1]?=some (.cells #[.bool (decide (64<ys.length))] 4 (0,0))∧OwnQ W (b1+5) A c (ys.take 64)
 r2:W.heap[w.heap.size]?=some (.cells #[.slice none 0 0] 22 (0,0))
 r3:W.heap[w.heap.size+1]?=some (.cells #[.int .i64 0] 64 (0,0))
 bel:Below w.heap.size w W
 sz:b1+5≤W.heap.size
theorem ParseInv.grown{w W W':World}{b1 k:Nat}{pre:List (List UInt8)}(h:ParseInv w b1 pre W)(hg:W.grownBy W' (some k))(hlo:w.heap.size+2≤b1)(hk:b1+2≤k)(hrow:∀A c L,OwnQ W (b1+5) A c L→(Value.slice A (List.length L) c).ownBlock≠some k):ParseInv w b1 pre W':=by obtain⟨ys,A,c,h1,h2,h3,h4⟩:=h.ex;have blk:∀j o,j≠k→W.heap[j]?=some o→W'.heap[j]?=some o:=fun j o hj ho=>(hg.block j (Array.getElem?_eq_some_iff.1 ho).1 (by intro e;injection e with e;exact hj e)).trans ho;refine⟨⟨ys,A,c,h1,blk _ _ (by omega) h2,blk _ _ (by omega) h3,World.ownsRow.kept h4 hg (.inr (hrow _ _ _ h4))⟩,blk _ _ (by omega) h.r2,blk _ _ (by omega) h.r3,h.bel.grown hg h.bel.size (fun j hj=>by injection hj with hj;omega),Nat.le_trans h.sz hg.size⟩
theorem ParseInv.below{w W W':World}{b1:Nat}{pre:List (List UInt8)}(h:ParseInv w b1 pre W)(hb:Below W.heap.size W W'):ParseInv w b1 pre W':=by obtain⟨ys,A,c,h1,h2,h3,h4⟩:=h.ex;exact⟨⟨ys,A,c,h1,q80 hb (Nat.le_refl _) h2,q80 hb (Nat.le_refl _) h3,h4.below hb⟩,q80 hb (Nat.le_refl _) h.r2,q80 hb (Nat.le_refl _) h.r3,q12 hb h.bel,Nat.le_trans h.sz hb.size⟩
theorem ParseInv.box{w W:World}{b1:Nat}{pre:List (List UInt8)}(h:ParseInv w b1 pre W)(hlo:w.heap.size+1+1≤b1)(v:Value):ParseInv w b1 pre (W.setCell ⟨b1+2,0,none⟩ v):=by refine h.grown (k:=b1+2) (qb_set W ⟨b1+2,0,none⟩ v) (by omega) (by omega) fun A c L h4 e=>?_;have:=(World.ownsRow.lt h4 _ e).1;omega
end Go.Proofs.YtkkomffmnafjkaaGreatDoor
