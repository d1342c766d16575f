/- Contract of ranges.gather. -/
import Derived.Test.YtkkomffmnafjkaaGreatDoorZB1
import Derived.Test.YtkkomffmnafjkaaGreatDoorZM1
import Derived.Deep.AppendLies
import Derived.Laws.AppendOwnNone
set_option maxHeartbeats 16000000
set_option maxRecDepth 100000
set_option linter.all false
namespace Go.Proofs.YtkkomffmnafjkaaGreatDoor
open Go.RowKit
theorem Tryz.spanInfo:(Tryz.prog.info? 59).map (fun i=>(i.zero,i.size,i.bytes))=some (some (.agg #[.int .i64 0,.int .i64 0]),2,16):=by kernel_rfl
def Own(w:World)(base:Nat)(A:Option Addr)(c:Nat)(L:List (Int×Int)):Prop:=w.ownsRow base 59 2 (.slice A L.length c) L.length (j22 L)
theorem Own.nil(w:World)(base:Nat):Own w base none 0 []:=World.ownsRow_nil w base _ _
theorem Own.sp{w:World}{base:Nat}{A:Option Addr}{c:Nat}{L:List (Int×Int)}(h:Own w base A c L):Sp w A c L:=(Sp.of_own h).1
theorem Own.at_{w:World}{base:Nat}{A:Option Addr}{c:Nat}{L:List (Int×Int)}(h:Own w base A c L)(hn:0<L.length):∃g,A=some ⟨g,0,none⟩∧base≤g∧g<w.heap.size:=by obtain⟨g,cap,hv,hb,hlt⟩:=World.ownsRow.form h hn;injection hv with hA;exact⟨g,hA,hb,hlt⟩
def RetSp(L:List (Int×Int))(w:World)(e:Ending)(w':World):Prop:=∃A c,e=.returned (.slice A L.length c)∧Own w' w.heap.size A c L∧Below w.heap.size w w'
theorem Own.alloc{w:World}{base:Nat}{A:Option Addr}{c:Nat}{L:List (Int×Int)}(h:Own w base A c L)(o:Obj):Own (w.alloc o) base A c L:=World.ownsRow.alloc h o
theorem Own.drew{w:World}{base:Nat}{A:Option Addr}{c:Nat}{L:List (Int×Int)}(h:Own w base A c L):Own w.drew base A c L:=World.ownsRow.drew h
theorem Own.drewN{w:World}{base:Nat}{A:Option Addr}{c:Nat}{L:List (Int×Int)}(h:Own w base A c L)(n:Nat):Own (w.drewN n) base A c L:=h
theorem Own.below{w w':World}{base:Nat}{A:Option Addr}{c:Nat}{L:List (Int×Int)}(h:Own w base A c L)(hb:Below w.heap.size w w'):Own w' base A c L:=World.ownsRow.kept (row:=none) h ⟨hb.os,hb.tape,hb.output,hb.size,fun k hk _=>hb.block k hk⟩ (by cases A<;>simp[Value.ownBlock])
theorem Own.base_le{w:World}{base base':Nat}{A:Option Addr}{c:Nat}{L:List (Int×Int)}(h:Own w base A c L)(hb:base'≤base):Own w base' A c L:=by
 refine⟨h.1,?_⟩;rcases h.2 with h2|⟨g,cap,cur,hv,hg,r⟩;·exact .inl h2
 ·exact .inr ⟨g,cap,cur,hv,by omega,r⟩
theorem k31(W:World)(x y:Value)(t:TypeId):(W.alloc (.cells #[x,y] t)).cell? ⟨W.heap.size,0,none⟩=some x:=by simp[go_sem]
theorem w31(W:World)(x y:Value)(t:TypeId):(W.alloc (.cells #[x,y] t)).cell? ⟨W.heap.size,1,none⟩=some y:=by simp[go_sem]
theorem z144{w0 w:World}{o:Oper}{a:Act}{K:Act→World→Prop}{Q:Exit→Act→World→Prop}(s x:Operand)(ho:o.op=.call {callee:=.builtin .append,args:=#[s,x],argTypes:=#[48,48]})(A:Option Addr)(c:Nat)(L:List (Int×Int))(hs:a.eval s=.slice A L.length c)(hown:Own w w0.heap.size A c L)(g:Nat)(x1 x2:Int)(hx:a.eval x=.slice (some ⟨g,0,none⟩) 1 1)(hc:w.cell? ⟨g,0,none⟩=some (.int .i64 x1))(hc':w.cell? ⟨g,1,none⟩=some (.int .i64 x2))(hl:L.length≤2000000)(hbel:Below w0.heap.size w0 w)(h:∀A' c' w',Own w' w0.heap.size A' c' (L++[(x1,x2)])→Below w0.heap.size w0 w'→w.grownBy w' (Value.slice A L.length c).ownBlock→K (a.put o.dst (.slice A' (L.length+1) c')) w'):o.wp Tryz.prog a w K Q:=by
 obtain⟨i0,hi,hz0,hz1,hz2⟩:=info_parts Tryz.spanInfo;refine wp_append_own w s x _ ho w0.heap.size 59 i0 _ 2 16 Tryz.underlying48 hi hz0 hz1 hz2 rfl (by decide) _ _ _ hs hown ⟨g,0,none⟩ 1 1 [.int .i64 x1,.int .i64 x2] hx rfl ?_ ?_ (by simp only[maxLen];omega) (by omega) hbel.size ?_;·
  intro j u hj;have hadd:∀j,(⟨g,0,none⟩:Addr).add j=⟨g,j,none⟩:=fun j=>by unfold Addr.add;split<;>simp_all
  rw[hadd];match j,hj with|0,hj=>simp at hj;rw[←hj];exact hc|1,hj=>simp at hj;rw[←hj];exact hc'|j+2,hj=>simp at hj
 ·intro u hu;simp at hu;rcases hu with rfl|rfl<;>rfl
 ·intro v' w' h1 h2 _;have hlt:=World.ownsRow.lt hown;have hbel':Below w0.heap.size w0 w':=hbel.grown h2 hbel.size (fun k hk=>(hlt k hk).1);have hlen:(L++[(x1,x2)]).length=L.length+1:=by simp
  have hsp:j22 L++[.int .i64 x1,.int .i64 x2]=j22 (L++[(x1,x2)]):=by rw[k42];rfl
  rw[hsp]at h1;have hform:∃A' c',v'=.slice A' (L.length+1) c':=by
   rcases h1.2 with⟨_,hn⟩|⟨g',cap,cur,hv,_⟩;·omega
   ·exact⟨_,_,hv⟩
  obtain⟨A',c',rfl⟩:=hform;exact h A' c' w' (by unfold Own;rw[hlen];exact h1) hbel' h2
theorem q31{w0 w:World}{ops:Array Oper}{rest:List Oper}{o:Oper}{a:Act}{Q:Exit→Act→World→Prop}(hgd:o.guard=none)(s x:Operand)(ho:o.op=.call {callee:=.builtin .append,args:=#[s,x],argTypes:=#[48,48]})(A:Option Addr)(c:Nat)(L:List (Int×Int))(hs:a.eval s=.slice A L.length c)(hown:Own w w0.heap.size A c L)(g:Nat)(x1 x2:Int)(hx:a.eval x=.slice (some ⟨g,0,none⟩) 1 1)(hc:w.cell? ⟨g,0,none⟩=some (.int .i64 x1))(hc':w.cell? ⟨g,1,none⟩=some (.int .i64 x2))(hl:L.length≤2000000)(hbel:Below w0.heap.size w0 w)(h:∀A' c' w',Own w' w0.heap.size A' c' (L++[(x1,x2)])→Below w0.heap.size w0 w'→w.grownBy w' (Value.slice A L.length c).ownBlock→wpList Tryz.prog ops Q rest (a.put o.dst (.slice A' (L.length+1) c')) w'):wpList Tryz.prog ops Q (o::rest) a w:=wpList_plain hgd fun _ hK=>z144 s x ho A c L hs hown g x1 x2 hx hc hc' hl hbel fun A' c' w' h1 h2 h3=>hK _ _ (h A' c' w' h1 h2 h3)
end Go.Proofs.YtkkomffmnafjkaaGreatDoor
