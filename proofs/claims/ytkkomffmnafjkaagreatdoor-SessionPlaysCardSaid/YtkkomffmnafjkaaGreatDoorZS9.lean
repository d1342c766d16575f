/- Contracts of spec's word, and of Trim of blanks. Rows of ranges that are .. -/
import Derived.Test.YtkkomffmnafjkaaGreatDoorZS7
set_option maxHeartbeats 16000000
set_option maxRecDepth 100000
set_option linter.all false
namespace Go.Proofs.YtkkomffmnafjkaaGreatDoor
open Go.RowKit Go.Shelf
theorem v99(b:UInt8):[(32:UInt8),9].contains b=j21 b:=by rw[ak_];simp[j21]
theorem k124(l:List UInt8):Lib.trimS l [32,9]=q36 l:=by unfold Lib.trimS Lib.trimLeftS Lib.trimRightS q36;have:(fun x:UInt8=>[(32:UInt8),9].contains x)=j21:=funext v99;rw[this]
theorem w162(l:List UInt8)(w:World)(hl:l.length≤1000000):Calls Tryz.prog 171 #[.string ⟨l.toArray⟩,.string ⟨#[32,9]⟩] w fun e w'=>e=.returned (.string ⟨(q36 l).toArray⟩)∧Below w.heap.size w w':=by have h:=Any.strings_Trim_laid Tryz.lays160 (by kernel_rfl) ⟨l.toArray⟩ ⟨#[32,9]⟩ w (by rw[q19];omega) (by decide) (ascii_of_all (by decide));have e:Lib.trimS (⟨l.toArray⟩:ByteArray).data.toList (⟨#[32,9]⟩:ByteArray).data.toList=q36 l:=k124 l;rw[e]at h;exact h
theorem Tryz.specInfo:(Tryz.prog.info? 81).map (fun i=>(i.zero,i.size,i.bytes))=some (some (.agg #[.int .i64 0,.int .i64 0]),2,16):=by kernel_rfl
def OwnQ(w:World)(base:Nat)(A:Option Addr)(c:Nat)(L:List (Int×Int)):Prop:=w.ownsRow base 81 2 (.slice A L.length c) L.length (j22 L)
theorem OwnQ.nil(w:World)(base:Nat):OwnQ w base none 0 []:=bH_ w base _ _
theorem OwnQ.sp{w:World}{base:Nat}{A:Option Addr}{c:Nat}{L:List (Int×Int)}(h:OwnQ w base A c L):Sp w A c L:=(Sp.of_own h).1
theorem OwnQ.at_{w:World}{base:Nat}{A:Option Addr}{c:Nat}{L:List (Int×Int)}(h:OwnQ w base A c L)(hn:0<L.length):∃g,A=some ⟨g,0,none⟩∧base≤g∧g<w.heap.size:=by obtain⟨g,cap,hv,hb,hlt⟩:=bX_ h hn;injection hv with hA;exact⟨g,hA,hb,hlt⟩
theorem OwnQ.alloc{w:World}{base:Nat}{A:Option Addr}{c:Nat}{L:List (Int×Int)}(h:OwnQ w base A c L)(o:Obj):OwnQ (w.alloc o) base A c L:=bT_ h o
theorem OwnQ.drew{w:World}{base:Nat}{A:Option Addr}{c:Nat}{L:List (Int×Int)}(h:OwnQ w base A c L):OwnQ w.drew base A c L:=bY_ h
theorem OwnQ.drewN{w:World}{base:Nat}{A:Option Addr}{c:Nat}{L:List (Int×Int)}(h:OwnQ w base A c L)(n:Nat):OwnQ (w.drewN n) base A c L:=h
theorem OwnQ.below{w w':World}{base:Nat}{A:Option Addr}{c:Nat}{L:List (Int×Int)}(h:OwnQ w base A c L)(hb:Below w.heap.size w w'):OwnQ w' base A c L:=az_ (row:=none) h ⟨hb.os,hb.tape,hb.output,hb.size,fun k hk _=>hb.block k hk⟩ (by cases A<;>simp[Value.ownBlock])
theorem x117{w0 w:World}{ops:Array Oper}{rest:List Oper}{o:Oper}{a:Act}{Q:Exit→Act→World→Prop}(hgd:o.guard=none)(s x:Operand)(ho:o.op=.call {callee:=.builtin .append,args:=#[s,x],argTypes:=#[22,22]})(A:Option Addr)(c:Nat)(L:List (Int×Int))(hs:a.eval s=.slice A L.length c)(hown:OwnQ w w0.heap.size A c L)(A2:Option Addr)(c2:Nat)(L2:List (Int×Int))(hx:a.eval x=.slice A2 L2.length c2)(hsp:Sp w A2 c2 L2)(hl:L.length+L2.length≤2000000)(hbel:Below w0.heap.size w0 w)(h:∀A' c' w',OwnQ w' w0.heap.size A' c' (L++L2)→Below w0.heap.size w0 w'→w.grownBy w' (Value.slice A L.length c).ownBlock→wpList Tryz.prog ops Q rest (a.put o.dst (.slice A' (L.length+L2.length) c')) w'):wpList Tryz.prog ops Q (o::rest) a w:=by
 obtain⟨i0,hi,hz0,hz1,hz2⟩:=aT_ Tryz.specInfo;cases hA2:A2 with
  |none=>subst hA2;have hc2:=hsp.nil_ rfl;have hL2:L2=[]:=l_ (by have:=hsp.le;omega);subst hL2 hc2;refine wpList_append_own_none hgd s x _ ho w0.heap.size 81 i0 2 Tryz.underlying22 hi _ _ _ hs hown hx ?_;have:=h A c w (by simpa using hown) hbel (bZ_ w _);simpa using this
  |some ad=>
   subst hA2;refine wpList_append_own w hgd s x _ ho w0.heap.size 81 i0 _ 2 16 Tryz.underlying22 hi hz0 hz1 hz2 rfl (by decide) _ _ _ hs hown ad L2.length c2 (j22 L2) hx (w38 L2) (hsp.cells rfl) ?_ (by simp only[maxLen];omega) (by omega) hbel.size ?_;·intro u hu;simp only[j22,List.mem_flatMap]at hu;obtain⟨y,_,hu⟩:=hu;simp at hu;rcases hu with rfl|rfl<;>rfl
   ·intro v' w' h1 h2 h3;have hlt:=al_ hown;have hbel':Below w0.heap.size w0 w':=hbel.grown h2 hbel.size (fun k hk=>(hlt k hk).1);have hlen:(L++L2).length=L.length+L2.length:=by simp
    rw[←k42]at h1;have hform:∃A' c',v'=.slice A' (L.length+L2.length) c':=by
     rcases h1.2 with⟨hv,hn⟩|⟨g',cap,cur,hv,_⟩;·rw[hn];exact⟨_,_,hv⟩
     ·exact⟨_,_,hv⟩
    obtain⟨A',c',rfl⟩:=hform;exact h A' c' w' (by unfold OwnQ;rw[hlen];exact h1) hbel' h2
