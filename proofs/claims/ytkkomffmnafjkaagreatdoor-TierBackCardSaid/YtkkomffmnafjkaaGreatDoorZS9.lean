/- Contracts of spec's word, and of Trim of blanks. Rows of ranges that are .. -/
import Derived.Test.YtkkomffmnafjkaaGreatDoorZS7
import Derived.Outline
set_option maxHeartbeats 16000000
set_option maxRecDepth 100000
set_option linter.all false
namespace Go.Proofs.YtkkomffmnafjkaaGreatDoor
open Go.RowKit Go.Shelf
theorem v99(b:UInt8):[(32:UInt8),9].contains b=j21 b:=by rw[Bool.eq_iff_iff];simp[j21]
theorem k124(l:List UInt8):Lib.trimS l [32,9]=q36 l:=by unfold Lib.trimS Lib.trimLeftS Lib.trimRightS q36;have:(fun x:UInt8=>[(32:UInt8),9].contains x)=j21:=funext v99;rw[this]
theorem w162(l:List UInt8)(w:World)(hl:l.length≤1000000):Calls Tryz.prog 171 #[.string ⟨l.toArray⟩,.string ⟨#[32,9]⟩] w fun e w'=>e=.returned (.string ⟨(q36 l).toArray⟩)∧Below w.heap.size w w':=by have h:=Any.strings_Trim_laid Tryz.lays160 (by kernel_rfl) ⟨l.toArray⟩ ⟨#[32,9]⟩ w (by rw[q19];omega) (by decide) (ascii_of_all (by decide));have e:Lib.trimS (⟨l.toArray⟩:ByteArray).data.toList (⟨#[32,9]⟩:ByteArray).data.toList=q36 l:=k124 l;rw[e]at h;exact h
def OwnQ(w:World)(base:Nat)(A:Option Addr)(c:Nat)(L:List (Int×Int)):Prop:=w.ownsRow base 81 2 (.slice A L.length c) L.length (j22 L)
theorem OwnQ.nil(w:World)(base:Nat):OwnQ w base none 0 []:=World.ownsRow_nil w base _ _
theorem OwnQ.sp{w:World}{base:Nat}{A:Option Addr}{c:Nat}{L:List (Int×Int)}(h:OwnQ w base A c L):Sp w A c L:=(Sp.of_own h).1
theorem OwnQ.at_{w:World}{base:Nat}{A:Option Addr}{c:Nat}{L:List (Int×Int)}(h:OwnQ w base A c L)(hn:0<L.length):∃g,A=some ⟨g,0,none⟩∧base≤g∧g<w.heap.size:=by obtain⟨g,cap,hv,hb,hlt⟩:=World.ownsRow.form h hn;injection hv with hA;exact⟨g,hA,hb,hlt⟩
theorem OwnQ.alloc{w:World}{base:Nat}{A:Option Addr}{c:Nat}{L:List (Int×Int)}(h:OwnQ w base A c L)(o:Obj):OwnQ (w.alloc o) base A c L:=World.ownsRow.alloc h o
theorem OwnQ.drew{w:World}{base:Nat}{A:Option Addr}{c:Nat}{L:List (Int×Int)}(h:OwnQ w base A c L):OwnQ w.drew base A c L:=World.ownsRow.drew h
theorem OwnQ.drewN{w:World}{base:Nat}{A:Option Addr}{c:Nat}{L:List (Int×Int)}(h:OwnQ w base A c L)(n:Nat):OwnQ (w.drewN n) base A c L:=h
theorem OwnQ.below{w w':World}{base:Nat}{A:Option Addr}{c:Nat}{L:List (Int×Int)}(h:OwnQ w base A c L)(hb:Below w.heap.size w w'):OwnQ w' base A c L:=World.ownsRow.kept (row:=none) h ⟨hb.os,hb.tape,hb.output,hb.size,fun k hk _=>hb.block k hk⟩ (by cases A<;>simp[Value.ownBlock])
theorem OwnQ.base_le{w:World}{base base':Nat}{A:Option Addr}{c:Nat}{L:List (Int×Int)}(h:OwnQ w base A c L)(hb:base'≤base):OwnQ w base' A c L:=by
 refine⟨h.1,?_⟩;rcases h.2 with h2|⟨g,cap,cur,hv,hg,r⟩;·exact .inl h2
 ·exact .inr ⟨g,cap,cur,hv,by omega,r⟩
end Go.Proofs.YtkkomffmnafjkaaGreatDoor
