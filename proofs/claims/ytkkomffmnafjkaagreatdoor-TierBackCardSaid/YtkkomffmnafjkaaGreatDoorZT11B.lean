/- Contracts of the document's Near and Fold. -/
import Derived.Test.YtkkomffmnafjkaaGreatDoorZM1
import Derived.Test.YtkkomffmnafjkaaGreatDoorZT1
import Derived.Test.YtkkomffmnafjkaaGreatDoorZB10
import Derived.Test.YtkkomffmnafjkaaGreatDoorZD1
import Derived.Outline
import Derived.Deep.RegionHeld3
import Derived.StillTailTactics
set_option maxHeartbeats 16000000
set_option maxRecDepth 100000
set_option linter.all false
namespace Go.Proofs.YtkkomffmnafjkaaGreatDoor
open Go.RowKit
def Scan(g:Int)(R0 R:List (Int×Int))(b:Bool)(i:Nat):Prop:=(b=false∧R=R0∧∀p q x y,p<i→p<q→R0[p]?=some x→R0[q]?=some y→¬w25 g x y)∨(b=true∧R.length+1=R0.length)
def ScanK(g:Int)(R0 R:List (Int×Int))(b:Bool)(i k:Nat):Prop:=(b=false∧R=R0∧∀q x y,i<q→q<k→R0[i]?=some x→R0[q]?=some y→¬w25 g x y)∨(b=true∧R.length+1=R0.length)
section
variable{g:Int}{R0 R:List (Int×Int)}{i k:Nat}
theorem Scan.start:Scan g R0 R0 false 0:=.inl ⟨rfl,rfl,fun p q x y h=>by omega⟩
theorem ScanK.start(i:Nat):ScanK g R0 R0 false i (i+1):=.inl ⟨rfl,rfl,fun q x y h h'=>by omega⟩
theorem ScanK.done{b:Bool}(hs:Scan g R0 R0 false i)(h:ScanK g R0 R b i k)(hk:b=false→¬k<R0.length):Scan g R0 R b (i+1):=by
 rcases hs with⟨_,_,hs⟩|⟨hs,_⟩;·
  rcases h with⟨rfl,rfl,h⟩|h;·
   refine .inl ⟨rfl,rfl,fun p q x y h1 h2 h3 h4=>?_⟩;by_cases e:p=i;·subst e;have hq:q<R.length:=(List.getElem?_eq_some_iff.1 h4).1;exact h q x y h2 (by have:=hk rfl;omega) h3 h4
   ·exact hs p q x y (by omega) h2 h3 h4
  ·exact .inr h
 ·cases hs
theorem Scan.far{b:Bool}(h:Scan g R0 R b i)(hb:b=false)(hi:¬i<R0.length):R.Pairwise (fun a b=>¬w25 g a b):=by
 rcases h with⟨_,rfl,h⟩|⟨h,_⟩;·rw[List.pairwise_iff_getElem];intro p q hp hq hpq;exact h p q _ _ (by omega) hpq (List.getElem?_eq_getElem hp) (List.getElem?_eq_getElem hq)
 ·rw[hb]at h;cases h
theorem Scan.len{b:Bool}(h:Scan g R0 R b i):R.length+(if b=true then 1 else 0)=R0.length:=by rcases h with⟨rfl,rfl,_⟩|⟨rfl,h⟩<;>simp_all
theorem ScanK.len{b:Bool}(h:ScanK g R0 R b i k):R.length+(if b=true then 1 else 0)=R0.length:=by rcases h with⟨rfl,rfl,_⟩|⟨rfl,h⟩<;>simp_all
theorem Scan.same(h:Scan g R0 R false i):R=R0:=by
 rcases h with⟨_,rfl,_⟩|⟨h,_⟩;·rfl
 ·cases h
theorem ScanK.same(h:ScanK g R0 R false i k):R=R0:=by
 rcases h with⟨_,rfl,_⟩|⟨h,_⟩;·rfl
 ·cases h
end
end Go.Proofs.YtkkomffmnafjkaaGreatDoor
