/- Plain: a content range is read as it was told; texts that are cut. -/
import Derived.Test.YtkkomffmnafjkaaGreatDoorZB10
import Derived.Test.YtkkomffmnafjkaaGreatDoorZE1
import Derived.Lib.IndexMore
import Derived.Lib.IndexBytes
set_option maxHeartbeats 16000000
set_option maxRecDepth 100000
set_option linter.all false
namespace Go.Proofs.YtkkomffmnafjkaaGreatDoor
open Go.RowKit
def y42(t:Int):List UInt8:=if t=-1 then[42]else digN t
def RangeOf(s:List UInt8)(x:Int×Int)(t:Int):Prop:=q23 x t=true∧s=q21 x t
theorem k212{x:Int×Int}{t:Int}(h:q23 x t=true):q21 x t=vBytes++((digN x.1++45::digN (x.2-1))++47::y42 t):=by unfold q21 y42;rw[if_pos h];simp only[List.append_assoc,List.cons_append,List.nil_append]
theorem w199(c:UInt8):∀(a b:List UInt8),(∀d∈a,d≠c)→Lib.indexByte (a++c::b) c=a.length
 |[],b,_=>by simp[Lib.indexByte]
 |d::r,b,h=>by
  have hd:(d==c)=false:=by simpa using h d (by simp)
  have ih:=w199 c r b fun x hx=>h x (by simp[hx]);have:((r.length:Int)==-1)=false:=by rw[beq_eq_false_iff_ne];omega
  rw[List.cons_append,Lib.indexByte,hd,ih,this];simp
theorem w190(c:UInt8){a b:List UInt8}(h:∀d∈a,d≠c):Lib.cut (a++c::b) [c]=(a,b,true):=by
 unfold Lib.cut;rw[Lib.index_one,w199 c a b h,if_pos (by omega)];have e:(a.length:Int).toNat=a.length:=by omega
 rw[e,List.length_singleton];refine Prod.ext (by simp) (Prod.ext ?_ rfl);simp only;rw[List.drop_append,List.drop_eq_nil_of_le (by omega)];have:a.length+1-a.length=1:=by omega
 rw[this];rfl
theorem j196{n:Int}{c:UInt8}(hc:c.toNat<48∨57<c.toNat):∀d∈digN n,d≠c:=by intro d hd e;have h:=y190 n.toNat d (by unfold digN at hd;exact hd);subst e;omega
theorem q202{a b:Int}(ha:0≤a)(hb:0≤b)(h1:a≤9223372036854775807)(h2:b≤9223372036854775807)(h:digN a=digN b):a=b:=by have e:=v189 ha h1;rw[h,v189 hb h2]at e;injection e with e;exact e.symm
theorem v192{s:List UInt8}{x:Int×Int}{t:Int}(h:RangeOf s x t):Lib.cut (Lib.trimPrefix s vBytes) [47]=(digN x.1++45::digN (x.2-1),y42 t,true)∧Lib.cut (digN x.1++45::digN (x.2-1)) [45]=(digN x.1,digN (x.2-1),true):=by
 obtain⟨h1,rfl⟩:=h;rw[k212 h1];refine⟨?_,w190 45 (j196 (by decide))⟩;have e:Lib.trimPrefix (vBytes++((digN x.1++45::digN (x.2-1))++47::y42 t)) vBytes=(digN x.1++45::digN (x.2-1))++47::y42 t:=by unfold Lib.trimPrefix Lib.hasPrefix;rw[if_pos (by simp)];simp
 rw[e];refine w190 47 fun d hd=>?_;rcases List.mem_append.1 hd with hd|hd;·exact j196 (by decide) d hd
 ·rcases List.mem_cons.1 hd with rfl|hd;·decide
  ·exact j196 (by decide) d hd
theorem v188{s:List UInt8}{x:Int×Int}{t:Int}(h:RangeOf s x t):0≤x.1∧x.1<x.2∧x.2≤4611686018427387903∧-1≤t∧t≤4611686018427387903:=by have h0:=h.1;unfold q23 at h0;simp only[Bool.and_eq_true,Bool.not_eq_true',decide_eq_true_eq,decide_eq_false_iff_not,Bool.or_eq_true]at h0;obtain⟨⟨⟨⟨⟨a,b⟩,c⟩,d⟩,e⟩,_⟩:=h0;obtain⟨a1,a2,a3⟩:=(j19 x).1 a;omega
theorem w187{s:List UInt8}{x:Int×Int}{t:Int}(h:RangeOf s x t):numP (digN x.1)=some x.1∧numP (digN (x.2-1))=some (x.2-1)∧(t≠-1→numP (y42 t)=some t∧y42 t≠[42]):=by have hi:=v188 h;refine⟨v189 (by omega) (by omega),v189 (by omega) (by omega),fun ht=>?_⟩;unfold y42;rw[if_neg ht];refine⟨v189 (by omega) (by omega),fun e=>?_⟩;exact j196 (n:=t) (c:=42) (by decide) 42 (by rw[e];simp) rfl
theorem RangeOf.uniq{s:List UInt8}{x y:Int×Int}{t u:Int}(h:RangeOf s x t)(h':RangeOf s y u):x=y∧t=u:=by
 obtain⟨a1,a2⟩:=v192 h;obtain⟨b1,b2⟩:=v192 h';rw[a1]at b1;injection b1 with c1 c2;injection c2 with c2 _;rw[←c1,a2]at b2;injection b2 with d1 d2;injection d2 with d2 _;have i1:=v188 h;have i2:=v188 h';have e1:=q202 (by omega) (by omega) (by omega) (by omega) d1;have e2:=q202 (by omega) (by omega) (by omega) (by omega) d2;refine⟨Prod.ext e1 (by omega),?_⟩;by_cases ht:t=-1;·
  by_cases hu:u=-1;·rw[ht,hu]
  ·exact absurd (by rw[←c2,ht];rfl) ((w187 h').2.2 hu).2
 ·by_cases hu:u=-1;·exact absurd (by rw[c2,hu];rfl) ((w187 h).2.2 ht).2
  ·have n1:=((w187 h).2.2 ht).1;rw[c2,((w187 h').2.2 hu).1]at n1;injection n1 with n1;exact n1.symm
def ReadOf(s:List UInt8)(o:Option ((Int×Int)×Int)):Prop:=∀x t,o=some (x,t)↔RangeOf s x t
theorem ReadOf.uniq{s:List UInt8}{o o':Option ((Int×Int)×Int)}(h:ReadOf s o)(h':ReadOf s o'):o=o':=by
 cases o with
  |none=>cases o' with|none=>rfl|some p=>exact absurd ((h p.1 p.2).2 ((h' p.1 p.2).1 rfl)) (by simp)
  |some p=>exact((h' p.1 p.2).2 ((h p.1 p.2).1 rfl)).symm
theorem z205{s:List UInt8}{x:Int×Int}{t:Int}(h:RangeOf s x t):ReadOf s (some (x,t)):=fun y u=>by
 constructor;·intro e;injection e with e;injection e with e1 e2;subst e1 e2;exact h
 ·intro h';obtain⟨rfl,rfl⟩:=h.uniq h';rfl
def rangeV:Option ((Int×Int)×Int)→Value|some (x,t)=>.tuple #[.agg #[.int .i64 x.1,.int .i64 x.2],.int .i64 t,.int .i64 0]|none=>.tuple #[.agg #[.int .i64 0,.int .i64 0],.int .i64 0,.int .i64 2]
end Go.Proofs.YtkkomffmnafjkaaGreatDoor
