/- Plain: what a version's fields say by their names. -/
import Derived.Test.YtkkomffmnafjkaaGreatDoorZP4
import Derived.Test.YtkkomffmnafjkaaGreatDoorZI20
set_option maxHeartbeats 16000000
set_option maxRecDepth 100000
set_option linter.all false
namespace Go.Proofs.YtkkomffmnafjkaaGreatDoor
open Go.RowKit
theorem allF_if{p:Prop} [Decidable p](a b:List j36)(n:List UInt8):allF (if p then a else b) n=if p then allF a n else allF b n:=by split<;>rfl
theorem y189(f:j36)(n:List UInt8):allF [f] n=if z10 f.1 n=true then[f.2]else[]:=by rw[allF];split<;>rfl
theorem y19(m:MetaL)(n:List UInt8):allF (x21 m) n=(if tag0 m=true then[]else if z10 nETag n=true then[tagT m.tag m.weak]else[])++(if m.mo=-1 then[]else if z10 nMod n=true then[q42 m.mo]else[])++(if z10 nCtl n=true then[ctlT m]else[])++(if z10 nAge n=true then[[48]]else[])++(if m.keys=[]then[]else if z10 nKey n=true then[x176 [32] m.keys]else[])++(if m.ten=[]then[]else if z10 nTen n=true then[m.ten]else[])++(if m.len=-1 then(if z10 nLen n=true then[[42]]else[])++(if z10 nHave n=true then[digN m.hv]else[])else if z10 nLen n=true then[digN m.len]else[]):=by
 unfold x21;simp only[y41,allF_if,y189];have e:allF [] n=[]:=rfl;rw[e];congr 1;split;·rw[show[(nLen,[42]),(nHave,digN m.hv)]=[(nLen,[42])]++[(nHave,digN m.hv)]from rfl,y41,y189,y189]
 ·rfl
theorem y26:∀(L:List j36)(n:List UInt8),getF L n=(allF L n).head?
 |[],_=>rfl
 |f::r,n=>by
  rw[getF,allF];split;·rfl
  ·exact y26 r n
def z13(m:MetaL)(cr:Option (List UInt8)):List j36:=x21 m++(match cr with|some v=>[(nCR,v)]|none=>[])
theorem y44(m:MetaL)(cr:Option (List UInt8))(n:List UInt8)(h:z10 nCR n=false):allF (z13 m cr) n=allF (x21 m) n:=by unfold z13;rw[y41];cases cr with|none=>simp[allF]|some v=>rw[y189,if_neg (by rw[h];decide),List.append_nil]
section
variable(m:MetaL)(cr:Option (List UInt8))
theorem w218:allF (z13 m cr) nCtl=[ctlT m]:=by rw[y44 m cr _ (by decide),y19];simp only[show z10 nETag nCtl=false from by decide,show z10 nMod nCtl=false from by decide,show z10 nCtl nCtl=true from by decide,show z10 nAge nCtl=false from by decide,show z10 nKey nCtl=false from by decide,show z10 nTen nCtl=false from by decide,show z10 nLen nCtl=false from by decide,show z10 nHave nCtl=false from by decide];simp
theorem z219:getF (z13 m cr) nETag=if tag0 m=true then none else some (tagT m.tag m.weak):=by rw[y26,y44 m cr _ (by decide),y19];simp only[show z10 nETag nETag=true from by decide,show z10 nMod nETag=false from by decide,show z10 nCtl nETag=false from by decide,show z10 nAge nETag=false from by decide,show z10 nKey nETag=false from by decide,show z10 nTen nETag=false from by decide,show z10 nLen nETag=false from by decide,show z10 nHave nETag=false from by decide];by_cases h:tag0 m=true<;>simp[h]
theorem q219:getF (z13 m cr) nMod=if m.mo=-1 then none else some (q42 m.mo):=by rw[y26,y44 m cr _ (by decide),y19];simp only[show z10 nETag nMod=false from by decide,show z10 nMod nMod=true from by decide,show z10 nCtl nMod=false from by decide,show z10 nAge nMod=false from by decide,show z10 nKey nMod=false from by decide,show z10 nTen nMod=false from by decide,show z10 nLen nMod=false from by decide,show z10 nHave nMod=false from by decide];by_cases h:m.mo=-1<;>simp[h]
theorem j219:getF (z13 m cr) nAge=some [48]:=by rw[y26,y44 m cr _ (by decide),y19];simp only[show z10 nETag nAge=false from by decide,show z10 nMod nAge=false from by decide,show z10 nCtl nAge=false from by decide,show z10 nAge nAge=true from by decide,show z10 nKey nAge=false from by decide,show z10 nTen nAge=false from by decide,show z10 nLen nAge=false from by decide,show z10 nHave nAge=false from by decide];simp
theorem v219:allF (z13 m cr) nKey=if m.keys=[]then[]else[x176 [32] m.keys]:=by rw[y44 m cr _ (by decide),y19];simp only[show z10 nETag nKey=false from by decide,show z10 nMod nKey=false from by decide,show z10 nCtl nKey=false from by decide,show z10 nAge nKey=false from by decide,show z10 nKey nKey=true from by decide,show z10 nTen nKey=false from by decide,show z10 nLen nKey=false from by decide,show z10 nHave nKey=false from by decide];simp
theorem k219:getF (z13 m cr) nTen=if m.ten=[]then none else some m.ten:=by rw[y26,y44 m cr _ (by decide),y19];simp only[show z10 nETag nTen=false from by decide,show z10 nMod nTen=false from by decide,show z10 nCtl nTen=false from by decide,show z10 nAge nTen=false from by decide,show z10 nKey nTen=false from by decide,show z10 nTen nTen=true from by decide,show z10 nLen nTen=false from by decide,show z10 nHave nTen=false from by decide];by_cases h:m.ten=[]<;>simp[h]
theorem x219:getF (z13 m cr) nLen=some (if m.len=-1 then[42]else digN m.len):=by rw[y26,y44 m cr _ (by decide),y19];simp only[show z10 nETag nLen=false from by decide,show z10 nMod nLen=false from by decide,show z10 nCtl nLen=false from by decide,show z10 nAge nLen=false from by decide,show z10 nKey nLen=false from by decide,show z10 nTen nLen=false from by decide,show z10 nLen nLen=true from by decide,show z10 nHave nLen=false from by decide];by_cases h:m.len=-1<;>simp[h]
theorem y213:getF (z13 m cr) nHave=if m.len=-1 then some (digN m.hv)else none:=by rw[y26,y44 m cr _ (by decide),y19];simp only[show z10 nETag nHave=false from by decide,show z10 nMod nHave=false from by decide,show z10 nCtl nHave=false from by decide,show z10 nAge nHave=false from by decide,show z10 nKey nHave=false from by decide,show z10 nTen nHave=false from by decide,show z10 nLen nHave=false from by decide,show z10 nHave nHave=true from by decide];by_cases h:m.len=-1<;>simp[h]
end
end Go.Proofs.YtkkomffmnafjkaaGreatDoor
