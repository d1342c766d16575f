/- Plain: keys joined by blanks are parted as they were (strings.FieldsFunc at .. -/
import Derived.Test.YtkkomffmnafjkaaGreatDoorZP5
import Derived.Lib.FieldsP
import Derived.Lib.TrimUEq
import Derived.Lib.TrimAscii
set_option maxHeartbeats 16000000
set_option maxRecDepth 100000
set_option linter.all false
namespace Go.Proofs.YtkkomffmnafjkaaGreatDoor
open Go Go.Lib
def y17(r:Nat):Bool:=decide (r=32)||decide (r=9)
theorem x203{l:List UInt8}{pos:Nat}{b:UInt8}{t:List UInt8}(h:l.drop pos=b::t)(hb:b.toNat<128):Utf8.decode ⟨l.toArray⟩ pos=(b.toNat,1):=by rw[←decodeL_drop,show(⟨l.toArray⟩:ByteArray).data.toList=l by simp,h,decodeL_ascii b t hb]
theorem y203{l:List UInt8}:∀(k:List UInt8)(pos f a:Nat)(rest:List UInt8)(acc:List (Nat×Nat)),l.drop pos=k++rest→(∀c∈k,33≤c.toNat∧c.toNat≤126)→spansFromP y17 ⟨l.toArray⟩ (k.length+f) pos (some a) acc=spansFromP y17 ⟨l.toArray⟩ f (pos+k.length) (some a) acc
 |[],pos,f,a,rest,acc,_,_=>by simp
 |c::k,pos,f,a,rest,acc,h,hk=>by
  have hc:=hk c (by simp);have hlt:pos<l.length:=by
   rcases Nat.lt_or_ge pos l.length with h'|h';·exact h'
   ·rw[List.drop_eq_nil_of_le h']at h;cases h
  have hd:=x203 (l:=l) (pos:=pos) (b:=c) (t:=k++rest) h (by omega);have hp:y17 c.toNat=false:=by unfold y17;rw[decide_eq_false (by omega),decide_eq_false (by omega)];rfl
  have hn:l.drop (pos+1)=k++rest:=by rw[←List.drop_drop,h];rfl
  rw[show(c::k).length+f=(k.length+f)+1 by simp;omega,spansFromP];rw[if_pos (by show pos<l.toArray.size;simpa using hlt),hd];simp only[hp,Bool.false_eq_true,if_false];rw[y203 k (pos+1) f a rest acc hn (fun x hx=>hk x (by simp[hx]))];congr 1;simp;omega
theorem k209{l:List UInt8}{c:UInt8}{rest:List UInt8}{pos f:Nat}{acc:List (Nat×Nat)}(h:l.drop pos=c::rest)(hc:33≤c.toNat∧c.toNat≤126):spansFromP y17 ⟨l.toArray⟩ (f+1) pos none acc=spansFromP y17 ⟨l.toArray⟩ f (pos+1) (some pos) acc:=by
 have hlt:pos<l.length:=by
  rcases Nat.lt_or_ge pos l.length with h'|h';·exact h'
  ·rw[List.drop_eq_nil_of_le h']at h;cases h
 have hp:y17 c.toNat=false:=by unfold y17;rw[decide_eq_false (by omega),decide_eq_false (by omega)];rfl
 rw[spansFromP,if_pos (by show pos<l.toArray.size;simpa using hlt),x203 h (by omega)];simp only[hp,Bool.false_eq_true,if_false]
theorem x209{l:List UInt8}{rest:List UInt8}{pos f a:Nat}{acc:List (Nat×Nat)}(h:l.drop pos=32::rest):spansFromP y17 ⟨l.toArray⟩ (f+1) pos (some a) acc=spansFromP y17 ⟨l.toArray⟩ f (pos+1) none (acc++[(a,pos)]):=by
 have hlt:pos<l.length:=by
  rcases Nat.lt_or_ge pos l.length with h'|h';·exact h'
  ·rw[List.drop_eq_nil_of_le h']at h;cases h
 rw[spansFromP,if_pos (by show pos<l.toArray.size;simpa using hlt),x203 h (by decide)];simp only[show y17 (32:UInt8).toNat=true from by decide,if_true]
def w189:Nat→List (List UInt8)→List (Nat×Nat)|_,[]=>[]|n,k::r=>(n,n+k.length)::w189 (n+k.length+1) r
def KeyB(k:List UInt8):Prop:=k≠[]∧∀c∈k,33≤c.toNat∧c.toNat≤126
theorem v197{l:List UInt8}:∀(r:List (List UInt8))(k:List UInt8)(pos f:Nat)(acc:List (Nat×Nat)),l.drop pos=k++r.flatMap (fun y=>[32]++y)→KeyB k→(∀y∈r,KeyB y)→l.length≤pos+f→closeSpans ⟨l.toArray⟩ (spansFromP y17 ⟨l.toArray⟩ f pos none acc)=acc++w189 pos (k::r)
 |r,[],pos,f,acc,h,hk,hr,hf=>absurd rfl hk.1
 |r,c::k,pos,f,acc,h,hk,hr,hf=>by
  have hlen:l.length-pos=(c::k).length+(r.flatMap fun y=>[32]++y).length:=by have:=congrArg List.length h;rw[List.length_drop,List.length_append]at this;exact this
  have hcl:(c::k).length=k.length+1:=rfl;obtain⟨g,rfl⟩:∃g,f=(k.length+g)+1:=⟨f-k.length-1,by omega⟩;have hn:l.drop (pos+1)=k++r.flatMap (fun y=>[32]++y):=by rw[←List.drop_drop,h];rfl
  rw[k209 (rest:=k++r.flatMap fun y=>[32]++y) h (hk.2 c (by simp)),y203 k (pos+1) g pos _ acc hn (fun x hx=>hk.2 x (by simp[hx]))];cases r with
   |nil=>
    have hend:l.length=pos+1+k.length:=by simp at hlen;omega
    rw[spansFromP_end _ _ _ _ _ _ (by show¬pos+1+k.length<l.toArray.size;simp;omega)];unfold closeSpans;simp only[w189];congr 3;show l.toArray.size=_;simp;omega
   |cons y r=>
    have hn2:l.drop (pos+1+k.length)=32::(y++r.flatMap fun y=>[32]++y):=by rw[←List.drop_drop,hn,List.drop_left];simp
    have hy:=hr y (by simp);have hl2:0<(r.flatMap fun y=>[32]++y).length∨True:=.inr trivial;obtain⟨g',rfl⟩:∃g',g=g'+1:=⟨g-1,by
     have:(((y::r).flatMap fun y=>[32]++y).length)=1+y.length+(r.flatMap fun y=>[32]++y).length:=by simp;omega
     omega⟩;rw[x209 hn2];have hn3:l.drop (pos+1+k.length+1)=y++r.flatMap (fun y=>[32]++y):=by rw[←List.drop_drop,hn2];rfl
    rw[v197 r y (pos+1+k.length+1) g' (acc++[(pos,pos+1+k.length)]) hn3 hy (fun z hz=>hr z (by simp[hz])) (by omega)];rw[List.append_assoc];congr 1;simp only[w189,List.cons_append,List.nil_append,hcl];have e1:pos+1+k.length=pos+(k.length+1):=by omega
    rw[e1]
theorem w203{l:List UInt8}:∀(r:List (List UInt8))(k:List UInt8)(pos:Nat),l.drop pos=k++r.flatMap (fun y=>[32]++y)→(w189 pos (k::r)).map (fun x=>(⟨l.toArray⟩:ByteArray).extract x.1 x.2)=(k::r).map fun y=>⟨y.toArray⟩
 |[],k,pos,h=>by simp only[w189,List.map_cons,List.map_nil];rw[y62,show pos+k.length-pos=k.length by omega,h];simp
 |y::r,k,pos,h=>by
  have hn2:l.drop (pos+k.length)=32::(y++r.flatMap fun y=>[32]++y):=by rw[←List.drop_drop,h,List.drop_left];simp
  have hn3:l.drop (pos+k.length+1)=y++r.flatMap (fun y=>[32]++y):=by rw[←List.drop_drop,hn2];rfl
  rw[w189,List.map_cons,w203 r y _ hn3,List.map_cons];congr 1;rw[y62,show pos+k.length-pos=k.length by omega,h];simp
theorem y205{L:List (List UInt8)}(hne:L≠[])(h:∀k∈L,KeyB k):goFieldsP y17 ⟨(x176 [32] L).toArray⟩=L.map fun y=>⟨y.toArray⟩:=by
 cases L with
  |nil=>exact absurd rfl hne
  |cons k r=>unfold goFieldsP spansOfP;have h1:=v197 (l:=x176 [32] (k::r)) r k 0 (⟨(x176 [32] (k::r)).toArray⟩:ByteArray).size [] rfl (h k (by simp)) (fun y hy=>h y (by simp[hy])) (by show(x176 [32] (k::r)).length≤0+(x176 [32] (k::r)).toArray.size;rw[List.size_toArray];omega);rw[h1,List.nil_append];exact w203 (l:=x176 [32] (k::r)) r k 0 rfl
open Go.RowKit
theorem k190{t:List UInt8}(h:j20 t=true):(1≤t.length∧t.length≤100)∧∀c∈t,33≤c.toNat∧c.toNat≤126∧c.toNat≠34:=by unfold j20 at h;simp only[Bool.and_eq_true,decide_eq_true_eq,List.all_eq_true]at h;exact⟨h.1,fun c hc=>⟨(h.2 c hc).1.1,(h.2 c hc).1.2,(h.2 c hc).2⟩⟩
theorem y219{c:UInt8}(h:33≤c.toNat):j21 c=false:=by have h1:c≠32:=u8_ne (k:=32) (by omega) (by omega);have h2:c≠9:=u8_ne (k:=9) (by omega) (by omega);simp[j21,h1,h2]
theorem w213{t:List UInt8}(h:j20 t=true):q36 ([34]++t++[34])=[34]++t++[34]:=k199 fun c hc=>by
 simp only[List.mem_append,List.mem_singleton]at hc;rcases hc with(hc|hc)|hc;·rw[hc];decide
 ·exact y219 ((k190 h).2 c hc).1
 ·rw[hc];decide
theorem key_b{k:List UInt8}(h:w26 k=true):KeyB k:=by unfold w26 at h;simp only[Bool.and_eq_true,decide_eq_true_eq,List.all_eq_true]at h;exact⟨fun e=>by rw[e]at h;simp at h,h.2⟩
theorem w219:q36 [48]=[48]:=by decide
end Go.Proofs.YtkkomffmnafjkaaGreatDoor
