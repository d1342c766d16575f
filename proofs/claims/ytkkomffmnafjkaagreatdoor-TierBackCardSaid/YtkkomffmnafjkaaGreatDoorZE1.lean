/- Plain laws of a set's text: it is parsed as it was, and whatever is parsed .. -/
import Derived.Test.YtkkomffmnafjkaaGreatDoorZB10
import Derived.Lib.ParseIntB
set_option maxHeartbeats 16000000
set_option maxRecDepth 100000
set_option linter.all false
namespace Go.Proofs.YtkkomffmnafjkaaGreatDoor
open Go.RowKit
theorem q193(n:Int):digN n≠[]:=fun e=>by have:=k198 n.toNat;unfold digN at e;rw[e]at this;simp at this
theorem z192(M:Nat):∀(l m:List UInt8)(acc:Nat),Lib.parseUintM M acc (l++m)=match Lib.parseUintM M acc l with|.ok a=>Lib.parseUintM M a m|e=>e
 |[],m,acc=>rfl
 |c::r,m,acc=>by
  rw[List.cons_append,Lib.parseUintM,Lib.parseUintM];split;·
   split;·rfl
   ·split;·rfl
    ·exact z192 M r m _
  ·rfl
theorem y195{M acc k:Nat}(h:k<10)(h1:acc<1844674407370955162)(h2:acc*10+k≤M):Lib.parseUintM M acc [UInt8.ofNat (48+k)]=.ok (acc*10+k):=by have e:=y64 h;rw[Lib.parseUintM,if_pos (by omega),if_neg (by omega),e,if_neg (by omega),Lib.parseUintM];congr 1;omega
theorem k207(u:Nat)(h:u≤9223372036854775807):Lib.parseUintM (2^64-1) 0 (Lib.decDigits u)=.ok u:=by
 induction u using Nat.strongRecOn with
  |ind u ih=>
   rw[Lib.decDigits];by_cases h0:u<10;·rw[dif_pos h0,y195 h0 (by omega) (by omega)];congr 1;omega
   ·rw[dif_neg h0,z192,ih (u/10) (by omega) (by omega)];simp only;rw[y195 (by omega) (by omega) (by omega)];congr 1;omega
theorem w210{n:Int}(h0:0≤n)(h1:n≤9223372036854775807):Lib.parseIntB 64 (digN n)=.ok n:=by have hd:=k207 n.toNat (by omega);have hb:=y190 n.toNat;have hp:=k198 n.toNat;unfold digN;obtain⟨c,r,e⟩:∃c r,Lib.decDigits n.toNat=c::r:=List.exists_cons_of_length_pos hp;have hc:=hb c (by rw[e];exact List.mem_cons_self ..);rw[e]at hd⊢;unfold Lib.parseIntB;simp only;rw[if_neg (by omega:¬(c.toNat=43∨c.toNat=45))];unfold Lib.parseUintB;rw[if_neg (by simp),hd];simp only;rw[if_neg (by omega),if_neg (by omega),if_neg (by omega)];congr 1;omega
def numP(l:List UInt8):Option Int:=match Lib.parseIntB 64 l with|.ok v=>some v|_=>none
theorem v189{n:Int}(h0:0≤n)(h1:n≤9223372036854775807):numP (digN n)=some n:=by unfold numP;rw[w210 h0 h1]
end Go.Proofs.YtkkomffmnafjkaaGreatDoor
