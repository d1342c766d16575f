/- Plain: numbers in digits, as they are read; a date's text is read as it was. -/
import Derived.Test.YtkkomffmnafjkaaGreatDoorZV1
import Derived.Test.YtkkomffmnafjkaaGreatDoorZL10
set_option maxHeartbeats 16000000
set_option maxRecDepth 100000
set_option linter.all false
namespace Go.Proofs.YtkkomffmnafjkaaGreatDoor
theorem w188:∀(l:List UInt8)(acc x:Int),0≤acc→v129 acc l=some x→acc≤x
 |[],acc,x,_,h=>by simp[v129]at h;omega
 |c::r,acc,x,h0,h=>by
  rw[v129]at h;split at h;·
   next hd=>
    have h1:48≤c.toNat:=by unfold digB at hd;simp at hd;omega
    have:=w188 r _ x (by omega) h;omega
  ·cases h
theorem v209{l:List UInt8}{n:Int}(h:v129 0 l=some n)(k:Nat):∃v,v129 0 (l.take k)=some v∧0≤v∧v≤n∧v129 v (l.drop k)=some n:=by
 rw[←List.take_append_drop k l,y16]at h;cases hv:v129 0 (l.take k)with
  |none=>rw[hv]at h;cases h
  |some v=>rw[hv]at h;have h0:=w188 _ _ _ (Int.le_refl 0) hv;exact⟨v,rfl,h0,w188 _ _ _ h0 h,h⟩
theorem q195{l:List UInt8}{n v:Int}{k:Nat}(hk:k<l.length)(h:v129 0 l=some n)(hv:v129 0 (l.take k)=some v):digB l[k]=true∧v129 0 (l.take (k+1))=some (v*10+((l[k].toNat:Int)-48))∧v*10+((l[k].toNat:Int)-48)≤n∧0≤v:=by
 obtain⟨u,hu,h0,_,hd⟩:=v209 h k;rw[hv]at hu;injection hu with hu;subst hu;have hs:=j202 (acc:=v) hk;rw[hd]at hs;split at hs;·
  next hb=>
   have h1:48≤l[k].toNat:=by unfold digB at hb;simp at hb;omega
   refine⟨hb,?_,w188 _ _ _ (by omega) hs.symm,h0⟩;rw[List.take_succ_eq_append_getElem hk,y16,hv];simp only[v129,if_pos hb]
 ·cases hs
theorem q218:∀(u:Nat),1<(Lib.decDigits u).length→(Lib.decDigits u).headD 0≠48:=by
 intro u;induction u using Nat.strongRecOn with
  |ind u ih=>
   intro h;rw[Lib.decDigits]at h⊢;by_cases hu:u<10;·rw[dif_pos hu]at h;simp at h
   ·rw[dif_neg hu]at h⊢;by_cases h2:u/10<10;·
     have e:Lib.decDigits (u/10)=[UInt8.ofNat (48+u/10)]:=by rw[Lib.decDigits,dif_pos h2]
     rw[e];simp only[List.cons_append,List.headD_cons];intro e2;have:=congrArg UInt8.toNat e2;rw[y64 h2]at this;have h3:(48:UInt8).toNat=48:=rfl;omega
    ·have h3:1<(Lib.decDigits (u/10)).length:=by rw[Lib.decDigits,dif_neg h2,List.length_append];have:=k198 (u/10/10);simp;omega
     have h4:=ih (u/10) (by omega) h3;cases hd:Lib.decDigits (u/10)with|nil=>rw[hd]at h3;simp at h3|cons c r=>rw[hd]at h4;simpa using h4
theorem j218{n:Int}(h:1<(digN n).length):(digN n).headD 0≠48:=q218 _ h
theorem k193{n:Int}(h0:0≤n):v129 0 (digN n)=some n:=by unfold digN;rw[w204];congr 1;omega
theorem z191{n:Int}(h0:0≤n)(h1:n≤99):v129 0 (twoD n)=some n:=by unfold twoD dgt;rw[show[UInt8.ofNat (48+(n/10%10).toNat),UInt8.ofNat (48+(n%10).toNat)]=[UInt8.ofNat (48+(n/10%10).toNat)]++[UInt8.ofNat (48+(n%10).toNat)]from rfl,y16,y40 (by omega)];simp only;rw[y40 (by omega)];congr 1;omega
theorem k218{n:Int}(h0:0≤n)(h1:n≤9999):v129 0 (j90 n)=some n:=by rw[←x154,y16,z191 (by omega) (by omega)];unfold twoD dgt;simp only;rw[show[UInt8.ofNat (48+(n%100/10%10).toNat),UInt8.ofNat (48+(n%100%10).toNat)]=[UInt8.ofNat (48+(n%100/10%10).toNat)]++[UInt8.ofNat (48+(n%100%10).toNat)]from rfl,y16,y40 (by omega)];simp only;rw[y40 (by omega)];congr 1;omega
def befM(l:Bool):Nat→Int|0=>0|k+1=>befM l k+w37 l ((k:Int)+1)
theorem x205:∀l:Bool,∀r:Fin 366,(r.val<365∨l=true)→(r.val:Int)=(j27 l (r.val:Int)).1+befM l ((j27 l (r.val:Int)).2-1).toNat∧(j27 l (r.val:Int)).1+1≤w37 l (j27 l (r.val:Int)).2:=by decide+kernel
theorem x213{l:Bool}{r:Int}(h0:0≤r)(h1:r<365+(if l=true then 1 else 0)):r=(j27 l r).1+befM l ((j27 l r).2-1).toNat∧(j27 l r).1+1≤w37 l (j27 l r).2:=by
 have h366:r.toNat<366:=by split at h1<;>omega
 have:=x205 l ⟨r.toNat,h366⟩ (by
  cases l;·left;simp at h1;show r.toNat<365;omega
  ·exact .inr rfl);have e:((⟨r.toNat,h366⟩:Fin 366).val:Int)=r:=by show(r.toNat:Int)=r;omega
 rwa[e]at this
theorem x218{n:Int}(h0:0≤n)(h1:n≤2932896):befY (dayN n).year+befM (w28 (dayN n).year) ((dayN n).month-1).toNat+(dayN n).date-1=n∧(dayN n).date≤w37 (w28 (dayN n).year) (dayN n).month:=by obtain⟨r1,r2⟩:=j96 h0 h1;obtain⟨a,b⟩:=x213 r1 r2;simp only[dayN];omega
theorem y218:∀a b:Fin 12,x18 yearT (a.val:Int)=x18 yearT (b.val:Int)→a=b:=by decide+kernel
end Go.Proofs.YtkkomffmnafjkaaGreatDoor
