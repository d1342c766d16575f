/- Contracts of the reference on texts of ranges: number, item, small, bare. .. -/
import Derived.Test.YtkkomffmnafjkaaGreatDoorZS9
set_option maxHeartbeats 16000000
set_option maxRecDepth 100000
set_option linter.all false
namespace Go.Proofs.YtkkomffmnafjkaaGreatDoor
open Go.RowKit
def rtL(l:List UInt8):List UInt8:=(l.reverse.dropWhile j21).reverse
theorem x118(l:List UInt8)(c:UInt8):rtL (l++[c])=if j21 c=true then rtL l else l++[c]:=by unfold rtL;rw[List.reverse_append];cases h:j21 c<;>simp[h]
theorem y118(c:UInt8):∀(l:List UInt8),rtL (c::l)=if(j21 c&&(rtL l).isEmpty)=true then[]else c::rtL l:=by
 intro l;unfold rtL;rw[List.reverse_cons,List.dropWhile_append];cases h:(List.dropWhile j21 l.reverse).isEmpty;·
  have:(List.dropWhile j21 l.reverse).reverse.isEmpty=false:=by simpa using h
  simp[this]
 ·have h2:List.dropWhile j21 l.reverse=[]:=aN_.1 h;rw[h2];cases h3:j21 c<;>simp[h3]
theorem y105:∀(l:List UInt8),rtL (l.dropWhile j21)=(rtL l).dropWhile j21
 |[]=>rfl
 |c::r=>by
  have ih:=y105 r;rw[y118];cases h:j21 c;·simp[h,y118]
  ·cases h2:(rtL r).isEmpty;·simp[h,ih]
   ·have h3:rtL r=[]:=aN_.1 h2;simp[h,ih,h3]
theorem y163(l:List UInt8):q36 l=rtL (l.dropWhile j21):=by rw[y105];rfl
theorem q142{t:List UInt8}(h:0<t.length)(hb:j21 t[0]=true):t.tail.dropWhile j21=t.dropWhile j21:=by cases t with|nil=>simp at h|cons c r=>simp at hb;simp[hb]
theorem v153{t:List UInt8}(h:0<t.length)(hb:j21 t[0]=false):t.dropWhile j21=t:=by cases t with|nil=>simp at h|cons c r=>simp at hb;simp[hb]
theorem w118{u:List UInt8}(h:0<u.length):u=u.take (u.length-1)++[u[u.length-1]]:=by rw[←n_,u_ (by omega)]
theorem w163{u:List UInt8}(h:0<u.length)(hb:j21 u[u.length-1]=true):rtL (u.take (u.length-1))=rtL u:=by have e:=x118 (u.take (u.length-1)) u[u.length-1];rw[←w118 h,w_ hb]at e;exact e.symm
theorem rt_stop{u:List UInt8}(h:0<u.length)(hb:j21 u[u.length-1]=false):rtL u=u:=by have e:=x118 (u.take (u.length-1)) u[u.length-1];rw[←w118 h,q_ (by rw[hb];simp)]at e;exact e
theorem k89{c:UInt8}:j21 c=(decide (c.toNat=32)||decide (c.toNat=9)):=by unfold j21;rw[ak_];simp[←UInt8.toNat_inj]
theorem cat_one(X:List UInt8)(c:UInt8):(⟨X.toArray⟩++⟨#[c]⟩:ByteArray)=⟨(X++[c]).toArray⟩:=q73 (by simp)
theorem q68(W:World)(c:UInt8)(n:Int)(h:n=(c.toNat:Int)):Sem.run Tryz.prog (convert 243 9 (.slice (some ⟨W.heap.size,0,none⟩) 1 1)) (W.alloc (.cells #[.int .u8 n] 5))=.ok (.string ⟨#[c]⟩) (W.alloc (.cells #[.int .u8 n] 5)):=by subst h;refine run_convert_bytes_back (W.alloc (.cells #[.int .u8 (c.toNat:Int)] 5)) 243 9 5 ⟨W.heap.size,0,none⟩ 1 [c] aS_ be_ ay_ ?_;intro j hj;simp at hj;subst hj;simp[Addr.add]
theorem w105(y:Int)(w:World)(h0:0≤y)(h1:y≤100000):Calls Tryz.prog 286 #[.int .i64 y] w fun e w'=>e=.returned (.int .i64 (y/4-y/100+y/400))∧w'=w:=by go_enter Tryz.func286,Tryz.ntmps286;go_wp2_with fail;go_ret;exact⟨rfl,rfl⟩
theorem j142(w:World):Calls Tryz.prog 286 #[.int .i64 1969] w fun e w'=>e=.returned (.int .i64 477)∧w'=w:=w105 1969 w (by omega) (by omega)
theorem k153(y:Int)(w:World)(h0:1970≤y)(h1:y≤10000):Calls Tryz.prog 244 #[.int .i64 y] w fun e w'=>e=.returned (.int .i64 (befY y))∧w'=w:=by
 have HB:Hid (365*(y-1970)+((y-1)/4-(y-1)/100+(y-1)/400)-477=befY y):=rfl;have HL:=fun W=>a_ (w105 (y-1) W (by omega) (by omega));obtain⟨v,hv⟩:∃v,(y-1)/4-(y-1)/100+(y-1)/400=v:=⟨_,rfl⟩;have hv1:0≤v∧v≤10000:=by omega
 rw[hv]at HL HB;clear hv;go_enter Tryz.func244,Tryz.ntmps244;go_wp2_with fail;refine(HL _).out.mono ?_;rintro e w1⟨rfl,rfl⟩;go_wp2_with fail;refine(j142 _).mono ?_;rintro e w1⟨rfl,rfl⟩;go_wp2_with fail;go_ret;exact⟨z96 HB.out,rfl⟩
theorem j86(y:Int):(w28 y=true∧¬y%400=0∧y%4=0∧¬y%100=0)∨(w28 y=true∧y%400=0∧y%4=0∧y%100=0)∨(w28 y=false∧¬y%400=0∧¬y%4=0)∨(w28 y=false∧¬y%400=0∧y%4=0∧y%100=0):=by
 by_cases a:y%400=0;·refine .inr (.inl ⟨by simp[w28,a],a,by omega,by omega⟩)
 ·by_cases b:y%4=0;·
   by_cases c:y%100=0;·exact .inr (.inr (.inr ⟨by simp[w28,a,c],a,b,c⟩))
   ·exact .inl ⟨by simp[w28,b,c],a,b,c⟩
  ·exact .inr (.inr (.inl ⟨by simp[w28,a,b],a,b⟩))
theorem q164(y:Int)(w:World)(h0:0≤y)(h1:y≤100000):Calls Tryz.prog 285 #[.int .i64 y] w fun e w'=>e=.returned (.bool (w28 y))∧w'=w:=by
 rcases j86 y with⟨hv,a,b,c⟩|⟨hv,a,b,c⟩|⟨hv,a,b⟩|⟨hv,a,b,c⟩;all_goals
  have a':(y%400==0)=decide (y%400=0):=by rw[ak_];simp
  rw[hv];clear hv;go_enter Tryz.func285,Tryz.ntmps285;go_wp2_with fail;go_ret;exact⟨by simp[a];try rfl,rfl⟩
theorem w153(y:Int)(w:World)(h0:0≤y)(h1:y≤100000):Calls Tryz.prog 333 #[.int .i64 y] w fun e w'=>e=.returned (.bool (w28 y))∧w'=w:=by
 rcases j86 y with⟨hv,a,b,c⟩|⟨hv,a,b,c⟩|⟨hv,a,b⟩|⟨hv,a,b,c⟩;all_goals
  have a':(y%400==0)=decide (y%400=0):=by rw[ak_];simp
  rw[hv];clear hv;go_enter Tryz.func333,Tryz.ntmps333;go_wp2_with fail;go_ret;exact⟨by simp[a];try rfl,rfl⟩
theorem k86(l:Bool)(m:Int):(m=4∧w37 l m=30)∨(m=6∧w37 l m=30)∨(m=9∧w37 l m=30)∨(m=11∧w37 l m=30)∨(m=2∧w37 l m=if l=true then 29 else 28)∨(m≠4∧m≠6∧m≠9∧m≠11∧m≠2∧w37 l m=31):=by
 by_cases a:m=4;·exact .inl ⟨a,by subst a;rfl⟩
 by_cases b:m=6;·exact .inr (.inl ⟨b,by subst b;rfl⟩)
 by_cases c:m=9;·exact .inr (.inr (.inl ⟨c,by subst c;rfl⟩))
 by_cases d:m=11;·exact .inr (.inr (.inr (.inl ⟨d,by subst d;rfl⟩)))
 by_cases e:m=2;·exact .inr (.inr (.inr (.inr (.inl ⟨e,by subst e;rfl⟩))))
 ·exact .inr (.inr (.inr (.inr (.inr ⟨a,b,c,d,e,by unfold w37;rw[q_ (by omega),q_ e]⟩))))
theorem j164(y m:Int)(w:World)(h0:0≤y)(h1:y≤100000):Calls Tryz.prog 243 #[.int .i64 y,.int .i64 m] w fun e w'=>e=.returned (.int .i64 (w37 (w28 y) m))∧w'=w:=by
 have HL:=fun W=>a_ (q164 y W h0 h1);rcases k86 (w28 y) m with⟨a,hv⟩|⟨a,hv⟩|⟨a,hv⟩|⟨a,hv⟩|⟨a,hv⟩|⟨a,b,c,d,e,hv⟩;case inr.inr.inr.inr.inr=>rw[hv];clear hv HL;go_enter Tryz.func243,Tryz.ntmps243;go_wp2_with fail;go_ret;exact⟨rfl,rfl⟩
 case inr.inr.inr.inr.inl=>
  rw[hv];clear hv;subst a;cases hl:w28 y;all_goals rw[hl]at HL;clear hl;go_enter Tryz.func243,Tryz.ntmps243;go_wp2_with(go_at_call 285;refine(HL _).out.mono ?_;rintro e w1⟨rfl,rfl⟩);go_ret;exact⟨rfl,rfl⟩
 all_goals rw[hv];clear hv HL;subst a;go_enter Tryz.func243,Tryz.ntmps243;go_wp2_with fail;go_ret;exact⟨rfl,rfl⟩
theorem q154(y m:Int)(w:World)(h0:0≤y)(h1:y≤100000):Calls Tryz.prog 316 #[.int .i64 y,.int .i64 m] w fun e w'=>e=.returned (.int .i64 (w37 (w28 y) m))∧w'=w:=by
 have HL:=fun W=>a_ (w153 y W h0 h1);rcases k86 (w28 y) m with⟨a,hv⟩|⟨a,hv⟩|⟨a,hv⟩|⟨a,hv⟩|⟨a,hv⟩|⟨a,b,c,d,e,hv⟩;case inr.inr.inr.inr.inr=>rw[hv];clear hv HL;go_enter Tryz.func316,Tryz.ntmps316;go_wp2_with fail;go_ret;exact⟨rfl,rfl⟩
 case inr.inr.inr.inr.inl=>
  rw[hv];clear hv;subst a;cases hl:w28 y;all_goals rw[hl]at HL;clear hl;go_enter Tryz.func316,Tryz.ntmps316;go_wp2_with(go_at_call 333;refine(HL _).out.mono ?_;rintro e w1⟨rfl,rfl⟩);go_ret;exact⟨rfl,rfl⟩
 all_goals rw[hv];clear hv HL;subst a;go_enter Tryz.func316,Tryz.ntmps316;go_wp2_with fail;go_ret;exact⟨rfl,rfl⟩
theorem k125(y:Int)(w:World)(h0:1970≤y)(h1:y≤10000):Calls Tryz.prog 315 #[.int .i64 y] w fun e w'=>e=.returned (.int .i64 (befY y))∧w'=w:=by
 have HB:Hid (365*(y-1970)+(y-1)/4-(y-1)/100+(y-1)/400-477=befY y):=by simp only[Hid,befY];omega
 go_enter Tryz.func315,Tryz.ntmps315;go_wp2_with fail;go_ret;exact⟨z96 HB.out,rfl⟩
theorem j154(k:Nat)(hk:k≤9)(w:World):Calls Tryz.prog 251 #[.int .i64 (k:Int)] w fun e w'=>e=.returned (.int .i64 ((10^k:Nat):Int))∧w'=w:=by
 go_enter Tryz.func251,Tryz.ntmps251;go_wp2_with fail;go_loopw[3,5](fun p i wr=>wr=w∧∃j:Nat,j≤k∧i=.int .i64 (j:Int)∧p=.int .i64 ((10^j:Nat):Int))(fun _ i _=>k-(intOf i).toNat);case atStart=>exact⟨rfl,0,v_ _,rfl,rfl⟩
 case round=>
  obtain⟨rfl,j,hj,rfl,rfl⟩:=hrel;by_cases hlt:j<k;·
   have HP:Hid (10^(j+1)=10^j*10):=bg_ ..;have hb:10^j≤10^9:=Nat.pow_le_pow_right (by omega) (by omega);obtain⟨p,hp⟩:∃p,10^j=p:=⟨_,rfl⟩;rw[hp]at hb HP⊢;clear hp;go_wp2_with fail;go_roundw;case rel=>exact⟨by first|trivial|rfl,j+1,by omega,by go_num,by rw[HP.out];go_num⟩
   case measure=>simp[intOf];omega
  ·obtain rfl:j=k:=by omega
   go_wp2_with fail;go_ret;exact⟨rfl,rfl⟩
