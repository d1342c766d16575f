/- Words for slices of spans in memory, small laws on worlds, and the contracts .. -/
import Derived.Test.YtkkomffmnafjkaaGreatDoorRows
import Derived.Test.YtkkomffmnafjkaaGreatDoorZM1
import Derived.WalkKit
import Derived.WalkSpells
import Derived.WalkLawsBesides
import Derived.Lib.Hide
import Derived.Deep.QuietTactic
import Derived.BigQuiet
import Derived.Deep.RegionHeld3
import Derived.Deep.DeepCutAuto
import Derived.Deep.LoopGhost
import Derived.Deep.Light
set_option maxHeartbeats 16000000
set_option maxRecDepth 100000
set_option linter.all false
namespace Go.Proofs.YtkkomffmnafjkaaGreatDoor
open Go.RowKit
theorem q17{a b:Bool}(h:a=b):Ending.returned (.bool a)=.returned (.bool b):=by rw[h]
theorem z96{k:IntKind}{a b:Int}(h:a=b):Ending.returned (.int k a)=.returned (.int k b):=by rw[h]
theorem q12{w W w':World}(hb:Below W.heap.size W w')(h:Below w.heap.size w W):Below w.heap.size w w':=h.trans (hb.mono h.size)
theorem q11{w W:World}(h:Below w.heap.size w W)(o:Obj):Below w.heap.size w (W.alloc o):=h.alloc h.size o
theorem w14{w W:World}{p:Addr}(h:Below w.heap.size w W)(hp:w.heap.size≤p.block)(u:Value):Below w.heap.size w (W.setCell p u):=h.setCell hp u
theorem x15{w W:World}(h:Below w.heap.size w W):Below w.heap.size w W.drew:=h.drew
theorem q15{w W:World}(h:Below w.heap.size w W)(n:Nat):Below w.heap.size w (W.drewN n):=⟨h.os,h.tape,h.output,h.size,h.block⟩
theorem x16{W w':World}{b o:Nat}{v:Value}(hb:Below W.heap.size W w')(h:W.cell? ⟨b,o,none⟩=some v):w'.cell? ⟨b,o,none⟩=some v:=(hb.cell (p:=⟨b,o,none⟩) (World.block_lt_of_cell? W ⟨b,o,none⟩ h)).trans h
def j22(L:List (Int×Int)):List Value:=L.flatMap fun x=>[.int .i64 x.1,.int .i64 x.2]
theorem k42(a b:List (Int×Int)):j22 (a++b)=j22 a++j22 b:=by simp[j22]
theorem w70(x:Int×Int)(L:List (Int×Int)):j22 (x::L)=.int .i64 x.1::.int .i64 x.2::j22 L:=rfl
theorem w38(L:List (Int×Int)):(j22 L).length=L.length*2:=by induction L with|nil=>rfl|cons x L ih=>rw[w70];simp[ih];omega
theorem w44(L:List (Int×Int)):∀(i:Nat)(x:Int×Int),L[i]?=some x→(j22 L)[2*i]?=some (.int .i64 x.1)∧(j22 L)[2*i+1]?=some (.int .i64 x.2):=by
 induction L with
  |nil=>intro i x h;simp at h
  |cons y L ih=>
   intro i x h;cases i with
    |zero=>simp at h;subst h;exact⟨rfl,rfl⟩
    |succ i=>
     simp at h;have:=ih i x h;rw[w70];have e1:2*(i+1)=(2*i)+1+1:=by omega
     have e2:2*(i+1)+1=(2*i+1)+1+1:=by omega
     rw[e1];exact⟨by simpa using this.1,by simpa using this.2⟩
structure Sp(w:World)(A:Option Addr)(c:Nat)(L:List (Int×Int)):Prop where
 le:L.length≤c
 nil_:A=none→c=0
 at':0<L.length→∃b off,A=some ⟨b,off,none⟩∧b<w.heap.size∧∀i x,L[i]?=some x→w.cell? ⟨b,off+i*2,none⟩=some (.int .i64 x.1)∧w.cell? ⟨b,off+i*2+1,none⟩=some (.int .i64 x.2)
section
variable{w w':World}{A:Option Addr}{c:Nat}{L:List (Int×Int)}
theorem Sp.nil(w:World):Sp w none 0 []:=⟨Nat.le_refl _,fun _=>rfl,fun h=>by simp at h⟩
theorem Sp.keep(h:Sp w A c L)(hs:w.heap.size≤w'.heap.size)(hk:∀b o,b<w.heap.size→w'.cell? ⟨b,o,none⟩=w.cell? ⟨b,o,none⟩):Sp w' A c L:=⟨h.le,h.nil_,fun hn=>by obtain⟨b,off,e,hb,hc⟩:=h.at' hn;exact⟨b,off,e,by omega,fun i x hx=>by rw[hk _ _ hb,hk _ _ hb];exact hc i x hx⟩⟩
theorem Sp.below(h:Sp w A c L)(hb:Below w.heap.size w w'):Sp w' A c L:=h.keep hb.size fun _ _ hp=>hb.cell hp
theorem Sp.drew(h:Sp w A c L):Sp w.drew A c L:=⟨h.le,h.nil_,h.at'⟩
theorem Sp.drewN(h:Sp w A c L)(n:Nat):Sp (w.drewN n) A c L:=⟨h.le,h.nil_,h.at'⟩
theorem Sp.alloc(h:Sp w A c L)(o:Obj):Sp (w.alloc o) A c L:=h.below (q11 (Below.refl _ _) o)
theorem Sp.at_(h:Sp w A c L){k:Nat}(hk:k<L.length):∃b off,A=some ⟨b,off,none⟩∧b<w.heap.size∧w.cell? ⟨b,off+k*2,none⟩=some (.int .i64 (L[k]).1)∧w.cell? ⟨b,off+k*2+1,none⟩=some (.int .i64 (L[k]).2):=by obtain⟨b,off,e,hb,hc⟩:=h.at' (by omega);have:=hc k L[k] (List.getElem?_eq_getElem hk);exact⟨b,off,e,hb,this.1,this.2⟩
theorem Sp.of_own{base e:Nat}{n:Nat}(h:w.ownsRow base e 2 (.slice A n c) n (j22 L)):Sp w A c L∧n=L.length:=by
 have hn:n=L.length:=by have:=h.1;rw[w38]at this;omega
 refine⟨?_,hn⟩;rcases h.2 with⟨hv,h0⟩|⟨g,cap,cur,hv,hb,hg,hnc,hcm,hcs,htake⟩;·
  subst h0;have hc:c=0:=by injection hv
  exact⟨by omega,fun _=>hc,fun h=>by omega⟩
 ·have hA:A=some ⟨g,0,none⟩:=by injection hv
  have hc:c=cap:=by injection hv
  subst hA hc;refine⟨by omega,(fun e=>by cases e),fun _=>⟨g,0,rfl,(Array.getElem?_eq_some_iff.1 hg).1,fun i x hx=>?_⟩⟩;have hcell:=h.cells (g:=g) rfl;have hadd:∀j,(⟨g,0,none⟩:Addr).add j=⟨g,j,none⟩:=fun j=>by unfold Addr.add;split<;>simp_all
  have:=w44 L i x hx;have e1:=hcell _ _ this.1;have e2:=hcell _ _ this.2;rw[hadd]at e1 e2;refine⟨?_,?_⟩;·rw[show 0+i*2=2*i from by omega];exact e1
  ·rw[show 0+i*2+1=2*i+1 from by omega];exact e2
theorem Sp.cells(h:Sp w A c L){ad:Addr}(hA:A=some ad):∀j u,(j22 L)[j]?=some u→w.cell? (ad.add j)=some u:=by
 intro j u hu;have hj:j<(j22 L).length:=by
  rcases Nat.lt_or_ge j (j22 L).length with h1|h1;·exact h1
  ·rw[List.getElem?_eq_none h1]at hu;cases hu
 rw[w38]at hj;obtain⟨b,off,e,hb,hc⟩:=h.at' (by omega);rw[hA]at e;injection e with e;subst e;have hadd:∀j,(⟨b,off,none⟩:Addr).add j=⟨b,off+j,none⟩:=fun j=>by unfold Addr.add;split<;>simp_all
 rw[hadd];obtain⟨i,hi⟩:∃i,j=2*i∨j=2*i+1:=⟨j/2,by omega⟩;have hil:i<L.length:=by omega
 have hce:=w44 L i _ (List.getElem?_eq_getElem hil);have hcc:=hc i _ (List.getElem?_eq_getElem hil);rcases hi with rfl|rfl;·rw[hce.1]at hu;injection hu with hu;rw[←hu,Nat.mul_comm 2 i];exact hcc.1
 ·rw[hce.2]at hu;injection hu with hu;rw[←hu,Nat.mul_comm 2 i,←Nat.add_assoc];exact hcc.2
end
def CellsAt(w:World)(g:Nat)(cs:Array Value):Prop:=g<w.heap.size∧∀i,w.cell? ⟨g,i,none⟩=cs[i]?
theorem CellsAt.keep{W w':World}{g:Nat}{cs:Array Value}(h:CellsAt W g cs)(hb:Below W.heap.size W w'):CellsAt w' g cs:=⟨Nat.lt_of_lt_of_le h.1 hb.size,fun i=>(hb.cell (p:=⟨g,i,none⟩) h.1).trans (h.2 i)⟩
theorem q45(f t:Int)(w:World):Calls Tryz.prog 64 #[.agg #[.int .i64 f,.int .i64 t]] w fun e w'=>e=.returned (.bool (okS (f,t)))∧w.alloc (.cells #[.int .i64 f,.int .i64 t] 59)=w':=by go_enter Tryz.func64,Tryz.ntmps64;go_wp2;all_goals go_ret;refine⟨q17 ?_,rfl⟩;unfold okS;rw[Bool.eq_iff_iff];simp;try omega
def okc(c:UInt8):Bool:=decide (33≤c.toNat)&&decide (c.toNat≤126)
def okt(c:UInt8):Bool:=decide (33≤c.toNat)&&decide (c.toNat≤126)&&decide (c.toNat≠34)
def objB(l:List UInt8):Bool:=decide (1≤l.length)&&decide (l.length≤200)&&(l.headD 0==47)&&l.all okc
def y15(l:List UInt8):Bool:=decide (1≤l.length)&&decide (l.length≤100)&&l.all okt
theorem v200(p:UInt8→Bool)(s:ByteArray)(k:Nat)(h:k<s.size):(s.data.toList.take (k+1)).all p=((s.data.toList.take k).all p&&p s[k]):=by rw[List.take_succ_eq_append_getElem (by simpa using h),List.all_append];simp;rfl
theorem j191{p:UInt8→Bool}{s:ByteArray}{k:Nat}(h:k<s.size)(ha:(s.data.toList.take k).all p=true)(hp:p s[k]=true):(s.data.toList.take (k+1)).all p=true:=by rw[v200 p s k h,ha,hp];rfl
theorem head_eq(s:ByteArray)(h:0<s.size):s.data.toList.headD 0=s[0]:=by obtain⟨⟨l⟩⟩:=s;cases l with|nil=>simp[ByteArray.size]at h|cons a l=>rfl
theorem y35(p:UInt8→Bool)(s:ByteArray)(k:Nat)(h:k<s.size)(hp:p s[k]=false):s.data.toList.all p=false:=by rw[List.all_eq_false];refine⟨s[k],?_,by simp[hp]⟩;rw[ByteArray.getElem_eq_getElem_data];simp only[Array.mem_toList_iff];exact Array.getElem_mem _
theorem q192(s:ByteArray):s.data.toList.length=s.size:=rfl
theorem y192{p:UInt8→Bool}{s:ByteArray}{k:Nat}(h:¬k<s.size)(ha:(s.data.toList.take k).all p=true):s.data.toList.all p=true:=by rw[List.take_of_length_le (by rw[q192];omega)]at ha;exact ha
theorem objA(s:ByteArray)(w:World):Calls Tryz.prog 63 #[.string s] w fun e w'=>e=.returned (.bool (objB s.data.toList))∧w=w':=by
 have hl:=q192 s;by_cases h1:1≤s.size∧s.size≤200;·
  obtain⟨h1,h2⟩:=h1;have hh:=head_eq s (by omega);by_cases h3:s[0]=47;·
   have hb:(((s[0].toNat:Int))!=47)=false:=by simp[h3]
   have H:Hid (objB s.data.toList=s.data.toList.all okc):=by simp only[Hid];unfold objB;rw[hl,hh];simp[h1,h2,h3]
   clear hl hh h3;go_enter Tryz.func63,Tryz.ntmps63;go_wp2;go_loop[3,19](fun _ i=>∃k:Nat,k≤s.size∧i=.int .i64 k∧(s.data.toList.take k).all okc=true)(fun _ i=>s.size-(intOf i).toNat);case atStart=>exact⟨0,Nat.zero_le _,rfl,by simp⟩
   case round=>
    obtain⟨k,hk,rfl,hal⟩:=hrel;have HA:=Lib.hid hal;clear hal hb;by_cases hlt:k<s.size;·
     go_wp2;·go_ret;exact⟨q17 (by rw[H.out,y35 okc s k hlt (by simp only[okc];simp;omega)]),rfl⟩
     ·go_round;case rel=>exact⟨k+1,by omega,by go_num,j191 hlt HA.out (by simp only[okc];simp;omega)⟩
      case measure=>simp[intOf];omega
     ·go_ret;exact⟨q17 (by rw[H.out,y35 okc s k hlt (by simp only[okc];simp;omega)]),rfl⟩
    ·go_wp2;go_ret;exact⟨q17 (by rw[H.out,y192 hlt HA.out]),rfl⟩
  ·have hb:(((s[0].toNat:Int))!=47)=true:=by rw[bne_iff_ne];intro h;exact h3 (UInt8.toNat_inj.1 (by show s[0].toNat=47;omega))
   have H:Hid (objB s.data.toList=false):=by simp only[Hid];unfold objB;rw[hl,hh];simp[h3]
   clear hl hh h3;go_enter Tryz.func63,Tryz.ntmps63;go_wp2;go_ret;exact⟨q17 (by rw[H.out]),rfl⟩
 ·have H:Hid (objB s.data.toList=false):=by
   simp only[Hid];unfold objB;rw[hl];by_cases h2:1≤s.size;·have:¬s.size≤200:=fun h=>h1 ⟨h2,h⟩;simp[this]
   ·simp[h2]
  clear hl;by_cases h2:s.size<1;all_goals go_enter Tryz.func63,Tryz.ntmps63;go_wp2;go_ret;exact⟨q17 (by rw[H.out]),rfl⟩
theorem tagA(s:ByteArray)(wk:Bool)(w:World):Calls Tryz.prog 65 #[.agg #[.string s,.bool wk]] w fun e w'=>e=.returned (.bool (y15 s.data.toList))∧w.alloc (.cells #[.string s,.bool wk] 25)=w':=by
 have hl:=q192 s;by_cases h1:1≤s.size∧s.size≤100;·
  obtain⟨h1,h2⟩:=h1;have H:Hid (y15 s.data.toList=s.data.toList.all okt):=by simp only[Hid];unfold y15;rw[hl];simp[h1,h2]
  clear hl;go_enter Tryz.func65,Tryz.ntmps65;go_wp2;go_loop[3,4,18](fun _ _ i=>∃k:Nat,k≤s.size∧i=.int .i64 k∧(s.data.toList.take k).all okt=true)(fun _ _ i=>s.size-(intOf i).toNat);case atStart=>exact⟨0,Nat.zero_le _,rfl,by simp⟩
  case round=>
   obtain⟨k,hk,rfl,hal⟩:=hrel;have HA:=Lib.hid hal;clear hal;by_cases hlt:k<s.size;·
    by_cases h4:okt s[k]=true;·
     have HB:=Lib.hid h4;have h5:33≤s[k].toNat∧s[k].toNat≤126∧s[k].toNat≠34:=by simp[okt]at h4;refine⟨h4.1.1,h4.1.2,h4.2⟩
     obtain⟨h5,h6,h7⟩:=h5;have h8:((s[k].toNat:Int)==34)=false:=by rw[beq_eq_false_iff_ne];omega
     clear h4 h7;go_wp2;go_round;case rel=>exact⟨k+1,by omega,by go_num,j191 hlt HA.out HB.out⟩
     case measure=>simp[intOf];omega
    ·have HB:Hid (okt s[k]=false):=by simp only[Hid];simpa using h4
     have h5:s[k].toNat<33∨126<s[k].toNat∨s[k].toNat=34:=by simp[okt]at h4;omega
     clear h4;have fin:Hid (y15 s.data.toList=false):=by simp only[Hid];rw[H.out];exact y35 okt s k hlt HB.out
     by_cases h6:s[k].toNat<33;·clear h5;go_wp2;go_ret;exact⟨q17 (by rw[fin.out]),rfl⟩
     ·by_cases h7:s[k].toNat=34;·
       have h8:((s[k].toNat:Int)==34)=true:=by rw[beq_iff_eq];omega
       clear h5 h7;go_wp2;go_ret;exact⟨q17 (by rw[fin.out]),rfl⟩
      ·have h8:((s[k].toNat:Int)==34)=false:=by rw[beq_eq_false_iff_ne];omega
       have h9:126<s[k].toNat:=by omega
       clear h5 h7;go_wp2;go_ret;exact⟨q17 (by rw[fin.out]),rfl⟩
   ·go_wp2;go_ret;exact⟨q17 (by rw[H.out,y192 hlt HA.out]),rfl⟩
 ·have H:Hid (y15 s.data.toList=false):=by
   simp only[Hid];unfold y15;rw[hl];by_cases h2:1≤s.size;·have:¬s.size≤100:=fun h=>h1 ⟨h2,h⟩;simp[this]
   ·simp[h2]
  clear hl;by_cases h2:s.size<1;all_goals go_enter Tryz.func65,Tryz.ntmps65;go_wp2;go_ret;exact⟨q17 (by rw[H.out]),rfl⟩
def y37(f t:Int):Bool:=decide (0≤f)&&decide (f≤t)&&decide (t≤4611686018427387904)
theorem y45(f t:Int)(w:World):Calls Tryz.prog 64 #[.agg #[.int .i64 f,.int .i64 t]] w fun e w'=>e=.returned (.bool (y37 f t))∧w.alloc (.cells #[.int .i64 f,.int .i64 t] 59)=w':=by go_enter Tryz.func64,Tryz.ntmps64;go_wp2;all_goals go_ret;refine⟨q17 ?_,rfl⟩;unfold y37;rw[Bool.eq_iff_iff];simp;try omega
theorem v191(w:World):Calls Tryz.prog 66 #[] w fun e w'=>e=.returned (.agg #[.slice none 0 0,.slice none 0 0,.bool false,.bool false,.int .i64 (-1),.int .i64 (-1),.string ⟨#[]⟩,.bool false])∧w.alloc (.cells #[.slice none 0 0,.slice none 0 0,.bool false,.bool false,.int .i64 (-1),.int .i64 (-1),.string ⟨#[]⟩,.bool false] 27)=w':=by go_enter Tryz.func66,Tryz.ntmps66;go_wp2;exact bodyPost_ret (v:=.agg #[.slice none 0 0,.slice none 0 0,.bool false,.bool false,.int .i64 (-1),.int .i64 (-1),.string ⟨#[]⟩,.bool false]) (by simp[results,Tryz.results66,go_sem]) rfl ⟨rfl,rfl⟩
def SL2(w:World)(v:Value)(o:Option (Value×Value)):Prop:=match o with|none=>v=.slice none 0 0|some (x,y)=>∃b,v=.slice (some ⟨b,0,none⟩) 1 1∧b<w.heap.size∧w.cell? ⟨b,0,none⟩=some x∧w.cell? ⟨b,1,none⟩=some y
def y48(f t:Int):Option (Value×Value):=if t=4611686018427387904 then(if 0<f then some (.int .i64 f,.int .i64 (-1))else none)else some (.int .i64 f,.int .i64 (t-1))
def tagO(m:ByteArray)(mw:Bool):Option (Value×Value):=if m.toList=[]then none else some (.string m,.bool mw)
abbrev reqV(o:ByteArray)(S M N:Value):Value:=.agg #[.bool false,.string o,S,M,N,.bool false,.bool false,.int .i64 (-1),.int .i64 (-1),.string ⟨#[]⟩,.bool false]
def j189(o m n:ByteArray)(f t:Int)(mw nw:Bool)(w:World)(e:Ending)(w':World):Prop:=∃S M N,e=.returned (.tuple #[reqV o S M N,.int .i64 0])∧SL2 w' S (y48 f t)∧SL2 w' M (tagO m mw)∧SL2 w' N (tagO n nw)∧Below w.heap.size w w'
theorem z18{w:World}{v x y:Value}(b:Nat)(hv:v=.slice (some ⟨b,0,none⟩) 1 1)(hb:b<w.heap.size)(hx:w.cell? ⟨b,0,none⟩=some x)(hy:w.cell? ⟨b,1,none⟩=some y):SL2 w v (some (x,y)):=⟨b,hv,hb,hx,hy⟩
theorem y18{w:World}:SL2 w (.slice none 0 0) none:=rfl
theorem v215(o m n:ByteArray)(f t:Int)(mw nw:Bool)(w:World)(hO:objB o.data.toList=true)(hR:y37 f t=true)(hft:(f==t)=false)(hfM:f<1000000000000000000)(ht0:0≤f)(htf:¬t=4611686018427387904)(htM:t≤1000000000000000000)(htb:(t !=4611686018427387904)=true)(htc:(t==4611686018427387904)=false)(htn:0≤t)(hm:¬m.toList=[]∧y15 m.data.toList=true)(hn:n.toList=[]∧nw=false):Calls Tryz.prog 18 #[.agg #[.string o,.int .i64 f,.int .i64 t,.string m,.bool mw,.string n,.bool nw]] w (j189 o m n f t mw nw w):=by
 have HT:Hid (y48 f t=some (.int .i64 f,.int .i64 (t-1))):=by simp[Hid,y48,htf]
 clear htf;obtain⟨hm,hmt⟩:=hm;obtain⟨hn,rfl⟩:=hn;all_goals
  have HM:=Lib.hid hm;have HN:=Lib.hid hn;go_enter Tryz.func18,Tryz.ntmps18;go_wp2_with(first|(go_at_call 63;refine(objA _ _).mono ?_;rintro e w'⟨rfl,rfl⟩)|(go_at_call 64;refine(y45 _ _ _).mono ?_;rintro e w'⟨rfl,rfl⟩)|(go_at_call 65;refine(tagA _ _ _).mono ?_;rintro e w'⟨rfl,rfl⟩));go_region_held3(fun w'=>w'.cell? ⟨w.heap.size,0,none⟩=some (.string o))(go_simp)(first|(go_at_call 66;refine(v191 _).mono ?_;rintro e w'⟨rfl,rfl⟩));all_goals go_wp2
  all_goals
   refine bodyPost_ret (by simp[results,Tryz.results18,go_sem];try rfl) rfl ?_;refine⟨_,_,_,rfl,?_,?_,?_,?_⟩;·rw[HT.out];first|exact y18|exact z18 _ rfl (by simp) (by simp[go_sem]) (by simp[go_sem])
   ·simp only[tagO];first|(rw[if_pos HM.out];exact y18)|(rw[if_neg HM.out];exact z18 _ rfl (by simp) (by simp[go_sem]) (by simp[go_sem]))
   ·simp only[tagO];first|(rw[if_pos HN.out];exact y18)|(rw[if_neg HN.out];exact z18 _ rfl (by simp) (by simp[go_sem]) (by simp[go_sem]))
   ·repeat(first|exact Below.refl _ _|refine x15 ?_|refine q11 ?_ _)
theorem x204(w:World):Calls Tryz.prog 17 #[] w fun e w'=>e=.returned (.bool true)∧Below w.heap.size w w':=by
 have hO:objB (⟨#[47,97]⟩:ByteArray).data.toList=true:=by decide
 have hy:y15 (⟨#[118]⟩:ByteArray).data.toList=true:=by decide
 have hm:¬(⟨#[118]⟩:ByteArray).toList=[]:=by rw[ByteArray.toList_eq];simp
 have hn:(⟨#[]⟩:ByteArray).toList=[]:=by rw[ByteArray.toList_eq]
 have HA:=fun W=>Lib.hid (v215 ⟨#[47,97]⟩ ⟨#[118]⟩ ⟨#[]⟩ 4 8 false false W hO rfl rfl (by omega) (by omega) (by omega) (by omega) rfl rfl (by omega) ⟨hm,hy⟩ ⟨hn,rfl⟩);clear hO hm hn;clear hy;go_enter Tryz.func17,Tryz.ntmps17;go_wp2_with fail;refine(HA _).out.mono ?_;intro e w1 h;obtain⟨S,M,N,rfl,hS,hM,hN,hb⟩:=h;have eS:y48 4 8=some (.int .i64 4,.int .i64 7):=rfl;have eM:tagO ⟨#[118]⟩ false=some (.string ⟨#[118]⟩,.bool false):=by unfold tagO;rw[ByteArray.toList_eq];rfl
 rw[eS]at hS;rw[eM]at hM;obtain⟨bS,rfl,pS,qS,rS⟩:=hS;obtain⟨bM,rfl,pM,qM,rM⟩:=hM;have eN:tagO ⟨#[]⟩ false=none:=by unfold tagO;rw[ByteArray.toList_eq];rfl
 rw[eN]at hN;obtain rfl:N=.slice none 0 0:=hN;clear eS eM eN HA;go_wp2_with fail;go_ret;refine⟨rfl,?_⟩;repeat(first|exact Below.refl _ _|exact hb|refine q15 ?_ _|refine x15 ?_|refine q11 ?_ _)
theorem x210(o m n:ByteArray)(f t:Int)(mw nw:Bool)(w:World):Calls Tryz.prog 13 #[.agg #[.string o,.int .i64 f,.int .i64 t,.string m,.bool mw,.string n,.bool nw]] w fun e w'=>e=.returned (.bool (decide (o.size≤300)&&decide (m.size≤200)&&decide (n.size≤200)))∧w.alloc (.cells #[.string o,.int .i64 f,.int .i64 t,.string m,.bool mw,.string n,.bool nw] 61)=w':=by go_enter Tryz.func13,Tryz.ntmps13;go_wp2;all_goals go_ret;refine⟨q17 ?_,rfl⟩;rw[Bool.eq_iff_iff];simp;try omega
theorem objR(s:ByteArray)(w:World):Calls Tryz.prog 57 #[.string s] w fun e w'=>e=.returned (.bool (objB s.data.toList))∧w=w':=by
 have hl:=q192 s;by_cases h1:1≤s.size∧s.size≤200;·
  obtain⟨h1,h2⟩:=h1;have hh:=head_eq s (by omega);by_cases h3:s[0]=47;·
   have hb:(((s[0].toNat:Int))!=47)=false:=by simp[h3]
   have H:Hid (objB s.data.toList=s.data.toList.all okc):=by simp only[Hid];unfold objB;rw[hl,hh];simp[h1,h2,h3]
   clear hl hh h3;go_enter Tryz.func57,Tryz.ntmps57;go_wp2;go_loop[3](fun i=>∃k:Nat,k≤s.size∧i=.int .i64 k∧(s.data.toList.take k).all okc=true)(fun i=>s.size-(intOf i).toNat);case atStart=>exact⟨0,Nat.zero_le _,rfl,by simp⟩
   case round=>
    obtain⟨k,hk,rfl,hal⟩:=hrel;have HA:=Lib.hid hal;clear hal hb;by_cases hlt:k<s.size;·
     go_wp2;·go_ret;exact⟨q17 (by rw[H.out,y35 okc s k hlt (by simp only[okc];simp;omega)]),rfl⟩
     ·go_round;case rel=>exact⟨k+1,by omega,by go_num,j191 hlt HA.out (by simp only[okc];simp;omega)⟩
      case measure=>simp[intOf];omega
     ·go_ret;exact⟨q17 (by rw[H.out,y35 okc s k hlt (by simp only[okc];simp;omega)]),rfl⟩
    ·go_wp2;go_ret;exact⟨q17 (by rw[H.out,y192 hlt HA.out]),rfl⟩
  ·have hb:(((s[0].toNat:Int))!=47)=true:=by rw[bne_iff_ne];intro h;exact h3 (UInt8.toNat_inj.1 (by show s[0].toNat=47;omega))
   have H:Hid (objB s.data.toList=false):=by simp only[Hid];unfold objB;rw[hl,hh];simp[h3]
   clear hl hh h3;go_enter Tryz.func57,Tryz.ntmps57;go_wp2;go_ret;exact⟨q17 (by rw[H.out]),rfl⟩
 ·have H:Hid (objB s.data.toList=false):=by
   simp only[Hid];unfold objB;rw[hl];by_cases h2:1≤s.size;·have:¬s.size≤200:=fun h=>h1 ⟨h2,h⟩;simp[this]
   ·simp[h2]
  clear hl;by_cases h2:s.size<1;all_goals go_enter Tryz.func57,Tryz.ntmps57;go_wp2;go_ret;exact⟨q17 (by rw[H.out]),rfl⟩
theorem tagR(s:ByteArray)(wk:Bool)(w:World):Calls Tryz.prog 59 #[.agg #[.string s,.bool wk]] w fun e w'=>e=.returned (.bool (y15 s.data.toList))∧w.alloc (.cells #[.string s,.bool wk] 25)=w':=by
 have hl:=q192 s;by_cases h1:1≤s.size∧s.size≤100;·
  obtain⟨h1,h2⟩:=h1;have H:Hid (y15 s.data.toList=s.data.toList.all okt):=by simp only[Hid];unfold y15;rw[hl];simp[h1,h2]
  clear hl;go_enter Tryz.func59,Tryz.ntmps59;go_wp2;go_loop[3,4](fun i _=>∃k:Nat,k≤s.size∧i=.int .i64 k∧(s.data.toList.take k).all okt=true)(fun i _=>s.size-(intOf i).toNat);case atStart=>exact⟨0,Nat.zero_le _,rfl,by simp⟩
  case round=>
   obtain⟨k,hk,rfl,hal⟩:=hrel;have HA:=Lib.hid hal;clear hal;by_cases hlt:k<s.size;·
    by_cases h4:okt s[k]=true;·
     have HB:=Lib.hid h4;have h5:33≤s[k].toNat∧s[k].toNat≤126∧s[k].toNat≠34:=by simp[okt]at h4;refine⟨h4.1.1,h4.1.2,h4.2⟩
     obtain⟨h5,h6,h7⟩:=h5;have h8:((s[k].toNat:Int)==34)=false:=by rw[beq_eq_false_iff_ne];omega
     clear h4 h7;go_wp2;go_round;case rel=>exact⟨k+1,by omega,by go_num,j191 hlt HA.out HB.out⟩
     case measure=>simp[intOf];omega
    ·have HB:Hid (okt s[k]=false):=by simp only[Hid];simpa using h4
     have h5:s[k].toNat<33∨126<s[k].toNat∨s[k].toNat=34:=by simp[okt]at h4;omega
     clear h4;have fin:Hid (y15 s.data.toList=false):=by simp only[Hid];rw[H.out];exact y35 okt s k hlt HB.out
     by_cases h6:s[k].toNat<33;·clear h5;go_wp2;go_ret;exact⟨q17 (by rw[fin.out]),rfl⟩
     ·by_cases h7:s[k].toNat=34;·
       have h8:((s[k].toNat:Int)==34)=true:=by rw[beq_iff_eq];omega
       clear h5 h7;go_wp2;go_ret;exact⟨q17 (by rw[fin.out]),rfl⟩
      ·have h8:((s[k].toNat:Int)==34)=false:=by rw[beq_eq_false_iff_ne];omega
       have h9:126<s[k].toNat:=by omega
       clear h5 h7;go_wp2;go_ret;exact⟨q17 (by rw[fin.out]),rfl⟩
   ·go_wp2;go_ret;exact⟨q17 (by rw[H.out,y192 hlt HA.out]),rfl⟩
 ·have H:Hid (y15 s.data.toList=false):=by
   simp only[Hid];unfold y15;rw[hl];by_cases h2:1≤s.size;·have:¬s.size≤100:=fun h=>h1 ⟨h2,h⟩;simp[this]
   ·simp[h2]
  clear hl;by_cases h2:s.size<1;all_goals go_enter Tryz.func59,Tryz.ntmps59;go_wp2;go_ret;exact⟨q17 (by rw[H.out]),rfl⟩
def y46(s:ByteArray)(wk:Bool):Bool:=s.toList.isEmpty&&!wk
theorem zeroTag(s:ByteArray)(wk:Bool)(w:World):Calls Tryz.prog 58 #[.agg #[.string s,.bool wk]] w fun e w'=>e=.returned (.bool (y46 s wk))∧w.alloc (.cells #[.string s,.bool wk] 25)=w':=by
 go_enter Tryz.func58,Tryz.ntmps58;go_wp2;all_goals go_ret;refine⟨q17 ?_,rfl⟩;unfold y46;simp[*]
theorem y204(o m n:ByteArray)(f t:Int)(mw nw:Bool)(w:World):Calls Tryz.prog 14 #[.agg #[.string o,.int .i64 f,.int .i64 t,.string m,.bool mw,.string n,.bool nw]] w fun e w'=>e=.returned (.bool (objB o.data.toList&&decide (0≤f)&&decide (f<t)&&decide (f<1000000000000000000)&&(decide (t≤1000000000000000000)||(t==4611686018427387904))&&(y46 m mw||y15 m.data.toList)&&(y46 n nw||y15 n.data.toList)))∧Below w.heap.size w w':=by
 go_enter Tryz.func14,Tryz.ntmps14;go_wp2_with(first|(go_at_call 57;refine(objR _ _).mono ?_;rintro e w'⟨rfl,rfl⟩)|(go_at_call 58;refine(zeroTag _ _ _).mono ?_;rintro e w'⟨rfl,rfl⟩)|(go_at_call 59;refine(tagR _ _ _).mono ?_;rintro e w'⟨rfl,rfl⟩));all_goals
  go_ret;refine⟨q17 ?_,?_⟩;·go_light;grind
  ·repeat(first|exact Below.refl _ _|refine q12 (by assumption) ?_|refine q11 ?_ _)
def askB(o m n:ByteArray)(f t:Int)(mw nw:Bool):Bool:=objB o.data.toList&&decide (0≤f)&&decide (f<t)&&decide (f<1000000000000000000)&&(decide (t≤1000000000000000000)||(t==4611686018427387904))&&(y46 m mw||y15 m.data.toList)&&(y46 n nw||y15 n.data.toList)
theorem k215(o m n:ByteArray)(f t:Int)(mw nw:Bool)(w:World)(hO:objB o.data.toList=true)(hR:y37 f t=true)(hft:(f==t)=false)(hfM:f<1000000000000000000)(ht0:0≤f)(htf:t=4611686018427387904)(hf0:f=0)(hm:m.toList=[]∧mw=false∨¬m.toList=[]∧y15 m.data.toList=true)(hn:n.toList=[]∧nw=false∨¬n.toList=[]∧y15 n.data.toList=true):Calls Tryz.prog 18 #[.agg #[.string o,.int .i64 f,.int .i64 t,.string m,.bool mw,.string n,.bool nw]] w (j189 o m n f t mw nw w):=by
 have HT:Hid (y48 f t=none):=by simp[Hid,y48,htf,hf0]
 subst htf hf0;rcases hm with⟨hm,rfl⟩|⟨hm,hmt⟩<;>rcases hn with⟨hn,rfl⟩|⟨hn,hnt⟩;all_goals
  have HM:=Lib.hid hm;have HN:=Lib.hid hn;go_enter Tryz.func18,Tryz.ntmps18;go_wp2_with(first|(go_at_call 63;refine(objA _ _).mono ?_;rintro e w'⟨rfl,rfl⟩)|(go_at_call 64;refine(y45 _ _ _).mono ?_;rintro e w'⟨rfl,rfl⟩)|(go_at_call 65;refine(tagA _ _ _).mono ?_;rintro e w'⟨rfl,rfl⟩));go_region_held3(fun w'=>w'.cell? ⟨w.heap.size,0,none⟩=some (.string o))(go_simp)(first|(go_at_call 66;refine(v191 _).mono ?_;rintro e w'⟨rfl,rfl⟩));all_goals go_wp2
  all_goals
   refine bodyPost_ret (by simp[results,Tryz.results18,go_sem];try rfl) rfl ?_;refine⟨_,_,_,rfl,?_,?_,?_,?_⟩;·rw[HT.out];first|exact y18|exact z18 _ rfl (by simp) (by simp[go_sem]) (by simp[go_sem])
   ·simp only[tagO];first|(rw[if_pos HM.out];exact y18)|(rw[if_neg HM.out];exact z18 _ rfl (by simp) (by simp[go_sem]) (by simp[go_sem]))
   ·simp only[tagO];first|(rw[if_pos HN.out];exact y18)|(rw[if_neg HN.out];exact z18 _ rfl (by simp) (by simp[go_sem]) (by simp[go_sem]))
   ·repeat(first|exact Below.refl _ _|refine x15 ?_|refine q11 ?_ _)
theorem x215(o m n:ByteArray)(f t:Int)(mw nw:Bool)(w:World)(hO:objB o.data.toList=true)(hR:y37 f t=true)(hft:(f==t)=false)(hfM:f<1000000000000000000)(ht0:0≤f)(htf:t=4611686018427387904)(hf0:0<f)(hm:m.toList=[]∧mw=false∨¬m.toList=[]∧y15 m.data.toList=true)(hn:n.toList=[]∧nw=false∨¬n.toList=[]∧y15 n.data.toList=true):Calls Tryz.prog 18 #[.agg #[.string o,.int .i64 f,.int .i64 t,.string m,.bool mw,.string n,.bool nw]] w (j189 o m n f t mw nw w):=by
 have HT:Hid (y48 f t=some (.int .i64 f,.int .i64 (-1))):=by simp[Hid,y48,htf,hf0]
 subst htf;rcases hm with⟨hm,rfl⟩|⟨hm,hmt⟩<;>rcases hn with⟨hn,rfl⟩|⟨hn,hnt⟩;all_goals
  have HM:=Lib.hid hm;have HN:=Lib.hid hn;go_enter Tryz.func18,Tryz.ntmps18;go_wp2_with(first|(go_at_call 63;refine(objA _ _).mono ?_;rintro e w'⟨rfl,rfl⟩)|(go_at_call 64;refine(y45 _ _ _).mono ?_;rintro e w'⟨rfl,rfl⟩)|(go_at_call 65;refine(tagA _ _ _).mono ?_;rintro e w'⟨rfl,rfl⟩));go_region_held3(fun w'=>w'.cell? ⟨w.heap.size,0,none⟩=some (.string o))(go_simp)(first|(go_at_call 66;refine(v191 _).mono ?_;rintro e w'⟨rfl,rfl⟩));all_goals go_wp2
  all_goals
   refine bodyPost_ret (by simp[results,Tryz.results18,go_sem];try rfl) rfl ?_;refine⟨_,_,_,rfl,?_,?_,?_,?_⟩;·rw[HT.out];first|exact y18|exact z18 _ rfl (by simp) (by simp[go_sem]) (by simp[go_sem])
   ·simp only[tagO];first|(rw[if_pos HM.out];exact y18)|(rw[if_neg HM.out];exact z18 _ rfl (by simp) (by simp[go_sem]) (by simp[go_sem]))
   ·simp only[tagO];first|(rw[if_pos HN.out];exact y18)|(rw[if_neg HN.out];exact z18 _ rfl (by simp) (by simp[go_sem]) (by simp[go_sem]))
   ·repeat(first|exact Below.refl _ _|refine x15 ?_|refine q11 ?_ _)
theorem y215(o m n:ByteArray)(f t:Int)(mw nw:Bool)(w:World)(hO:objB o.data.toList=true)(hR:y37 f t=true)(hft:(f==t)=false)(hfM:f<1000000000000000000)(ht0:0≤f)(htf:¬t=4611686018427387904)(htM:t≤1000000000000000000)(htb:(t !=4611686018427387904)=true)(htc:(t==4611686018427387904)=false)(htn:0≤t)(hm:m.toList=[]∧mw=false∨¬m.toList=[]∧y15 m.data.toList=true)(hn:n.toList=[]∧nw=false∨¬n.toList=[]∧y15 n.data.toList=true):Calls Tryz.prog 18 #[.agg #[.string o,.int .i64 f,.int .i64 t,.string m,.bool mw,.string n,.bool nw]] w (j189 o m n f t mw nw w):=by
 have HT:Hid (y48 f t=some (.int .i64 f,.int .i64 (t-1))):=by simp[Hid,y48,htf]
 clear htf;rcases hm with⟨hm,rfl⟩|⟨hm,hmt⟩<;>rcases hn with⟨hn,rfl⟩|⟨hn,hnt⟩;all_goals
  have HM:=Lib.hid hm;have HN:=Lib.hid hn;go_enter Tryz.func18,Tryz.ntmps18;go_wp2_with(first|(go_at_call 63;refine(objA _ _).mono ?_;rintro e w'⟨rfl,rfl⟩)|(go_at_call 64;refine(y45 _ _ _).mono ?_;rintro e w'⟨rfl,rfl⟩)|(go_at_call 65;refine(tagA _ _ _).mono ?_;rintro e w'⟨rfl,rfl⟩));go_region_held3(fun w'=>w'.cell? ⟨w.heap.size,0,none⟩=some (.string o))(go_simp)(first|(go_at_call 66;refine(v191 _).mono ?_;rintro e w'⟨rfl,rfl⟩));all_goals go_wp2
  all_goals
   refine bodyPost_ret (by simp[results,Tryz.results18,go_sem];try rfl) rfl ?_;refine⟨_,_,_,rfl,?_,?_,?_,?_⟩;·rw[HT.out];first|exact y18|exact z18 _ rfl (by simp) (by simp[go_sem]) (by simp[go_sem])
   ·simp only[tagO];first|(rw[if_pos HM.out];exact y18)|(rw[if_neg HM.out];exact z18 _ rfl (by simp) (by simp[go_sem]) (by simp[go_sem]))
   ·simp only[tagO];first|(rw[if_pos HN.out];exact y18)|(rw[if_neg HN.out];exact z18 _ rfl (by simp) (by simp[go_sem]) (by simp[go_sem]))
   ·repeat(first|exact Below.refl _ _|refine x15 ?_|refine q11 ?_ _)
theorem v199{m:ByteArray}{mw:Bool}(h:(y46 m mw||y15 m.data.toList)=true):m.toList=[]∧mw=false∨¬m.toList=[]∧y15 m.data.toList=true:=by
 by_cases hz:y46 m mw=true;·left;simpa[y46]using hz
 ·right;have ht:y15 m.data.toList=true:=by simpa[hz]using h
  refine⟨fun he=>?_,ht⟩;rw[ByteArray.toList_eq]at he;rw[he]at ht;simp[y15]at ht
theorem v207{o m n:ByteArray}{f t:Int}{mw nw:Bool}(h:askB o m n f t mw nw=true):objB o.data.toList=true∧y37 f t=true∧(f==t)=false∧f<1000000000000000000∧0≤f∧(t=4611686018427387904∧f=0∨t=4611686018427387904∧0<f∨¬t=4611686018427387904∧t≤1000000000000000000∧(t !=4611686018427387904)=true∧(t==4611686018427387904)=false∧0≤t)∧(m.toList=[]∧mw=false∨¬m.toList=[]∧y15 m.data.toList=true)∧(n.toList=[]∧nw=false∨¬n.toList=[]∧y15 n.data.toList=true):=by
 unfold askB at h;simp only[Bool.and_eq_true,decide_eq_true_eq]at h;obtain⟨⟨⟨⟨⟨⟨h1,h2⟩,h3⟩,h4⟩,h5⟩,h6⟩,h7⟩:=h;have h5':t≤1000000000000000000∨t=4611686018427387904:=by simpa using h5
 refine⟨h1,?_,?_,h4,h2,?_,v199 h6,v199 h7⟩;·unfold y37;simp;omega
 ·rw[beq_eq_false_iff_ne];omega
 ·by_cases ht:t=4611686018427387904;·
   by_cases hf:f=0;·exact .inl ⟨ht,hf⟩
   ·exact .inr (.inl ⟨ht,by omega⟩)
  ·exact .inr (.inr ⟨ht,by omega,by rw[bne_iff_ne];exact ht,by rw[beq_eq_false_iff_ne];exact ht,by omega⟩)
theorem ask_yes(o m n:ByteArray)(f t:Int)(mw nw:Bool)(w:World)(h:askB o m n f t mw nw=true):Calls Tryz.prog 18 #[.agg #[.string o,.int .i64 f,.int .i64 t,.string m,.bool mw,.string n,.bool nw]] w (j189 o m n f t mw nw w):=by
 obtain⟨h1,h2,h3,h4,h5,h6,h7,h8⟩:=v207 h;rcases h6 with⟨a,b⟩|⟨a,b⟩|⟨a,b,c,d,e⟩;·exact k215 o m n f t mw nw w h1 h2 h3 h4 h5 a b h7 h8
 ·exact x215 o m n f t mw nw w h1 h2 h3 h4 h5 a b h7 h8
 ·exact y215 o m n f t mw nw w h1 h2 h3 h4 h5 a b c d e h7 h8
end Go.Proofs.YtkkomffmnafjkaaGreatDoor
