/- Contract of ranges.gather. -/
import Derived.Test.YtkkomffmnafjkaaGreatDoorZB1
import Derived.Deep.AppendLies
import Derived.Laws.AppendOwnNone
set_option maxHeartbeats 16000000
set_option maxRecDepth 100000
set_option linter.all false
namespace Go.Proofs.YtkkomffmnafjkaaGreatDoor
abbrev bX_:=@Go.World.ownsRow.form
open Go.RowKit
theorem Tryz.spanInfo:(Tryz.prog.info? 59).map (fun i=>(i.zero,i.size,i.bytes))=some (some (.agg #[.int .i64 0,.int .i64 0]),2,16):=by kernel_rfl
def Own(w:World)(base:Nat)(A:Option Addr)(c:Nat)(L:List (Int×Int)):Prop:=w.ownsRow base 59 2 (.slice A L.length c) L.length (j22 L)
theorem Own.nil(w:World)(base:Nat):Own w base none 0 []:=bH_ w base _ _
theorem Own.sp{w:World}{base:Nat}{A:Option Addr}{c:Nat}{L:List (Int×Int)}(h:Own w base A c L):Sp w A c L:=(Sp.of_own h).1
theorem Own.at_{w:World}{base:Nat}{A:Option Addr}{c:Nat}{L:List (Int×Int)}(h:Own w base A c L)(hn:0<L.length):∃g,A=some ⟨g,0,none⟩∧base≤g∧g<w.heap.size:=by obtain⟨g,cap,hv,hb,hlt⟩:=bX_ h hn;injection hv with hA;exact⟨g,hA,hb,hlt⟩
theorem k119{i:List (Int×Int)}{l:Int×Int}{t:Int}:(j22 (i++[l])).set (i.length*2+1) (.int .i64 t)=j22 (i++[(l.1,t)]):=by rw[k42,k42,List.set_append,q_ (by rw[w38];omega),w38,show i.length*2+1-i.length*2=1 from by omega];rfl
def RetSp(L:List (Int×Int))(w:World)(e:Ending)(w':World):Prop:=∃A c,e=.returned (.slice A L.length c)∧Own w' w.heap.size A c L∧Below w.heap.size w w'
def q171(L:List (Int×Int))(w:World)(e:Ending)(w':World):Prop:=∃A c,e=.returned (.agg #[.slice A L.length c])∧Sp w' A c L∧Below w.heap.size w w'
theorem Own.alloc{w:World}{base:Nat}{A:Option Addr}{c:Nat}{L:List (Int×Int)}(h:Own w base A c L)(o:Obj):Own (w.alloc o) base A c L:=bT_ h o
theorem Own.drew{w:World}{base:Nat}{A:Option Addr}{c:Nat}{L:List (Int×Int)}(h:Own w base A c L):Own w.drew base A c L:=bY_ h
theorem Own.drewN{w:World}{base:Nat}{A:Option Addr}{c:Nat}{L:List (Int×Int)}(h:Own w base A c L)(n:Nat):Own (w.drewN n) base A c L:=h
theorem Own.below{w w':World}{base:Nat}{A:Option Addr}{c:Nat}{L:List (Int×Int)}(h:Own w base A c L)(hb:Below w.heap.size w w'):Own w' base A c L:=az_ (row:=none) h ⟨hb.os,hb.tape,hb.output,hb.size,fun k hk _=>hb.block k hk⟩ (by cases A<;>simp[Value.ownBlock])
theorem Own.base_le{w:World}{base base':Nat}{A:Option Addr}{c:Nat}{L:List (Int×Int)}(h:Own w base A c L)(hb:base'≤base):Own w base' A c L:=by
 refine⟨h.1,?_⟩;rcases h.2 with h2|⟨g,cap,cur,hv,hg,r⟩;·exact .inl h2
 ·exact .inr ⟨g,cap,cur,hv,by omega,r⟩
theorem Own.setTo{w:World}{base g c:Nat}{i:List (Int×Int)}{l:Int×Int}(t:Int)(h:Own w base (some ⟨g,0,none⟩) c (i++[l])):Own (w.setCell ⟨g,i.length*2+1,none⟩ (.int .i64 t)) base (some ⟨g,0,none⟩) c (i++[(l.1,t)]):=by
 have h1:=(bq_ h (i.length*2+1) (.int .i64 t)).1;rw[k119]at h1;have e1:(i++[l]).length=(i++[(l.1,t)]).length:=by simp
 unfold Own;rw[←e1];exact h1
theorem max_ite(a b:Int):(if a<b then b else a)=max a b:=by split<;>omega
theorem k31(W:World)(x y:Value)(t:TypeId):(W.alloc (.cells #[x,y] t)).cell? ⟨W.heap.size,0,none⟩=some x:=by simp[go_sem]
theorem w31(W:World)(x y:Value)(t:TypeId):(W.alloc (.cells #[x,y] t)).cell? ⟨W.heap.size,1,none⟩=some y:=by simp[go_sem]
theorem z144{w0 w:World}{o:Oper}{a:Act}{K:Act→World→Prop}{Q:Exit→Act→World→Prop}(s x:Operand)(ho:o.op=.call {callee:=.builtin .append,args:=#[s,x],argTypes:=#[48,48]})(A:Option Addr)(c:Nat)(L:List (Int×Int))(hs:a.eval s=.slice A L.length c)(hown:Own w w0.heap.size A c L)(g:Nat)(x1 x2:Int)(hx:a.eval x=.slice (some ⟨g,0,none⟩) 1 1)(hc:w.cell? ⟨g,0,none⟩=some (.int .i64 x1))(hc':w.cell? ⟨g,1,none⟩=some (.int .i64 x2))(hl:L.length≤2000000)(hbel:Below w0.heap.size w0 w)(h:∀A' c' w',Own w' w0.heap.size A' c' (L++[(x1,x2)])→Below w0.heap.size w0 w'→w.grownBy w' (Value.slice A L.length c).ownBlock→K (a.put o.dst (.slice A' (L.length+1) c')) w'):o.wp Tryz.prog a w K Q:=by
 obtain⟨i0,hi,hz0,hz1,hz2⟩:=aT_ Tryz.spanInfo;refine wp_append_own w s x _ ho w0.heap.size 59 i0 _ 2 16 bS_ hi hz0 hz1 hz2 rfl (by decide) _ _ _ hs hown ⟨g,0,none⟩ 1 1 [.int .i64 x1,.int .i64 x2] hx rfl ?_ ?_ (by simp only[maxLen];omega) (by omega) hbel.size ?_;·
  intro j u hj;have hadd:∀j,(⟨g,0,none⟩:Addr).add j=⟨g,j,none⟩:=fun j=>by unfold Addr.add;split<;>simp_all
  rw[hadd];match j,hj with|0,hj=>simp at hj;rw[←hj];exact hc|1,hj=>simp at hj;rw[←hj];exact hc'|j+2,hj=>simp at hj
 ·intro u hu;simp at hu;rcases hu with rfl|rfl<;>rfl
 ·intro v' w' h1 h2 _;have hlt:=al_ hown;have hbel':Below w0.heap.size w0 w':=hbel.grown h2 hbel.size (fun k hk=>(hlt k hk).1);have hlen:(L++[(x1,x2)]).length=L.length+1:=by simp
  have hsp:j22 L++[.int .i64 x1,.int .i64 x2]=j22 (L++[(x1,x2)]):=by rw[k42];rfl
  rw[hsp]at h1;have hform:∃A' c',v'=.slice A' (L.length+1) c':=by
   rcases h1.2 with⟨_,hn⟩|⟨g',cap,cur,hv,_⟩;·omega
   ·exact⟨_,_,hv⟩
  obtain⟨A',c',rfl⟩:=hform;exact h A' c' w' (by unfold Own;rw[hlen];exact h1) hbel' h2
theorem q31{w0 w:World}{ops:Array Oper}{rest:List Oper}{o:Oper}{a:Act}{Q:Exit→Act→World→Prop}(hgd:o.guard=none)(s x:Operand)(ho:o.op=.call {callee:=.builtin .append,args:=#[s,x],argTypes:=#[48,48]})(A:Option Addr)(c:Nat)(L:List (Int×Int))(hs:a.eval s=.slice A L.length c)(hown:Own w w0.heap.size A c L)(g:Nat)(x1 x2:Int)(hx:a.eval x=.slice (some ⟨g,0,none⟩) 1 1)(hc:w.cell? ⟨g,0,none⟩=some (.int .i64 x1))(hc':w.cell? ⟨g,1,none⟩=some (.int .i64 x2))(hl:L.length≤2000000)(hbel:Below w0.heap.size w0 w)(h:∀A' c' w',Own w' w0.heap.size A' c' (L++[(x1,x2)])→Below w0.heap.size w0 w'→w.grownBy w' (Value.slice A L.length c).ownBlock→wpList Tryz.prog ops Q rest (a.put o.dst (.slice A' (L.length+1) c')) w'):wpList Tryz.prog ops Q (o::rest) a w:=wpList_plain hgd fun _ hK=>z144 s x ho A c L hs hown g x1 x2 hx hc hc' hl hbel fun A' c' w' h1 h2 h3=>hK _ _ (h A' c' w' h1 h2 h3)
theorem k144{w0 w:World}{ops:Array Oper}{o:Oper}{a:Act}{K:Act→World→Prop}{Q:Exit→Act→World→Prop}{E:Prop}(hgd:o.guard=none)(s x:Operand)(ho:o.op=.call {callee:=.builtin .append,args:=#[s,x],argTypes:=#[48,48]})(A:Option Addr)(c:Nat)(L:List (Int×Int))(hs:a.eval s=.slice A L.length c)(hown:Own w w0.heap.size A c L)(g:Nat)(x1 x2:Int)(hx:a.eval x=.slice (some ⟨g,0,none⟩) 1 1)(hc:w.cell? ⟨g,0,none⟩=some (.int .i64 x1))(hc':w.cell? ⟨g,1,none⟩=some (.int .i64 x2))(hl:L.length≤2000000)(hbel:Below w0.heap.size w0 w)(h:∀A' c' w',Own w' w0.heap.size A' c' (L++[(x1,x2)])→Below w0.heap.size w0 w'→w.grownBy w' (Value.slice A L.length c).ownBlock→K (a.put o.dst (.slice A' (L.length+1) c')) w'):if Region.wanted o (yielded ops a.tmps)=true then Oper.wp Tryz.prog o a w K Q else E:=by
 have hw:Region.wanted o (yielded ops a.tmps)=true:=by simp[Region.wanted,hgd]
 rw[w_ hw];exact z144 s x ho A c L hs hown g x1 x2 hx hc hc' hl hbel h
theorem x119{w0 w:World}{ops:Array Oper}{rest:List Oper}{o:Oper}{a:Act}{Q:Exit→Act→World→Prop}(hgd:o.guard=none)(s x:Operand)(ho:o.op=.call {callee:=.builtin .append,args:=#[s,x],argTypes:=#[48,48]})(A:Option Addr)(c:Nat)(L:List (Int×Int))(hs:a.eval s=.slice A L.length c)(hown:Own w w0.heap.size A c L)(A2:Option Addr)(c2:Nat)(L2:List (Int×Int))(hx:a.eval x=.slice A2 L2.length c2)(hsp:Sp w A2 c2 L2)(hl:L.length+L2.length≤2000000)(hbel:Below w0.heap.size w0 w)(h:∀A' c' w',Own w' w0.heap.size A' c' (L++L2)→Below w0.heap.size w0 w'→w.grownBy w' (Value.slice A L.length c).ownBlock→wpList Tryz.prog ops Q rest (a.put o.dst (.slice A' (L.length+L2.length) c')) w'):wpList Tryz.prog ops Q (o::rest) a w:=by
 obtain⟨i0,hi,hz0,hz1,hz2⟩:=aT_ Tryz.spanInfo;cases hA2:A2 with
  |none=>subst hA2;have hc2:=hsp.nil_ rfl;have hL2:L2=[]:=l_ (by have:=hsp.le;omega);subst hL2 hc2;refine wpList_append_own_none hgd s x _ ho w0.heap.size 59 i0 2 bS_ hi _ _ _ hs hown hx ?_;have:=h A c w (by simpa using hown) hbel (bZ_ w _);simpa using this
  |some ad=>
   subst hA2;refine wpList_append_own w hgd s x _ ho w0.heap.size 59 i0 _ 2 16 bS_ hi hz0 hz1 hz2 rfl (by decide) _ _ _ hs hown ad L2.length c2 (j22 L2) hx (w38 L2) (hsp.cells rfl) ?_ (by simp only[maxLen];omega) (by omega) hbel.size ?_;·intro u hu;simp only[j22,List.mem_flatMap]at hu;obtain⟨y,_,hu⟩:=hu;simp at hu;rcases hu with rfl|rfl<;>rfl
   ·intro v' w' h1 h2 h3;have hlt:=al_ hown;have hbel':Below w0.heap.size w0 w':=hbel.grown h2 hbel.size (fun k hk=>(hlt k hk).1);have hlen:(L++L2).length=L.length+L2.length:=by simp
    rw[←k42]at h1;have hform:∃A' c',v'=.slice A' (L.length+L2.length) c':=by
     rcases h1.2 with⟨hv,hn⟩|⟨g',cap,cur,hv,_⟩;·rw[hn];exact⟨_,_,hv⟩
     ·exact⟨_,_,hv⟩
    obtain⟨A',c',rfl⟩:=hform;exact h A' c' w' (by unfold Own;rw[hlen];exact h1) hbel' h2
theorem y131(A:Option Addr)(c:Nat)(L:List (Int×Int))(w:World)(h:Sp w A c L)(hl:L.length≤1000000):Calls Tryz.prog 88 #[.slice A L.length c] w (RetSp (w27 L) w):=by
 have hH:=a_ h;clear h;obtain⟨i0,hi,hz0,hz1,hz2⟩:=aT_ Tryz.spanInfo;go_enter Tryz.func88,Tryz.ntmps88;go_wp2;go_loopw[3,5,6,9](fun v _ _ i wr=>∃(k:Nat)(A':Option Addr)(c':Nat),k≤L.length∧i=.int .i64 k∧v=.slice A' (w27 (L.take k)).length c'∧Own wr w.heap.size A' c' (w27 (L.take k))∧Below w.heap.size w wr)(fun _ _ _ i _=>L.length-(intOf i).toNat);case atStart=>exact⟨0,none,0,v_ _,rfl,rfl,Own.nil _ _,b_ _ _⟩
 case round=>
  obtain⟨k,A',c',hk,rfl,rfl,hown,hbw⟩:=hrel;by_cases hlt:k<L.length;·
   obtain⟨b,off,e,hb,c1,c2⟩:=(hH.out.below hbw).at_ hlt;have hgl:=y97 (L.take k);have hgl2:(w27 (L.take k)).length≤1000000:=by simp at hgl;omega
   have HG:=a_ (w111 hlt);obtain⟨⟨x1,x2⟩,hx⟩:∃x,L[k]=x:=⟨_,rfl⟩;rw[hx]at c1 c2;have HX:=a_ hx;clear hx hgl;obtain⟨G,hG⟩:∃G,w27 (L.take k)=G:=⟨_,rfl⟩;rw[hG]at hown hgl2⊢;have HGG:=a_ hG;clear hG;rw[e];rcases w41 G with rfl|⟨i,l,rfl⟩;·
    have HO:=a_ hown;clear hown;have hd:decide ((0:Int)<0)=false:=rfl;go_wp2_with fail;go_quiet(fail);go_wp2_with(at_builtin;refine q31 rfl _ _ rfl A' c' [] rfl (by exact((HO.out.alloc _).drewN _).alloc _) _ x1 x2 rfl (by simp[go_sem]) (by simp[go_sem]) (by simp) (by(repeat(first|exact b_ _ _|assumption|refine q15 ?_ _|refine x15 ?_|refine q11 ?_ _|refine w14 ?_ (by simp) _|refine w14 ?_ (by omega) _))) ?_;intro A2 c2' w2 hown2 hbw2 _);go_roundw;case rel=>exact⟨k+1,A2,c2',by omega,by go_num,by rw[HG.out,HGG.out,HX.out];rfl,by rw[HG.out,HGG.out,HX.out];exact hown2,hbw2⟩
    case measure=>simp[intOf];omega
   ·have el:(i++[l]).length=i.length+1:=by simp
    obtain⟨g,rfl,hg1,hg2⟩:=hown.at_ (by omega);have hown':wr.ownsRow w.heap.size 59 2 (.slice (some ⟨g,0,none⟩) (i.length+1) c') (i.length+1) (j22 (i++[l])):=by have:=hown;unfold Own at this;rw[el]at this;exact this
    have cl:=(w44 (i++[l]) i.length l (by simp)).2;have d2:wr.cell? ⟨g,i.length*2+1,none⟩=some (.int .i64 l.2):=by rw[hown'.cellAt _ (by omega),←cl,bh_]
    have f2:=hown'.frozenAt (i.length*2+1);have HO:=a_ hown;have HO':=a_ hown';clear hown hown' cl;rw[el];obtain⟨l1,l2⟩:=l;simp only at d2;by_cases hj:x1≤l2;·
     have HJ:=a_ (j66 (i:=i) (l:=(l1,l2)) (x:=(x1,x2)) hj);have hng:g≠wr.heap.size:=by omega
     go_wp2_with fail;go_quiet(fail);go_wp2_with fail;go_region;all_goals go_wp2_with fail
     all_goals
      go_roundw;case rel=>
       rw[max_ite];refine⟨k+1,some ⟨g,0,none⟩,c',by omega,by go_num,?_,?_,w14 (q15 (q11 hbw _) _) hg1 _⟩;·rw[HG.out,HGG.out,HX.out,HJ.out];simp
       ·rw[HG.out,HGG.out,HX.out,HJ.out];exact Own.setTo _ ((HO.out.alloc _).drewN _)
      case measure=>simp[intOf];omega
    ·have HJ:=a_ (j73 (i:=i) (l:=(l1,l2)) (x:=(x1,x2)) hj);have hjb:decide (x1≤l2)=false:=by simpa using hj
     have hng:g≠wr.heap.size:=by omega
     go_wp2_with fail;go_quiet(fail);go_wp2_with(at_builtin;refine q31 rfl _ _ rfl (some ⟨g,0,none⟩) c' (i++[(l1,l2)]) (by rw[el];rfl) (by exact((HO.out.alloc _).drewN _).alloc _) _ x1 x2 rfl (by simp[go_sem]) (by simp[go_sem]) (by omega) (by(repeat(first|exact b_ _ _|assumption|refine q15 ?_ _|refine x15 ?_|refine q11 ?_ _|refine w14 ?_ (by simp) _|refine w14 ?_ (by omega) _))) ?_;intro A2 c2' w2 hown2 hbw2 _);go_roundw;case rel=>exact⟨k+1,A2,c2',by omega,by go_num,by rw[HG.out,HGG.out,HX.out,HJ.out];simp,by rw[HG.out,HGG.out,HX.out,HJ.out];exact hown2,hbw2⟩
     case measure=>simp[intOf];omega
  ·go_wp2;go_ret;rw[x45 hlt]at hown⊢;exact⟨A',c',rfl,hown,hbw⟩
