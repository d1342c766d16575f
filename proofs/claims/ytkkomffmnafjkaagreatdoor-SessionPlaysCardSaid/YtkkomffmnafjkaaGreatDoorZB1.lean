/- Words for slices of spans in memory, small laws on worlds, and the contracts .. -/
import Derived.Test.YtkkomffmnafjkaaGreatDoorRows
import Derived.Test.YtkkomffmnafjkaaGreatDoorZM1
import Derived.WalkSpells
import Derived.WalkLawsBesides
import Derived.Lib.Hide
import Derived.BigQuiet
import Derived.Deep.RegionHeld3
import Derived.Deep.DeepCutAuto
import Derived.Deep.Light
set_option maxHeartbeats 16000000
set_option maxRecDepth 100000
set_option linter.all false
namespace Go.Proofs.YtkkomffmnafjkaaGreatDoor
abbrev a_:=@Go.Lib.hid
abbrev b_:=@Go.RowKit.Below.refl
abbrev c_:=@Option.some.inj
abbrev d_:=@List.setIfInBounds_toArray
abbrev e_:=@List.length_append
abbrev f_:=@List.set_cons_succ
abbrev h_:=@List.set_cons_zero
abbrev i_:=@List.length_nil
abbrev j_:=@beq_eq_false_iff_ne
abbrev k_:=@decide_eq_false
abbrev m_:=@Go.bodyPost_ret
abbrev s_:=@decide_eq_true
abbrev z_:=@bne_eq_false_iff_eq
abbrev B_:=@Nat.le_succ
abbrev D_:=@List.mem_singleton
abbrev F_:=@bne_iff_ne
abbrev G_:=@Nat.lt_of_lt_of_le
abbrev H_:=@List.not_mem_nil
abbrev I_:=@Bool.or_eq_true
abbrev J_:=@Nat.add_zero
abbrev K_:=@Go.DataW.trod_int
abbrev L_:=@Go.Proofs.Tryz.underlying2
abbrev M_:=@Go.IntWalk.i64_in
abbrev N_:=@List.length_take
abbrev P_:=@Bool.eq_false_iff
abbrev Q_:=@List.getElem?_append_left
abbrev S_:=@Nat.zero_lt_one
abbrev T_:=@List.append_nil
abbrev U_:=@Nat.zero_add
abbrev V_:=@List.take_length
abbrev W_:=@List.getElem?_append_right
abbrev X_:=@Array.getElem?_eq_some_iff
abbrev Z_:=@List.getElem?_cons_succ
abbrev aa_:=@List.take_append_drop
abbrev ab_:=@List.getElem?_cons_zero
abbrev ac_:=@Array.getElem?_eq_getElem
abbrev ad_:=@Go.Lib.cell_of_heap
abbrev ae_:=@List.cons_append
abbrev al_:=@Go.World.ownsRow.lt
abbrev an_:=@List.length_drop
abbrev ap_:=@Go.World.ownsRow.frozenAt
abbrev aq_:=@List.getElem?_take_of_lt
abbrev au_:=@or_false
abbrev aw_:=@Go.wp_region_lit
abbrev ax_:=@Go.DataW.trod_struct
abbrev az_:=@Go.World.ownsRow.kept
abbrev aA_:=@UInt8.toNat_lt
abbrev aB_:=@Nat.lt_succ_self
abbrev aC_:=@List.drop_succ_cons
abbrev aD_:=@beq_iff_eq
abbrev aE_:=@List.getElem?_eq_none
abbrev aF_:=@Nat.ne_of_lt
abbrev aG_:=@Go.RowKit.Below.heap_setCell
abbrev aI_:=@Go.World.block_lt_of_cell?
abbrev aK_:=@Int.tmod_eq_emod_of_nonneg
abbrev aL_:=@List.nil_append
abbrev aN_:=@List.isEmpty_iff
abbrev aO_:=@Option.map_eq_some_iff
abbrev aP_:=@Bool.not_eq_true'
abbrev aQ_:=@List.drop_zero
abbrev aR_:=@of_decide_eq_true
abbrev aT_:=@Go.info_parts
abbrev aU_:=@List.length_map
abbrev aV_:=@Go.DataW.trod_bool
abbrev aX_:=@getElem!_pos
abbrev aY_:=@Go.Proofs.Tryz.results91
abbrev aZ_:=@Go.Proofs.Tryz.underlying74
abbrev bb_:=@Go.wp_load_mid
abbrev bd_:=@decide_eq_false_iff_not
abbrev bf_:=@List.length_pos_iff
abbrev bg_:=@Nat.pow_succ
abbrev bh_:=@Nat.mul_comm
abbrev bj_:=@Ne.symm
abbrev bk_:=@Go.Proofs.Tryz.underlying29
abbrev bl_:=@List.isEmpty_eq_false_iff
abbrev bm_:=@List.cons.injEq
abbrev bn_:=@Nat.mul_one
abbrev bo_:=@List.getElem?_map
abbrev bp_:=@List.drop_eq_nil_iff
abbrev bq_:=@Go.World.ownsRow.stored
abbrev br_:=@Go.World.ownsRow.cellAt
abbrev bt_:=@Array.getElem_setIfInBounds_ne
abbrev bu_:=@Nat.zero_mul
abbrev bv_:=@Go.Proofs.Tryz.underlying50
abbrev bx_:=@List.all_append
abbrev by_:=@Bool.false_or
abbrev bz_:=@List.set_append_right
abbrev bA_:=@List.length_singleton
abbrev bB_:=@List.length_replicate
abbrev bC_:=@Array.getElem?_modify
abbrev bD_:=@Array.getD_eq_getD_getElem?
abbrev bF_:=@List.mem_range
abbrev bG_:=@Bool.and_false
abbrev bH_:=@Go.World.ownsRow_nil
abbrev bI_:=@Go.Value.slice.injEq
abbrev bJ_:=@Go.DataW.trod_string
abbrev bK_:=@Array.toList_extract
abbrev bL_:=@Nat.succ_mul
abbrev bN_:=@Go.World.cell?_of_block
abbrev bP_:=@Go.Proofs.Tryz.ntmps156
abbrev bQ_:=@Go.Proofs.Tryz.ntmps118
abbrev bR_:=@not_and
abbrev bS_:=@Go.Proofs.Tryz.underlying48
abbrev bT_:=@Go.World.ownsRow.alloc
abbrev bU_:=@Go.Proofs.Tryz.results84
abbrev bV_:=@Go.Proofs.Tryz.results20
abbrev bW_:=@Go.Oper.upon_value
abbrev bY_:=@Go.World.ownsRow.drew
abbrev bZ_:=@Go.World.grownBy.refl
abbrev ca_:=@Go.Proofs.Tryz.func156
abbrev cb_:=@Go.Proofs.Tryz.func118
abbrev cd_:=@Nat.mul_le_mul
abbrev cg_:=@List.drop_of_length_le
abbrev ch_:=@ByteArray.data_extract
abbrev ci_:=@Array.getElem?_eq_none
open Go.RowKit
theorem q17{a b:Bool}(h:a=b):Ending.returned (.bool a)=.returned (.bool b):=by rw[h]
theorem z96{k:IntKind}{a b:Int}(h:a=b):Ending.returned (.int k a)=.returned (.int k b):=by rw[h]
theorem k154{a b a' b':Int}{t:Bool}(h:a=a')(h':b=b'):Ending.returned (.tuple #[.agg #[.int .i64 a,.int .i64 b],.bool t])=.returned (.tuple #[.agg #[.int .i64 a',.int .i64 b'],.bool t]):=by rw[h,h']
theorem q12{w W w':World}(hb:Below W.heap.size W w')(h:Below w.heap.size w W):Below w.heap.size w w':=h.trans (hb.mono h.size)
theorem q11{w W:World}(h:Below w.heap.size w W)(o:Obj):Below w.heap.size w (W.alloc o):=h.alloc h.size o
theorem w14{w W:World}{p:Addr}(h:Below w.heap.size w W)(hp:w.heap.size≤p.block)(u:Value):Below w.heap.size w (W.setCell p u):=h.setCell hp u
theorem x15{w W:World}(h:Below w.heap.size w W):Below w.heap.size w W.drew:=h.drew
theorem q15{w W:World}(h:Below w.heap.size w W)(n:Nat):Below w.heap.size w (W.drewN n):=⟨h.os,h.tape,h.output,h.size,h.block⟩
theorem q108{w W:World}{b o:Nat}{v:Value}(hb:b<w.heap.size)(hB:Below w.heap.size w W)(h:w.cell? ⟨b,o,none⟩=some v):W.cell? ⟨b,o,none⟩=some v:=(hB.cell (p:=⟨b,o,none⟩) hb).trans h
theorem x16{W w':World}{b o:Nat}{v:Value}(hb:Below W.heap.size W w')(h:W.cell? ⟨b,o,none⟩=some v):w'.cell? ⟨b,o,none⟩=some v:=(hb.cell (p:=⟨b,o,none⟩) (aI_ W ⟨b,o,none⟩ h)).trans h
def j22(L:List (Int×Int)):List Value:=L.flatMap fun x=>[.int .i64 x.1,.int .i64 x.2]
theorem k42(a b:List (Int×Int)):j22 (a++b)=j22 a++j22 b:=by simp[j22]
theorem w70(x:Int×Int)(L:List (Int×Int)):j22 (x::L)=.int .i64 x.1::.int .i64 x.2::j22 L:=rfl
theorem w38(L:List (Int×Int)):(j22 L).length=L.length*2:=by induction L with|nil=>rfl|cons x L ih=>rw[w70];simp[ih];omega
theorem w44(L:List (Int×Int)):∀(i:Nat)(x:Int×Int),L[i]?=some x→(j22 L)[2*i]?=some (.int .i64 x.1)∧(j22 L)[2*i+1]?=some (.int .i64 x.2):=by
 induction L with
  |nil=>intro i x h;simp at h
  |cons y L ih=>
   intro i x h;cases i with
    |zero=>simp at h;subst h;exact⟨rfl,rfl⟩
    |succ i=>
     simp at h;have:=ih i x h;rw[w70];have e1:2*(i+1)=(2*i)+1+1:=by omega
     have e2:2*(i+1)+1=(2*i+1)+1+1:=by omega
     rw[e1];exact⟨by simpa using this.1,by simpa using this.2⟩
structure Sp(w:World)(A:Option Addr)(c:Nat)(L:List (Int×Int)):Prop where
 le:L.length≤c
 nil_:A=none→c=0
 at':0<L.length→∃b off,A=some ⟨b,off,none⟩∧b<w.heap.size∧∀i x,L[i]?=some x→w.cell? ⟨b,off+i*2,none⟩=some (.int .i64 x.1)∧w.cell? ⟨b,off+i*2+1,none⟩=some (.int .i64 x.2)
section
variable{w w':World}{A:Option Addr}{c:Nat}{L:List (Int×Int)}
theorem Sp.nil(w:World):Sp w none 0 []:=⟨t_ _,fun _=>rfl,fun h=>by simp at h⟩
theorem Sp.keep(h:Sp w A c L)(hs:w.heap.size≤w'.heap.size)(hk:∀b o,b<w.heap.size→w'.cell? ⟨b,o,none⟩=w.cell? ⟨b,o,none⟩):Sp w' A c L:=⟨h.le,h.nil_,fun hn=>by obtain⟨b,off,e,hb,hc⟩:=h.at' hn;exact⟨b,off,e,by omega,fun i x hx=>by rw[hk _ _ hb,hk _ _ hb];exact hc i x hx⟩⟩
theorem Sp.below(h:Sp w A c L)(hb:Below w.heap.size w w'):Sp w' A c L:=h.keep hb.size fun _ _ hp=>hb.cell hp
theorem Sp.drew(h:Sp w A c L):Sp w.drew A c L:=⟨h.le,h.nil_,h.at'⟩
theorem Sp.drewN(h:Sp w A c L)(n:Nat):Sp (w.drewN n) A c L:=⟨h.le,h.nil_,h.at'⟩
theorem Sp.alloc(h:Sp w A c L)(o:Obj):Sp (w.alloc o) A c L:=h.below (q11 (b_ _ _) o)
theorem Sp.at_(h:Sp w A c L){k:Nat}(hk:k<L.length):∃b off,A=some ⟨b,off,none⟩∧b<w.heap.size∧w.cell? ⟨b,off+k*2,none⟩=some (.int .i64 (L[k]).1)∧w.cell? ⟨b,off+k*2+1,none⟩=some (.int .i64 (L[k]).2):=by obtain⟨b,off,e,hb,hc⟩:=h.at' (by omega);have:=hc k L[k] (o_ hk);exact⟨b,off,e,hb,this.1,this.2⟩
theorem Sp.of_own{base e:Nat}{n:Nat}(h:w.ownsRow base e 2 (.slice A n c) n (j22 L)):Sp w A c L∧n=L.length:=by
 have hn:n=L.length:=by have:=h.1;rw[w38]at this;omega
 refine⟨?_,hn⟩;rcases h.2 with⟨hv,h0⟩|⟨g,cap,cur,hv,hb,hg,hnc,hcm,hcs,htake⟩;·
  subst h0;have hc:c=0:=by injection hv
  exact⟨by omega,fun _=>hc,fun h=>by omega⟩
 ·have hA:A=some ⟨g,0,none⟩:=by injection hv
  have hc:c=cap:=by injection hv
  subst hA hc;refine⟨by omega,(fun e=>by cases e),fun _=>⟨g,0,rfl,(X_.1 hg).1,fun i x hx=>?_⟩⟩;have hcell:=h.cells (g:=g) rfl;have hadd:∀j,(⟨g,0,none⟩:Addr).add j=⟨g,j,none⟩:=fun j=>by unfold Addr.add;split<;>simp_all
  have:=w44 L i x hx;have e1:=hcell _ _ this.1;have e2:=hcell _ _ this.2;rw[hadd]at e1 e2;refine⟨?_,?_⟩;·rw[show 0+i*2=2*i from by omega];exact e1
  ·rw[show 0+i*2+1=2*i+1 from by omega];exact e2
theorem Sp.cells(h:Sp w A c L){ad:Addr}(hA:A=some ad):∀j u,(j22 L)[j]?=some u→w.cell? (ad.add j)=some u:=by
 intro j u hu;have hj:j<(j22 L).length:=by
  rcases ah_ j (j22 L).length with h1|h1;·exact h1
  ·rw[aE_ h1]at hu;cases hu
 rw[w38]at hj;obtain⟨b,off,e,hb,hc⟩:=h.at' (by omega);rw[hA]at e;injection e with e;subst e;have hadd:∀j,(⟨b,off,none⟩:Addr).add j=⟨b,off+j,none⟩:=fun j=>by unfold Addr.add;split<;>simp_all
 rw[hadd];obtain⟨i,hi⟩:∃i,j=2*i∨j=2*i+1:=⟨j/2,by omega⟩;have hil:i<L.length:=by omega
 have hce:=w44 L i _ (o_ hil);have hcc:=hc i _ (o_ hil);rcases hi with rfl|rfl;·rw[hce.1]at hu;injection hu with hu;rw[←hu,bh_ 2 i];exact hcc.1
 ·rw[hce.2]at hu;injection hu with hu;rw[←hu,bh_ 2 i,←Nat.add_assoc];exact hcc.2
end
def CellsAt(w:World)(g:Nat)(cs:Array Value):Prop:=g<w.heap.size∧∀i,w.cell? ⟨g,i,none⟩=cs[i]?
theorem CellsAt.keep{W w':World}{g:Nat}{cs:Array Value}(h:CellsAt W g cs)(hb:Below W.heap.size W w'):CellsAt w' g cs:=⟨G_ h.1 hb.size,fun i=>(hb.cell (p:=⟨g,i,none⟩) h.1).trans (h.2 i)⟩
theorem q45(f t:Int)(w:World):Calls Tryz.prog 64 #[.agg #[.int .i64 f,.int .i64 t]] w fun e w'=>e=.returned (.bool (okS (f,t)))∧w.alloc (.cells #[.int .i64 f,.int .i64 t] 59)=w':=by go_enter Tryz.func64,Tryz.ntmps64;go_wp2;all_goals go_ret;refine⟨q17 ?_,rfl⟩;unfold okS;rw[ak_];simp;try omega
theorem q96(w:World):Calls Tryz.prog 228 #[] w fun e w'=>e=.returned (.int .i64 4611686018427387904)∧w'=w:=by go_enter Tryz.func228,Tryz.ntmps228;go_wp2;go_ret;exact⟨rfl,rfl⟩
theorem x64(f t:Int)(w:World):Calls Tryz.prog 162 #[.agg #[.int .i64 f,.int .i64 t]] w fun e w'=>e=.returned (.bool (okS (f,t)))∧∃n,(w.alloc (.cells #[.int .i64 f,.int .i64 t] 59)).drewN n=w':=by
 by_cases h1:0≤f;·
  by_cases h2:f≤t;·
   have H:Hid (okS (f,t)=decide (t≤4611686018427387904)):=by simp[Hid,okS,h1,h2]
   go_enter Tryz.func162,Tryz.ntmps162;go_wp2;go_quiet((go_at_call 228;exact Calls.quiet_of_same (q96 _)));go_wp2;go_ret;exact⟨q17 (by rw[H.out]),_,rfl⟩
  ·have H:Hid (okS (f,t)=false):=by simp[Hid,okS,h2]
   have h3:decide (f≤t)=false:=by simpa using h2
   go_enter Tryz.func162,Tryz.ntmps162;go_wp2;go_quiet((go_at_call 228;exact Calls.quiet_of_same (q96 _)));go_wp2;go_ret;exact⟨q17 (by rw[H.out]),_,rfl⟩
 ·have H:Hid (okS (f,t)=false):=by simp[Hid,okS,h1]
  have h3:decide (0≤f)=false:=by simpa using h1
  go_enter Tryz.func162,Tryz.ntmps162;go_wp2;go_quiet((go_at_call 228;exact Calls.quiet_of_same (q96 _)));go_wp2;go_ret;exact⟨q17 (by rw[H.out]),_,rfl⟩
theorem j152(A:Option Addr)(c:Nat)(L:List (Int×Int))(p:Int)(w:World)(h:Sp w A c L)(hl:L.length≤1000000):Calls Tryz.prog 97 #[.slice A L.length c,.int .i64 p] w fun e w'=>e=.returned (.bool (inB L p))∧Below w.heap.size w w':=by
 have hH:=a_ h;clear h;go_enter Tryz.func97,Tryz.ntmps97;go_wp2;go_loopw[5](fun i wr=>∃k:Nat,k≤L.length∧i=.int .i64 k∧inB (L.take k) p=false∧Below w.heap.size w wr)(fun i _=>L.length-(intOf i).toNat);case atStart=>exact⟨0,v_ _,rfl,rfl,b_ _ _⟩
 case round=>
  obtain⟨k,hk,rfl,hin,hbw⟩:=hrel;have HI:=a_ hin;clear hin;by_cases hlt:k<L.length;·
   obtain⟨b,off,e,hb,c1,c2⟩:=(hH.out.below hbw).at_ hlt;obtain⟨⟨x1,x2⟩,hx⟩:∃x,L[k]=x:=⟨_,rfl⟩;rw[hx]at c1 c2;have HX:=a_ hx;clear hx;rw[e];go_wp2_with(go_at_call 162;refine(x64 _ _ _).mono ?_;rintro e w'⟨rfl,n,rfl⟩);·go_ret;exact⟨q17 (x147 hlt HX.out (by assumption) (by assumption) (by assumption)).symm,q15 (q11 hbw _) _⟩
   all_goals
    go_roundw;case rel=>exact⟨k+1,by omega,by go_num,q157 hlt HX.out HI.out (by go_light;grind),q15 (q11 hbw _) _⟩
    case measure=>simp[intOf];omega
  ·go_wp2;go_ret;exact⟨q17 (by rw[←HI.out,u_ (by omega)]),hbw⟩
theorem j165{a b:List (Int×Int)}{k:Nat}(ha:k<a.length)(hb:k<b.length)(h:a.take k=b.take k)(e:a[k]=b[k]):a.take (k+1)=b.take (k+1):=by rw[n_ ha,n_ hb,h,e]
theorem v165{a b:List (Int×Int)}{k:Nat}(ha:k<a.length)(hb:k<b.length)(e:a[k]≠b[k]):decide (a=b)=false:=by simp only[bd_];rintro rfl;exact e rfl
def k99(L:List (Int×Int))(p:Int)(w:World)(e:Ending)(w':World):Prop:=e=.returned (.tuple #[.agg #[.int .i64 ((q35 L p).getD (0,0)).1,.int .i64 ((q35 L p).getD (0,0)).2],.bool (q35 L p).isSome])∧Below w.heap.size w w'
def BehPost(A:Option Addr)(c:Nat)(L:List (Int×Int))(p:Int)(w:World)(e:Ending)(w':World):Prop:=∃k:Nat,e=.returned (.int .i64 k)∧Behind L p k∧∃n,(w.alloc (.cells #[.slice A L.length c] 93)).drewN n=w'
theorem z90(A:Option Addr)(c:Nat)(L:List (Int×Int))(p:Int)(w:World)(h:Sp w A c L)(hcan:Canon L)(hl:L.length≤1000000):Calls Tryz.prog 229 #[.agg #[.slice A L.length c],.int .i64 p] w (BehPost A c L p w):=by
 have hH:=a_ h;have hC:=a_ hcan;clear h hcan;go_enter Tryz.func229,Tryz.ntmps229;go_wp2;go_quiet(fail);go_wp2;go_loop[5,6,7](fun lo hi _=>∃l h:Nat,l≤h∧h≤L.length∧lo=.int .i64 l∧hi=.int .i64 h∧(∀x∈L.take l,x.2≤p)∧(∀j,h≤j→∀hj:j<L.length,p<(L[j]).2))(fun lo hi _=>(intOf hi).toNat-(intOf lo).toNat);case atStart=>exact⟨0,L.length,v_ _,t_ _,rfl,rfl,by simp,fun j h1 h2=>by omega⟩
 case round=>
  obtain⟨l,h,hlh,hh,rfl,rfl,hlo,hhi⟩:=hrel;have HLO:=a_ hlo;have HHI:=a_ hhi;clear hlo hhi;by_cases hlt:l<h;·
   have hm:l+(h-l)/2<L.length:=by omega
   obtain⟨b,off,e,hb,c1,c2⟩:=hH.out.at_ hm;obtain⟨⟨x1,x2⟩,hx⟩:∃x,L[l+(h-l)/2]=x:=⟨_,rfl⟩;rw[hx]at c1 c2;have HX:=a_ hx;have HM:=a_ hm;clear hx;rw[e];go_wp2;·
    have hq:p<x2:=by assumption
    go_round;case rel=>exact⟨l,l+(h-l)/2,by omega,by omega,rfl,by go_num,HLO.out,hC.out.from_of HM.out (by rw[HX.out];exact hq)⟩
    case measure=>simp only[intOf];omega
   ·have hq:x2≤p:=by omega
    go_round;case rel=>exact⟨l+(h-l)/2+1,h,by omega,by omega,by go_num,rfl,hC.out.before_of HM.out (by rw[HX.out];exact hq),HHI.out⟩
    case measure=>simp only[intOf];omega
  ·obtain rfl:l=h:=by omega
   go_wp2;go_ret;exact⟨l,rfl,⟨hh,HLO.out,fun hk=>HHI.out l (t_ _) hk⟩,_,rfl⟩
theorem x174(A:Option Addr)(c:Nat)(L:List (Int×Int))(p:Int)(w:World)(h:Sp w A c L)(hcan:Canon L)(hl:L.length≤1000000):Calls Tryz.prog 165 #[.agg #[.slice A L.length c],.int .i64 p] w fun e w'=>e=.returned (.bool (inB L p))∧Below w.heap.size w w':=by
 have hB:=fun W hW=>a_ (z90 A c L p W hW hcan hl);have hH:=a_ h;have hC:=a_ hcan;clear h hcan;go_enter Tryz.func165,Tryz.ntmps165;go_wp2_with fail;refine(hB _ (hH.out.alloc _)).out.mono ?_;rintro e w1⟨k,rfl,hk,n,rfl⟩;have HK:=a_ hk;have hkl:=hk.le;clear hk hB;by_cases hlt:k<L.length;·obtain⟨b,off,e,hb,c1,c2⟩:=hH.out.at_ hlt;obtain⟨⟨x1,x2⟩,hx⟩:∃x,L[k]=x:=⟨_,rfl⟩;rw[hx]at c1 c2;have HX:=a_ hx;clear hx;rw[e];go_wp2_with fail;go_ret;refine⟨q17 ?_,q15 (q11 (q11 (b_ _ _) _) _) _⟩;rw[hC.out.in_at HK.out hlt,HX.out]
 ·go_wp2_with fail;go_ret;exact⟨q17 (HK.out.in_none hlt).symm,q15 (q11 (q11 (b_ _ _) _) _) _⟩
theorem v142(A:Option Addr)(c:Nat)(L:List (Int×Int))(p:Int)(w:World)(h:Sp w A c L)(hcan:Canon L)(hl:L.length≤1000000):Calls Tryz.prog 163 #[.agg #[.slice A L.length c],.int .i64 p] w (k99 L p w):=by
 have hB:=fun W hW=>a_ (z90 A c L p W hW hcan hl);have hH:=a_ h;clear h hcan;go_enter Tryz.func163,Tryz.ntmps163;go_wp2_with fail;refine(hB _ ((hH.out.alloc _).alloc _)).out.mono ?_;rintro e w1⟨k,rfl,hk,n,rfl⟩;have HK:=a_ hk;have hkl:=hk.le;clear hk hB;by_cases hlt:k<L.length;·
  obtain⟨b,off,e,hb,c1,c2⟩:=hH.out.at_ hlt;obtain⟨⟨x1,x2⟩,hx⟩:∃x,L[k]=x:=⟨_,rfl⟩;rw[hx]at c1 c2;have HX:=a_ hx;clear hx;have hne:((k:Int)==(L.length:Int))=false:=by rw[j_];omega
  rw[e];have hk0:(0:Int)≤(k:Int):=by omega
  have hk1:(k:Int)<(L.length:Int):=by omega
  go_wp2_with fail;go_region_held3(fun w'=>w'.cell? ⟨w.heap.size,0,none⟩=some (.slice (some ⟨b,off,none⟩) L.length c)∧w'.cell? ⟨b,off+k*2,none⟩=some (.int .i64 x1)∧w'.cell? ⟨b,off+k*2+1,none⟩=some (.int .i64 x2))(((try dsimp only);refine⟨?_,?_,?_⟩<;>(first|(go_simp;done)|(refine q108 hb ?_ c1;repeat(first|exact b_ _ _|refine x15 ?_|refine q15 ?_ _|refine q11 ?_ _))|(refine q108 hb ?_ c2;repeat(first|exact b_ _ _|refine x15 ?_|refine q15 ?_ _|refine q11 ?_ _)))))(fail);all_goals go_wp2_with fail
  all_goals refine m_ (by simp[results,Tryz.results163,go_sem];try rfl) rfl ?_;have h1:=HK.out.first hlt;rw[HX.out]at h1;refine⟨by rw[h1];exact k154 (by simp;omega) rfl,?_⟩;(repeat(first|exact b_ _ _|refine q15 ?_ _|refine x15 ?_|refine q11 ?_ _|refine w14 ?_ (by simp) _))
 ·have heq:(k==L.length)=true:=by rw[aD_];omega
  go_wp2_with fail;refine m_ (by simp[results,Tryz.results163,go_sem];try rfl) rfl ?_;refine⟨by rw[HK.out.none_ hlt];rfl,?_⟩;(repeat(first|exact b_ _ _|refine q15 ?_ _|refine x15 ?_|refine q11 ?_ _|refine w14 ?_ (by simp) _))
