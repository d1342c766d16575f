/- Contracts of strconv.FormatUint at the base sixteen, and of multi.Boundary. -/
import Derived.Test.YtkkomffmnafjkaaGreatDoorZI14
import Derived.Laws.Bits64b
set_option maxHeartbeats 16000000
set_option maxRecDepth 100000
set_option linter.all false
namespace Go.Proofs.YtkkomffmnafjkaaGreatDoor
open Go.RowKit
theorem y60:∀(k U:Nat),hexT (k+1) U=hexD (U/16^k%16)::hexT k U
 |0,U=>by simp[hexT]
 |k+1,U=>by rw[hexT,y60 k (U/16),hexT,List.cons_append];congr 3;rw[Nat.pow_succ,Nat.mul_comm,Nat.div_div_eq_div_mul]
theorem q110(U k:Nat)(h:U<16^k):∀n,hexT (n+k) U=List.replicate n 48++hexT k U
 |0=>by simp
 |n+1=>by rw[show n+1+k=(n+k)+1 from by omega,y60,q110 U k h n];have h2:U<16^(n+k):=Nat.lt_of_lt_of_le h (Nat.pow_le_pow_right (by decide) (by omega));rw[Nat.div_eq_of_lt h2,List.replicate_succ,List.cons_append];rfl
structure Env(w:World):Prop where
 tab:Lib.TabIs Tryz.prog w "internal/strconv.uint64pow10" .u64 Lib.pow10Tab
 tz:w.cell? ⟨7,15,none⟩=some (.int .u8 4)
theorem Env.below{w w':World}(h:Env w)(hb:Below w.heap.size w w'):Env w':=⟨q30 h.tab hb,x16 hb h.tz⟩
theorem pow2_16(w:World):Calls Tryz.prog 298 #[.int .i64 16] w fun e w'=>e=.returned (.bool true)∧w'=w:=by
 have h:bits BinOp.and IntKind.i64 16 15=0:=by decide
 go_enter Tryz.func298,Tryz.ntmps298;go_wp2_with fail;go_ret;exact⟨rfl,rfl⟩
theorem tz64_16(w:World)(h:Env w):Calls Tryz.prog 327 #[.int .u64 16] w fun e w'=>e=.returned (.int .i64 4)∧w'=w:=by
 have hz:=h.tz;have key:IntKind.u64.wrap (bits BinOp.and IntKind.u64 16 (IntKind.u64.wrap (-16))*285870213051353865)/288230376151711744=15:=by decide
 go_enter Tryz.func327,Tryz.ntmps327;go_wp2_with(simp only[key]);go_ret;exact⟨rfl,rfl⟩
theorem tz_16(w:World)(h:Env w):Calls Tryz.prog 299 #[.int .u64 16] w fun e w'=>e=.returned (.int .i64 4)∧w'=w:=by go_enter Tryz.func299,Tryz.ntmps299;go_wp2_with(go_at_call 327;refine(tz64_16 _ h).mono ?_;rintro e w1⟨rfl,rfl⟩);go_ret;exact⟨rfl,rfl⟩
def HexPost(U:Nat)(w:World)(e:Ending)(w':World):Prop:=∃k,1≤k∧k≤16∧U<16^k∧e=.returned (.tuple #[.slice none 0 0,.string ⟨(hexT k U).toArray⟩])∧Below w.heap.size w w'
def j49(k U:Nat):Array Value:=(List.replicate (65-k) (Value.int .u8 0)++(hexT k U).map fun c=>Value.int .u8 (c.toNat:Int)).toArray
theorem q145{k U:Nat}(hk:k<65):(j49 k U).setIfInBounds (64-k) (.int .u8 ((hexD (U/16^k%16)).toNat:Int))=j49 (k+1) U:=by unfold j49;rw[y60,List.map_cons];apply Array.ext';rw[Array.toList_setIfInBounds];rw[show 65-k=(64-k)+1 from by omega,show 65-(k+1)=64-k from by omega,List.replicate_succ'];simp
theorem dig_at{d:Nat}(h:d<16):((⟨#[48,49,50,51,52,53,54,55,56,57,97,98,99,100,101,102,103,104,105,106,107,108,109,110,111,112,113,114,115,116,117,118,119,120,121,122]⟩:ByteArray)[d]'(Nat.lt_trans h (by decide)))=hexD d:=by
 have hh:∀d:Fin 16,((⟨#[48,49,50,51,52,53,54,55,56,57,97,98,99,100,101,102,103,104,105,106,107,108,109,110,111,112,113,114,115,116,117,118,119,120,121,122]⟩:ByteArray)[d.val]'(Nat.lt_trans d.isLt (by decide)))=hexD d.val:=by decide
 exact hh ⟨d,h⟩
theorem k155{k U:Nat}(hk:k<65):(j49 k U)[64-k]?=some (.int .u8 0):=by unfold j49;rw[List.getElem?_toArray,List.getElem?_append_left (by rw[List.length_replicate];omega),List.getElem?_replicate,if_pos (by omega)]
theorem k145{k U j:Nat}(hj:j<(hexT k U).length):(j49 k U)[65-k+j]?=some (.int .u8 ((hexT k U)[j].toNat:Int)):=by unfold j49;rw[List.getElem?_toArray,List.getElem?_append_right (by rw[List.length_replicate];omega),List.length_replicate,show 65-k+j-(65-k)=j from by omega,List.getElem?_map,List.getElem?_eq_getElem hj];rfl
theorem x155{W:World}{b k U:Nat}(h:W.heap[b]?=some (.cells (j49 (k+1) U) 337 (0,0))):(convert 243 9 (.slice (some ⟨b,64-k,none⟩) (k+1) (k+1))).run Tryz.prog W=.ok (.string ⟨(hexT (k+1) U).toArray⟩) W:=by
 have hl:(hexT (k+1) U).length=k+1:=y50 _ _;have h1:=run_convert_bytes_back (P:=Tryz.prog) W 243 9 5 ⟨b,64-k,none⟩ (k+1) (hexT (k+1) U) Tryz.underlying243 Tryz.underlying5 Tryz.underlying9 fun j hj=>by
  have hadd:(⟨b,64-k,none⟩:Addr).add j=⟨b,64-k+j,none⟩:=by unfold Addr.add;split<;>simp_all
  rw[hadd,show 64-k+j=65-(k+1)+j from by omega];exact j14 h (k145 hj)
 rw[hl]at h1;exact h1
theorem v132(U:Nat)(w:World)(hU:U<18446744073709551616)(h:Env w):Calls Tryz.prog 255 #[.slice none 0 0,.int .u64 (U:Int),.int .i64 16,.bool false,.bool false] w (HexPost U w):=by
 have HE:=Lib.hid h;clear h;go_enter Tryz.func255,Tryz.ntmps255;go_wp2_with(first|(go_at_call 298;refine(pow2_16 _).mono ?_;rintro e w1⟨rfl,rfl⟩)|(go_at_call 299;refine(tz_16 _ (HE.out.below (q11 (Below.refl _ _) _))).mono ?_;rintro e w1⟨rfl,rfl⟩));obtain⟨W0,hW0⟩:∃W0,w.alloc (.cells Tryz.zeroCells337 337)=W0:=⟨_,rfl⟩;have HK0:Hid (W0.heap[w.heap.size]?=some (.cells (j49 0 U) 337 (0,0))):=by simp only[Hid];rw[←hW0];exact j17 rfl
 have HB0:Hid (Below w.heap.size w W0):=by simp only[Hid];rw[←hW0];exact q11 (Below.refl _ _) _
 rw[hW0];clear hW0;go_loopw[1,13](fun u i wr=>∃k:Nat,k≤15∧u=.int .u64 ((U/16^k:Nat):Int)∧i=.int .i64 ((65-k:Nat):Int)∧wr.heap[w.heap.size]?=some (.cells (j49 k U) 337 (0,0))∧Below w.heap.size w wr)(fun u _ _=>(intOf u).toNat);case atStart=>exact⟨0,by omega,by rw[Nat.pow_zero,Nat.div_one],rfl,HK0.out,HB0.out⟩
 case round=>
  obtain⟨k,hk,rfl,rfl,hblk,hbw⟩:=hrel;have HK:=Lib.hid hblk;have HB:=Lib.hid hbw;have hq:U/16^k/16=U/16^(k+1):=by rw[Nat.pow_succ,Nat.div_div_eq_div_mul]
  obtain⟨v,hv⟩:∃v,U/16^k=v:=⟨_,rfl⟩;have hvU:v≤U:=by rw[←hv];exact Nat.div_le_self _ _
  have HS:=Lib.hid (q145 (k:=k) (U:=U) (by omega));rw[hv]at HS hq⊢;have e65:((65-k:Nat):Int)=65-(k:Int):=by omega
  have hwi:IntKind.i64.wrap (65-(k:Int)-1)=((64-k:Nat):Int):=(IntWalk.i64_in _ (by omega)).trans (by omega);have zf:=q13 (i:=64-k) hblk;have zz:=q14 hblk;have zc:=j14 (i:=64-k) hblk (k155 (by omega));rw[e65];clear hblk hbw e65;by_cases hge:16≤v;·
   have hge':(16:Int)≤(v:Int):=by omega
   have hand:bits BinOp.and IntKind.u64 (v:Int) 15=((v%16:Nat):Int):=by have h:=bits_and_u64_nat v 15 (by omega) (by decide);rw[show((15:Nat):Int)=15 from rfl]at h;rw[h,show v&&&15=v%16 from Nat.and_two_pow_sub_one_eq_mod v 4]
   have hx:=dig_at (d:=v%16) (Nat.mod_lt _ (by decide));have hsz:v%16<36:=by omega
   go_wp2_with fail;go_roundw;case rel=>
    refine⟨k+1,?_,?_,?_,by rw[←HS.out];exact j15 HK.out,w14 HB.out (Nat.le_refl _) _⟩;·
     have hk16:k≠15:=by rintro rfl;have:U/16^15<16:=Nat.div_lt_of_lt_mul (by omega);omega
     omega
    ·rw[←hq];rfl
    ·rw[show 65-(k+1)=64-k from by omega]
   case measure=>simp[intOf];omega
  ·have hge':¬(16:Int)≤(v:Int):=by omega
   have hx:=dig_at (d:=v) (by omega);have hsz:v<36:=by omega
   have hvm:v%16=v:=Nat.mod_eq_of_lt (by omega);rw[hvm]at HS;clear hvm;have hal:Tryz.prog.arrayLen 337=65:=by simp[Program.arrayLen,Tryz.underlying337]
   have hsl:∀W,(Instr.sliceAt 337 (.pointer (some ⟨w.heap.size,0,none⟩)) (some (.int .i64 ((64-k:Nat):Int))) none none).run Tryz.prog W=.ok (.slice (some ⟨w.heap.size,64-k,none⟩) (k+1) (k+1)) W:=fun W=>by rw[run_sliceAt_array_l W 337 ⟨w.heap.size,0,none⟩ (by simp[Program.arrayLen,Program.elem,Tryz.underlying337]) .i64 ((64-k:Nat):Int) (by omega) (by rw[hal];omega)];go_simp;omega
   have HK1:Hid ((wr.setCell ⟨w.heap.size,64-k,none⟩ (.int .u8 ((hexD v).toNat:Int))).heap[w.heap.size]?=some (.cells (j49 (k+1) U) 337 (0,0))):=by simp only[Hid];rw[←HS.out];exact j15 HK.out
   have hcv:=x155 HK1.out;clear hal;go_wp2_with fail;refine bodyPost_ret (by simp[results,Tryz.results255,go_sem];try rfl) rfl ?_;exact⟨k+1,by omega,by omega,by rw[Nat.pow_succ,Nat.mul_comm];exact(Nat.div_lt_iff_lt_mul (Nat.pow_pos (by decide))).1 (by rw[hv];omega),rfl,w14 HB.out (Nat.le_refl _) _⟩
theorem z120(U:Nat)(w:World)(hU:U<18446744073709551616)(h:Env w):Calls Tryz.prog 261 #[.int .u64 (U:Int),.int .i64 16] w fun e w'=>(∃k,1≤k∧k≤16∧U<16^k∧e=.returned (.string ⟨(hexT k U).toArray⟩))∧Below w.heap.size w w':=by have HB:=Lib.hid (v132 U w hU h);clear h;go_enter Tryz.func261,Tryz.ntmps261;go_wp2_with(go_at_call 255;refine HB.out.mono ?_;rintro e w1⟨k,h1,h2,h3,rfl,hb⟩);go_ret;exact⟨⟨k,h1,h2,h3,rfl⟩,hb⟩
theorem k132(U:Nat)(w:World)(hU:U<18446744073709551616)(h:Env w):Calls Tryz.prog 195 #[.int .u64 (U:Int),.int .i64 16] w fun e w'=>(∃k,1≤k∧k≤16∧U<16^k∧e=.returned (.string ⟨(hexT k U).toArray⟩))∧Below w.heap.size w w':=by have HB:=Lib.hid (z120 U w hU h);clear h;go_enter Tryz.func195,Tryz.ntmps195;go_wp2_with(go_at_call 261;refine HB.out.mono ?_;rintro e w1⟨⟨k,h1,h2,h3,rfl⟩,hb⟩);go_ret;exact⟨⟨k,h1,h2,h3,rfl⟩,hb⟩
theorem j110(n:Int)(w:World)(_h0:-9223372036854775808≤n∧n≤9223372036854775807)(h:Env w):Calls Tryz.prog 130 #[.int .i64 n] w fun e w'=>e=.returned (.string ⟨(q29 n).toArray⟩)∧Below w.heap.size w w':=by
 obtain⟨U,hU⟩:∃U,(n%18446744073709551616).toNat=U:=⟨_,rfl⟩;have hUb:U<18446744073709551616:=by omega
 have hwr:IntKind.u64.wrap n=(U:Int):=by rw[IntKind.wrap_u64];omega
 have HF:=Lib.hid (k132 U w hUb h);have HBT:Hid (q29 n=x108++hexT 16 U):=by simp only[Hid];unfold q29;rw[hU]
 clear h hU;go_enter Tryz.func130,Tryz.ntmps130;go_upto_region 2 with(go_at_call 195;refine HF.out.mono ?_;rintro e w1⟨⟨k,h1,h2,h3,rfl⟩,hb⟩);have hpad:=q110 U k h3 (16-k);rw[show 16-k+k=16 from by omega]at hpad;have hlen:(hexT k U).length=k:=y50 _ _;have HR:=fun W=>Lib.hid (Tryz.strings_Repeat ⟨#[48]⟩ (16-k) W (by omega) (by show 1*(16-k)≤_;omega));have er:Lib.repeatL (⟨#[48]⟩:ByteArray).data.toList (16-k)=List.replicate (16-k) 48:=by generalize 16-k=j;induction j with|zero=>rfl|succ j ih=>rw[List.replicate_succ,←ih];rfl
 obtain⟨t0,ht0⟩:∃t:List UInt8,List.replicate (16-k) 48=t:=⟨_,rfl⟩;have hl0:t0.length=16-k:=by rw[←ht0,List.length_replicate]
 rw[ht0]at er hpad;have HR2:∀W,Hid (Calls Tryz.prog 196 #[.string ⟨#[48]⟩,.int .i64 ((16-k:Nat):Int)] W fun e w'=>e=.returned (.string ⟨t0.toArray⟩)∧Below W.heap.size W w'):=fun W=>by have h:=(HR W).out;rw[er]at h;exact Lib.hid h
 clear HR ht0 er;have hsz:(⟨(hexT k U).toArray⟩:ByteArray).size=k:=(q19 _).trans hlen;have hw2:IntKind.i64.wrap (16-(k:Int))=((16-k:Nat):Int):=(IntWalk.i64_in _ (by omega)).trans (by omega);have hc1:=catE (a:=[115,108,105,99,101]) (b:=t0) (by simp only[hl0,List.length_cons,List.length_nil];omega);have hc2:=catE (a:=[115,108,105,99,101]++t0) (b:=hexT k U) (by simp only[List.length_append,hlen,hl0,List.length_cons,List.length_nil];omega);have HBT2:Hid (q29 n=[115,108,105,99,101]++t0++hexT k U):=by simp only[Hid];rw[HBT.out,hpad,List.append_assoc];rfl
 clear hpad HBT hlen hl0;generalize[115,108,105,99,101]++t0++hexT k U=t2 at hc2 HBT2;generalize[115,108,105,99,101]++t0=t1 at hc1 hc2;generalize hexT k U=t3 at hc2 hsz⊢;go_wp2_with(go_at_call 196;refine(HR2 _).out.mono ?_;rintro e w2⟨rfl,hb2⟩);go_ret;rw[HBT2.out];exact⟨rfl,q12 hb2 hb⟩
end Go.Proofs.YtkkomffmnafjkaaGreatDoor
