/- Contracts of the program's texts of spans: ParseInt, Text, Parse. Contract .. -/
import Derived.Test.YtkkomffmnafjkaaGreatDoorZE2
import Derived.Test.YtkkomffmnafjkaaGreatDoorZLaid5
import Derived.Test.YtkkomffmnafjkaaGreatDoorZB10
import Derived.Test.YtkkomffmnafjkaaGreatDoorZL10
import Derived.Test.YtkkomffmnafjkaaGreatDoorZLaidC
import Derived.Test.YtkkomffmnafjkaaGreatDoorZI19
import Derived.Test.YtkkomffmnafjkaaGreatDoorZI14
set_option maxHeartbeats 16000000
set_option maxRecDepth 100000
set_option linter.all false
namespace Go.Proofs.YtkkomffmnafjkaaGreatDoor
open Go.RowKit
structure ErrsOk(w:World):Prop where
 s:∃ev,w.cell? ⟨1,0,none⟩=some ev∧(ev=.nilIface∨∃te pe,ev=.iface te pe)
 r:∃ev,w.cell? ⟨2,0,none⟩=some ev∧(ev=.nilIface∨∃te pe,ev=.iface te pe)
theorem ErrsOk.below{w w':World}(h:ErrsOk w)(hb:Below w.heap.size w w'):ErrsOk w':=⟨h.s.imp fun _ x=>⟨x16 hb x.1,x.2⟩,h.r.imp fun _ x=>⟨x16 hb x.1,x.2⟩⟩
theorem y188{l:List UInt8}{x:Int}(h:numP l=some x)(w:World)(hl:l.length≤1000000):Calls Tryz.prog 117 #[.string ⟨l.toArray⟩,.int .i64 10,.int .i64 64] w fun e w'=>e=.returned (.tuple #[.int .i64 x,.nilIface])∧Below w.heap.size w w':=by
 have hv:Lib.parseIntB 64 l=.ok x:=by
  unfold numP at h;split at h;·rename_i v hv;injection h with h;rw[hv,h]
  ·cases h
 refine(Tryz.strconv_ParseInt_10_at64_ok ⟨l.toArray⟩ (by have:=q19 l;omega) x hv w).mono ?_;rintro e w'⟨rfl,hw⟩;refine⟨rfl,?_⟩;rcases hw with rfl|⟨t,rfl⟩;·exact Below.refl _ _
 ·exact Lib.bytesWorld_below _ _ _
structure EnvR(w:World):Prop where
 env:Env w
 errs:ErrsOk w
 max:∃m,w.cell? ⟨0,0,none⟩=some (.int .i64 m)
theorem EnvR.below{w w':World}(h:EnvR w)(hb:Below w.heap.size w w'):EnvR w':=⟨h.env.below hb,h.errs.below hb,h.max.imp fun _ x=>x16 hb x⟩
theorem z216(l p:List UInt8)(w:World):Calls Tryz.prog 115 #[.string ⟨l.toArray⟩,.string ⟨p.toArray⟩] w fun e w'=>e=.returned (.tuple #[.string ⟨(Lib.trimPrefix l p).toArray⟩,.bool (Lib.hasPrefix l p)])∧w'=w:=Tryz.strings_CutPrefix ⟨l.toArray⟩ ⟨p.toArray⟩ w
theorem x194(l p:List UInt8)(w:World)(hl:l.length≤1000000)(hE:EnvR w):Calls Tryz.prog 116 #[.string ⟨l.toArray⟩,.string ⟨p.toArray⟩] w fun e w'=>e=.returned (.tuple #[.string ⟨(Lib.cut l p).1.toArray⟩,.string ⟨(Lib.cut l p).2.1.toArray⟩,.bool (Lib.cut l p).2.2])∧Below w.heap.size w w':=by obtain⟨m,hm⟩:=hE.max;refine(Tryz.strings_Cut ⟨l.toArray⟩ ⟨p.toArray⟩ m w (by rw[q19];omega) hm).mono ?_;rintro e w'⟨rfl,n,rfl⟩;exact⟨rfl,q15 (Below.refl _ _) n⟩
theorem x212(l p:List UInt8):(Lib.trimPrefix l p).length≤l.length:=by
 unfold Lib.trimPrefix;split;·simp only[List.length_drop];omega
 ·simp
theorem q216{s:List UInt8}{x:Int×Int}{t:Int}(h:RangeOf s x t):(y42 t).length≤20:=by
 have hi:=v188 h;unfold y42;split;·simp
 ·have:=w21 (n:=t) (by omega);omega
def y194(l:List UInt8)(w:World)(e:Ending)(w':World):Prop:=∃o,ReadOf l o∧e=.returned (rangeV o)∧Below w.heap.size w w'
theorem j216{l:List UInt8}{x:Int×Int}{t:Int}{w w':World}{e:Ending}(h:RangeOf l x t)(he:e=.returned (.tuple #[.agg #[.int .i64 x.1,.int .i64 x.2],.int .i64 t,.int .i64 0]))(hb:Below w.heap.size w w'):y194 l w e w':=⟨some (x,t),z205 h,he,hb⟩
structure RgSt(w:World)(X:Nat)(a b:Int)(W:World):Prop where
 x:W.heap[X]?=some (.cells #[.int .i64 a,.int .i64 b] 59 (0,0))
 z:W.heap[w.heap.size]?=some (.cells #[.int .i64 0,.int .i64 0] 59 (0,0))
 ne:w.heap.size<X
 bel:Below w.heap.size w W
theorem RgSt.below{w W W':World}{X:Nat}{a b:Int}(h:RgSt w X a b W)(hb:Below W.heap.size W W'):RgSt w X a b W':=⟨j3 hb h.x,j3 hb h.z,h.ne,q12 hb h.bel⟩
theorem RgSt.set0{w W:World}{X:Nat}{a b:Int}(h:RgSt w X a b W)(v:Int):RgSt w X v b (W.setCell ⟨X,0,none⟩ (.int .i64 v)):=⟨j15 h.x,z11 (Nat.ne_of_lt h.ne) h.z,h.ne,w14 h.bel (Nat.le_of_lt h.ne) _⟩
theorem RgSt.set1{w W:World}{X:Nat}{a b:Int}(h:RgSt w X a b W)(v:Int):RgSt w X a v (W.setCell ⟨X,1,none⟩ (.int .i64 v)):=⟨j15 h.x,z11 (Nat.ne_of_lt h.ne) h.z,h.ne,w14 h.bel (Nat.le_of_lt h.ne) _⟩
theorem w207(l:List UInt8)(f t n:Int)(w:World)(hl:l.length≤100000)(henv:EnvR w)(h:RangeOf l (f,t) n):Calls Tryz.prog 69 #[.string ⟨l.toArray⟩] w (y194 l w):=by
 have hi:=v188 h;have hc:=v192 h;have hn:=w187 h;have htl:=q216 h;have hd1:=w21 (n:=f) (by have:=hi;simp only at this;omega);have hd2:=w21 (n:=t-1) (by have:=hi;simp only at this;omega);simp only at hi hc hn;have HPOST:Hid (∀W,Below w.heap.size w W→y194 l w (.returned (.tuple #[.agg #[.int .i64 f,.int .i64 t],.int .i64 n,.int .i64 0])) W):=fun W hb=>j216 h rfl hb;have hne:l≠[]:=by rw[h.2];intro e;rw[w86,h.1]at e;cases e
 have HCN:∀W,EnvR W→Hid (Calls Tryz.prog 118 #[.agg #[.int .i64 f,.int .i64 t],.int .i64 n] W fun e w'=>e=.returned (.string ⟨l.toArray⟩)∧Below W.heap.size W w'):=fun W hE=>by have h1:=w80 f t n W hE.env.tab (by omega) (by omega);rw[←h.2]at h1;exact Lib.hid h1
 have HP:Hid (∀W,Calls Tryz.prog 115 #[.string ⟨l.toArray⟩,.string ⟨#[98,121,116,101,115,32]⟩] W fun e w'=>e=.returned (.tuple #[.string ⟨(Lib.trimPrefix l vBytes).toArray⟩,.bool (Lib.hasPrefix l vBytes)])∧w'=W):=fun W=>z216 l vBytes W;have HC1:∀W,EnvR W→Hid (Calls Tryz.prog 116 #[.string ⟨(Lib.trimPrefix l vBytes).toArray⟩,.string ⟨#[47]⟩] W fun e w'=>e=.returned (.tuple #[.string ⟨(digN f++45::digN (t-1)).toArray⟩,.string ⟨(y42 n).toArray⟩,.bool true])∧Below W.heap.size W w'):=fun W hE=>by have h1:=x194 (Lib.trimPrefix l vBytes) [47] W (by have:=x212 l vBytes;omega) hE;rw[hc.1]at h1;exact Lib.hid h1
 have HC2:∀W,EnvR W→Hid (Calls Tryz.prog 116 #[.string ⟨(digN f++45::digN (t-1)).toArray⟩,.string ⟨#[45]⟩] W fun e w'=>e=.returned (.tuple #[.string ⟨(digN f).toArray⟩,.string ⟨(digN (t-1)).toArray⟩,.bool true])∧Below W.heap.size W w'):=fun W hE=>by have h1:=x194 (digN f++45::digN (t-1)) [45] W (by simp only[List.length_append,List.length_cons];omega) hE;rw[hc.2]at h1;exact Lib.hid h1
 have HN1:=fun W=>Lib.hid (y188 hn.1 W (by omega));have HN2:=fun W=>Lib.hid (y188 hn.2.1 W (by omega));have HN3:=fun(hne:n≠-1)W=>Lib.hid (y188 (hn.2.2 hne).1 W (by omega));have HT:Hid ((n=-1∧y42 n=[42])∨(n≠-1∧y42 n≠[42])):=by
  simp only[Hid];by_cases e:n=-1;·left;exact⟨e,by rw[e];rfl⟩
  ·right;exact⟨e,(hn.2.2 e).2⟩
 have HE:=Lib.hid henv;have hlne:l.isEmpty=false:=by cases l with|nil=>exact absurd rfl hne|cons a b=>rfl
 obtain⟨rs,hrs⟩:∃r,Lib.trimPrefix l vBytes=r:=⟨_,rfl⟩;obtain⟨rb,hrb⟩:∃r,Lib.hasPrefix l vBytes=r:=⟨_,rfl⟩;obtain⟨en,hen⟩:∃r,digN f++45::digN (t-1)=r:=⟨_,rfl⟩;obtain⟨fr,hfr⟩:∃r,digN f=r:=⟨_,rfl⟩;obtain⟨la,hla⟩:∃r,digN (t-1)=r:=⟨_,rfl⟩;obtain⟨al,hal⟩:∃r,y42 n=r:=⟨_,rfl⟩;obtain⟨q,hq⟩:∃q,t-1=q:=⟨_,rfl⟩;rw[hrs,hrb]at HP;simp only[hrs,hen,hal]at HC1;simp only[hen]at HC2;simp only[hfr,hla]at HC2;simp only[hfr]at HN1;simp only[hla]at HN2;simp only[hq]at HN2;simp only[hal]at HN3 HT;have hq1:q+1=t:=by omega
 have hqw:IntKind.i64.wrap (q+1)=t:=by rw[hq1];exact IntWalk.i64_in _ (by omega)
 have hq2:¬(4611686018427387903:Int)≤q:=by omega
 clear h hc hn hne henv hl hrs hrb hen hfr hla hal hd1 hd2 htl hi hq1 hq;go_enter Tryz.func69,Tryz.ntmps69;go_upto_region 2 with(go_at_call 115;refine(HP.out _).mono ?_;rintro e w1⟨rfl,rfl⟩);obtain⟨W0,hW0,HZ0,HB0⟩:=box1 w #[.int .i64 0,.int .i64 0] 59;rw[hW0];clear hW0;go_upto_region 3 with(go_at_call 116;refine(HC1 _ (HE.out.below HB0.out)).out.mono ?_;rintro e w2⟨rfl,hb2⟩);have HZ2:=Lib.hid (j3 hb2 HZ0.out);have HB2:=Lib.hid (q12 hb2 HB0.out);clear hb2;go_upto_region 4 with(go_at_call 116;refine(HC2 _ (HE.out.below HB2.out)).out.mono ?_;rintro e w3⟨rfl,hb3⟩);obtain⟨W4,hW4⟩:∃W,w3.alloc (.cells #[.int .i64 0,.int .i64 0] 59)=W:=⟨_,rfl⟩;have HX4:Hid (W4.heap[w3.heap.size]?=some (.cells #[.int .i64 0,.int .i64 0] 59 (0,0))):=by simp only[Hid];rw[←hW4];exact j17 rfl
 have HZ4:Hid (W4.heap[w.heap.size]?=some (.cells #[.int .i64 0,.int .i64 0] 59 (0,0))):=by simp only[Hid];rw[←hW4];exact j16 (j3 hb3 HZ2.out)
 have HB4:Hid (Below w.heap.size w W4):=by simp only[Hid];rw[←hW4];exact q11 (q12 hb3 HB2.out) _
 have hlt:=q14 (j3 hb3 HZ2.out);go_upto_region 6 with fail;try rw[hW4]
 obtain⟨X,hX⟩:∃X,w3.heap.size=X:=⟨_,rfl⟩;rw[hX]at HX4 hlt⊢;have hle:w.heap.size≤X:=by omega
 have HNE:Hid (w.heap.size≠X):=by simp only[Hid];omega
 have HLE:=Lib.hid hle;clear hW4 hX hb3 HZ0 HB0 HZ2 HB2 hlt hle;have HS4:Hid (RgSt w X 0 0 W4):=⟨HX4.out,HZ4.out,Nat.lt_of_le_of_ne HLE.out HNE.out,HB4.out⟩;clear HX4 HZ4 HB4 HLE HNE;have x0:=bc 0 HS4.out.x rfl;have xf0:=q13 (i:=0) HS4.out.x;have xz:=q14 HS4.out.x;go_upto_region 7 with(first|(go_at_call 117;refine(HN1 _).out.mono ?_;rintro e w5⟨rfl,hb5⟩;have y0:=q13 (i:=0) (j3 hb5 HS4.out.x);have y1:=bc 0 (j3 hb5 HS4.out.x) rfl;have yz:=q14 (j3 hb5 HS4.out.x)));have HS5:=Lib.hid (HS4.out.below hb5);clear x0 xf0 xz hb5 y0 y1 yz HS4;obtain⟨W6,hWn⟩:∃W,w5.setCell ⟨X,0,none⟩ (.int .i64 f)=W:=⟨_,rfl⟩;have HS6:Hid (RgSt w X f 0 W6):=by simp only[Hid];rw[←hWn];exact HS5.out.set0 _
 rw[hWn];clear hWn;have x1:=bc 1 HS6.out.x rfl;have xf1:=q13 (i:=1) HS6.out.x;have xz:=q14 HS6.out.x;go_upto_region 10 with(first|(go_at_call 117;refine(HN2 _).out.mono ?_;rintro e w7⟨rfl,hb7⟩;have y0:=q13 (i:=1) (j3 hb7 HS6.out.x);have y1:=bc 1 (j3 hb7 HS6.out.x) rfl;have yz:=q14 (j3 hb7 HS6.out.x)));have HS7:=Lib.hid (HS6.out.below hb7);clear x1 xf1 xz hb7 y0 y1 yz HS6 HS5;obtain⟨W8,hWn⟩:∃W,w7.setCell ⟨X,1,none⟩ (.int .i64 q)=W:=⟨_,rfl⟩;have HS8:Hid (RgSt w X f q W8):=by simp only[Hid];rw[←hWn];exact HS7.out.set1 _
 rw[hWn];clear hWn;have x1:=bc 1 HS8.out.x rfl;have xf1:=q13 (i:=1) HS8.out.x;have xz:=q14 HS8.out.x;go_upto_region 14 with fail;clear x1 xf1 xz HS7;obtain⟨W9,hWn⟩:∃W,W8.setCell ⟨X,1,none⟩ (.int .i64 t)=W:=⟨_,rfl⟩;have HS9:Hid (RgSt w X f t W9):=by simp only[Hid];rw[←hWn];exact HS8.out.set1 _
 rw[hWn];clear hWn;clear HS8;rcases HT.out with⟨hn1,ha⟩|⟨hn1,ha⟩;·subst hn1 ha;have x0:=bc 0 HS9.out.x rfl;have xf0:=q13 (i:=0) HS9.out.x;have x1:=bc 1 HS9.out.x rfl;have xf1:=q13 (i:=1) HS9.out.x;have xz:=q14 HS9.out.x;go_upto_region 19 with(first|(go_at_call 118;refine(HCN _ (HE.out.below HS9.out.bel)).out.mono ?_;rintro e w10⟨rfl,hb10⟩));have HS10:=Lib.hid (HS9.out.below hb10);clear x0 xf0 x1 xf1 xz hb10 HS9;have x0:=bc 0 HS10.out.x rfl;have xf0:=q13 (i:=0) HS10.out.x;have x1:=bc 1 HS10.out.x rfl;have xf1:=q13 (i:=1) HS10.out.x;have xz:=q14 HS10.out.x;have z0:=bc 0 HS10.out.z rfl;have zf0:=q13 (i:=0) HS10.out.z;have z1:=bc 1 HS10.out.z rfl;have zf1:=q13 (i:=1) HS10.out.z;have zz:=q14 HS10.out.z;go_wp2_with fail;refine bodyPost_ret (by simp[results,Tryz.results69,go_sem,z0,z1];try rfl) rfl ?_;exact HPOST.out _ (w14 (w14 HS10.out.bel (Nat.le_refl _) _) (Nat.le_refl _) _)
 ·have hab:(al==[42])=false:=by rw[beq_eq_false_iff_ne];exact ha
  go_upto_region 16 with(first|(go_at_call 117;refine(HN3 hn1 _).out.mono ?_;rintro e w10⟨rfl,hb10⟩));have HS10:=Lib.hid (HS9.out.below hb10);clear hb10 HS9;have x0:=bc 0 HS10.out.x rfl;have xf0:=q13 (i:=0) HS10.out.x;have x1:=bc 1 HS10.out.x rfl;have xf1:=q13 (i:=1) HS10.out.x;have xz:=q14 HS10.out.x;go_upto_region 19 with(first|(go_at_call 118;refine(HCN _ (HE.out.below HS10.out.bel)).out.mono ?_;rintro e w11⟨rfl,hb11⟩));have HS11:=Lib.hid (HS10.out.below hb11);clear x0 xf0 x1 xf1 xz hb11 HS10;have x0:=bc 0 HS11.out.x rfl;have xf0:=q13 (i:=0) HS11.out.x;have x1:=bc 1 HS11.out.x rfl;have xf1:=q13 (i:=1) HS11.out.x;have xz:=q14 HS11.out.x;have z0:=bc 0 HS11.out.z rfl;have zf0:=q13 (i:=0) HS11.out.z;have z1:=bc 1 HS11.out.z rfl;have zf1:=q13 (i:=1) HS11.out.z;have zz:=q14 HS11.out.z;go_wp2_with fail;refine bodyPost_ret (by simp[results,Tryz.results69,go_sem,z0,z1];try rfl) rfl ?_;exact HPOST.out _ (w14 (w14 HS11.out.bel (Nat.le_refl _) _) (Nat.le_refl _) _)
end Go.Proofs.YtkkomffmnafjkaaGreatDoor
