/- Contract of the program's text of a date. -/
import Derived.Test.YtkkomffmnafjkaaGreatDoorZI2
import Derived.Test.YtkkomffmnafjkaaGreatDoorZF0
import Derived.OwnWalk
set_option maxHeartbeats 16000000
set_option maxRecDepth 100000
set_option linter.all false
namespace Go.Proofs.YtkkomffmnafjkaaGreatDoor
open Go.RowKit
theorem y62(t:List UInt8)(a b:Nat):(⟨t.toArray⟩:ByteArray).extract a b=⟨((t.drop a).take (b-a)).toArray⟩:=q73 (by rw[ByteArray.data_extract,Array.toList_extract])
theorem x127(t:List UInt8)(k:Int)(h0:0≤k):(⟨t.toArray⟩:ByteArray).extract (3*k).toNat (3*k+3).toNat=⟨(x18 t k).toArray⟩:=by
 rw[y62 t];unfold x18;have e1:(3*k).toNat=3*k.toNat:=by omega
 have e2:(3*k+3).toNat-(3*k).toNat=3:=by omega
 rw[e2,e1]
def z207(v:List UInt8)(w:World)(e:Ending)(w':World):Prop:=e=.returned (.tuple #[.string ⟨v.toArray⟩,.int .i64 0])∧Below w.heap.size w w'
theorem x72(n:Int)(w:World)(h0:0≤n)(h1:n≤253402300799):Calls Tryz.prog 122 #[.int .i64 n] w (z207 (q42 n) w):=by
 obtain⟨b1,b2,b3,b4,b5,b6,b7,b8⟩:=y125 (n:=n/86400) (by omega) (by omega);have HT:Hid (q42 n=x18 k191 (dayN (n/86400)).week++[44,32]++digK (dayN (n/86400)).date 2++[32]++x18 yearT ((dayN (n/86400)).month-1)++[32]++digK (dayN (n/86400)).year 4++[32]++digK (n%86400/3600) 2++[58]++digK (n%86400/60%60) 2++[58]++digK (n%86400%60) 2++[32,71,77,84]):=by simp only[Hid];simp only[y155,x145];unfold q42;simp
 obtain⟨s,hs⟩:∃s,n%86400=s:=⟨_,rfl⟩;have hs1:0≤s∧s<86400:=by omega
 rw[hs]at HT;obtain⟨y,m,d,k,hday⟩:∃y m d k,dayN (n/86400)=⟨y,m,d,k⟩:=⟨_,_,_,_,rfl⟩;have HD:∀W,Hid (Calls Tryz.prog 182 #[.int .i64 n] W fun e w'=>e=.returned (.tuple #[.agg #[.int .i64 y,.int .i64 m,.int .i64 d,.int .i64 k],.int .i64 s])∧Below W.heap.size W w'):=fun W=>Lib.hid ((x132 n W h0 h1).mono fun e w' h=>by rw[j58,hday,hs]at h;exact h);rw[hday]at HT b1 b2 b3 b4 b5 b6 b7 b8;simp only at HT b1 b2 b3 b4 b5 b6 b7 b8;have hn1:(x18 k191 k).length=3:=q60 b7 (by show 3*k+3≤((21:Nat):Int);omega);have hn2:(x18 yearT (m-1)).length=3:=q60 (by omega) (by show 3*(m-1)+3≤((36:Nat):Int);omega);have hx1:=x127 k191 k b7;have hx2:(⟨yearT.toArray⟩:ByteArray).extract (3*m-3).toNat (3*m).toNat=⟨(x18 yearT (m-1)).toArray⟩:=by
  have h:=x127 yearT (m-1) (by omega);have e1:3*(m-1)=3*m-3:=by omega
  have e2:3*(m-1)+3=3*m:=by omega
  rw[e2,e1]at h;exact h
 obtain⟨t0,K0⟩:∃t:List UInt8,Hid (t=[]):=⟨_,Lib.hid rfl⟩;have N0:Hid (t0.length=0):=by simp only[Hid];rw[K0.out];rfl
 obtain⟨t1,K1⟩:∃t,Hid (t=t0++x18 k191 k):=⟨_,Lib.hid rfl⟩;have N1:Hid (t1.length=3):=by simp only[Hid];rw[K1.out,List.length_append,N0.out,hn1]
 obtain⟨t2,K2⟩:∃t,Hid (t=t1++[44,32]):=⟨_,Lib.hid rfl⟩;have N2:Hid (t2.length=5):=by simp only[Hid];rw[K2.out,List.length_append,N1.out];rfl
 obtain⟨t3,K3⟩:∃t,Hid (t=t2++digK (d) 2):=⟨_,Lib.hid rfl⟩;have N3:Hid (t3.length=7):=by simp only[Hid];rw[K3.out,List.length_append,N2.out,j51]
 obtain⟨t4,K4⟩:∃t,Hid (t=t3++[32]):=⟨_,Lib.hid rfl⟩;have N4:Hid (t4.length=8):=by simp only[Hid];rw[K4.out,List.length_append,N3.out];rfl
 obtain⟨t5,K5⟩:∃t,Hid (t=t4++x18 yearT (m-1)):=⟨_,Lib.hid rfl⟩;have N5:Hid (t5.length=11):=by simp only[Hid];rw[K5.out,List.length_append,N4.out,hn2]
 obtain⟨t6,K6⟩:∃t,Hid (t=t5++[32]):=⟨_,Lib.hid rfl⟩;have N6:Hid (t6.length=12):=by simp only[Hid];rw[K6.out,List.length_append,N5.out];rfl
 obtain⟨t7,K7⟩:∃t,Hid (t=t6++digK (y) 4):=⟨_,Lib.hid rfl⟩;have N7:Hid (t7.length=16):=by simp only[Hid];rw[K7.out,List.length_append,N6.out,j51]
 obtain⟨t8,K8⟩:∃t,Hid (t=t7++[32]):=⟨_,Lib.hid rfl⟩;have N8:Hid (t8.length=17):=by simp only[Hid];rw[K8.out,List.length_append,N7.out];rfl
 obtain⟨t9,K9⟩:∃t,Hid (t=t8++digK (s/3600) 2):=⟨_,Lib.hid rfl⟩;have N9:Hid (t9.length=19):=by simp only[Hid];rw[K9.out,List.length_append,N8.out,j51]
 obtain⟨t10,K10⟩:∃t,Hid (t=t9++[58]):=⟨_,Lib.hid rfl⟩;have N10:Hid (t10.length=20):=by simp only[Hid];rw[K10.out,List.length_append,N9.out];rfl
 obtain⟨t11,K11⟩:∃t,Hid (t=t10++digK (s/60%60) 2):=⟨_,Lib.hid rfl⟩;have N11:Hid (t11.length=22):=by simp only[Hid];rw[K11.out,List.length_append,N10.out,j51]
 obtain⟨t12,K12⟩:∃t,Hid (t=t11++[58]):=⟨_,Lib.hid rfl⟩;have N12:Hid (t12.length=23):=by simp only[Hid];rw[K12.out,List.length_append,N11.out];rfl
 obtain⟨t13,K13⟩:∃t,Hid (t=t12++digK (s%60) 2):=⟨_,Lib.hid rfl⟩;have N13:Hid (t13.length=25):=by simp only[Hid];rw[K13.out,List.length_append,N12.out,j51]
 obtain⟨t14,K14⟩:∃t,Hid (t=t13++[32,71,77,84]):=⟨_,Lib.hid rfl⟩;have N14:Hid (t14.length=29):=by simp only[Hid];rw[K14.out,List.length_append,N13.out];rfl
 have HT':Hid (q42 n=t14):=by simp only[Hid];rw[HT.out,K14.out,K13.out,K12.out,K11.out,K10.out,K9.out,K8.out,K7.out,K6.out,K5.out,K4.out,K3.out,K2.out,K1.out,K0.out];simp only[List.nil_append]
 clear HT;clear hday hs;go_enter Tryz.func122,Tryz.ntmps122;go_wp2_with fail;refine(HD _).out.mono ?_;rintro e w1⟨rfl,hb1⟩;clear HD;go_wp2_with(
  first
   |(at_builtin;refine y87 (w0:=W0) rfl (.tmp 73) (.const (.string ⟨#[32,71,77,84]⟩)) rfl A13 c13 25 t13 N13.out.symm rfl HO13.out ([32,71,77,84]) _ (by exact rfl) rfl 29 (by rfl) (by decide) HB.out ?_;intro A14 c14 x14 ho14 hb14 hgg;clear hgg;have HO14:Hid (OwnB x14 W0.heap.size A14 c14 t14):=by simp only[Hid];rw[K14.out];exact ho14
     clear HB HO13 v0 v1 v2 v3 ho14;have HB:=Lib.hid hb14;clear hb14;have v0:=bc 0 (j3 HB.out HW0.out) rfl;have v1:=bc 1 (j3 HB.out HW0.out) rfl;have v2:=bc 2 (j3 HB.out HW0.out) rfl;have v3:=bc 3 (j3 HB.out HW0.out) rfl;have hcv:=convB x14 W0.heap.size A14 c14 29 t14 N14.out.symm (by rw[N14.out];decide) HO14.out)
   |(go_at_call_has 183(Value.int .i64 (s%60));refine(k49 HO12.out (ln:=23) N12.out.symm HB.out (s%60) 2 (by omega) (by omega) (by omega) (by rw[N12.out];decide)).mono ?_;rintro e x13⟨A13,c13,rfl,ho13,hb13⟩;have HO13:Hid (OwnB x13 W0.heap.size A13 c13 t13):=by simp only[Hid];rw[K13.out];exact ho13
     clear HB HO12 v0 v1 v2 v3 ho13;have HB:=Lib.hid hb13;clear hb13;have v0:=bc 0 (j3 HB.out HW0.out) rfl;have v1:=bc 1 (j3 HB.out HW0.out) rfl;have v2:=bc 2 (j3 HB.out HW0.out) rfl;have v3:=bc 3 (j3 HB.out HW0.out) rfl)
   |(at_builtin;refine w47 (w0:=W0) rfl (.tmp 67) (.tmp 68) rfl A11 c11 22 t11 N11.out.symm _ _ rfl HO11.out [58] 1 rfl rfl rfl (by decide) 23 rfl (by decide) HB.out ?_;intro A12 c12 x12 ho12 hb12 hgg;clear hgg;have HO12:Hid (OwnB x12 W0.heap.size A12 c12 t12):=by simp only[Hid];rw[K12.out];exact ho12
     clear HB HO11 v0 v1 v2 v3 ho12;have HB:=Lib.hid hb12;clear hb12;have v0:=bc 0 (j3 HB.out HW0.out) rfl;have v1:=bc 1 (j3 HB.out HW0.out) rfl;have v2:=bc 2 (j3 HB.out HW0.out) rfl;have v3:=bc 3 (j3 HB.out HW0.out) rfl)
   |(go_at_call_has 183(Value.int .i64 (s/60%60));refine(k49 HO10.out (ln:=20) N10.out.symm HB.out (s/60%60) 2 (by omega) (by omega) (by omega) (by rw[N10.out];decide)).mono ?_;rintro e x11⟨A11,c11,rfl,ho11,hb11⟩;have HO11:Hid (OwnB x11 W0.heap.size A11 c11 t11):=by simp only[Hid];rw[K11.out];exact ho11
     clear HB HO10 v0 v1 v2 v3 ho11;have HB:=Lib.hid hb11;clear hb11;have v0:=bc 0 (j3 HB.out HW0.out) rfl;have v1:=bc 1 (j3 HB.out HW0.out) rfl;have v2:=bc 2 (j3 HB.out HW0.out) rfl;have v3:=bc 3 (j3 HB.out HW0.out) rfl)
   |(at_builtin;refine w47 (w0:=W0) rfl (.tmp 60) (.tmp 61) rfl A9 c9 19 t9 N9.out.symm _ _ rfl HO9.out [58] 1 rfl rfl rfl (by decide) 20 rfl (by decide) HB.out ?_;intro A10 c10 x10 ho10 hb10 hgg;clear hgg;have HO10:Hid (OwnB x10 W0.heap.size A10 c10 t10):=by simp only[Hid];rw[K10.out];exact ho10
     clear HB HO9 v0 v1 v2 v3 ho10;have HB:=Lib.hid hb10;clear hb10;have v0:=bc 0 (j3 HB.out HW0.out) rfl;have v1:=bc 1 (j3 HB.out HW0.out) rfl;have v2:=bc 2 (j3 HB.out HW0.out) rfl;have v3:=bc 3 (j3 HB.out HW0.out) rfl)
   |(go_at_call_has 183(Value.int .i64 (s/3600));refine(k49 HO8.out (ln:=17) N8.out.symm HB.out (s/3600) 2 (by omega) (by omega) (by omega) (by rw[N8.out];decide)).mono ?_;rintro e x9⟨A9,c9,rfl,ho9,hb9⟩;have HO9:Hid (OwnB x9 W0.heap.size A9 c9 t9):=by simp only[Hid];rw[K9.out];exact ho9
     clear HB HO8 v0 v1 v2 v3 ho9;have HB:=Lib.hid hb9;clear hb9;have v0:=bc 0 (j3 HB.out HW0.out) rfl;have v1:=bc 1 (j3 HB.out HW0.out) rfl;have v2:=bc 2 (j3 HB.out HW0.out) rfl;have v3:=bc 3 (j3 HB.out HW0.out) rfl)
   |(at_builtin;refine w47 (w0:=W0) rfl (.tmp 54) (.tmp 55) rfl A7 c7 16 t7 N7.out.symm _ _ rfl HO7.out [32] 1 rfl rfl rfl (by decide) 17 rfl (by decide) HB.out ?_;intro A8 c8 x8 ho8 hb8 hgg;clear hgg;have HO8:Hid (OwnB x8 W0.heap.size A8 c8 t8):=by simp only[Hid];rw[K8.out];exact ho8
     clear HB HO7 v0 v1 v2 v3 ho8;have HB:=Lib.hid hb8;clear hb8;have v0:=bc 0 (j3 HB.out HW0.out) rfl;have v1:=bc 1 (j3 HB.out HW0.out) rfl;have v2:=bc 2 (j3 HB.out HW0.out) rfl;have v3:=bc 3 (j3 HB.out HW0.out) rfl)
   |(go_at_call_of 183(Value.int .i64 (y));refine(k49 HO6.out (ln:=12) N6.out.symm HB.out (y) 4 (by omega) (by omega) (by omega) (by rw[N6.out];decide)).mono ?_;rintro e x7⟨A7,c7,rfl,ho7,hb7⟩;have HO7:Hid (OwnB x7 W0.heap.size A7 c7 t7):=by simp only[Hid];rw[K7.out];exact ho7
     clear HB HO6 v0 v1 v2 v3 ho7;have HB:=Lib.hid hb7;clear hb7;have v0:=bc 0 (j3 HB.out HW0.out) rfl;have v1:=bc 1 (j3 HB.out HW0.out) rfl;have v2:=bc 2 (j3 HB.out HW0.out) rfl;have v3:=bc 3 (j3 HB.out HW0.out) rfl)
   |(at_builtin;refine w47 (w0:=W0) rfl (.tmp 48) (.tmp 49) rfl A5 c5 11 t5 N5.out.symm _ _ rfl HO5.out [32] 1 rfl rfl rfl (by decide) 12 rfl (by decide) HB.out ?_;intro A6 c6 x6 ho6 hb6 hgg;clear hgg;have HO6:Hid (OwnB x6 W0.heap.size A6 c6 t6):=by simp only[Hid];rw[K6.out];exact ho6
     clear HB HO5 v0 v1 v2 v3 ho6;have HB:=Lib.hid hb6;clear hb6;have v0:=bc 0 (j3 HB.out HW0.out) rfl;have v1:=bc 1 (j3 HB.out HW0.out) rfl;have v2:=bc 2 (j3 HB.out HW0.out) rfl;have v3:=bc 3 (j3 HB.out HW0.out) rfl)
   |(at_builtin;refine y87 (w0:=W0) rfl (.tmp 38) (.tmp 46) rfl A4 c4 8 t4 N4.out.symm rfl HO4.out (x18 yearT (m-1)) _ (by exact hx2) rfl 11 (by rw[hn2]) (by decide) HB.out ?_;intro A5 c5 x5 ho5 hb5 hgg;clear hgg;have HO5:Hid (OwnB x5 W0.heap.size A5 c5 t5):=by simp only[Hid];rw[K5.out];exact ho5
     clear HB HO4 v0 v1 v2 v3 ho5;have HB:=Lib.hid hb5;clear hb5;have v0:=bc 0 (j3 HB.out HW0.out) rfl;have v1:=bc 1 (j3 HB.out HW0.out) rfl;have v2:=bc 2 (j3 HB.out HW0.out) rfl;have v3:=bc 3 (j3 HB.out HW0.out) rfl)
   |(at_builtin;refine w47 (w0:=W0) rfl (.tmp 35) (.tmp 36) rfl A3 c3 7 t3 N3.out.symm _ _ rfl HO3.out [32] 1 rfl rfl rfl (by decide) 8 rfl (by decide) HB.out ?_;intro A4 c4 x4 ho4 hb4 hgg;clear hgg;have HO4:Hid (OwnB x4 W0.heap.size A4 c4 t4):=by simp only[Hid];rw[K4.out];exact ho4
     clear HB HO3 v0 v1 v2 v3 ho4;have HB:=Lib.hid hb4;clear hb4;have v0:=bc 0 (j3 HB.out HW0.out) rfl;have v1:=bc 1 (j3 HB.out HW0.out) rfl;have v2:=bc 2 (j3 HB.out HW0.out) rfl;have v3:=bc 3 (j3 HB.out HW0.out) rfl)
   |(go_at_call_of 183(Value.int .i64 (d));refine(k49 HO2.out (ln:=5) N2.out.symm HB.out (d) 2 (by omega) (by omega) (by omega) (by rw[N2.out];decide)).mono ?_;rintro e x3⟨A3,c3,rfl,ho3,hb3⟩;have HO3:Hid (OwnB x3 W0.heap.size A3 c3 t3):=by simp only[Hid];rw[K3.out];exact ho3
     clear HB HO2 v0 v1 v2 v3 ho3;have HB:=Lib.hid hb3;clear hb3;have v0:=bc 0 (j3 HB.out HW0.out) rfl;have v1:=bc 1 (j3 HB.out HW0.out) rfl;have v2:=bc 2 (j3 HB.out HW0.out) rfl;have v3:=bc 3 (j3 HB.out HW0.out) rfl)
   |(at_builtin;refine w47 (w0:=W0) rfl (.tmp 29) (.tmp 30) rfl A1 c1 3 t1 N1.out.symm _ _ rfl HO1.out [44,32] 2 rfl rfl rfl (by decide) 5 rfl (by decide) HB.out ?_;intro A2 c2 x2 ho2 hb2 hgg;clear hgg;have HO2:Hid (OwnB x2 W0.heap.size A2 c2 t2):=by simp only[Hid];rw[K2.out];exact ho2
     clear HB HO1 v0 v1 v2 v3 ho2;have HB:=Lib.hid hb2;clear hb2;have v0:=bc 0 (j3 HB.out HW0.out) rfl;have v1:=bc 1 (j3 HB.out HW0.out) rfl;have v2:=bc 2 (j3 HB.out HW0.out) rfl;have v3:=bc 3 (j3 HB.out HW0.out) rfl)
   |(at_builtin;refine y87 (w0:=W0) rfl (.tmp 19) (.tmp 27) rfl (some ⟨W0.heap.size,0,none⟩) 29 0 t0 N0.out.symm rfl HO0.out (x18 k191 k) _ (by exact hx1) rfl 3 (by rw[hn1]) (by decide) HB.out ?_;intro A1 c1 x1 ho1 hb1 hgg;clear hgg;have HO1:Hid (OwnB x1 W0.heap.size A1 c1 t1):=by simp only[Hid];rw[K1.out];exact ho1
     clear HB HO0 v0 v1 v2 v3 ho1;have HB:=Lib.hid hb1;clear hb1;have v0:=bc 0 (j3 HB.out HW0.out) rfl;have v1:=bc 1 (j3 HB.out HW0.out) rfl;have v2:=bc 2 (j3 HB.out HW0.out) rfl;have v3:=bc 3 (j3 HB.out HW0.out) rfl)
   |(at_make;obtain⟨i0,hi,hz0,hz1,hz2⟩:=info_parts Tryz.infoByte;obtain⟨W0,hW0⟩:∃W0,w1.alloc (.cells #[.int .i64 y,.int .i64 m,.int .i64 d,.int .i64 k] 232)=W0:=⟨_,rfl⟩;have HW0:Hid (W0.heap[w1.heap.size]?=some (.cells #[.int .i64 y,.int .i64 m,.int .i64 d,.int .i64 k] 232 (0,0))):=by simp only[Hid];rw[←hW0];exact j17 rfl
     have HWB:Hid (Below w.heap.size w W0):=by simp only[Hid];rw[←hW0];exact q11 hb1 _
     obtain⟨db,hdb⟩:∃db,w1.heap.size=db:=⟨_,rfl⟩;rw[hdb]at HW0;rw[hW0];try rw[hdb]
     clear hW0 hdb hb1;refine wpList_make_own W0 rfl (.const (.int .i64 0)) (.const (.int .i64 29)) 243 rfl W0.heap.size 5 i0 _ 1 Tryz.underlying243 hi hz0 hz1 .i64 .i64 29 29 rfl rfl rfl (by rw[hz2];omega) (by simp only[maxLen];omega) (Nat.le_refl _) ?_;intro w2 hown2 hg2;have HO0:Hid (OwnB w2 W0.heap.size (some ⟨W0.heap.size,0,none⟩) 29 t0):=by simp only[Hid];rw[K0.out];exact hown2
     have HB:Hid (Below W0.heap.size W0 w2):=(Below.refl _ _).grown hg2 (Nat.le_refl _) (fun k hk=>by cases hk);have v0:=bc 0 (j3 HB.out HW0.out) rfl;have v1:=bc 1 (j3 HB.out HW0.out) rfl;have v2:=bc 2 (j3 HB.out HW0.out) rfl;have v3:=bc 3 (j3 HB.out HW0.out) rfl;clear hown2 hg2 hi hz0 hz1 hz2));refine bodyPost_ret (by simp[results,Tryz.results122,go_sem];try rfl) rfl ?_;exact⟨by rw[HT'.out],q12 HB.out HWB.out⟩
end Go.Proofs.YtkkomffmnafjkaaGreatDoor
