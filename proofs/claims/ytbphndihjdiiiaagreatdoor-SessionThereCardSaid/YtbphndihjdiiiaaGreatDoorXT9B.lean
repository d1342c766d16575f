/- The stable sort by the first byte, of rows however long. -/
import Derived.Test.YtbphndihjdiiiaaGreatDoorXT1
set_option maxHeartbeats 16000000
set_option maxRecDepth 100000
set_option linter.all false
namespace Go.Proofs.YtbphndihjdiiiaaGreatDoor
open Go.RowKit Go.Shelf Go.Sort
def Blk(bs:Nat)(M:List FE):Prop:=∀k,SortF ((M.drop (k*bs)).take bs)
theorem q131(bs:Nat):Blk bs []:=fun k=>by simp[SortF]
theorem x50{bs k:Nat}{Q Z:List FE}(hQ:Blk bs Q)(hl:Q.length=k*bs)(hz:SortF Z)(hzl:Z.length≤bs):Blk bs (Q++Z):=by
 intro j;rcases Nat.lt_trichotomy j k with h|h|h;·have h1:(j+1)*bs≤k*bs:=Nat.mul_le_mul_right _ h;rw[Nat.succ_mul]at h1;rw[List.drop_append_of_le_length (by omega),List.take_append_of_le_length (by rw[List.length_drop];omega)];exact hQ j
 ·subst h;rw[←hl,List.drop_left,List.take_of_length_le hzl];exact hz
 ·have h1:(k+1)*bs≤j*bs:=Nat.mul_le_mul_right _ h;rw[Nat.succ_mul]at h1;rw[List.drop_eq_nil_of_le (by rw[List.length_append];omega)];simp[SortF]
theorem blk_all{bs:Nat}{M:List FE}(h:Blk bs M)(hl:M.length≤bs):SortF M:=by have:=h 0;rwa[Nat.zero_mul,List.drop_zero,List.take_of_length_le hl]at this
theorem blk_at{bs k a:Nat}{M:List FE}(h:Blk bs M)(ha:a=k*bs):SortF ((M.drop a).take bs):=by rw[ha];exact h k
theorem k105{Q Z M:List FE}{a b:Nat}(h1:Q.Perm (M.take a))(h2:Z.Perm ((M.drop a).take b)):(Q++Z).Perm (M.take (a+b)):=by rw[List.take_add];exact h1.append h2
theorem w141{w0 w:World}{g c:Nat}{M:List FE}(n:Nat)(hn:M.length=n)(h:RowAt w0 w g c M)(hl:n≤100000):Calls Tryz.prog 277 #[.slice (some ⟨g,0,none⟩) n c,.int .i64 n,.func (.func 239) #[] #[]] w (j55 (fun a b=>a.1.1≤b.1.1) (some ⟨g,0,none⟩) M w0):=by
 have HR:=Lib.hid h;have HN:=Lib.hid hn;clear h hn;go_enter Tryz.func277,Tryz.ntmps277;go_wp2_with fail;go_loopw[7,8](fun sa sb wr=>∃(k a b:Nat)(Q:List FE),a=k*20∧b=a+20∧a≤n∧sa=.int .i64 (a:Int)∧sb=.int .i64 (b:Int)∧Q.length=a∧Q.Perm (M.take a)∧Blk 20 Q∧RowAt w0 wr g c (Q++M.drop a))(fun sa _ _=>n-(intOf sa).toNat);case atStart=>exact⟨0,0,20,[],rfl,rfl,Nat.zero_le _,rfl,rfl,rfl,by simp,q131 _,HR.out⟩
 case round=>
  clear HR;obtain⟨k,a,b,Q,hak,hba,han,rfl,rfl,hQl,hQp,hQb,hr⟩:=hrel;by_cases hbn:b≤n;·
   have hbn':(b:Int)≤(n:Int):=by omega
   have hM:=HN.out;have e1:M.drop a=(M.drop a).take 20++M.drop b:=by rw[hba,←List.drop_drop,List.take_append_drop]
   have l1:((M.drop a).take 20).length=20:=by rw[List.length_take,List.length_drop];omega
   have l2:(M.drop b).length=n-b:=by rw[List.length_drop];omega
   have HC:=Lib.hid (q105 Q ((M.drop a).take 20) (M.drop b) a b n (hr.cast (by rw[List.append_assoc,←e1])) hQl (by omega) (by omega) (by omega));have HAK:Hid (b=(k+1)*20):=by simp only[Hid];omega
   have HQ:=Lib.hid (show Q.length=a∧Q.Perm (M.take a)∧Blk 20 Q from⟨hQl,hQp,hQb⟩);have HK:=Lib.hid hak;have HBA:=Lib.hid hba;clear hr hak hba hQl hQp hQb e1 l1 l2 hM;go_wp2_with fail;refine HC.out.mono ?_;rintro e w1⟨rfl,Z,z1,z2,hr1⟩;have HZ:Hid ((Q++Z).length=b∧(Q++Z).Perm (M.take b)∧Blk 20 (Q++Z)∧RowAt w0 w1 g c (Q++Z++M.drop b)):=by
    have lz:Z.length=20:=by rw[z1.length_eq,List.length_take,List.length_drop];have:=HN.out;have:=HBA.out;omega
    refine⟨by rw[List.length_append,HQ.out.1,lz,HBA.out],?_,x50 HQ.out.2.2 (k:=k) (by rw[HQ.out.1,HK.out]) z2 (by omega),hr1⟩;have:=k105 HQ.out.2.1 z1;rwa[←HBA.out]at this
   clear HC z1 z2 hr1 HQ HK;go_wp2_with fail;go_roundw;case rel=>exact⟨k+1,b,b+20,Q++Z,HAK.out,rfl,hbn,rfl,by go_num,HZ.out.1,HZ.out.2.1,HZ.out.2.2.1,HZ.out.2.2.2⟩
   case measure=>have:=HBA.out;simp[intOf];omega
  ·have hbn':¬(b:Int)≤(n:Int):=by omega
   have hM:=HN.out;have l1:(M.drop a).length=n-a:=by rw[List.length_drop];omega
   have HC:=Lib.hid (q105 Q (M.drop a) [] a n n (hr.cast (by simp)) hQl (by omega) (by simp) (by omega));have HQ:=Lib.hid (show Q.length=a∧Q.Perm (M.take a)∧Blk 20 Q∧a=k*20∧b=a+20 from⟨hQl,hQp,hQb,hak,hba⟩);clear hr hak hQl hQp hQb l1 hM hba;go_wp2_with fail;refine HC.out.mono ?_;rintro e w1⟨rfl,Z,z1,z2,hr1⟩;have HZ:Hid ((Q++Z).Perm M∧Blk 20 (Q++Z)∧RowAt w0 w1 g c (Q++Z)):=by
    have lz:Z.length≤20:=by rw[z1.length_eq,List.length_drop];have:=HN.out;have:=HQ.out.2.2.2.2;omega
    refine⟨?_,x50 HQ.out.2.2.1 (k:=k) (by rw[HQ.out.1,HQ.out.2.2.2.1]) z2 lz,hr1.cast (by simp)⟩;have:=HQ.out.2.1.append z1;rwa[List.take_append_drop]at this
   obtain⟨M1,hM1⟩:∃M1,Q++Z=M1:=⟨_,rfl⟩;rw[hM1]at HZ;clear HC z1 z2 hr1 HQ hM1;go_wp2_with fail;go_loopw[6,7,8,9](fun sbs _ _ _ wr=>∃(bs:Nat)(M1:List FE),0<bs∧bs≤400000∧sbs=.int .i64 (bs:Int)∧M1.Perm M∧Blk bs M1∧RowAt w0 wr g c M1)(fun sbs _ _ _ _=>n-(intOf sbs).toNat);case atStart=>exact⟨20,M1,by omega,by omega,rfl,HZ.out.1,HZ.out.2.1,HZ.out.2.2⟩
   case round=>
    clear HZ;obtain⟨bs,M1,hbs,hbs2,rfl,hp1,hb1,hr1⟩:=hrel;have HP1:=Lib.hid hp1;have HB1:=Lib.hid hb1;have HL1:Hid (M1.length=n):=by simp only[Hid];rw[hp1.length_eq];exact HN.out
    clear hp1 hb1;obtain⟨ws,hws⟩:∃ws,ws=wr:=⟨_,rfl⟩;subst hws;have HR1:=Lib.hid hr1;clear hr1;by_cases hlt:bs<n;·
     have hlt':(bs:Int)<(n:Int):=by omega
     go_wp2_with fail;go_loopw[7,8](fun sa sb wi=>∃(k a b:Nat)(Q:List FE),a=k*(bs+bs)∧b=a+(bs+bs)∧a≤n∧sa=.int .i64 (a:Int)∧sb=.int .i64 (b:Int)∧Q.length=a∧Q.Perm (M1.take a)∧Blk (bs+bs) Q∧RowAt w0 wi g c (Q++M1.drop a))(fun sa _ _=>n-(intOf sa).toNat);case atStart=>exact⟨0,0,bs+bs,[],by omega,by omega,Nat.zero_le _,rfl,by go_num,rfl,by simp,q131 _,HR1.out⟩
     case round=>
      clear HR1;obtain⟨k2,a2,b2,Q2,hak2,hba2,han2,rfl,rfl,hQl2,hQp2,hQb2,hr2⟩:=hrel;have hMl:=HL1.out;have s1:SortF ((M1.drop a2).take bs):=blk_at (k:=2*k2) HB1.out (by rw[hak2,Nat.mul_add,Nat.mul_comm 2 k2,Nat.mul_assoc,Nat.two_mul,Nat.mul_add]);have s2:SortF ((M1.drop (a2+bs)).take bs):=blk_at (k:=2*k2+1) HB1.out (by rw[hak2,Nat.succ_mul,Nat.mul_add,Nat.mul_comm 2 k2,Nat.mul_assoc,Nat.two_mul,Nat.mul_add]);by_cases hbn2:b2≤n;·
       have hbn2':(b2:Int)≤(n:Int):=by omega
       have e1:M1.drop a2=(M1.drop a2).take bs++((M1.drop (a2+bs)).take bs++M1.drop b2):=by
        have e3:M1.drop b2=(M1.drop (a2+bs)).drop bs:=by rw[List.drop_drop];congr 1;omega
        rw[e3,List.take_append_drop,←List.drop_drop,List.take_append_drop]
       have l1:((M1.drop a2).take bs).length=bs:=by rw[List.length_take,List.length_drop];omega
       have l2:((M1.drop (a2+bs)).take bs).length=bs:=by rw[List.length_take,List.length_drop];omega
       have l3:(M1.drop b2).length=n-b2:=by rw[List.length_drop];omega
       have HC:=Lib.hid (y130 (w0:=w0) (g:=g) (c:=c) (N:=n) (by omega) (bs+bs) _ Q2 ((M1.drop a2).take bs) ((M1.drop (a2+bs)).take bs) (M1.drop b2) a2 (a2+bs) b2 (by omega) (hr2.cast (by rw[List.append_assoc,List.append_assoc,←e1])) s1 s2 (by omega) (by omega) hQl2 (by omega) (by omega) (by omega));have HF:=Lib.hid (show b2=(k2+1)*(bs+bs)∧b2=a2+(bs+bs)∧a2=k2*(bs+bs)from⟨by rw[Nat.succ_mul];omega,hba2,hak2⟩);have HQ:=Lib.hid (show Q2.length=a2∧Q2.Perm (M1.take a2)∧Blk (bs+bs) Q2 from⟨hQl2,hQp2,hQb2⟩);have HL12:=Lib.hid (show((M1.drop a2).take bs).length=bs∧((M1.drop (a2+bs)).take bs).length=bs from⟨l1,l2⟩);have hab:a2<b2:=by omega
       have hab2:a2+bs≤200000:=by omega
       clear hr2 hak2 hba2 hQl2 hQp2 hQb2 e1 l1 l2 l3 s1 s2 hMl;go_wp2_with fail;refine HC.out.mono ?_;rintro e w3⟨rfl,Z,z1,z2,hr3⟩;have HZ:Hid ((Q2++Z).length=b2∧(Q2++Z).Perm (M1.take b2)∧Blk (bs+bs) (Q2++Z)∧RowAt w0 w3 g c (Q2++Z++M1.drop b2)):=by
        have lz:Z.length=bs+bs:=by rw[z1.length_eq,List.length_append,HL12.out.1,HL12.out.2]
        refine⟨by rw[List.length_append,HQ.out.1,lz,HF.out.2.1],?_,x50 HQ.out.2.2 (k:=k2) (by rw[HQ.out.1,HF.out.2.2]) z2 (by omega),hr3⟩;have h1:Z.Perm ((M1.drop a2).take (bs+bs)):=by rw[List.take_add,List.drop_drop];exact z1
        have:=k105 HQ.out.2.1 h1;rwa[←HF.out.2.1]at this
       clear HC z1 z2 hr3 HQ HL12;go_wp2_with fail;go_roundw;case rel=>exact⟨k2+1,b2,b2+(bs+bs),Q2++Z,HF.out.1,rfl,hbn2,rfl,by go_num,HZ.out.1,HZ.out.2.1,HZ.out.2.2.1,HZ.out.2.2.2⟩
       case measure=>simp[intOf];omega
      ·have hbn2':¬(b2:Int)≤(n:Int):=by omega
       have hab2:a2+bs≤600000:=by omega
       by_cases hm:a2+bs<n;·
        have hm':(a2:Int)+(bs:Int)<(n:Int):=by omega
        have e2:(M1.drop (a2+bs)).take bs=M1.drop (a2+bs):=List.take_of_length_le (by rw[List.length_drop];omega);rw[e2]at s2;have e1:M1.drop a2=(M1.drop a2).take bs++M1.drop (a2+bs):=by rw[←List.drop_drop,List.take_append_drop]
        have l1:((M1.drop a2).take bs).length=bs:=by rw[List.length_take,List.length_drop];omega
        have l2:(M1.drop (a2+bs)).length=n-(a2+bs):=by rw[List.length_drop];omega
        have HC:=Lib.hid (y130 (w0:=w0) (g:=g) (c:=c) (N:=n) (by omega) (bs+bs) _ Q2 ((M1.drop a2).take bs) (M1.drop (a2+bs)) [] a2 (a2+bs) n (by omega) (hr2.cast (by rw[List.append_nil,List.append_assoc,←e1])) s1 s2 (by omega) (by omega) hQl2 (by omega) (by omega) (by simp));have HQ:=Lib.hid (show Q2.length=a2∧Q2.Perm (M1.take a2)∧Blk (bs+bs) Q2∧a2=k2*(bs+bs)from⟨hQl2,hQp2,hQb2,hak2⟩);have HE:=Lib.hid (show M1.drop a2=(M1.drop a2).take bs++M1.drop (a2+bs)∧(M1.drop (a2+bs)).length≤bs∧((M1.drop a2).take bs).length=bs from⟨e1,by omega,l1⟩);clear hr2 hak2 hba2 hQl2 hQp2 hQb2 e1 e2 l1 l2 s1 s2 hMl;go_wp2_with fail;refine HC.out.mono ?_;rintro e w3⟨rfl,Z,z1,z2,hr3⟩;have HZ:Hid ((Q2++Z).Perm M∧Blk (bs+bs) (Q2++Z)∧RowAt w0 w3 g c (Q2++Z)):=by
         have lz:Z.length≤bs+bs:=by rw[z1.length_eq,List.length_append,HE.out.2.2];have:=HE.out.2.1;omega
         refine⟨?_,x50 HQ.out.2.2.1 (k:=k2) (by rw[HQ.out.1,HQ.out.2.2.2]) z2 lz,hr3.cast (by simp)⟩;have h1:Z.Perm (M1.drop a2):=by rw[HE.out.1];exact z1
         have h2:=HQ.out.2.1.append h1;rw[List.take_append_drop]at h2;exact h2.trans HP1.out
        clear HC z1 z2 hr3 HQ HE;go_wp2_with fail;go_roundw;case rel=>exact⟨bs+bs,Q2++Z,by omega,by omega,by go_num,HZ.out.1,HZ.out.2.1,HZ.out.2.2⟩
        case measure=>simp[intOf];omega
       ·have hm':¬(a2:Int)+(bs:Int)<(n:Int):=by omega
        have HZ:Hid ((Q2++M1.drop a2).Perm M∧Blk (bs+bs) (Q2++M1.drop a2)∧RowAt w0 wr g c (Q2++M1.drop a2)):=by
         have ld:(M1.drop a2).length≤bs:=by rw[List.length_drop];omega
         rw[List.take_of_length_le ld]at s1;refine⟨?_,x50 hQb2 (k:=k2) (by rw[hQl2,hak2]) s1 (by omega),hr2⟩;have h2:=hQp2.append (List.Perm.refl (M1.drop a2));rw[List.take_append_drop]at h2;exact h2.trans HP1.out
        clear hr2 hak2 hba2 hQl2 hQp2 hQb2 s1 s2 hMl;go_wp2_with fail;go_roundw;case rel=>exact⟨bs+bs,Q2++M1.drop a2,by omega,by omega,by go_num,HZ.out.1,HZ.out.2.1,HZ.out.2.2⟩
        case measure=>simp[intOf];omega
    ·have hlt':¬(bs:Int)<(n:Int):=by omega
     have HS:Hid (SortF M1):=by simp only[Hid];exact blk_all HB1.out (by have:=HL1.out;omega)
     go_wp2_with fail;refine bodyPost_end (v:=.tuple #[]) (by simp[results,Tryz.results277,go_sem]) rfl ?_;exact j125 HP1.out HS.out HR1.out
theorem v125{w0 w:World}{g c:Nat}{M:List FE}(n:Nat)(hn:M.length=n)(h:RowAt w0 w g c M)(hl:n≤100000):Calls Tryz.prog 238 #[.slice (some ⟨g,0,none⟩) n c,.func (.func 239) #[] #[]] w (j55 (fun a b=>a.1.1≤b.1.1) (some ⟨g,0,none⟩) M w0):=by have HI:=Lib.hid (w141 n hn h hl);clear h;go_enter Tryz.func238,Tryz.ntmps238;go_wp2_with fail;refine HI.out.mono ?_;rintro e w1⟨rfl,M',hp,hs,hsp,hb1⟩;go_wp2_with fail;refine bodyPost_end (v:=.tuple #[]) (by simp[results,Tryz.results238,go_sem]) rfl ?_;exact⟨rfl,M',hp,hs,hsp,hb1⟩
theorem z142{n:Nat}(h:n≤100000):SortsF n:=by intro w0 w g c M h1 h2 h3 h4 h5;subst h5;exact v125 M.length rfl ⟨h1,h2,h3,h4⟩ h
end Go.Proofs.YtbphndihjdiiiaaGreatDoor
