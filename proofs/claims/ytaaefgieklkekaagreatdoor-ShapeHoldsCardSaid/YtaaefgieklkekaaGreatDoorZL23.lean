/- Contract of shape.rightSeveral. Contract of shape.Right. Plain: what is told is right, and holds what a range asks for. Contract of the document's several. Contract of the document's Right of an answer. Contract of the document's Small of an answer, as far as the law asks. Walk of ShapeRight. -/
import Derived.Test.YtaaefgieklkekaaGreatDoorZL5
import Derived.Test.YtaaefgieklkekaaGreatDoorZL13
import Derived.Test.YtaaefgieklkekaaGreatDoorZI27
import Derived.Test.YtaaefgieklkekaaGreatDoorZI20
import Derived.BigQuiet
import Derived.Lib.QuietBelow
import Derived.Test.YtaaefgieklkekaaGreatDoorZL19
import Derived.Deep.RegionHeld3
import Derived.Test.YtaaefgieklkekaaGreatDoorZI5
namespace Go.Proofs.YtaaefgieklkekaaGreatDoor
open Go.RowKit Go.Sort

theorem partsL_len2 (S : List (Int × Int)) (total : Int) (kd bd : List UInt8) : (partsL S total kd bd).length = 2 * S.length + 1 := by
  unfold partsL
  rw [List.length_append, partsF_len]
  rfl
theorem getF_len {n : Nat} : ∀ (F : List FieldL) (k : List UInt8), (∀ f ∈ F, f.2.length ≤ n) → ((getF F k).getD []).length ≤ n
  | [], _, _ => by simp [getF]
  | f :: r, k, h => by
    rw [getF]
    split
    · exact h f (by simp)
    · exact getF_len r k fun g hg => h g (by simp [hg])
theorem kind_okV : kindOk vKind = true := by decide
theorem contL_len (t : List UInt8) : (contL t).length ≤ t.length := by
  have h1 := cut_len2 t vCRS
  have h2 := cut_len1 (Lib.cut t vCRS).2.1 [13, 10]
  unfold contL
  omega
theorem spansL_mem : ∀ {P : List PartL} {x : Int × Int}, x ∈ spansL P → ∃ p ∈ P, p.2 = x
  | [], x, h => by simp [spansL] at h
  | p :: r, x, h => by
    rw [spansL] at h
    rcases List.mem_append.1 h with h | h
    · split at h
      · rw [List.mem_singleton] at h; exact ⟨p, by simp, h.symm⟩
      · simp at h
    · obtain ⟨q, hq, e⟩ := spansL_mem h
      exact ⟨q, by simp [hq], e⟩
/-- Parts with places within any number of the machine's. -/
def PtsOk (P : List PartL) : Prop := ∀ p ∈ P, p.1.length ≤ 100000 ∧ p.2.1 ≤ 9223372036854775807 ∧ (p.2.2 ≤ 1099511627776 ∨ p.2.2 = 4611686018427387904)
set_option maxHeartbeats 16000000 in
set_option maxRecDepth 100000 in
theorem rightSeveral_any (st sz : Int) (FA : Option Addr) (fk fc : Nat) (F : List FieldL) (PA : Option Addr) (pc pk : Nat) (P : List PartL) (w : World) (hpk : pk = P.length) (hfk : fk = F.length) (h : SpG encPt 3 w PA pc P) (hf : SpG encFd 2 w FA fc F) (hl : P.length ≤ 200) (hlf : F.length ≤ 1000) (hx : ∀ f ∈ F, f.1.length ≤ 1000000 ∧ f.2.length ≤ 100000) (hpo : PtsOk P) (hE : EnvR w) :
    Calls Tryz.prog 45 #[.agg #[.int .i64 st, .slice FA fk fc, .slice PA pk pc, .int .i64 sz]] w (SameB (SevP sz F P) w) := by
  subst hpk
  have HH := Lib.hid h
  have HFF := Lib.hid hf
  have HEE := Lib.hid hE
  have HGT := fun W (hW : SpG encFd 2 W FA fc F) => Lib.hid (fget_any FA fc fk F nCT W hfk hW (by omega) (by decide) (fun f hf => (hx f hf).1))
  have hvl : ((getF F nCT).getD []).length ≤ 100000 := getF_len F nCT fun f hf => (hx f hf).2
  have HPRE := Lib.hid (fun hq : SevP sz F P => hq.pre)
  have HIFF := Lib.hid (fun hp => sevP_iff (sz := sz) (F := F) (P := P) hp)
  have HNIL : Hid (P = [] → ¬ SevP sz F P) := fun e => by subst e; exact SevP.nil
  generalize SevP sz F P = Q at HPRE HIFF HNIL ⊢
  unfold GetPost optT at HGT
  obtain ⟨vb, hvb⟩ : ∃ b, (getF F nCT).isSome = b := ⟨_, rfl⟩
  obtain ⟨v, hv⟩ : ∃ v, (getF F nCT).getD [] = v := ⟨_, rfl⟩
  rw [hv] at hvl HPRE HIFF
  simp only [hv, hvb] at HGT
  have HCP := fun W => Lib.hid (cutp_any v vMulti W)
  have hbl : (Lib.trimPrefix v vMulti).length ≤ 100000 := by have := trimp_len v vMulti; omega
  obtain ⟨bd, hbd⟩ : ∃ b, Lib.trimPrefix v vMulti = b := ⟨_, rfl⟩
  obtain ⟨pre, hpre⟩ : ∃ b, Lib.hasPrefix v vMulti = b := ⟨_, rfl⟩
  rw [hbd] at hbl HIFF
  rw [hpre] at HPRE HIFF
  simp only [hbd, hpre] at HCP
  clear h hf hE hx hlf hfk hv hvb hbd hpre hvl
  cases pre with
  | false =>
    have hn : Hid (¬ Q) := fun hq => by have := HPRE.out hq; cases this
    clear HPRE HIFF HNIL hpo
    go_enter Tryz.func45, Tryz.ntmps45
    go_wp2_with (first
      | (go_at_call 74; refine (HGT _ (HFF.out.below (bel_alloc (Below.refl _ _) _))).out.mono ?_; rintro e w1 ⟨rfl, hb1⟩)
      | (go_at_call 77; refine (HCP _).out.mono ?_; rintro e w2 ⟨rfl, hw2⟩; obtain rfl : w1 = w2 := hw2.symm))
    go_ret
    exact same_no hn.out (bel_chain hb1 (bel_alloc (Below.refl _ _) _))
  | true =>
  have HIF := Lib.hid (HIFF.out rfl)
  clear HPRE HIFF
  go_enter Tryz.func45, Tryz.ntmps45
  go_upto_region 3 with (first
      | (go_at_call 74; refine (HGT _ (HFF.out.below (bel_alloc (Below.refl _ _) _))).out.mono ?_; rintro e w1 ⟨rfl, hb1⟩)
      | (go_at_call 77; refine (HCP _).out.mono ?_; rintro e w2 ⟨rfl, hw2⟩; obtain rfl : w1 = w2 := hw2.symm))
  have HX1 : Hid (w1.heap[w.heap.size]? = some (.cells #[.int .i64 st, .slice FA fk fc, .slice PA P.length pc, .int .i64 sz] 43 (0, 0))) := blk_keep hb1 (blk_new rfl)
  have HB1 := Lib.hid (bel_chain hb1 (bel_alloc (Below.refl _ _) _))
  have x2 := blk_cell (i := 2) HX1.out rfl
  clear hb1 HGT HCP
  by_cases h00 : P.length = 0
  · have hn := Lib.hid (HNIL.out (List.eq_nil_of_length_eq_zero h00))
    have hl0 : ((P.length : Int) == 0) = true := by rw [beq_iff_eq]; omega
    clear h00
    go_wp2_with fail
    go_ret
    exact same_no hn.out HB1.out
  have hl0 : ((P.length : Int) == 0) = false := by rw [beq_eq_false_iff_ne]; omega
  have hpos : (0 : Int) < (P.length : Int) := by omega
  have hcons : ∃ p r, P = p :: r := by
    cases P with
    | nil => exact absurd rfl h00
    | cons p r => exact ⟨p, r, rfl⟩
  obtain ⟨⟨t, y1, y2⟩, r, hPe⟩ := hcons
  obtain ⟨b0, off0, e0, hb0, hc0⟩ := HH.out.at' 0 (by omega)
  have c0 := hc0 0 (.string ⟨t.toArray⟩) (by subst hPe; rfl)
  simp only [Nat.add_zero, Nat.zero_mul] at c0
  have d0 := cell_keep HB1.out c0
  have htl : t.length ≤ 100000 := (hpo (t, y1, y2) (by rw [hPe]; simp)).1
  have HC1 := fun W (hW : EnvR W) => Lib.hid (cutw_any t vCRS W (by omega) hW)
  have h2l := cut_len2 t vCRS
  have HC2 := fun W (hW : EnvR W) => Lib.hid (cutw_any (Lib.cut t vCRS).2.1 [13, 10] W (by omega) hW)
  have hcl := contL_len t
  have HRG : ∀ W, EnvR W → Hid (Calls Tryz.prog 75 #[.string ⟨(contL t).toArray⟩] W fun e w' => e = .returned (rangeV (rdL (contL t))) ∧ Below W.heap.size W w') := fun W hW => by
    refine Lib.hid ((mrange_any (contL t) W (by omega) hW).mono ?_)
    rintro e w' ⟨o, ho, rfl, hb⟩
    rw [ho.uniq (rd_read _)]
    exact ⟨rfl, hb⟩
  have HNO : Hid (rdL (contL t) = none → ¬ Q) := fun hn hq => by
    have := HIF.out.1 hq
    rw [hPe] at this
    exact sev_cont_no (p := (t, y1, y2)) hn this
  have HYES : ∀ x T, rdL (contL t) = some (x, T) → Hid (Q ↔ SevAt sz P T bd) := fun x T hy => by
    refine Lib.hid (HIF.out.trans ?_)
    rw [hPe]
    exact sev_cont (p := (t, y1, y2)) hy
  have HCL : Hid ((Lib.cut (Lib.cut t vCRS).2.1 [13, 10]).1 = contL t) := rfl
  obtain ⟨⟨q1, q2, q3⟩, hq⟩ : ∃ q, Lib.cut t vCRS = q := ⟨_, rfl⟩
  rw [hq] at HCL
  simp only [hq] at HC1 HC2
  obtain ⟨⟨z1, z2, z3⟩, hz⟩ : ∃ q, Lib.cut q2 [13, 10] = q := ⟨_, rfl⟩
  rw [hz] at HCL
  simp only [hz] at HC2
  obtain ⟨rd, hrd⟩ : ∃ o, rdL (contL t) = o := ⟨_, rfl⟩
  rw [hrd] at HNO
  simp only [hrd] at HRG HYES
  simp only [← HCL.out] at HRG
  clear hq hz HCL hcl h2l htl hc0 HIF HNIL c0 h00 hrd
  subst e0
  cases rd with
  | none =>
    have hn := Lib.hid (HNO.out rfl)
    unfold rangeV at HRG
    simp only at HRG
    clear HNO HYES hPe hpo
    go_wp2_with (first
      | (go_at_call 75; refine (HRG _ (HEE.out.below (bel_chain hb3 (bel_chain hb2 HB1.out)))).out.mono ?_; rintro e w4 ⟨rfl, hb4⟩)
      | (go_at_call_of 78 (Value.string ⟨q2.toArray⟩); refine (HC2 _ (HEE.out.below (bel_chain hb2 HB1.out))).out.mono ?_; rintro e w3 ⟨rfl, hb3⟩)
      | (go_at_call_of 78 (Value.string ⟨t.toArray⟩); refine (HC1 _ (HEE.out.below HB1.out)).out.mono ?_; rintro e w2 ⟨rfl, hb2⟩))
    go_ret
    exact same_no hn.out (bel_alloc (bel_chain hb4 (bel_chain hb3 (bel_chain hb2 HB1.out))) _)
  | some xT =>
  obtain ⟨⟨u1, u2⟩, T⟩ := xT
  have HQ := HYES _ _ rfl
  unfold rangeV at HRG
  simp only at HRG
  clear HNO HYES hPe
  have hsl : (spansL P).length ≤ 200 := by have := spansL_len P; omega
  have hsw : ∀ x ∈ spansL P, x.1 ≤ 9223372036854775807 ∧ x.2 ≤ 9223372036854775807 := fun x hx => by
    obtain ⟨p, hp, rfl⟩ := spansL_mem hx
    have := hpo p hp
    omega
  have HSW : Hid (∀ x ∈ spansL P, contOk x T = true → x.2 ≤ 1099511627776) := fun x hx hc => by
    obtain ⟨p, hp, rfl⟩ := spansL_mem hx
    exact (hpo p hp).2.2.resolve_right (contOk_at hc).2
  have HSV : Hid (SevAt sz P T bd ↔ (spansL P ≠ [] ∧ (∀ x ∈ spansL P, contOk x T = true) ∧ boundOk bd = true) ∧ P.map normP = (partsL (spansL P) T vKind bd).map normP ∧ sz = sizeL (partsL (spansL P) T vKind bd)) :=
    ⟨fun h => ⟨⟨h.ne, h.ok, h.bok⟩, h.ps, h.sz⟩, fun ⟨⟨a, b, c⟩, d, e⟩ => ⟨a, b, c, d, e⟩⟩
  rw [HSV.out] at HQ
  have HSP := fun W (hW : SpG encPt 3 W (some ⟨b0, off0, none⟩) pc P) => Lib.hid (spans_any st sz FA fk fc (some ⟨b0, off0, none⟩) pc P.length P W rfl hW (by omega))
  obtain ⟨S, hS⟩ : ∃ S, spansL P = S := ⟨_, rfl⟩
  rw [hS] at hsl hsw HSW HQ
  simp only [hS] at HSP
  unfold RetSp at HSP
  clear hS hpo HSV
  by_cases hok : S ≠ [] ∧ (∀ x ∈ S, contOk x T = true) ∧ boundOk bd = true
  rotate_left
  · have hn : Hid (¬ Q) := fun hq => hok (HQ.out.1 hq).1
    have hno : S = [] ∨ (∃ x ∈ S, contOk x T = false) ∨ boundOk bd = false := by
      by_cases h1 : S = []
      · exact .inl h1
      · by_cases h2 : ∀ x ∈ S, contOk x T = true
        · refine .inr (.inr ?_)
          cases hb : boundOk bd with
          | false => rfl
          | true => exact absurd ⟨h1, h2, hb⟩ hok
        · refine .inr (.inl ?_)
          obtain ⟨x, hx⟩ := Classical.not_forall.1 h2
          obtain ⟨hx1, hx2⟩ := Classical.not_imp.1 hx
          exact ⟨x, hx1, by simpa using hx2⟩
    have HPN : ∀ (A : Option Addr) (c : Nat) W, Sp W A c S → EnvR W → Hid (Calls Tryz.prog 79 #[.slice A S.length c, .int .i64 T, .string ⟨#[97, 112, 112, 108, 105, 99, 97, 116, 105, 111, 110, 47, 111, 99, 116, 101, 116, 45, 115, 116, 114, 101, 97, 109]⟩, .string ⟨bd.toArray⟩] W (NoPts W)) := fun A c W hs hE => Lib.hid (parts_no A c S T vKind bd W hs (by omega) hsw kind_okV (by omega) hno hE.env)
    unfold NoPts at HPN
    clear hok hno hsw HSW HQ
    go_upto_region 11 with (first
      | (go_at_call 79; refine (HPN _ _ _ hs5.sp (HEE.out.below HB5.out)).out.mono ?_; rintro e w6 ⟨rfl, hb6⟩)
      | (go_at_call 15; refine (HSP _ (HH.out.below (bel_alloc HB4.out _))).out.mono ?_; rintro e w5 ⟨AS, cS, rfl, hs5, hb5⟩
         have HB5 := Lib.hid (bel_chain hb5 (bel_alloc HB4.out _)))
      | (go_at_call 75; refine (HRG _ (HEE.out.below (bel_chain hb3 (bel_chain hb2 HB1.out)))).out.mono ?_; rintro e w4 ⟨rfl, hb4⟩
         have HB4 := Lib.hid (bel_chain hb4 (bel_chain hb3 (bel_chain hb2 HB1.out)))
         have HX4 := Lib.hid (blk_keep hb4 (blk_keep hb3 (blk_keep hb2 HX1.out)))
         have x40 := blk_cell (i := 0) HX4.out rfl
         have x41 := blk_cell (i := 1) HX4.out rfl
         have x42 := blk_cell (i := 2) HX4.out rfl
         have x43 := blk_cell (i := 3) HX4.out rfl
         have x4z := blk_lt HX4.out)
      | (go_at_call_of 78 (Value.string ⟨q2.toArray⟩); refine (HC2 _ (HEE.out.below (bel_chain hb2 HB1.out))).out.mono ?_; rintro e w3 ⟨rfl, hb3⟩)
      | (go_at_call_of 78 (Value.string ⟨t.toArray⟩); refine (HC1 _ (HEE.out.below HB1.out)).out.mono ?_; rintro e w2 ⟨rfl, hb2⟩))
    have HB6 := Lib.hid (bel_chain hb6 HB5.out)
    go_quiet (fail)
    go_wp2_with fail
    go_ret
    exact same_no hn.out (bel_drewN HB6.out _)
  obtain ⟨hok1, hok2, hok3⟩ := hok
  have hpos0 : 0 < S.length := List.length_pos_iff.2 hok1
  have HQ2 : Hid (Q ↔ (P.map normP = (partsL S T vKind bd).map normP ∧ sz = sizeL (partsL S T vKind bd))) := by
    refine Lib.hid (HQ.out.trans ⟨fun h => h.2, fun h => ⟨⟨hok1, hok2, hok3⟩, h⟩⟩)
  have HLOW : Hid (LowP (partsL S T vKind bd)) := Lib.hid (lowL (by decide) (by unfold boundOk at hok3; simp only [Bool.and_eq_true, decide_eq_true_eq] at hok3; exact hok3.1.2) fun s hs => ⟨hok2 s hs, HSW.out s hs (hok2 s hs)⟩)
  have HPY : ∀ (A : Option Addr) (c : Nat) W, Sp W A c S → EnvR W → Hid (Calls Tryz.prog 79 #[.slice A S.length c, .int .i64 T, .string ⟨#[97, 112, 112, 108, 105, 99, 97, 116, 105, 111, 110, 47, 111, 99, 116, 101, 116, 45, 115, 116, 114, 101, 97, 109]⟩, .string ⟨bd.toArray⟩] W (RetPts (partsL S T vKind bd) W)) := fun A c W hs hE => Lib.hid (parts_yes A c S T vKind bd W hs hpos0 (by omega) hok2 kind_okV hok3 hE.env)
  unfold RetPts at HPY
  have hwl := partsL_len2 S T vKind bd
  obtain ⟨WL, hWL⟩ : ∃ L, partsL S T vKind bd = L := ⟨_, rfl⟩
  rw [hWL] at HQ2 HLOW hwl
  simp only [hWL] at HPY
  have hwl2 : WL.length ≤ 401 := by omega
  clear hWL hok1 hok2 hok3 hpos0 HQ hsw HSW hwl
  go_upto_region 11 with (first
      | (go_at_call 79; refine (HPY _ _ _ hs5.sp (HEE.out.below HB5.out)).out.mono ?_; rintro e w6 ⟨AW, cW, kW, hkW, rfl, hoW, hb6⟩
         have HX6 := Lib.hid (blk_keep hb6 HX5.out))
      | (go_at_call 15; refine (HSP _ (HH.out.below (bel_alloc HB4.out _))).out.mono ?_; rintro e w5 ⟨AS, cS, rfl, hs5, hb5⟩
         have HB5 := Lib.hid (bel_chain hb5 (bel_alloc HB4.out _))
         have HX5 := Lib.hid (blk_keep hb5 (blk_skip HX4.out)))
      | (go_at_call 75; refine (HRG _ (HEE.out.below (bel_chain hb3 (bel_chain hb2 HB1.out)))).out.mono ?_; rintro e w4 ⟨rfl, hb4⟩
         have HB4 := Lib.hid (bel_chain hb4 (bel_chain hb3 (bel_chain hb2 HB1.out)))
         have HX4 := Lib.hid (blk_keep hb4 (blk_keep hb3 (blk_keep hb2 HX1.out)))
         have x40 := blk_cell (i := 0) HX4.out rfl
         have x41 := blk_cell (i := 1) HX4.out rfl
         have x42 := blk_cell (i := 2) HX4.out rfl
         have x43 := blk_cell (i := 3) HX4.out rfl
         have x4z := blk_lt HX4.out)
      | (go_at_call_of 78 (Value.string ⟨q2.toArray⟩); refine (HC2 _ (HEE.out.below (bel_chain hb2 HB1.out))).out.mono ?_; rintro e w3 ⟨rfl, hb3⟩)
      | (go_at_call_of 78 (Value.string ⟨t.toArray⟩); refine (HC1 _ (HEE.out.below HB1.out)).out.mono ?_; rintro e w2 ⟨rfl, hb2⟩))
  have HB6 := Lib.hid (bel_chain hb6 HB5.out)
  have HO6 := Lib.hid (hoW.spg elemPt.len)
  have HSZ := fun W (hW : SpG encPt 3 W AW cW WL) => Lib.hid (size_any AW cW WL.length WL W rfl hW (by omega) HLOW.out)
  have g2 := blk_cell (i := 2) HX6.out rfl
  have g3 := blk_cell (i := 3) HX6.out rfl
  have gz := blk_lt HX6.out
  subst hkW
  clear hb6 hoW hb5 hs5 HX4 HX5 HB4 HB5 x40 x41 x42 x43 x4z hb4 hb3 hb2 HX1 x2 HB1 HC1 HC2 HRG HPY HSP d0 HLOW
  by_cases hlen : P.length = WL.length
  rotate_left
  · have hn : Hid (¬ Q) := fun hq => hlen (by have := congrArg List.length (HQ2.out.1 hq).1; simpa using this)
    have hlb : ((WL.length : Int) != (P.length : Int)) = true := by rw [bne_iff_ne]; omega
    clear hlen
    go_quiet (fail)
    go_wp2_with fail
    go_ret
    exact same_no hn.out (bel_drewN HB6.out _)
  have hlb : ((WL.length : Int) != (P.length : Int)) = false := by rw [bne_eq_false_iff_eq]; omega
  have HPL := Lib.hid hlen
  clear hlen
  by_cases hsz : sz = sizeL WL
  rotate_left
  · have hn : Hid (¬ Q) := fun hq => hsz (HQ2.out.1 hq).2
    have hzb : (sz != sizeL WL) = true := by rw [bne_iff_ne]; exact hsz
    obtain ⟨zz, hzz⟩ : ∃ z, sizeL WL = z := ⟨_, rfl⟩
    rw [hzz] at hzb
    simp only [hzz] at HSZ
    clear hsz hzz
    have k2 := cell_regrown g2
    have k3 := cell_regrown g3
    have cS : ∀ d os, Calls Tryz.prog 80 #[.slice AW WL.length cW] (grow (redrawn w6 d) os) fun e w'' => e = .returned (.int .i64 zz) ∧ ∃ p : Regrown, w'' = grow (redrawn w6 p.d) p.os := fun d os => Calls.regrown_of (HSZ _ (HO6.out.below (below_regrown w6 d os))).out
    refine wp_region_quiet_below (by kernel_rfl) (by kernel_rfl) ?_
    repeat (quiet_step (first | exact cS _ _))
    refine wpQuiet_nil ?_
    intro _ hw'
    obtain ⟨⟨dq, osq⟩, hw''⟩ := hw'
    subst hw''
    have HB7 := Lib.hid (bel_chain (below_regrown w6 dq osq) HB6.out)
    go_wp2_with fail
    go_ret
    exact same_no hn.out HB7.out
  have HQ3 : Hid (Q ↔ P.map normP = WL.map normP) := ⟨fun h => (HQ2.out.1 h).1, fun h => HQ2.out.2 ⟨h, hsz⟩⟩
  have hzb : (sz != sizeL WL) = false := by rw [bne_eq_false_iff_eq]; exact hsz
  obtain ⟨zz, hzz⟩ : ∃ z, sizeL WL = z := ⟨_, rfl⟩
  rw [hzz] at hzb
  simp only [hzz] at HSZ
  clear hsz hzz HQ2
  have k2 := cell_regrown g2
  have k3 := cell_regrown g3
  have cS : ∀ d os, Calls Tryz.prog 80 #[.slice AW WL.length cW] (grow (redrawn w6 d) os) fun e w'' => e = .returned (.int .i64 zz) ∧ ∃ p : Regrown, w'' = grow (redrawn w6 p.d) p.os := fun d os => Calls.regrown_of (HSZ _ (HO6.out.below (below_regrown w6 d os))).out
  refine wp_region_quiet_below (by kernel_rfl) (by kernel_rfl) ?_
  repeat (quiet_step (first | exact cS _ _))
  refine wpQuiet_nil ?_
  intro w7 hw'
  obtain ⟨p7, hp7⟩ := hw'
  have hb7 : Below w6.heap.size w6 w7 := by rw [hp7]; exact below_regrown _ _ _
  have HX7 := Lib.hid (blk_keep hb7 HX6.out)
  have HB7 := Lib.hid (bel_chain hb7 HB6.out)
  have HO7 := Lib.hid (HO6.out.below hb7)
  clear hp7 hb7 HX6 HB6 HO6 g2 g3 gz k2 k3 cS HSZ hzb hlb
  have x2 := blk_cell (i := 2) HX7.out rfl
  have xz := blk_lt HX7.out
  go_wp2_with fail
  clear x2 xz
  go_loopw [17, 18, 90] (fun _ _ i wr => ∃ k : Nat, k ≤ P.length ∧ i = .int .i64 (k : Int) ∧ (P.map normP).take k = (WL.map normP).take k ∧ Below w7.heap.size w7 wr) (fun _ _ i _ => P.length - (intOf i).toNat)
  case atStart => exact ⟨0, Nat.zero_le _, rfl, by simp, Below.refl _ _⟩
  case round =>
    obtain ⟨k, hk, rfl, hin, hbw⟩ := hrel
    have HI := Lib.hid hin
    have HBW := Lib.hid hbw
    have HBA := Lib.hid (bel_chain hbw HB7.out)
    have HXr := Lib.hid (blk_keep hbw HX7.out)
    clear hin hbw
    have x2 := blk_cell (i := 2) HXr.out rfl
    have xz := blk_lt HXr.out
    by_cases hlt : k < P.length
    · have hlt' : k < WL.length := by have := HPL.out; omega
      obtain ⟨b, off, e, hb, hc⟩ := (HH.out.below HBA.out).at' k hlt
      obtain ⟨b', off', e', hb', hc'⟩ := (HO7.out.below HBW.out).at' k hlt'
      have c0 := hc 0 _ rfl
      have c1 := hc 1 _ rfl
      have c2 := hc 2 _ rfl
      have d0 := hc' 0 _ rfl
      have d1 := hc' 1 _ rfl
      have d2 := hc' 2 _ rfl
      simp only [Nat.add_zero] at c0 d0
      have HST : Hid (normP P[k] = normP WL[k] → (P.map normP).take (k + 1) = (WL.map normP).take (k + 1)) := fun h => take_eq_g (by simpa using hlt) (by simpa using hlt') HI.out (by simpa using h)
      have HNO : Hid (normP P[k] ≠ normP WL[k] → ¬ Q) := fun h hq => ne_at_g (L := P.map normP) (L' := WL.map normP) (by simpa using hlt) (by simpa using hlt') (by simpa using h) (HQ3.out.1 hq)
      obtain ⟨⟨t1, u1, u2⟩, hx⟩ : ∃ x, P[k] = x := ⟨_, rfl⟩
      obtain ⟨⟨t2, u1', u2'⟩, hy⟩ : ∃ x, WL[k] = x := ⟨_, rfl⟩
      rw [hx] at c0 c1 c2 HST HNO
      rw [hy] at d0 d1 d2 HST HNO
      simp only at c0 c1 c2 d0 d1 d2
      injection e with e
      injection e with e1 e2
      subst e1 e2
      have hltI : (k : Int) < (WL.length : Int) := by omega
      clear hx hy hc hc' HI
      subst e'
      --LOOP
      by_cases et : t1 = t2
      rotate_left
      · have bt : (t1 == t2) = false := beq_eq_false_iff_ne.2 et
        have hne : normP (t1, u1, u2) ≠ normP (t2, u1', u2') := by
          intro h
          have := congrArg Prod.fst h
          unfold normP at this
          split at this <;> split at this <;> exact et this
        clear et
        have hn := Lib.hid (HNO.out hne)
        clear HST HNO
        go_wp2_with fail
        go_quiet (fail)
        go_wp2_with fail
        go_ret
        exact same_no hn.out (bel_drewN (bel_alloc HBA.out _) _)
      subst et
      cases hte : t1.isEmpty with
      | false =>
        have HF := Lib.hid (HST.out (by unfold normP; simp [hte]))
        clear HST HNO
        go_wp2_with fail
        go_quiet (fail)
        go_wp2_with fail
        go_roundw
        case rel => exact ⟨k + 1, by omega, by go_num, HF.out, bel_drewN (bel_alloc HBW.out _) _⟩
        case measure => simp [intOf]; omega
      | true =>
        by_cases e1 : u1 = u1'
        · subst e1
          by_cases e2 : u2 = u2'
          · subst e2
            have HF := Lib.hid (HST.out rfl)
            clear HST HNO
            go_wp2_with fail
            go_quiet (fail)
            go_wp2_with fail
            go_roundw
            case rel => exact ⟨k + 1, by omega, by go_num, HF.out, bel_drewN (bel_alloc HBW.out _) _⟩
            case measure => simp [intOf]; omega
          · have b2 : (u2 == u2') = false := by rw [beq_eq_false_iff_ne]; exact e2
            have hne : normP (t1, u1, u2) ≠ normP (t1, u1, u2') := by
              intro h
              unfold normP at h
              simp only [hte, if_true] at h
              injection h with _ h; injection h with _ h; exact e2 h
            clear e2
            have hn := Lib.hid (HNO.out hne)
            clear HST HNO
            go_wp2_with fail
            go_quiet (fail)
            go_wp2_with fail
            go_ret
            exact same_no hn.out (bel_drewN (bel_alloc HBA.out _) _)
        · have b1 : (u1 == u1') = false := by rw [beq_eq_false_iff_ne]; exact e1
          have hne : normP (t1, u1, u2) ≠ normP (t1, u1', u2') := by
            intro h
            unfold normP at h
            simp only [hte, if_true] at h
            injection h with _ h; injection h with h _; exact e1 h
          clear e1
          have hn := Lib.hid (HNO.out hne)
          clear HST HNO
          go_wp2_with fail
          go_quiet (fail)
          go_wp2_with fail
          go_ret
          exact same_no hn.out (bel_drewN (bel_alloc HBA.out _) _)
    · have hI := HI.out
      rw [List.take_of_length_le (by simp; omega), List.take_of_length_le (by have := HPL.out; simp; omega)] at hI
      have HV := Lib.hid (HQ3.out.2 hI)
      clear hI HI
      go_wp2_with fail
      go_ret
      exact same_yes HV.out HBA.out
end Go.Proofs.YtaaefgieklkekaaGreatDoor
namespace Go.Proofs.YtaaefgieklkekaaGreatDoor
open Go.RowKit

/-- May an answer be? -/
def RightP (st sz : Int) (F : List FieldL) (P : List PartL) : Prop :=
  (∀ f ∈ F, fieldOk f.1 f.2 = true) ∧ (if st = 200 then wholeB sz P = true else if st = 206 then (oneB sz F P = true ∨ SevP sz F P) else (st = 304 ∨ (400 ≤ st ∧ st ≤ 599)) ∧ P.length = 0 ∧ sz = 0)
theorem same_of {Q : Prop} {b : Bool} {w w' : World} (hq : b = true ↔ Q) (h : Below w.heap.size w w') : SameB Q w (.returned (.bool b)) w' := ⟨⟨b, rfl, hq⟩, h⟩
set_option maxHeartbeats 16000000 in
set_option maxRecDepth 100000 in
theorem shapeRight_any (st sz : Int) (FA : Option Addr) (fk fc : Nat) (F : List FieldL) (PA : Option Addr) (pc pk : Nat) (P : List PartL) (w : World) (hpk : pk = P.length) (hfk : fk = F.length) (h : SpG encPt 3 w PA pc P) (hf : SpG encFd 2 w FA fc F) (hl : P.length ≤ 200) (hlf : F.length ≤ 1000) (hx : ∀ f ∈ F, f.1.length ≤ 100000 ∧ f.2.length ≤ 100000) (hpo : PtsOk P) (hE : EnvR w) :
    Calls Tryz.prog 16 #[.agg #[.int .i64 st, .slice FA fk fc, .slice PA pk pc, .int .i64 sz]] w (SameB (RightP st sz F P) w) := by
  have HFF := Lib.hid hf
  have HX := Lib.hid hx
  have HW := fun W (hp : SpG encPt 3 W PA pc P) => Lib.hid (rightWhole_any st sz FA fk fc PA pc pk P W hpk hp (by omega))
  have HO := fun W (hp : SpG encPt 3 W PA pc P) (hf : SpG encFd 2 W FA fc F) (hE : EnvR W) => Lib.hid (rightOne_any st sz FA fk fc F PA pc pk P W hpk hfk hp hf (by omega) (by omega) (fun f hf => ⟨by have := (hx f hf).1; omega, (hx f hf).2⟩) hE)
  have HS := fun W (hp : SpG encPt 3 W PA pc P) (hf : SpG encFd 2 W FA fc F) (hE : EnvR W) => Lib.hid (rightSeveral_any st sz FA fk fc F PA pc pk P W hpk hfk hp hf hl (by omega) (fun f hf => ⟨by have := (hx f hf).1; omega, (hx f hf).2⟩) hpo hE)
  have HH := Lib.hid h
  have HEE := Lib.hid hE
  have HQ : Hid (RightP st sz F P ↔ ((∀ f ∈ F, fieldOk f.1 f.2 = true) ∧ (if st = 200 then wholeB sz P = true else if st = 206 then (oneB sz F P = true ∨ SevP sz F P) else (st = 304 ∨ (400 ≤ st ∧ st ≤ 599)) ∧ P.length = 0 ∧ sz = 0))) := Iff.rfl
  generalize RightP st sz F P = Q at HQ ⊢
  subst hfk hpk
  clear h hf hx hE hpo hl
  go_enter Tryz.func16, Tryz.ntmps16
  go_wp2_with fail
  obtain ⟨W0, hW0⟩ : ∃ W0, w.alloc (.cells #[.int .i64 st, .slice FA F.length fc, .slice PA P.length pc, .int .i64 sz] 43) = W0 := ⟨_, rfl⟩
  have HX0 : Hid (W0.heap[w.heap.size]? = some (.cells #[.int .i64 st, .slice FA F.length fc, .slice PA P.length pc, .int .i64 sz] 43 (0, 0))) := by simp only [Hid]; rw [← hW0]; exact blk_new rfl
  have HB0 : Hid (Below w.heap.size w W0) := by simp only [Hid]; rw [← hW0]; (repeat (first | exact Below.refl _ _ | refine bel_drewN ?_ _ | refine bel_drew ?_ | refine bel_alloc ?_ _ | refine bel_set ?_ (by simp) _))
  try rw [hW0]
  clear hW0
  go_loopw [4, 8] (fun _ i wr => ∃ k : Nat, k ≤ F.length ∧ i = .int .i64 (k : Int) ∧ (∀ f ∈ F.take k, fieldOk f.1 f.2 = true) ∧ Below W0.heap.size W0 wr) (fun _ i _ => F.length - (intOf i).toNat)
  case atStart => exact ⟨0, Nat.zero_le _, rfl, by simp, Below.refl _ _⟩
  case round =>
    obtain ⟨k, hk, rfl, hin, hbw⟩ := hrel
    have HI := Lib.hid hin
    have HBW := Lib.hid hbw
    have HBA := Lib.hid (bel_chain hbw HB0.out)
    clear hin hbw
    by_cases hlt : k < F.length
    · obtain ⟨b, off, e, hb, hc⟩ := (HFF.out.below HBA.out).at' k hlt
      have c0 := hc 0 _ rfl
      have c1 := hc 1 _ rfl
      simp only [Nat.add_zero] at c0
      have hmem := List.getElem_mem hlt
      have HST := Lib.hid (all_take (p := fun f : FieldL => fieldOk f.1 f.2) hlt HI.out)
      have HNO : Hid (fieldOk F[k].1 F[k].2 = false → ¬ Q) := fun hn hq => by
        have := (HQ.out.1 hq).1 _ hmem
        rw [hn] at this; cases this
      have HFR := fun W => Lib.hid (fieldRight_any F[k].1 F[k].2 W (by have := (HX.out _ hmem).1; omega) (by have := (HX.out _ hmem).2; omega))
      obtain ⟨⟨n, l⟩, hy⟩ : ∃ x, F[k] = x := ⟨_, rfl⟩
      rw [hy] at c0 c1 HST HNO
      simp only [hy] at HFR
      simp only at c0 c1 HST HNO
      obtain ⟨ok, hok⟩ : ∃ b, fieldOk n l = b := ⟨_, rfl⟩
      rw [hok] at HST HNO
      simp only [hok] at HFR
      clear hy hc hmem hok
      rw [e]
      cases ok with
      | false =>
        have hn := Lib.hid (HNO.out rfl)
        clear HST HNO
        go_wp2_with (go_at_call 42; refine (HFR _).out.mono ?_; rintro e w1 ⟨rfl, hb1⟩)
        go_ret
        exact same_no hn.out (bel_chain hb1 (bel_alloc HBA.out _))
      | true =>
        have HST2 := Lib.hid (HST.out rfl)
        clear HST HNO
        go_wp2_with (go_at_call 42; refine (HFR _).out.mono ?_; rintro e w1 ⟨rfl, hb1⟩)
        go_roundw
        case rel => exact ⟨k + 1, by omega, by go_num, HST2.out, bel_chain hb1 (bel_alloc HBW.out _)⟩
        case measure => simp [intOf]; omega
    · have hke : k = F.length := by omega
      have hI := HI.out
      rw [hke, List.take_length] at hI
      have HQ2 : Hid (Q ↔ (if st = 200 then wholeB sz P = true else if st = 206 then (oneB sz F P = true ∨ SevP sz F P) else (st = 304 ∨ (400 ≤ st ∧ st ≤ 599)) ∧ P.length = 0 ∧ sz = 0)) := ⟨fun h => (HQ.out.1 h).2, fun h => HQ.out.2 ⟨hI, h⟩⟩
      have HXr := Lib.hid (blk_keep HBW.out HX0.out)
      have x0 := blk_cell (i := 0) HXr.out rfl
      have x1 := blk_cell (i := 1) HXr.out rfl
      have x2 := blk_cell (i := 2) HXr.out rfl
      have x3 := blk_cell (i := 3) HXr.out rfl
      have xz := blk_lt HXr.out
      have HHr := Lib.hid (HH.out.below HBA.out)
      have HFr := Lib.hid (HFF.out.below HBA.out)
      have HEr := Lib.hid (HEE.out.below HBA.out)
      clear hI HI HQ
      by_cases h200 : st = 200
      · subst h200
        have HQ3 : Hid (Q ↔ wholeB sz P = true) := HQ2.out
        clear HQ2
        go_wp2_with (go_at_call 43; refine (HW _ HHr.out).out.mono ?_; rintro e w1 ⟨rfl, hb1⟩)
        go_ret
        exact same_of HQ3.out.symm (bel_chain hb1 HBA.out)
      by_cases h206 : st = 206
      · subst h206
        have HQ3 : Hid (Q ↔ (oneB sz F P = true ∨ SevP sz F P)) := HQ2.out
        clear HQ2 h200
        obtain ⟨o1, ho1⟩ : ∃ b, oneB sz F P = b := ⟨_, rfl⟩
        rw [ho1] at HQ3
        simp only [ho1] at HO
        clear ho1
        cases o1 with
        | true =>
          have HQ4 : Hid Q := HQ3.out.2 (.inl rfl)
          go_wp2_with (go_at_call 44; refine (HO _ HHr.out HFr.out HEr.out).out.mono ?_; rintro e w1 ⟨rfl, hb1⟩)
          go_ret
          exact same_yes HQ4.out (bel_chain hb1 HBA.out)
        | false =>
          have HQ4 : Hid (SevP sz F P ↔ Q) := ⟨fun h => HQ3.out.2 (.inr h), fun h => (HQ3.out.1 h).resolve_left (fun h => by cases h)⟩
          have HSS := fun W (hW : Below wr.heap.size wr W) => HS W (HHr.out.below hW) (HFr.out.below hW) (HEr.out.below hW)
          clear HS HQ3
          go_wp2_with (first
            | (go_at_call 45; refine (HSS _ hb1).out.mono ?_; rintro e w2 ⟨⟨b2, rfl, hq2⟩, hb2⟩)
            | (go_at_call 44; refine (HO _ HHr.out HFr.out HEr.out).out.mono ?_; rintro e w1 ⟨rfl, hb1⟩
               have z0 := cell_keep hb1 x0
               have z1 := cell_keep hb1 x1
               have z2 := cell_keep hb1 x2
               have z3 := cell_keep hb1 x3))
          go_ret
          exact same_of (hq2.trans HQ4.out) (bel_chain hb2 (bel_chain hb1 HBA.out))
      have HQ3 : Hid (Q ↔ ((st = 304 ∨ (400 ≤ st ∧ st ≤ 599)) ∧ P.length = 0 ∧ sz = 0)) := by simp only [Hid]; rw [HQ2.out, if_neg h200, if_neg h206]
      have b200 : (st == 200) = false := beq_eq_false_iff_ne.2 h200
      have b206 : (st == 206) = false := beq_eq_false_iff_ne.2 h206
      clear HQ2 h200 h206 HW HO HS
      by_cases hin : st = 304 ∨ (400 ≤ st ∧ st ≤ 599)
      · have HQ4 : Hid (Q ↔ (P.length = 0 ∧ sz = 0)) := ⟨fun h => (HQ3.out.1 h).2, fun h => HQ3.out.2 ⟨hin, h⟩⟩
        clear HQ3
        have hpz : ((P.length : Int) == 0) = true ∧ P.length = 0 ∨ ((P.length : Int) == 0) = false ∧ P.length ≠ 0 := by
          by_cases h : P.length = 0
          · exact .inl ⟨by rw [beq_iff_eq]; omega, h⟩
          · exact .inr ⟨by rw [beq_eq_false_iff_ne]; omega, h⟩
        have hsz : (sz == 0) = true ∧ sz = 0 ∨ (sz == 0) = false ∧ sz ≠ 0 := by
          by_cases h : sz = 0
          · exact .inl ⟨beq_iff_eq.2 h, h⟩
          · exact .inr ⟨beq_eq_false_iff_ne.2 h, h⟩
        have hst : (st == 304) = true ∨ (st == 304) = false ∧ (400 ≤ st) ∧ (st ≤ 599) := by
          by_cases h : st = 304
          · exact .inl (beq_iff_eq.2 h)
          · exact .inr ⟨beq_eq_false_iff_ne.2 h, hin.resolve_left h⟩
        clear hin
        rcases hpz with ⟨p1, p2⟩ | ⟨p1, p2⟩
        · rcases hsz with ⟨s1, s2⟩ | ⟨s1, s2⟩
          · have hy : Hid Q := HQ4.out.2 ⟨p2, s2⟩
            clear s2 p2
            rcases hst with t1 | ⟨t1, t2, t3⟩
            · go_wp2_with fail
              go_ret
              exact same_yes hy.out HBA.out
            · go_wp2_with fail
              go_ret
              exact same_yes hy.out HBA.out
          · have hn : Hid (¬ Q) := fun h => s2 (HQ4.out.1 h).2
            clear s2 p2
            rcases hst with t1 | ⟨t1, t2, t3⟩
            · go_wp2_with fail
              go_ret
              exact same_no hn.out HBA.out
            · go_wp2_with fail
              go_ret
              exact same_no hn.out HBA.out
        · have hn : Hid (¬ Q) := fun h => p2 (HQ4.out.1 h).1
          clear p2 hsz
          rcases hst with t1 | ⟨t1, t2, t3⟩
          · go_wp2_with fail
            go_ret
            exact same_no hn.out HBA.out
          · go_wp2_with fail
            go_ret
            exact same_no hn.out HBA.out
      · have hn : Hid (¬ Q) := fun h => hin (HQ3.out.1 h).1
        have hst : (st == 304) = false := by rw [beq_eq_false_iff_ne]; intro h; exact hin (.inl h)
        have h2 : ¬ 400 ≤ st ∨ 400 ≤ st ∧ ¬ st ≤ 599 := by
          by_cases h : 400 ≤ st
          · exact .inr ⟨h, fun h2 => hin (.inr ⟨h, h2⟩)⟩
          · exact .inl h
        clear hin
        rcases h2 with h2 | ⟨h2, h3⟩
        · go_wp2_with fail
          go_ret
          exact same_no hn.out HBA.out
        · go_wp2_with fail
          go_ret
          exact same_no hn.out HBA.out
end Go.Proofs.YtaaefgieklkekaaGreatDoor
namespace Go.Proofs.YtaaefgieklkekaaGreatDoor
open Go.RowKit

/-- What ShapeHolds shows of an answer that is told. -/
structure HoldP (r : ReqL) (m : MetaL) (a : AnsL) : Prop where
  right : RightP a.st a.sz a.fs a.ps
  fl : a.fs.length ≤ 1000
  pl : a.ps.length ≤ 200
  fx : ∀ f ∈ a.fs, f.1.length ≤ 100000 ∧ f.2.length ≤ 100000
  px : PtsOk a.ps
  spans : ∀ s ∈ spansL a.ps, s.1 < s.2 ∧ (s.2 ≤ m.hv ∨ (m.len < 0 ∧ a.st ≠ 206))
  apart : (spansL a.ps).Pairwise fun s t => ¬ (t.1 < s.2 ∧ s.1 < t.2)
  st206 : a.st = 206 → cano (cano (resL m.hv r.L)) = cano (spansL a.ps)
  st416 : a.st = 416 → cano (resL m.hv r.L) = [] ∧ r.L ≠ []
  st200 : a.st = 200 → r.hd = false → ofOp (cano (resL m.hv r.L)) (spansL a.ps) 3 = []
theorem fields_few {F : List FieldL} (h : ∀ f ∈ F, fieldOk f.1 f.2 = true) : ∀ f ∈ F, f.1.length ≤ 100000 ∧ f.2.length ≤ 100000 := fun f hf => by
  have h := h f hf
  unfold fieldOk at h
  simp only [Bool.and_eq_true, decide_eq_true_eq] at h
  have h1 := h.1.1.1.1
  have h2 := h.1.1.1.2
  omega
theorem canon_nil {S : List (Int × Int)} (hc : Canon S) (h : ∀ p, ¬ InS S p) : S = [] := by
  have h1 : ([] : List (Int × Int)) = cano S := cano_eq (S := []) (by have := cano_canon []; rwa [show cano [] = [] from rfl] at this) fun p => ⟨fun ⟨x, hx, _⟩ => (by cases hx), fun hp => absurd hp (h p)⟩
  rw [cano_self hc] at h1
  exact h1.symm
theorem ins_iff {S : List (Int × Int)} (h : ∀ s ∈ S, okS s = true) (p : Int) : InS S p ↔ ∃ s ∈ S, s.1 ≤ p ∧ p < s.2 := ⟨fun ⟨x, hx, _, h1⟩ => ⟨x, hx, h1⟩, fun ⟨x, hx, h1⟩ => ⟨x, hx, h x hx, h1⟩⟩
theorem ok_of {s : Int × Int} {n : Int} (hn : n ≤ 1099511627776) (h : 0 ≤ s.1 ∧ s.1 < s.2 ∧ s.2 ≤ n) : okS s = true := (okS_iff s).2 ⟨by omega, by omega, by omega⟩
theorem hold_bare {r : ReqL} {m : MetaL} (hok : MetaOk m) {st : Int} (h : st = 304 ∨ st = 412) : HoldP r m ⟨st, fieldsL m, [], 0⟩ := by
  have hf : ∀ f ∈ fieldsL m, fieldOk f.1 f.2 = true := fun f hf => (fields_ok hok f hf).2
  have hl := fieldsL_len m
  refine ⟨⟨hf, ?_⟩, by simp only; omega, by simp, fields_few hf, (fun p hp => by cases hp), (fun s hs => by cases hs), List.Pairwise.nil, fun e => ?_, fun e => ?_, fun e => ?_⟩
  · simp only
    rw [if_neg (by omega), if_neg (by omega)]
    exact ⟨by omega, rfl, trivial⟩
  all_goals (simp only at e; omega)
theorem hold_whole {r : ReqL} {m : MetaL} (hok : MetaOk m) (hR : allR r.L = true) : HoldP r m (wholeA m r.hd) := by
  have hf : ∀ f ∈ fieldsL m, fieldOk f.1 f.2 = true := fun f hf => (fields_ok hok f hf).2
  have hl := fieldsL_len m
  have hln := hok.ln
  have hhv := hok.hv
  have heq := hok.eq
  have hres : ∀ x ∈ resL m.hv r.L, 0 ≤ x.1 ∧ x.1 < x.2 ∧ x.2 ≤ m.hv := fun x hx => resL_in hhv.1 hR hx
  by_cases hb : r.hd = true ∨ m.len = 0
  · have e : wholeA m r.hd = ⟨200, fieldsL m, [], m.len⟩ := by unfold wholeA; rw [if_pos hb]
    rw [e]
    refine ⟨⟨hf, ?_⟩, by simp only; omega, by simp, fields_few hf, (fun p hp => by cases hp), (fun s hs => by cases hs), List.Pairwise.nil, fun e => ?_, fun e => ?_, fun _ hd => ?_⟩
    · simp only
      rw [if_pos trivial]
      unfold wholeB
      exact decide_eq_true hln.1
    · simp only at e; omega
    · simp only at e; omega
    · have h0 : m.len = 0 := hb.resolve_left (by rw [hd]; decide)
      refine canon_nil (ofOp_inv _ _ _).1 fun p hp => ?_
      have h1 := ((ofOp_inv _ _ _).2 p).1 hp
      rw [inB_cano] at h1
      unfold opB at h1
      simp only [Bool.or_eq_true, Bool.and_eq_true] at h1
      have hi : inB (resL m.hv r.L) p = true := by
        rcases h1 with (⟨h1, _⟩ | ⟨⟨h1, _⟩, _⟩) | ⟨⟨_, h2⟩, _⟩
        · exact absurd h1 (by decide)
        · exact absurd h1 (by decide)
        · exact h2
      obtain ⟨x, hx, _⟩ := (inB_iff _ _).1 hi
      have := hres x hx
      omega
  · have e : wholeA m r.hd = ⟨200, fieldsL m, [([], (0, if m.len = -1 then 4611686018427387904 else m.len))], m.len⟩ := by unfold wholeA; rw [if_neg hb]
    rw [e]
    have hne : m.len ≠ 0 := fun h => hb (.inr h)
    obtain ⟨To, hTo⟩ : ∃ t, (if m.len = -1 then 4611686018427387904 else m.len) = t := ⟨_, rfl⟩
    have hT : (m.len = -1 ∧ To = 4611686018427387904) ∨ (0 < m.len ∧ To = m.len) := by
      by_cases h : m.len = -1
      · rw [if_pos h] at hTo; exact .inl ⟨h, hTo.symm⟩
      · rw [if_neg h] at hTo; exact .inr ⟨by omega, hTo.symm⟩
    rw [hTo]
    refine ⟨⟨hf, ?_⟩, by simp only; omega, by simp, fields_few hf, ?_, ?_, by simp [spansL], fun e => ?_, fun e => ?_, fun _ hd => ?_⟩
    · simp only
      rw [if_pos trivial]
      have hk : okS (0, To) = true := (okS_iff _).2 ⟨by simp, by simp only; omega, by simp only; omega⟩
      unfold wholeB
      simp only
      rw [hk]
      rcases hT with ⟨h1, h2⟩ | ⟨h1, h2⟩
      · rw [h2, h1]; decide
      · have e1 : To ≠ 0 := by omega
        have e2 : To ≠ 4611686018427387904 := by omega
        rw [if_neg e2]
        simp [h2]
        omega
    · intro p hp
      rw [List.mem_singleton] at hp
      subst hp
      refine ⟨by simp, by simp, ?_⟩
      simp only
      omega
    · intro s hs
      simp only [spansL, List.isEmpty_nil, if_true, List.append_nil, List.mem_singleton] at hs
      subst hs
      simp only
      omega
    · simp only at e; omega
    · simp only at e; omega
    · refine canon_nil (ofOp_inv _ _ _).1 fun p hp => ?_
      have h1 := ((ofOp_inv _ _ _).2 p).1 hp
      rw [inB_cano] at h1
      unfold opB at h1
      simp only [Bool.or_eq_true, Bool.and_eq_true, Bool.not_eq_true'] at h1
      have hi : inB (resL m.hv r.L) p = true ∧ inB (spansL [([], (0, To))]) p = false := by
        rcases h1 with (⟨h1, _⟩ | ⟨⟨h1, _⟩, _⟩) | ⟨⟨_, h2⟩, h3⟩
        · exact absurd h1 (by decide)
        · exact absurd h1 (by decide)
        · exact ⟨h2, h3⟩
      obtain ⟨x, hx, _, h4, h5⟩ := (inB_iff _ _).1 hi.1
      have h6 := hres x hx
      have h7 : inB (spansL [([], (0, To))]) p = true := (inB_iff _ _).2 ⟨(0, To), by simp [spansL], (okS_iff _).2 ⟨by simp, by simp only; omega, by simp only; omega⟩, by simp only; omega, by simp only; omega⟩
      rw [hi.2] at h7
      cases h7
theorem fold_same {r : ReqL} {m : MetaL} (hok : MetaOk m) (hR : allR r.L = true) {O : List ((Int × Int) × Nat)} (hO : Folded 0 (resL m.hv r.L) O) : cano (cano (resL m.hv r.L)) = cano (O.map Prod.fst) := by
  have hhv := hok.hv
  have hres : ∀ x ∈ resL m.hv r.L, 0 ≤ x.1 ∧ x.1 < x.2 ∧ x.2 ≤ m.hv := fun x hx => resL_in hhv.1 hR hx
  have hin := folded_in hres hO
  refine cano_eq (cano_canon _) fun p => ?_
  rw [cano_in, cano_in, ins_iff (fun s hs => ok_of hhv.2 (hres s hs)), ins_iff (fun s hs => ok_of hhv.2 (hin s hs))]
  constructor
  · rintro ⟨x, hx, h1, h2⟩
    obtain ⟨i, hi, rfl⟩ := List.mem_iff_getElem.1 hx
    obtain ⟨o, ho, ⟨h3, h4⟩, _⟩ := hO.toFolds.all_ i hi
    exact ⟨o.1, List.mem_map_of_mem ho, by omega, by omega⟩
  · rintro ⟨s, hs, h1, h2⟩
    obtain ⟨o, ho, rfl⟩ := List.mem_map.1 hs
    obtain ⟨x, hx, h3, h4⟩ := hO.toFolds.mid o ho p h1 h2
    exact ⟨x, hx, h3, by omega⟩
theorem fold_apart {r : ReqL} {m : MetaL} {O : List ((Int × Int) × Nat)} (hO : Folded 0 (resL m.hv r.L) O) : (O.map Prod.fst).Pairwise fun s t => ¬ (t.1 < s.2 ∧ s.1 < t.2) := by
  rw [List.pairwise_map]
  exact hO.far.imp fun {a b} h hc => h ⟨by omega, by omega⟩
theorem partsF_in {total : Int} {kd bd : List UInt8} (h1 : kd.length ≤ 100) (h2 : bd.length ≤ 70) : ∀ (f : Bool) (S : List (Int × Int)), (∀ s ∈ S, contOk s total = true) → ∀ p ∈ partsF total kd bd f S, p.1.length ≤ 1000 ∧ (p.2 = (0, 0) ∨ p.2 ∈ S)
  | _, [], _, p, hp => by simp [partsF] at hp
  | f, s :: r, h, p, hp => by
    have hl := headT_len (kd := kd) (bd := bd) (h s (by simp)) h1 h2
    rw [partsF] at hp
    rcases List.mem_cons.1 hp with rfl | hp
    · refine ⟨?_, .inl rfl⟩
      rw [List.length_append]
      split <;> simp only [List.length_cons, List.length_nil] <;> omega
    · rcases List.mem_cons.1 hp with rfl | hp
      · exact ⟨by simp, .inr (by simp)⟩
      · have := partsF_in h1 h2 false r (fun x hx => h x (by simp [hx])) p hp
        exact ⟨this.1, this.2.imp id fun h => by simp [h]⟩
theorem parts_in {total : Int} {kd bd : List UInt8} (h1 : kd.length ≤ 100) (h2 : bd.length ≤ 70) {S : List (Int × Int)} (h : ∀ s ∈ S, contOk s total = true) : ∀ p ∈ partsL S total kd bd, p.1.length ≤ 1000 ∧ (p.2 = (0, 0) ∨ p.2 ∈ S) := fun p hp => by
  unfold partsL at hp
  rcases List.mem_append.1 hp with hp | hp
  · exact partsF_in h1 h2 true S h p hp
  · rw [List.mem_singleton] at hp
    subst hp
    refine ⟨?_, .inl rfl⟩
    unfold endT
    simp only [List.length_append, List.length_cons, List.length_nil]
    omega
theorem hold_ranged {r : ReqL} {m : MetaL} (hok : MetaOk m) (hR : allR r.L = true) (hl : r.L.length ≤ 70) (hne : r.L ≠ []) {O : List ((Int × Int) × Nat)} (hO : Folded 0 (resL m.hv r.L) O) (seed : Int) : HoldP r m (rangedA m (O.map Prod.fst) seed) := by
  have hhv := hok.hv
  have hf : ∀ f ∈ fieldsL m, fieldOk f.1 f.2 = true := fun f hf => (fields_ok hok f hf).2
  have hfl := fieldsL_len m
  have hres : ∀ x ∈ resL m.hv r.L, 0 ≤ x.1 ∧ x.1 < x.2 ∧ x.2 ≤ m.hv := fun x hx => resL_in hhv.1 hR hx
  have hin := folded_in hres hO
  have hsame := fold_same hok hR hO
  have hap := fold_apart hO
  have hnil := folded_nil hO
  have hlen : (O.map Prod.fst).length ≤ 70 := by
    have h1 := hO.few
    have h2 := resL_length m.hv r.L
    rw [List.length_map]
    omega
  generalize O.map Prod.fst = S at *
  have hco : ∀ s ∈ S, contOk s m.len = true := fun s hs => cont_of hok (hin s hs)
  match S, hlen, hnil, hin, hsame, hap, hco with
  | [], _, hnil, _, _, _, _ =>
    have hr0 := hnil.1 rfl
    have hf2 : ∀ f ∈ fieldsL m ++ [(nCR, vStar ++ digN m.hv)], fieldOk f.1 f.2 = true := fun f h => by
      rcases List.mem_append.1 h with h | h
      · exact hf f h
      · rw [List.mem_singleton] at h; subst h; exact star_ok (by omega)
    refine ⟨⟨hf2, ?_⟩, by simp only [rangedA, List.length_append, List.length_cons, List.length_nil]; omega, by simp [rangedA], fields_few hf2, (fun p hp => by cases hp), (fun s hs => by cases hs), List.Pairwise.nil, fun e => ?_, fun _ => ⟨by rw [hr0]; rfl, hne⟩, fun e => ?_⟩
    · simp only [rangedA]
      rw [if_neg (by omega), if_neg (by omega)]
      exact ⟨by omega, rfl, trivial⟩
    · simp only [rangedA] at e; omega
    · simp only [rangedA] at e; omega
  | [s], _, _, hin, hsame, hap, hco =>
    have hs := hin s (by simp)
    have hc := hco s (by simp)
    have hf2 : ∀ f ∈ fieldsL m ++ [(nCR, contT s m.len)], fieldOk f.1 f.2 = true := fun f h => by
      rcases List.mem_append.1 h with h | h
      · exact hf f h
      · rw [List.mem_singleton] at h; subst h; exact content_ok hc
    refine ⟨⟨hf2, ?_⟩, by simp only [rangedA, List.length_append, List.length_cons, List.length_nil]; omega, by simp [rangedA], fields_few hf2, ?_, ?_, by simp [rangedA, spansL], fun _ => hsame, fun e => ?_, fun e => ?_⟩
    · simp only [rangedA]
      rw [if_neg (by omega), if_pos trivial]
      left
      unfold oneB
      simp only
      rw [get_cr hok, Option.getD_some, rd_yes ⟨hc, rfl⟩]
      simp
    · intro p hp
      simp only [rangedA, List.mem_singleton] at hp
      subst hp
      refine ⟨by simp, ?_, ?_⟩
      · simp only; omega
      · simp only; omega
    · intro x hx
      simp only [rangedA, spansL, List.isEmpty_nil, if_true, List.append_nil, List.mem_singleton] at hx
      subst hx
      exact ⟨hs.2.1, .inl hs.2.2⟩
    · simp only [rangedA] at e; omega
    · simp only [rangedA] at e; omega
  | s :: t :: q, hlen, _, hin, hsame, hap, hco =>
    have hf2 : ∀ f ∈ fieldsL m ++ [(nCT, vMulti ++ boundT seed)], fieldOk f.1 f.2 = true := fun f h => by
      rcases List.mem_append.1 h with h | h
      · exact hf f h
      · rw [List.mem_singleton] at h; subst h; exact multi_ok seed
    have hbo := boundT_ok seed
    have hbl := boundT_len seed
    have hsp : spansL (partsL (s :: t :: q) m.len vKind (boundT seed)) = s :: t :: q := spansL_parts _ _ _ _
    have hlow : LowP (partsL (s :: t :: q) m.len vKind (boundT seed)) := lowL (by decide) (by omega) fun x hx => ⟨hco x hx, by have := hin x hx; omega⟩
    refine ⟨⟨hf2, ?_⟩, by simp only [rangedA, List.length_append, List.length_cons, List.length_nil]; omega, by simp only [rangedA, partsL_len]; simp only [List.length_cons] at hlen ⊢; omega, fields_few hf2, ?_, ?_, by simp only [rangedA]; rw [hsp]; exact hap, fun _ => by simp only [rangedA]; rw [hsp]; exact hsame, fun e => ?_, fun e => ?_⟩
    · simp only [rangedA]
      rw [if_neg (by omega), if_pos trivial]
      right
      refine ⟨m.len, boundT seed, by rw [get_ct hok, Option.getD_some], ?_⟩
      refine ⟨by rw [hsp]; simp, by rw [hsp]; exact hco, hbo, by rw [hsp], by rw [hsp]⟩
    · intro p hp
      simp only [rangedA] at hp
      have hb : ∀ p ∈ partsL (s :: t :: q) m.len vKind (boundT seed), p.1.length ≤ 1000 ∧ (p.2 = (0, 0) ∨ p.2 ∈ s :: t :: q) := parts_in (by decide) (by omega) hco
      have h1 := hb p hp
      refine ⟨by omega, ?_⟩
      rcases h1.2 with h2 | h2
      · rw [h2]; simp
      · have := hin _ h2; omega
    · intro x hx
      simp only [rangedA] at hx
      rw [hsp] at hx
      have := hin x hx
      exact ⟨this.2.1, .inl this.2.2⟩
    · simp only [rangedA] at e; omega
    · simp only [rangedA] at e; omega
structure FineH (r : ReqL) (m : MetaL) : Prop where
  few : r.L.length ≤ 70
  all_ : allR r.L = true
  ok : MetaOk m
theorem AnsP.hold {r : ReqL} {m : MetaL} {o cs seed : Int} {a : AnsL} (h : AnsP r m o cs seed a) (hf : FineH r m) : HoldP r m a := by
  unfold AnsP at h
  by_cases h3 : o = 3
  · rw [if_pos h3] at h; rw [h]; exact hold_bare hf.ok (.inl rfl)
  · rw [if_neg h3] at h
    by_cases h4 : o = 4
    · rw [if_pos h4] at h; rw [h]; exact hold_bare hf.ok (.inr rfl)
    · rw [if_neg h4] at h
      by_cases hc : countB r m o cs = true
      · rw [if_pos hc] at h
        obtain ⟨O, hO, rfl⟩ := h
        refine hold_ranged hf.ok hf.all_ hf.few (fun e => ?_) hO seed
        unfold countB at hc
        rw [e] at hc
        simp at hc
      · rw [if_neg hc] at h; rw [h]; exact hold_whole hf.ok hf.all_
end Go.Proofs.YtaaefgieklkekaaGreatDoor
namespace Go.Proofs.YtaaefgieklkekaaGreatDoor
open Go.RowKit Go.Sort

theorem pre_take {v : List UInt8} (h : Lib.hasPrefix v vMulti = true) : 31 ≤ v.length ∧ v.take 31 = vMulti := by
  unfold Lib.hasPrefix at h
  obtain ⟨b, rfl⟩ := List.isPrefixOf_iff_prefix.1 h
  exact ⟨by rw [List.length_append, show vMulti.length = 31 from rfl]; omega, List.take_left' rfl⟩
theorem pre_of {v : List UInt8} (h : v.take 31 = vMulti) : Lib.hasPrefix v vMulti = true ∧ Lib.trimPrefix v vMulti = v.drop 31 := by
  have h1 : Lib.hasPrefix v vMulti = true := by
    unfold Lib.hasPrefix
    rw [List.isPrefixOf_iff_prefix, ← h]
    exact List.take_prefix _ _
  refine ⟨h1, ?_⟩
  unfold Lib.trimPrefix
  rw [if_pos h1]
  rfl
set_option maxHeartbeats 16000000 in
set_option maxRecDepth 100000 in
theorem rseveral_any (st sz : Int) (FA : Option Addr) (fk fc : Nat) (F : List FieldL) (PA : Option Addr) (pc pk : Nat) (P : List PartL) (w : World) (hpk : pk = P.length) (hfk : fk = F.length) (h : SpG encPt 3 w PA pc P) (hf : SpG encFd 2 w FA fc F) (hl : P.length ≤ 200) (hlf : F.length ≤ 1000) (hx : ∀ f ∈ F, f.1.length ≤ 1000000 ∧ f.2.length ≤ 10000) (hpo : PtsOk P) :
    Calls Tryz.prog 51 #[.agg #[.int .i64 st, .slice FA fk fc, .slice PA pk pc, .int .i64 sz]] w (SameB (SevP sz F P) w) := by
  subst hpk
  have HH := Lib.hid h
  have HFF := Lib.hid hf
  have HGT := fun W (hW : SpG encFd 2 W FA fc F) => Lib.hid (rget_any FA fc fk F nCT W hfk hW (by omega) (by decide) (fun f hf => (hx f hf).1))
  have HTO := fun W (hW : SpG encPt 3 W PA pc P) => Lib.hid (rtotal_any st sz FA fk fc PA pc P.length P W rfl hW (by omega) (fun p hp => (hpo p hp).1))
  have hvl : ((getF F nCT).getD []).length ≤ 10000 := getF_len F nCT fun f hf => (hx f hf).2
  have HPRE := Lib.hid (fun hq : SevP sz F P => pre_take hq.pre)
  have HNB : Hid ((getF F nCT).isSome = false → ¬ SevP sz F P) := fun hb hq => by
    have h1 := (pre_take hq.pre).1
    cases hg : getF F nCT with
    | none => rw [hg] at h1; simp at h1
    | some x => rw [hg] at hb; cases hb
  have HNT : Hid ((∀ p r, P = p :: r → totL p.1 = none) → ¬ SevP sz F P) := fun hn hq => by
    have hq2 := (sevP_iff hq.pre).1 hq
    cases P with
    | nil => exact SevP.nil hq
    | cons p r => exact sev_tot_no (hn p r rfl) hq2
  have HYT : ∀ n, (∃ p r, P = p :: r ∧ totL p.1 = some n) → ((getF F nCT).getD []).take 31 = vMulti → Hid (SevP sz F P ↔ SevAt sz P n (((getF F nCT).getD []).drop 31)) := fun n ⟨p, r, hP, ht⟩ hv => by
    have h1 := pre_of hv
    have h2 := sevP_iff (sz := sz) (F := F) (P := P) h1.1
    rw [h1.2] at h2
    rw [hP] at h2 ⊢
    exact Lib.hid (h2.trans (sev_tot ht))
  generalize SevP sz F P = Q at HPRE HNB HNT HYT ⊢
  unfold GetPost optT at HGT
  unfold TotPost at HTO
  obtain ⟨vb, hvb⟩ : ∃ b, (getF F nCT).isSome = b := ⟨_, rfl⟩
  obtain ⟨v, hv⟩ : ∃ v, (getF F nCT).getD [] = v := ⟨_, rfl⟩
  rw [hv] at hvl HPRE
  rw [hvb] at HNB
  simp only [hv] at HYT
  simp only [hv, hvb] at HGT
  have hvz : (⟨v.toArray⟩ : ByteArray).size = v.length := ba_size v
  obtain ⟨s, hs⟩ : ∃ s : ByteArray, (⟨v.toArray⟩ : ByteArray) = s := ⟨_, rfl⟩
  rw [hs] at hvz
  simp only [hs] at HGT
  have HS := Lib.hid hs
  clear h hf hx hlf hfk hv hvb hs
  go_enter Tryz.func51, Tryz.ntmps51
  go_upto_region 3 with (first
      | (go_at_call 88; refine (HTO _ (HH.out.below HB1.out)).out.mono ?_; rintro e w2 ⟨n, o, rfl, ho1, ho2, hb2⟩)
      | (go_at_call 86; refine (HGT _ (HFF.out.below (bel_alloc (Below.refl _ _) _))).out.mono ?_; rintro e w1 ⟨rfl, hb1⟩
         have HX1 : Hid (w1.heap[w.heap.size]? = some (.cells #[.int .i64 st, .slice FA fk fc, .slice PA P.length pc, .int .i64 sz] 43 (0, 0))) := blk_keep hb1 (blk_new rfl)
         have HB1 := Lib.hid (bel_chain hb1 (bel_alloc (Below.refl _ _) _))
         have y0 := blk_cell (i := 0) HX1.out rfl
         have y1 := blk_cell (i := 1) HX1.out rfl
         have y2 := blk_cell (i := 2) HX1.out rfl
         have y3 := blk_cell (i := 3) HX1.out rfl))
  have HX2 := Lib.hid (blk_keep hb2 HX1.out)
  have HB2 := Lib.hid (bel_chain hb2 HB1.out)
  have HO1 := Lib.hid ho1
  have HO2 := Lib.hid ho2
  have x0 := blk_cell (i := 0) HX2.out rfl
  have x1 := blk_cell (i := 1) HX2.out rfl
  have x2 := blk_cell (i := 2) HX2.out rfl
  have x3 := blk_cell (i := 3) HX2.out rfl
  have xz := blk_lt HX2.out
  clear y0 y1 y2 y3 hb1 hb2 ho1 ho2 HX1 HB1 HGT HTO
  cases vb with
  | false =>
    have hn := Lib.hid (HNB.out rfl)
    clear HNB HNT HYT HPRE hpo HO1 HO2
    go_wp2_with fail
    go_ret
    exact same_no hn.out HB2.out
  | true =>
  cases o with
  | false =>
    have hn := Lib.hid (HNT.out (HO2.out rfl))
    clear HNB HNT HYT HPRE hpo HO1 HO2
    go_wp2_with fail
    go_ret
    exact same_no hn.out HB2.out
  | true =>
  have HY2 := HYT n (HO1.out rfl)
  have HPE := HO1.out rfl
  have HPP := Lib.hid HPE
  clear HNB HNT HYT HO1 HO2 HPE
  by_cases h31 : v.length < 31
  · have hn : Hid (¬ Q) := fun hq => by have := (HPRE.out hq).1; omega
    have h31' : (v.length : Int) < 31 := by omega
    clear h31 HPRE HY2 hpo
    go_wp2_with fail
    go_ret
    exact same_no hn.out HB2.out
  have h31' : ¬ (v.length : Int) < 31 := by omega
  have h31n : 31 ≤ s.size := by omega
  have hx0 : s.extract 0 31 = ⟨(v.take 31).toArray⟩ := by rw [ex_take, ← HS.out]
  by_cases hp : v.take 31 = vMulti
  rotate_left
  · have hn : Hid (¬ Q) := fun hq => hp (HPRE.out hq).2
    have hpb : (v.take 31 == [109, 117, 108, 116, 105, 112, 97, 114, 116, 47, 98, 121, 116, 101, 114, 97, 110, 103, 101, 115, 59, 32, 98, 111, 117, 110, 100, 97, 114, 121, 61]) = false := by rw [beq_eq_false_iff_ne]; exact hp
    clear hp HPRE HY2 hpo
    go_wp2_with fail
    go_ret
    exact same_no hn.out HB2.out
  have hpb : (v.take 31 == [109, 117, 108, 116, 105, 112, 97, 114, 116, 47, 98, 121, 116, 101, 114, 97, 110, 103, 101, 115, 59, 32, 98, 111, 117, 110, 100, 97, 114, 121, 61]) = true := by rw [beq_iff_eq]; exact hp
  have HQ := HY2 hp
  have hx6 : s.extract 31 v.length = ⟨(v.drop 31).toArray⟩ := by rw [← hvz]; exact ex_at s v HS.out 31
  have h31v : 31 ≤ v.length := by omega
  have h31i : (31 : Int) ≤ (v.length : Int) := by omega
  have hbl : (v.drop 31).length ≤ 10000 := by rw [List.length_drop]; omega
  obtain ⟨bd, hbd⟩ : ∃ b, v.drop 31 = b := ⟨_, rfl⟩
  rw [hbd] at hbl HQ hx6
  clear hp HPRE HY2 hbd
  go_upto_region 5 with fail
  clear hpb hx0
  have hsl : (spansL P).length ≤ 200 := by have := spansL_len P; omega
  have hsw : ∀ x ∈ spansL P, x.1 ≤ 9223372036854775807 ∧ x.2 ≤ 9223372036854775807 := fun x hx => by
    obtain ⟨p, hp, rfl⟩ := spansL_mem hx
    have := hpo p hp
    omega
  have HSW : Hid (∀ x ∈ spansL P, contOk x n = true → x.2 ≤ 1099511627776) := fun x hx hc => by
    obtain ⟨p, hp, rfl⟩ := spansL_mem hx
    exact (hpo p hp).2.2.resolve_right (contOk_at hc).2
  have HSV : Hid (SevAt sz P n bd ↔ (spansL P ≠ [] ∧ (∀ x ∈ spansL P, contOk x n = true) ∧ boundOk bd = true) ∧ P.map normP = (partsL (spansL P) n vKind bd).map normP ∧ sz = sizeL (partsL (spansL P) n vKind bd)) :=
    ⟨fun h => ⟨⟨h.ne, h.ok, h.bok⟩, h.ps, h.sz⟩, fun ⟨⟨a, b, c⟩, d, e⟩ => ⟨a, b, c, d, e⟩⟩
  rw [HSV.out] at HQ
  have HSP := fun W (hW : SpG encPt 3 W PA pc P) => Lib.hid (rspans15_any st sz FA fk fc PA pc P.length P W rfl hW (by omega))
  obtain ⟨S, hS⟩ : ∃ S, spansL P = S := ⟨_, rfl⟩
  rw [hS] at hsl hsw HSW HQ
  simp only [hS] at HSP
  unfold RetSp at HSP
  have HP2 := fun W (hW : Below w2.heap.size w2 W) => HH.out.below (bel_chain hW HB2.out)
  clear hS hpo HSV
  by_cases hok : S ≠ [] ∧ (∀ x ∈ S, contOk x n = true) ∧ boundOk bd = true
  rotate_left
  · have hn : Hid (¬ Q) := fun hq => hok (HQ.out.1 hq).1
    have hno : S = [] ∨ (∃ x ∈ S, contOk x n = false) ∨ boundOk bd = false := by
      by_cases h1 : S = []
      · exact .inl h1
      · by_cases h2 : ∀ x ∈ S, contOk x n = true
        · refine .inr (.inr ?_)
          cases hb : boundOk bd with
          | false => rfl
          | true => exact absurd ⟨h1, h2, hb⟩ hok
        · refine .inr (.inl ?_)
          obtain ⟨x, hx⟩ := Classical.not_forall.1 h2
          obtain ⟨hx1, hx2⟩ := Classical.not_imp.1 hx
          exact ⟨x, hx1, by simpa using hx2⟩
    have HPN : ∀ (A : Option Addr) (c : Nat) W, Sp W A c S → Hid (Calls Tryz.prog 40 #[.slice A S.length c, .int .i64 n, .string ⟨#[97, 112, 112, 108, 105, 99, 97, 116, 105, 111, 110, 47, 111, 99, 116, 101, 116, 45, 115, 116, 114, 101, 97, 109]⟩, .string ⟨bd.toArray⟩] W (NoPts W)) := fun A c W hs => Lib.hid (rparts_no A c S n vKind bd W hs (by omega) hsw kind_okV (by omega) hno)
    unfold NoPts at HPN
    clear hok hno hsw HSW HQ
    go_region_held3 (fun w' => w'.cell? ⟨w.heap.size, 0, none⟩ = some (.int .i64 st) ∧ w'.cell? ⟨w.heap.size, 1, none⟩ = some (.slice FA fk fc) ∧ w'.cell? ⟨w.heap.size, 2, none⟩ = some (.slice PA P.length pc) ∧ w'.cell? ⟨w.heap.size, 3, none⟩ = some (.int .i64 sz))
      (first | exact ⟨q0, q1, q2, q3⟩ | exact ⟨z0, z1, z2, z3⟩ | exact ⟨x0, x1, x2, x3⟩ | fail)
      (first
        | (go_at_call 40
           refine (HPN _ _ _ hs5.sp).out.mono ?_
           rintro e6 w6 ⟨rfl, hb6⟩
           have HB6 := Lib.hid (bel_chain hb6 HB5.out)
           have HX6 := Lib.hid (blk_keep hb6 HX5.out)
           have q0 := cell_keep hb6 z0
           have q1 := cell_keep hb6 z1
           have q2 := cell_keep hb6 z2
           have q3 := cell_keep hb6 z3)
        | (go_at_call 24
           refine (HSP _ (HP2 _ (by first | exact bel_drew (Below.refl _ _) | exact bel_drewN (Below.refl _ _) _))).out.mono ?_
           rintro e5 w5 ⟨AS, cS, rfl, hs5, hb5⟩
           have HB5 := Lib.hid (bel_chain hb5 (by first | exact bel_drew HB2.out | exact bel_drewN HB2.out _))
           have hv5 : Below w2.heap.size w2 w5 := bel_chain hb5 (by first | exact bel_drew (Below.refl _ _) | exact bel_drewN (Below.refl _ _) _)
           have HX5 := Lib.hid (blk_keep hv5 HX2.out)
           have z0 := blk_cell (i := 0) HX5.out rfl
           have z1 := blk_cell (i := 1) HX5.out rfl
           have z2 := blk_cell (i := 2) HX5.out rfl
           have z3 := blk_cell (i := 3) HX5.out rfl))
    go_upto_region 6 with fail
    go_quiet (fail)
    go_wp2_with fail
    go_ret
    exact same_no hn.out (bel_drewN HB6.out _)
  obtain ⟨hok1, hok2, hok3⟩ := hok
  have hpos0 : 0 < S.length := List.length_pos_iff.2 hok1
  have HQ2 : Hid (Q ↔ (P.map normP = (partsL S n vKind bd).map normP ∧ sz = sizeL (partsL S n vKind bd))) := by
    refine Lib.hid (HQ.out.trans ⟨fun h => h.2, fun h => ⟨⟨hok1, hok2, hok3⟩, h⟩⟩)
  have HLOW : Hid (LowP (partsL S n vKind bd)) := Lib.hid (lowL (by decide) (by unfold boundOk at hok3; simp only [Bool.and_eq_true, decide_eq_true_eq] at hok3; exact hok3.1.2) fun s hs => ⟨hok2 s hs, HSW.out s hs (hok2 s hs)⟩)
  have HPY : ∀ (A : Option Addr) (c : Nat) W, Sp W A c S → Hid (Calls Tryz.prog 40 #[.slice A S.length c, .int .i64 n, .string ⟨#[97, 112, 112, 108, 105, 99, 97, 116, 105, 111, 110, 47, 111, 99, 116, 101, 116, 45, 115, 116, 114, 101, 97, 109]⟩, .string ⟨bd.toArray⟩] W (RetPts (partsL S n vKind bd) W)) := fun A c W hs => Lib.hid (rparts_yes A c S n vKind bd W hs hpos0 (by omega) hok2 kind_okV hok3)
  unfold RetPts at HPY
  have hwl := partsL_len2 S n vKind bd
  obtain ⟨WL, hWL⟩ : ∃ L, partsL S n vKind bd = L := ⟨_, rfl⟩
  rw [hWL] at HQ2 HLOW hwl
  simp only [hWL] at HPY
  have hwl2 : WL.length ≤ 401 := by omega
  clear hWL hok1 hok2 hok3 hpos0 HQ hsw HSW hwl
  go_region_held3 (fun w' => w'.cell? ⟨w.heap.size, 0, none⟩ = some (.int .i64 st) ∧ w'.cell? ⟨w.heap.size, 1, none⟩ = some (.slice FA fk fc) ∧ w'.cell? ⟨w.heap.size, 2, none⟩ = some (.slice PA P.length pc) ∧ w'.cell? ⟨w.heap.size, 3, none⟩ = some (.int .i64 sz))
      (first | exact ⟨q0, q1, q2, q3⟩ | exact ⟨z0, z1, z2, z3⟩ | exact ⟨x0, x1, x2, x3⟩ | fail)
      (first
        | (go_at_call 40
           refine (HPY _ _ _ hs5.sp).out.mono ?_
           rintro e6 w6 ⟨AW, cW, kW, hkW, rfl, hoW, hb6⟩
           have HB6 := Lib.hid (bel_chain hb6 HB5.out)
           have HX6 := Lib.hid (blk_keep hb6 HX5.out)
           have q0 := cell_keep hb6 z0
           have q1 := cell_keep hb6 z1
           have q2 := cell_keep hb6 z2
           have q3 := cell_keep hb6 z3)
        | (go_at_call 24
           refine (HSP _ (HP2 _ (by first | exact bel_drew (Below.refl _ _) | exact bel_drewN (Below.refl _ _) _))).out.mono ?_
           rintro e5 w5 ⟨AS, cS, rfl, hs5, hb5⟩
           have HB5 := Lib.hid (bel_chain hb5 (by first | exact bel_drew HB2.out | exact bel_drewN HB2.out _))
           have hv5 : Below w2.heap.size w2 w5 := bel_chain hb5 (by first | exact bel_drew (Below.refl _ _) | exact bel_drewN (Below.refl _ _) _)
           have HX5 := Lib.hid (blk_keep hv5 HX2.out)
           have z0 := blk_cell (i := 0) HX5.out rfl
           have z1 := blk_cell (i := 1) HX5.out rfl
           have z2 := blk_cell (i := 2) HX5.out rfl
           have z3 := blk_cell (i := 3) HX5.out rfl))
  go_upto_region 6 with fail
  have HO6 := Lib.hid (hoW.spg elemPt.len)
  have HSZ := fun W (hW : SpG encPt 3 W AW cW WL) => Lib.hid (rsize_any AW cW WL.length WL W rfl hW (by omega) HLOW.out)
  have g2 := blk_cell (i := 2) HX6.out rfl
  have g3 := blk_cell (i := 3) HX6.out rfl
  have gz := blk_lt HX6.out
  subst hkW
  clear hb6 hoW hb5 hs5 HX2 HX5 HB5 q0 q1 q2 q3 z0 z1 z2 z3 x0 x1 x2 x3 xz HPY HSP HLOW
  by_cases hlen : P.length = WL.length
  rotate_left
  · have hn : Hid (¬ Q) := fun hq => hlen (by have := congrArg List.length (HQ2.out.1 hq).1; simpa using this)
    have hlb : ((WL.length : Int) != (P.length : Int)) = true := by rw [bne_iff_ne]; omega
    clear hlen
    go_quiet (fail)
    go_wp2_with fail
    go_ret
    exact same_no hn.out (bel_drewN HB6.out _)
  have hlb : ((WL.length : Int) != (P.length : Int)) = false := by rw [bne_eq_false_iff_eq]; omega
  have HPL := Lib.hid hlen
  clear hlen
  by_cases hsz : sz = sizeL WL
  rotate_left
  · have hn : Hid (¬ Q) := fun hq => hsz (HQ2.out.1 hq).2
    have hzb : (sz != sizeL WL) = true := by rw [bne_iff_ne]; exact hsz
    obtain ⟨zz, hzz⟩ : ∃ z, sizeL WL = z := ⟨_, rfl⟩
    rw [hzz] at hzb
    simp only [hzz] at HSZ
    clear hsz hzz
    have k2 := cell_regrown g2
    have k3 := cell_regrown g3
    have cS : ∀ d os, Calls Tryz.prog 41 #[.slice AW WL.length cW] (grow (redrawn w6 d) os) fun e w'' => e = .returned (.int .i64 zz) ∧ ∃ p : Regrown, w'' = grow (redrawn w6 p.d) p.os := fun d os => Calls.regrown_of (HSZ _ (HO6.out.below (below_regrown w6 d os))).out
    refine wp_region_quiet_below (by kernel_rfl) (by kernel_rfl) ?_
    repeat (quiet_step (first | exact cS _ _))
    refine wpQuiet_nil ?_
    intro _ hw'
    obtain ⟨⟨dq, osq⟩, hw''⟩ := hw'
    subst hw''
    have HB7 := Lib.hid (bel_chain (below_regrown w6 dq osq) HB6.out)
    go_wp2_with fail
    go_ret
    exact same_no hn.out HB7.out
  have HQ3 : Hid (Q ↔ P.map normP = WL.map normP) := ⟨fun h => (HQ2.out.1 h).1, fun h => HQ2.out.2 ⟨h, hsz⟩⟩
  have hzb : (sz != sizeL WL) = false := by rw [bne_eq_false_iff_eq]; exact hsz
  obtain ⟨zz, hzz⟩ : ∃ z, sizeL WL = z := ⟨_, rfl⟩
  rw [hzz] at hzb
  simp only [hzz] at HSZ
  clear hsz hzz HQ2
  have k2 := cell_regrown g2
  have k3 := cell_regrown g3
  have cS : ∀ d os, Calls Tryz.prog 41 #[.slice AW WL.length cW] (grow (redrawn w6 d) os) fun e w'' => e = .returned (.int .i64 zz) ∧ ∃ p : Regrown, w'' = grow (redrawn w6 p.d) p.os := fun d os => Calls.regrown_of (HSZ _ (HO6.out.below (below_regrown w6 d os))).out
  refine wp_region_quiet_below (by kernel_rfl) (by kernel_rfl) ?_
  repeat (quiet_step (first | exact cS _ _))
  refine wpQuiet_nil ?_
  intro w7 hw'
  obtain ⟨p7, hp7⟩ := hw'
  have hb7 : Below w6.heap.size w6 w7 := by rw [hp7]; exact below_regrown _ _ _
  have HX7 := Lib.hid (blk_keep hb7 HX6.out)
  have HB7 := Lib.hid (bel_chain hb7 HB6.out)
  have HO7 := Lib.hid (HO6.out.below hb7)
  clear hp7 hb7 HX6 HB6 HO6 g2 g3 gz k2 k3 cS HSZ hzb hlb
  have x2 := blk_cell (i := 2) HX7.out rfl
  have xz := blk_lt HX7.out
  go_wp2_with fail
  clear x2 xz
  go_loopw [9, 65] (fun _ i wr => ∃ k : Nat, k ≤ P.length ∧ i = .int .i64 (k : Int) ∧ (P.map normP).take k = (WL.map normP).take k ∧ Below w7.heap.size w7 wr) (fun _ i _ => P.length - (intOf i).toNat)
  case atStart => exact ⟨0, Nat.zero_le _, rfl, by simp, Below.refl _ _⟩
  case round =>
    obtain ⟨k, hk, rfl, hin, hbw⟩ := hrel
    have HI := Lib.hid hin
    have HBW := Lib.hid hbw
    have HBA := Lib.hid (bel_chain hbw HB7.out)
    have HXr := Lib.hid (blk_keep hbw HX7.out)
    clear hin hbw
    have x2 := blk_cell (i := 2) HXr.out rfl
    have xz := blk_lt HXr.out
    by_cases hlt : k < P.length
    · have hlt' : k < WL.length := by have := HPL.out; omega
      obtain ⟨b, off, e, hb, hc⟩ := (HH.out.below HBA.out).at' k hlt
      obtain ⟨b', off', e', hb', hc'⟩ := (HO7.out.below HBW.out).at' k hlt'
      have c0 := hc 0 _ rfl
      have c1 := hc 1 _ rfl
      have c2 := hc 2 _ rfl
      have d0 := hc' 0 _ rfl
      have d1 := hc' 1 _ rfl
      have d2 := hc' 2 _ rfl
      simp only [Nat.add_zero] at c0 d0
      have HST : Hid (normP P[k] = normP WL[k] → (P.map normP).take (k + 1) = (WL.map normP).take (k + 1)) := fun h => take_eq_g (by simpa using hlt) (by simpa using hlt') HI.out (by simpa using h)
      have HNO : Hid (normP P[k] ≠ normP WL[k] → ¬ Q) := fun h hq => ne_at_g (L := P.map normP) (L' := WL.map normP) (by simpa using hlt) (by simpa using hlt') (by simpa using h) (HQ3.out.1 hq)
      obtain ⟨⟨t1, u1, u2⟩, hx⟩ : ∃ x, P[k] = x := ⟨_, rfl⟩
      obtain ⟨⟨t2, u1', u2'⟩, hy⟩ : ∃ x, WL[k] = x := ⟨_, rfl⟩
      rw [hx] at c0 c1 c2 HST HNO
      rw [hy] at d0 d1 d2 HST HNO
      simp only at c0 c1 c2 d0 d1 d2
      subst e
      have hltI : (k : Int) < (WL.length : Int) := by omega
      clear hx hy hc hc' HI
      subst e'
      --LOOP
      by_cases et : t1 = t2
      rotate_left
      · have bt : (t2 == t1) = false := beq_eq_false_iff_ne.2 (Ne.symm et)
        have hne : normP (t1, u1, u2) ≠ normP (t2, u1', u2') := by
          intro h
          have := congrArg Prod.fst h
          unfold normP at this
          split at this <;> split at this <;> exact et this
        clear et
        have hn := Lib.hid (HNO.out hne)
        clear HST HNO
        go_wp2_with fail
        go_quiet (fail)
        go_wp2_with fail
        go_ret
        exact same_no hn.out (bel_drewN HBA.out _)
      subst et
      cases hte : t1.isEmpty with
      | false =>
        have HF := Lib.hid (HST.out (by unfold normP; simp [hte]))
        clear HST HNO
        go_wp2_with fail
        go_quiet (fail)
        go_wp2_with fail
        go_roundw
        case rel => exact ⟨k + 1, by omega, by go_num, HF.out, bel_drewN HBW.out _⟩
        case measure => simp [intOf]; omega
      | true =>
        by_cases e1 : u1 = u1'
        · subst e1
          by_cases e2 : u2 = u2'
          · subst e2
            have HF := Lib.hid (HST.out rfl)
            clear HST HNO
            go_wp2_with fail
            go_quiet (fail)
            go_wp2_with fail
            go_roundw
            case rel => exact ⟨k + 1, by omega, by go_num, HF.out, bel_drewN HBW.out _⟩
            case measure => simp [intOf]; omega
          · have b2 : (u2' == u2) = false := by rw [beq_eq_false_iff_ne]; exact Ne.symm e2
            have hne : normP (t1, u1, u2) ≠ normP (t1, u1, u2') := by
              intro h
              unfold normP at h
              simp only [hte, if_true] at h
              injection h with _ h; injection h with _ h; exact e2 h
            clear e2
            have hn := Lib.hid (HNO.out hne)
            clear HST HNO
            go_wp2_with fail
            go_quiet (fail)
            go_wp2_with fail
            go_ret
            exact same_no hn.out (bel_drewN HBA.out _)
        · have b1 : (u1' == u1) = false := by rw [beq_eq_false_iff_ne]; exact Ne.symm e1
          have hne : normP (t1, u1, u2) ≠ normP (t1, u1', u2') := by
            intro h
            unfold normP at h
            simp only [hte, if_true] at h
            injection h with _ h; injection h with h _; exact e1 h
          clear e1
          have hn := Lib.hid (HNO.out hne)
          clear HST HNO
          go_wp2_with fail
          go_quiet (fail)
          go_wp2_with fail
          go_ret
          exact same_no hn.out (bel_drewN HBA.out _)
    · have hnI : ¬ (k : Int) < (WL.length : Int) := by have := HPL.out; omega
      have hI := HI.out
      rw [List.take_of_length_le (by simp; omega), List.take_of_length_le (by have := HPL.out; simp; omega)] at hI
      have HV := Lib.hid (HQ3.out.2 hI)
      clear hI HI
      go_wp2_with fail
      go_ret
      exact same_yes HV.out HBA.out
end Go.Proofs.YtaaefgieklkekaaGreatDoor
namespace Go.Proofs.YtaaefgieklkekaaGreatDoor
open Go.RowKit

theorem fieldOk_len {n l : List UInt8} (h : fieldOk n l = true) : n.length ≤ 200 ∧ l.length ≤ 8192 := by
  unfold fieldOk at h
  simp only [Bool.and_eq_true, decide_eq_true_eq] at h
  exact ⟨h.1.1.1.1, h.1.1.1.2⟩
set_option maxHeartbeats 16000000 in
set_option maxRecDepth 100000 in
theorem rright15_any (st sz : Int) (FA : Option Addr) (fk fc : Nat) (F : List FieldL) (PA : Option Addr) (pc pk : Nat) (P : List PartL) (w : World) (hpk : pk = P.length) (hfk : fk = F.length) (h : SpG encPt 3 w PA pc P) (hf : SpG encFd 2 w FA fc F) (hl : P.length ≤ 200) (hlf : F.length ≤ 1000) (hx : ∀ f ∈ F, f.1.length ≤ 100000 ∧ f.2.length ≤ 100000) (hpo : PtsOk P) :
    Calls Tryz.prog 22 #[.agg #[.int .i64 st, .slice FA fk fc, .slice PA pk pc, .int .i64 sz]] w (SameB (RightP st sz F P) w) := by
  have HFF := Lib.hid hf
  have HX := Lib.hid hx
  have HO := fun W (hp : SpG encPt 3 W PA pc P) (hf : SpG encFd 2 W FA fc F) => Lib.hid (rone_any st sz FA fk fc F PA pc pk P W hpk hfk hp hf (by omega) (by omega) (fun f hf => ⟨by have := (hx f hf).1; omega, by have := (hx f hf).2; omega⟩))
  have HS := fun (hok : ∀ f ∈ F, fieldOk f.1 f.2 = true) W (hp : SpG encPt 3 W PA pc P) (hf : SpG encFd 2 W FA fc F) => Lib.hid (rseveral_any st sz FA fk fc F PA pc pk P W hpk hfk hp hf hl (by omega) (fun f hf => ⟨by have := (hx f hf).1; omega, by have := (fieldOk_len (hok f hf)).2; omega⟩) hpo)
  have HH := Lib.hid h
  have HQ : Hid (RightP st sz F P ↔ ((∀ f ∈ F, fieldOk f.1 f.2 = true) ∧ (if st = 200 then wholeB sz P = true else if st = 206 then (oneB sz F P = true ∨ SevP sz F P) else (st = 304 ∨ (400 ≤ st ∧ st ≤ 599)) ∧ P.length = 0 ∧ sz = 0))) := Iff.rfl
  generalize RightP st sz F P = Q at HQ ⊢
  subst hfk hpk
  clear h hf hx hpo hl
  go_enter Tryz.func22, Tryz.ntmps22
  go_wp2_with fail
  obtain ⟨W0, hW0⟩ : ∃ W0, w.alloc (.cells #[.int .i64 st, .slice FA F.length fc, .slice PA P.length pc, .int .i64 sz] 43) = W0 := ⟨_, rfl⟩
  have HX0 : Hid (W0.heap[w.heap.size]? = some (.cells #[.int .i64 st, .slice FA F.length fc, .slice PA P.length pc, .int .i64 sz] 43 (0, 0))) := by simp only [Hid]; rw [← hW0]; exact blk_new rfl
  have HB0 : Hid (Below w.heap.size w W0) := by simp only [Hid]; rw [← hW0]; (repeat (first | exact Below.refl _ _ | refine bel_drewN ?_ _ | refine bel_drew ?_ | refine bel_alloc ?_ _ | refine bel_set ?_ (by simp) _))
  try rw [hW0]
  clear hW0
  go_loopw [4, 9] (fun _ i wr => ∃ k : Nat, k ≤ F.length ∧ i = .int .i64 (k : Int) ∧ (∀ f ∈ F.take k, fieldOk f.1 f.2 = true) ∧ Below W0.heap.size W0 wr) (fun _ i _ => F.length - (intOf i).toNat)
  case atStart => exact ⟨0, Nat.zero_le _, rfl, by simp, Below.refl _ _⟩
  case round =>
    obtain ⟨k, hk, rfl, hin, hbw⟩ := hrel
    have HI := Lib.hid hin
    have HBW := Lib.hid hbw
    have HBA := Lib.hid (bel_chain hbw HB0.out)
    clear hin hbw
    by_cases hlt : k < F.length
    · obtain ⟨b, off, e, hb, hc⟩ := (HFF.out.below HBA.out).at' k hlt
      have c0 := hc 0 _ rfl
      have c1 := hc 1 _ rfl
      simp only [Nat.add_zero] at c0
      have hmem := List.getElem_mem hlt
      have HST := Lib.hid (all_take (p := fun f : FieldL => fieldOk f.1 f.2) hlt HI.out)
      have HNO : Hid (fieldOk F[k].1 F[k].2 = false → ¬ Q) := fun hn hq => by
        have := (HQ.out.1 hq).1 _ hmem
        rw [hn] at this; cases this
      have HFR := fun W => Lib.hid (rfieldRight_any F[k].1 F[k].2 W (by have := (HX.out _ hmem).1; omega) (by have := (HX.out _ hmem).2; omega))
      obtain ⟨⟨n, l⟩, hy⟩ : ∃ x, F[k] = x := ⟨_, rfl⟩
      rw [hy] at c0 c1 HST HNO
      simp only [hy] at HFR
      simp only at c0 c1 HST HNO
      obtain ⟨ok, hok⟩ : ∃ b, fieldOk n l = b := ⟨_, rfl⟩
      rw [hok] at HST HNO
      simp only [hok] at HFR
      clear hy hc hmem hok
      rw [e]
      cases ok with
      | false =>
        have hn := Lib.hid (HNO.out rfl)
        clear HST HNO
        go_wp2_with (go_at_call 48; refine (HFR _).out.mono ?_; rintro e w1 ⟨rfl, hb1⟩)
        go_ret
        exact same_no hn.out (bel_chain hb1 (bel_alloc HBA.out _))
      | true =>
        have HST2 := Lib.hid (HST.out rfl)
        clear HST HNO
        go_wp2_with (go_at_call 48; refine (HFR _).out.mono ?_; rintro e w1 ⟨rfl, hb1⟩)
        go_roundw
        case rel => exact ⟨k + 1, by omega, by go_num, HST2.out, bel_chain hb1 (bel_alloc HBW.out _)⟩
        case measure => simp [intOf]; omega
    · have hke : k = F.length := by omega
      have hI := HI.out
      rw [hke, List.take_length] at hI
      have HQ2 : Hid (Q ↔ (if st = 200 then wholeB sz P = true else if st = 206 then (oneB sz F P = true ∨ SevP sz F P) else (st = 304 ∨ (400 ≤ st ∧ st ≤ 599)) ∧ P.length = 0 ∧ sz = 0)) := ⟨fun h => (HQ.out.1 h).2, fun h => HQ.out.2 ⟨hI, h⟩⟩
      have HXr := Lib.hid (blk_keep HBW.out HX0.out)
      have x0 := blk_cell (i := 0) HXr.out rfl
      have x1 := blk_cell (i := 1) HXr.out rfl
      have x2 := blk_cell (i := 2) HXr.out rfl
      have x3 := blk_cell (i := 3) HXr.out rfl
      have xz := blk_lt HXr.out
      have HHr := Lib.hid (HH.out.below HBA.out)
      have HFr := Lib.hid (HFF.out.below HBA.out)
      have HS := HS hI
      clear hI HI HQ
      by_cases h200 : st = 200
      · subst h200
        have HQ3 : Hid (Q ↔ wholeB sz P = true) := HQ2.out
        clear HQ2 HO HS
        cases P with
        | nil =>
          by_cases hz : -1 ≤ sz
          · have hy : Hid Q := HQ3.out.2 (by unfold wholeB; exact decide_eq_true hz)
            go_wp2_with fail
            go_ret
            exact same_yes hy.out HBA.out
          · have hn : Hid (¬ Q) := fun h => hz (by have := HQ3.out.1 h; unfold wholeB at this; exact of_decide_eq_true this)
            go_wp2_with fail
            go_ret
            exact same_no hn.out HBA.out
        | cons p r =>
        obtain ⟨b, off, e, hb, hc⟩ := HHr.out.at' 0 (by simp)
        have c0 := hc 0 _ rfl
        have c1 := hc 1 _ rfl
        have c2 := hc 2 _ rfl
        simp only [Nat.add_zero, Nat.zero_mul, List.getElem_cons_zero] at c0 c1 c2
        have hpos : (0 : Int) < ((p :: r).length : Int) := by simp only [List.length_cons]; omega
        have hne0 : (((p :: r).length : Int) == 0) = false := by rw [beq_eq_false_iff_ne]; omega
        have HV : Hid (wholeB sz (p :: r) = (r.isEmpty && p.1.isEmpty && okS p.2 && decide (p.2.1 = 0) && !decide (p.2.2 = 0) && (if p.2.2 = 4611686018427387904 then decide (sz = -1) else decide (sz = p.2.2)))) := rfl
        obtain ⟨V, hV⟩ : ∃ V, wholeB sz (p :: r) = V := ⟨_, rfl⟩
        rw [hV] at HV HQ3
        have HRL : Hid (r.isEmpty = decide (((p :: r).length : Int) ≤ 1)) := by
          simp only [Hid]
          cases r with
          | nil => rfl
          | cons x y => simp only [List.isEmpty_cons, List.length_cons]; rw [eq_comm, decide_eq_false_iff_not]; omega
        obtain ⟨m, hm⟩ : ∃ m, (p :: r).length = m := ⟨_, rfl⟩
        obtain ⟨re, hre⟩ : ∃ x, r.isEmpty = x := ⟨_, rfl⟩
        rw [hm] at HRL hpos hne0 x2 ⊢
        rw [hre] at HRL HV
        obtain ⟨t, z1, z2⟩ := p
        simp only at HV c0 c1 c2
        subst e
        have HBAA := Lib.hid HBA.out
        clear HH HHr HFr HX0 HXr hV hm hre hc
        have HR := fun W => Lib.hid (rright_any z1 z2 W)
        by_cases h1 : (m : Int) ≤ 1
        rotate_left
        · have hre : re = false := by rw [HRL.out, decide_eq_false h1]
          have h1' : (1 : Int) < (m : Int) := by omega
          rw [hre] at HV
          have hn : Hid (¬ Q) := fun h => by have := HQ3.out.1 h; rw [HV.out] at this; cases this
          clear h1 HRL hre
          go_wp2_with fail
          go_ret
          exact same_no hn.out (bel_alloc HBAA.out _)
        have hre : re = true := by rw [HRL.out, decide_eq_true h1]
        rw [hre] at HV
        clear HRL hre
        cases hte : t.isEmpty with
        | false =>
          rw [hte] at HV
          have hn : Hid (¬ Q) := fun h => by have := HQ3.out.1 h; rw [HV.out] at this; cases this
          go_wp2_with fail
          go_ret
          exact same_no hn.out (bel_alloc HBAA.out _)
        | true =>
        rw [hte] at HV
        cases hok : okS (z1, z2) with
        | false =>
          rw [hok] at HV HR
          have hn : Hid (¬ Q) := fun h => by have := HQ3.out.1 h; rw [HV.out] at this; cases this
          go_wp2_with (first
            | (go_at_call 49; refine (HR _).out.mono ?_; rintro e w1 ⟨rfl, n1, rfl⟩))
          go_ret
          exact same_no hn.out (by repeat (first | exact HBAA.out | refine bel_drewN ?_ _ | refine bel_drew ?_ | refine bel_alloc ?_ _))
        | true =>
        rw [hok] at HV HR
        by_cases hf : z1 = 0
        rotate_left
        · have hfb : (z1 != 0) = true := by rw [bne_iff_ne]; exact hf
          rw [decide_eq_false hf] at HV
          have hn : Hid (¬ Q) := fun h => by have := HQ3.out.1 h; rw [HV.out] at this; simp at this
          clear hf
          go_wp2_with (first
            | (go_at_call 49; refine (HR _).out.mono ?_; rintro e w1 ⟨rfl, n1, rfl⟩))
          go_ret
          exact same_no hn.out (by repeat (first | exact HBAA.out | refine bel_drewN ?_ _ | refine bel_drew ?_ | refine bel_alloc ?_ _))
        subst hf
        by_cases hz : z2 = 0
        · subst hz
          rw [decide_eq_true rfl] at HV
          have hn : Hid (¬ Q) := fun h => by have := HQ3.out.1 h; rw [HV.out] at this; simp at this
          go_wp2_with (first
            | (go_at_call 49; refine (HR _).out.mono ?_; rintro e w1 ⟨rfl, n1, rfl⟩))
          go_ret
          exact same_no hn.out (by repeat (first | exact HBAA.out | refine bel_drewN ?_ _ | refine bel_drew ?_ | refine bel_alloc ?_ _))
        have hzb : (z2 == 0) = false := by rw [beq_eq_false_iff_ne]; exact hz
        rw [decide_eq_true rfl, decide_eq_false hz] at HV
        clear hz
        by_cases ho : z2 = 4611686018427387904
        · subst ho
          rw [if_pos rfl] at HV
          have hso : (sz == 4611686018427387904) = true ∧ (sz != 4611686018427387904) = false ∨ (sz == 4611686018427387904) = false ∧ (sz != 4611686018427387904) = true := by
            by_cases h : sz = 4611686018427387904
            · exact .inl ⟨beq_iff_eq.2 h, bne_eq_false_iff_eq.2 h⟩
            · exact .inr ⟨beq_eq_false_iff_ne.2 h, bne_iff_ne.2 h⟩
          have HV2 : Hid (V = decide (sz = -1)) := by simp only [Hid]; rw [HV.out]; simp
          have hcs : ((sz == -1) = true ∧ Hid Q) ∨ ((sz == -1) = false ∧ Hid (¬ Q)) := by
            by_cases h : sz = -1
            · exact .inl ⟨beq_iff_eq.2 h, HQ3.out.2 (by rw [HV2.out]; exact decide_eq_true h)⟩
            · exact .inr ⟨beq_eq_false_iff_ne.2 h, fun hq => h (by have := HQ3.out.1 hq; rw [HV2.out] at this; exact of_decide_eq_true this)⟩
          clear HV HV2 HQ3
          rcases hcs with ⟨a1, hy⟩ | ⟨a1, hn⟩
          · rcases hso with ⟨s1, s2⟩ | ⟨s1, s2⟩
            · go_wp2_with (first
                | (go_at_call 49; refine (HR _).out.mono ?_; rintro e w1 ⟨rfl, n1, rfl⟩))
              go_ret
              exact same_yes hy.out (by repeat (first | exact HBAA.out | refine bel_drewN ?_ _ | refine bel_drew ?_ | refine bel_alloc ?_ _))
            · go_wp2_with (first
                | (go_at_call 49; refine (HR _).out.mono ?_; rintro e w1 ⟨rfl, n1, rfl⟩))
              go_ret
              exact same_yes hy.out (by repeat (first | exact HBAA.out | refine bel_drewN ?_ _ | refine bel_drew ?_ | refine bel_alloc ?_ _))
          · rcases hso with ⟨s1, s2⟩ | ⟨s1, s2⟩
            · go_wp2_with (first
                | (go_at_call 49; refine (HR _).out.mono ?_; rintro e w1 ⟨rfl, n1, rfl⟩))
              go_ret
              exact same_no hn.out (by repeat (first | exact HBAA.out | refine bel_drewN ?_ _ | refine bel_drew ?_ | refine bel_alloc ?_ _))
            · go_wp2_with (first
                | (go_at_call 49; refine (HR _).out.mono ?_; rintro e w1 ⟨rfl, n1, rfl⟩))
              go_ret
              exact same_no hn.out (by repeat (first | exact HBAA.out | refine bel_drewN ?_ _ | refine bel_drew ?_ | refine bel_alloc ?_ _))
        · have hob : (z2 == 4611686018427387904) = false := by rw [beq_eq_false_iff_ne]; exact ho
          rw [if_neg ho] at HV
          have HV2 : Hid (V = decide (sz = z2)) := by simp only [Hid]; rw [HV.out]; simp
          have hcs : ((sz == z2) = true ∧ (sz != 4611686018427387904) = true ∧ Hid Q) ∨ ((sz == z2) = false ∧ Hid (¬ Q)) := by
            by_cases h : sz = z2
            · exact .inl ⟨beq_iff_eq.2 h, bne_iff_ne.2 (by rw [h]; exact ho), HQ3.out.2 (by rw [HV2.out]; exact decide_eq_true h)⟩
            · exact .inr ⟨beq_eq_false_iff_ne.2 h, fun hq => h (by have := HQ3.out.1 hq; rw [HV2.out] at this; exact of_decide_eq_true this)⟩
          clear HV HV2 HQ3 ho
          rcases hcs with ⟨a1, a2, hy⟩ | ⟨a1, hn⟩
          · go_wp2_with (first
              | (go_at_call 49; refine (HR _).out.mono ?_; rintro e w1 ⟨rfl, n1, rfl⟩))
            go_ret
            exact same_yes hy.out (by repeat (first | exact HBAA.out | refine bel_drewN ?_ _ | refine bel_drew ?_ | refine bel_alloc ?_ _))
          · have hm1 : (sz == -1) = true ∨ (sz == -1) = false := by cases (sz == -1) <;> simp
            rcases hm1 with a2 | a2
            · go_wp2_with (first
                | (go_at_call 49; refine (HR _).out.mono ?_; rintro e w1 ⟨rfl, n1, rfl⟩))
              go_ret
              exact same_no hn.out (by repeat (first | exact HBAA.out | refine bel_drewN ?_ _ | refine bel_drew ?_ | refine bel_alloc ?_ _))
            · go_wp2_with (first
                | (go_at_call 49; refine (HR _).out.mono ?_; rintro e w1 ⟨rfl, n1, rfl⟩))
              go_ret
              exact same_no hn.out (by repeat (first | exact HBAA.out | refine bel_drewN ?_ _ | refine bel_drew ?_ | refine bel_alloc ?_ _))
      by_cases h206 : st = 206
      · subst h206
        have HQ3 : Hid (Q ↔ (oneB sz F P = true ∨ SevP sz F P)) := HQ2.out
        clear HQ2 h200
        obtain ⟨o1, ho1⟩ : ∃ b, oneB sz F P = b := ⟨_, rfl⟩
        rw [ho1] at HQ3
        simp only [ho1] at HO
        clear ho1
        cases o1 with
        | true =>
          have HQ4 : Hid Q := HQ3.out.2 (.inl rfl)
          go_wp2_with (go_at_call 50; refine (HO _ HHr.out HFr.out).out.mono ?_; rintro e w1 ⟨rfl, hb1⟩)
          go_ret
          exact same_yes HQ4.out (bel_chain hb1 HBA.out)
        | false =>
          have HQ4 : Hid (SevP sz F P ↔ Q) := ⟨fun h => HQ3.out.2 (.inr h), fun h => (HQ3.out.1 h).resolve_left (fun h => by cases h)⟩
          have HSS := fun W (hW : Below wr.heap.size wr W) => HS W (HHr.out.below hW) (HFr.out.below hW)
          clear HS HQ3
          go_wp2_with (first
            | (go_at_call 51; refine (HSS _ hb1).out.mono ?_; rintro e w2 ⟨⟨b2, rfl, hq2⟩, hb2⟩)
            | (go_at_call 50; refine (HO _ HHr.out HFr.out).out.mono ?_; rintro e w1 ⟨rfl, hb1⟩
               have z0 := cell_keep hb1 x0
               have z1 := cell_keep hb1 x1
               have z2 := cell_keep hb1 x2
               have z3 := cell_keep hb1 x3))
          go_ret
          exact same_of (hq2.trans HQ4.out) (bel_chain hb2 (bel_chain hb1 HBA.out))
      have HQ3 : Hid (Q ↔ ((st = 304 ∨ (400 ≤ st ∧ st ≤ 599)) ∧ P.length = 0 ∧ sz = 0)) := by simp only [Hid]; rw [HQ2.out, if_neg h200, if_neg h206]
      have b200 : (st == 200) = false := beq_eq_false_iff_ne.2 h200
      have b206 : (st == 206) = false := beq_eq_false_iff_ne.2 h206
      clear HQ2 h200 h206 HO HS
      by_cases hin : st = 304 ∨ (400 ≤ st ∧ st ≤ 599)
      · have HQ4 : Hid (Q ↔ (P.length = 0 ∧ sz = 0)) := ⟨fun h => (HQ3.out.1 h).2, fun h => HQ3.out.2 ⟨hin, h⟩⟩
        clear HQ3
        have hpz : ((P.length : Int) == 0) = true ∧ P.length = 0 ∨ ((P.length : Int) == 0) = false ∧ P.length ≠ 0 := by
          by_cases h : P.length = 0
          · exact .inl ⟨by rw [beq_iff_eq]; omega, h⟩
          · exact .inr ⟨by rw [beq_eq_false_iff_ne]; omega, h⟩
        have hsz : (sz == 0) = true ∧ sz = 0 ∨ (sz == 0) = false ∧ sz ≠ 0 := by
          by_cases h : sz = 0
          · exact .inl ⟨beq_iff_eq.2 h, h⟩
          · exact .inr ⟨beq_eq_false_iff_ne.2 h, h⟩
        have hst : (st == 304) = true ∨ (st == 304) = false ∧ (400 ≤ st) ∧ (st ≤ 599) := by
          by_cases h : st = 304
          · exact .inl (beq_iff_eq.2 h)
          · exact .inr ⟨beq_eq_false_iff_ne.2 h, hin.resolve_left h⟩
        clear hin
        rcases hpz with ⟨p1, p2⟩ | ⟨p1, p2⟩
        · rcases hsz with ⟨s1, s2⟩ | ⟨s1, s2⟩
          · have hy : Hid Q := HQ4.out.2 ⟨p2, s2⟩
            clear s2 p2
            rcases hst with t1 | ⟨t1, t2, t3⟩
            · go_wp2_with fail
              go_ret
              exact same_yes hy.out HBA.out
            · go_wp2_with fail
              go_ret
              exact same_yes hy.out HBA.out
          · have hn : Hid (¬ Q) := fun h => s2 (HQ4.out.1 h).2
            clear s2 p2
            rcases hst with t1 | ⟨t1, t2, t3⟩
            · go_wp2_with fail
              go_ret
              exact same_no hn.out HBA.out
            · go_wp2_with fail
              go_ret
              exact same_no hn.out HBA.out
        · have hn : Hid (¬ Q) := fun h => p2 (HQ4.out.1 h).1
          clear p2 hsz
          rcases hst with t1 | ⟨t1, t2, t3⟩
          · go_wp2_with fail
            go_ret
            exact same_no hn.out HBA.out
          · go_wp2_with fail
            go_ret
            exact same_no hn.out HBA.out
      · have hn : Hid (¬ Q) := fun h => hin (HQ3.out.1 h).1
        have hst : (st == 304) = false := by rw [beq_eq_false_iff_ne]; intro h; exact hin (.inl h)
        have h2 : ¬ 400 ≤ st ∨ 400 ≤ st ∧ ¬ st ≤ 599 := by
          by_cases h : 400 ≤ st
          · exact .inr ⟨h, fun h2 => hin (.inr ⟨h, h2⟩)⟩
          · exact .inl h
        clear hin
        rcases h2 with h2 | ⟨h2, h3⟩
        · go_wp2_with fail
          go_ret
          exact same_no hn.out HBA.out
        · go_wp2_with fail
          go_ret
          exact same_no hn.out HBA.out
end Go.Proofs.YtaaefgieklkekaaGreatDoor
namespace Go.Proofs.YtaaefgieklkekaaGreatDoor
open Go.RowKit

/-- How many bytes fields have, and parts' texts. -/
def sumF : List FieldL → Nat
  | [] => 0
  | f :: r => f.1.length + f.2.length + sumF r
def sumP : List PartL → Nat
  | [] => 0
  | p :: r => p.1.length + sumP r
theorem sumF_append : ∀ (a b : List FieldL), sumF (a ++ b) = sumF a + sumF b
  | [], b => by simp [sumF]
  | f :: r, b => by rw [List.cons_append, sumF, sumF, sumF_append r b]; omega
theorem sumP_append : ∀ (a b : List PartL), sumP (a ++ b) = sumP a + sumP b
  | [], b => by simp [sumP]
  | f :: r, b => by rw [List.cons_append, sumP, sumP, sumP_append r b]; omega
theorem sumF_take {F : List FieldL} {k : Nat} (h : k < F.length) : sumF (F.take (k + 1)) = sumF (F.take k) + (F[k].1.length + F[k].2.length) := by
  rw [List.take_succ_eq_append_getElem h, sumF_append]; simp [sumF]
theorem sumP_take {P : List PartL} {k : Nat} (h : k < P.length) : sumP (P.take (k + 1)) = sumP (P.take k) + P[k].1.length := by
  rw [List.take_succ_eq_append_getElem h, sumP_append]; simp [sumP]
theorem sumF_mem : ∀ {F : List FieldL} {f : FieldL}, f ∈ F → f.1.length + f.2.length ≤ sumF F
  | f :: r, g, h => by
    rw [sumF]
    rcases List.mem_cons.1 h with rfl | h
    · omega
    · have := sumF_mem h; omega
theorem sumP_mem : ∀ {P : List PartL} {p : PartL}, p ∈ P → p.1.length ≤ sumP P
  | f :: r, g, h => by
    rw [sumP]
    rcases List.mem_cons.1 h with rfl | h
    · omega
    · have := sumP_mem h; omega
theorem sumF_le {n : Nat} : ∀ (F : List FieldL), (∀ f ∈ F, f.1.length ≤ n ∧ f.2.length ≤ n) → sumF F ≤ F.length * (2 * n)
  | [], _ => by simp [sumF]
  | f :: r, h => by
    have h1 := h f (by simp)
    have h2 := sumF_le r fun x hx => h x (by simp [hx])
    rw [sumF, List.length_cons, Nat.succ_mul]; omega
theorem sumP_le {n : Nat} : ∀ (P : List PartL), (∀ p ∈ P, p.1.length ≤ n) → sumP P ≤ P.length * n
  | [], _ => by simp [sumP]
  | f :: r, h => by
    have h1 := h f (by simp)
    have h2 := sumP_le r fun x hx => h x (by simp [hx])
    rw [sumP, List.length_cons, Nat.succ_mul]; omega
/-- What a small answer is. -/
structure SmallA (F : List FieldL) (P : List PartL) : Prop where
  fl : F.length ≤ 40
  pl : P.length ≤ 80
  fs : ∀ f ∈ F, f.1.length ≤ 20000 ∧ f.2.length ≤ 20000
  ps : ∀ p ∈ P, p.1.length ≤ 20000 ∧ p.2.1 ≤ 1099511627776 ∧ (p.2.2 ≤ 1099511627776 ∨ p.2.2 = 4611686018427387904)
def ptLow (p : PartL) : Bool := (decide (p.2.2 ≤ 1099511627776) || decide (p.2.2 = 4611686018427387904)) && decide (p.2.1 ≤ 1099511627776)
theorem smallA_of {F : List FieldL} {P : List PartL} (h1 : F.length ≤ 40) (h2 : P.length ≤ 80) (h3 : ∀ p ∈ P, ptLow p = true) (h4 : sumF F + sumP P ≤ 20000) : SmallA F P := by
  refine ⟨h1, h2, fun f hf => ?_, fun p hp => ?_⟩
  · have := sumF_mem hf; omega
  · have := sumP_mem hp
    have h := h3 p hp
    unfold ptLow at h
    simp only [Bool.and_eq_true, Bool.or_eq_true, decide_eq_true_eq] at h
    exact ⟨by omega, h.2, h.1⟩
set_option maxHeartbeats 8000000 in
set_option maxRecDepth 100000 in
theorem rsmall15_any (st sz : Int) (FA : Option Addr) (fk fc : Nat) (F : List FieldL) (PA : Option Addr) (pc pk : Nat) (P : List PartL) (w : World) (hpk : pk = P.length) (hfk : fk = F.length) (h : SpG encPt 3 w PA pc P) (hf : SpG encFd 2 w FA fc F) (hl : P.length ≤ 1000000000000000) (hlf : F.length ≤ 1000000000000000) (hx : ∀ f ∈ F, f.1.length ≤ 1000000000000000 ∧ f.2.length ≤ 1000000000000000) (hy : ∀ p ∈ P, p.1.length ≤ 1000000000000000) :
    Calls Tryz.prog 21 #[.agg #[.int .i64 st, .slice FA fk fc, .slice PA pk pc, .int .i64 sz]] w (ImpPost (SmallA F P) w) := by
  subst hfk hpk
  have HH := Lib.hid h
  have HFF := Lib.hid hf
  have HX := Lib.hid hx
  have HY := Lib.hid hy
  clear h hf hx hy
  by_cases hfew : F.length ≤ 40 ∧ P.length ≤ 80
  rotate_left
  · have hlast : ¬ (F.length : Int) ≤ 40 ∨ (F.length : Int) ≤ 40 ∧ ¬ (P.length : Int) ≤ 80 := by
      by_cases h1 : F.length ≤ 40
      · exact .inr ⟨by omega, fun h => hfew ⟨h1, by omega⟩⟩
      · exact .inl (by omega)
    clear hfew
    go_enter Tryz.func21, Tryz.ntmps21
    go_wp2_with fail
    obtain ⟨W0, hW0⟩ : ∃ W0, w.alloc (.cells #[.int .i64 st, .slice FA F.length fc, .slice PA P.length pc, .int .i64 sz] 43) = W0 := ⟨_, rfl⟩
    have HX0 : Hid (W0.heap[w.heap.size]? = some (.cells #[.int .i64 st, .slice FA F.length fc, .slice PA P.length pc, .int .i64 sz] 43 (0, 0))) := by simp only [Hid]; rw [← hW0]; exact blk_new rfl
    have HB0 : Hid (Below w.heap.size w W0) := by simp only [Hid]; rw [← hW0]; (repeat (first | exact Below.refl _ _ | refine bel_drewN ?_ _ | refine bel_drew ?_ | refine bel_alloc ?_ _ | refine bel_set ?_ (by simp) _))
    try rw [hW0]
    clear hW0
    go_loopw [3, 5, 11] (fun n _ i wr => ∃ (k : Nat) (q : Int), k ≤ F.length ∧ n = .int .i64 q ∧ i = .int .i64 (k : Int) ∧ Below W0.heap.size W0 wr) (fun _ _ i _ => F.length - (intOf i).toNat)
    case atStart => exact ⟨0, 0, Nat.zero_le _, rfl, rfl, Below.refl _ _⟩
    case round =>
      obtain ⟨k, q, hk, rfl, rfl, hbw⟩ := hrel
      have HBW := Lib.hid hbw
      have HBA := Lib.hid (bel_chain hbw HB0.out)
      clear hbw
      by_cases hlt : k < F.length
      · obtain ⟨b, off, e, hb, hc⟩ := (HFF.out.below HBA.out).at' k hlt
        have c0 := hc 0 _ rfl
        have c1 := hc 1 _ rfl
        simp only [Nat.add_zero] at c0
        obtain ⟨⟨n, l⟩, hy⟩ : ∃ x, F[k] = x := ⟨_, rfl⟩
        rw [hy] at c0 c1
        simp only at c0 c1
        clear hy hc
        rw [e]
        go_wp2_with fail
        go_roundw
        case rel => exact ⟨k + 1, _, by omega, rfl, by go_num, bel_alloc HBW.out _⟩
        case measure => simp [intOf]; omega
      · have HXr := Lib.hid (blk_keep HBW.out HX0.out)
        have x1 := blk_cell (i := 1) HXr.out rfl
        have x2 := blk_cell (i := 2) HXr.out rfl
        have xz := blk_lt HXr.out
        go_wp2_with fail
        go_loopw [3, 7, 28] (fun n _ i wr' => ∃ (k : Nat) (q : Int), k ≤ P.length ∧ n = .int .i64 q ∧ i = .int .i64 (k : Int) ∧ Below wr.heap.size wr wr') (fun _ _ i _ => P.length - (intOf i).toNat)
        case atStart => exact ⟨0, q, Nat.zero_le _, rfl, rfl, Below.refl _ _⟩
        case round =>
          obtain ⟨j, q', hj, rfl, rfl, hbw'⟩ := hrel
          have HBW' := Lib.hid hbw'
          have HBA' := Lib.hid (bel_chain hbw' HBA.out)
          have HXr' := Lib.hid (blk_keep hbw' HXr.out)
          clear hbw' x1 x2 xz
          have x1 := blk_cell (i := 1) HXr'.out rfl
          have x2 := blk_cell (i := 2) HXr'.out rfl
          have xz := blk_lt HXr'.out
          by_cases hlt' : j < P.length
          · obtain ⟨b, off, e, hb, hc⟩ := (HH.out.below HBA'.out).at' j hlt'
            have c0 := hc 0 _ rfl
            have c1 := hc 1 _ rfl
            have c2 := hc 2 _ rfl
            simp only [Nat.add_zero] at c0
            obtain ⟨⟨t, y1, y2⟩, hy⟩ : ∃ x, P[j] = x := ⟨_, rfl⟩
            rw [hy] at c0 c1 c2
            simp only at c0 c1 c2
            clear hy hc
            rw [e]
            have hcase : (1099511627776 < y2 ∧ (y2 != 4611686018427387904) = true) ∨ ((1099511627776 < y2 ∧ (y2 != 4611686018427387904) = false) ∨ ¬ 1099511627776 < y2) := by
              by_cases h1 : 1099511627776 < y2
              · by_cases h2 : y2 = 4611686018427387904
                · exact .inr (.inl ⟨h1, by rw [bne_eq_false_iff_eq]; exact h2⟩)
                · exact .inl ⟨h1, by rw [bne_iff_ne]; exact h2⟩
              · exact .inr (.inr h1)
            have hlow : (1099511627776 < y1) ∨ ¬ (1099511627776 < y1) := Classical.em _
            rcases hcase with ⟨a1, a2⟩ | hcase
            · clear hlow
              go_wp2_with fail
              go_ret
              exact imp_no (bel_alloc HBA'.out _)
            · rcases hlow with b1 | b1
              · rcases hcase with ⟨a1, a2⟩ | a1
                · go_wp2_with fail
                  go_ret
                  exact imp_no (bel_alloc HBA'.out _)
                · go_wp2_with fail
                  go_ret
                  exact imp_no (bel_alloc HBA'.out _)
              · rcases hcase with ⟨a1, a2⟩ | a1
                · go_wp2_with fail
                  go_roundw
                  case rel => exact ⟨j + 1, _, by omega, rfl, by go_num, bel_alloc HBW'.out _⟩
                  case measure => simp [intOf]; omega
                · go_wp2_with fail
                  go_roundw
                  case rel => exact ⟨j + 1, _, by omega, rfl, by go_num, bel_alloc HBW'.out _⟩
                  case measure => simp [intOf]; omega
          · rcases hlast with a1 | ⟨a1, a2⟩
            · go_wp2_with fail
              go_ret
              exact imp_no HBA'.out
            · go_wp2_with fail
              go_ret
              exact imp_no HBA'.out
  obtain ⟨hf40, hp80⟩ := hfew
  have hF40 : (F.length : Int) ≤ 40 := by omega
  have hP80 : (P.length : Int) ≤ 80 := by omega
  have hsF : ∀ k, sumF (F.take k) ≤ 40 * (2 * 1000000000000000) := fun k => Nat.le_trans (sumF_le (n := 1000000000000000) _ fun f hf => HX.out f (List.mem_of_mem_take hf)) (Nat.mul_le_mul (by rw [List.length_take]; omega) (Nat.le_refl _))
  have hsP : ∀ k, sumP (P.take k) ≤ 80 * 1000000000000000 := fun k => Nat.le_trans (sumP_le (n := 1000000000000000) _ fun f hf => HY.out f (List.mem_of_mem_take hf)) (Nat.mul_le_mul (by rw [List.length_take]; omega) (Nat.le_refl _))
  have HSF := Lib.hid hsF
  have HSP := Lib.hid hsP
  clear hsF hsP
  go_enter Tryz.func21, Tryz.ntmps21
  go_wp2_with fail
  obtain ⟨W0, hW0⟩ : ∃ W0, w.alloc (.cells #[.int .i64 st, .slice FA F.length fc, .slice PA P.length pc, .int .i64 sz] 43) = W0 := ⟨_, rfl⟩
  have HX0 : Hid (W0.heap[w.heap.size]? = some (.cells #[.int .i64 st, .slice FA F.length fc, .slice PA P.length pc, .int .i64 sz] 43 (0, 0))) := by simp only [Hid]; rw [← hW0]; exact blk_new rfl
  have HB0 : Hid (Below w.heap.size w W0) := by simp only [Hid]; rw [← hW0]; (repeat (first | exact Below.refl _ _ | refine bel_drewN ?_ _ | refine bel_drew ?_ | refine bel_alloc ?_ _ | refine bel_set ?_ (by simp) _))
  try rw [hW0]
  clear hW0
  go_loopw [3, 5, 11] (fun n _ i wr => ∃ (k q : Nat), k ≤ F.length ∧ n = .int .i64 (q : Int) ∧ q = sumF (F.take k) ∧ i = .int .i64 (k : Int) ∧ Below W0.heap.size W0 wr) (fun _ _ i _ => F.length - (intOf i).toNat)
  case atStart => exact ⟨0, 0, Nat.zero_le _, rfl, rfl, rfl, Below.refl _ _⟩
  case round =>
    obtain ⟨k, q, hk, rfl, hq, rfl, hbw⟩ := hrel
    have HBW := Lib.hid hbw
    have HBA := Lib.hid (bel_chain hbw HB0.out)
    have HQ := Lib.hid hq
    have hqb : q ≤ 80000000000000000 := by rw [hq]; have := HSF.out k; omega
    clear hbw hq
    by_cases hlt : k < F.length
    · obtain ⟨b, off, e, hb, hc⟩ := (HFF.out.below HBA.out).at' k hlt
      have c0 := hc 0 _ rfl
      have c1 := hc 1 _ rfl
      simp only [Nat.add_zero] at c0
      have HT := Lib.hid (sumF_take hlt)
      have hmx := HX.out _ (List.getElem_mem hlt)
      obtain ⟨⟨n, l⟩, hy⟩ : ∃ x, F[k] = x := ⟨_, rfl⟩
      rw [hy] at c0 c1 hmx HT
      simp only at c0 c1 hmx HT
      have hz1 : (⟨n.toArray⟩ : ByteArray).size = n.length := ba_size n
      have hz2 : (⟨l.toArray⟩ : ByteArray).size = l.length := ba_size l
      clear hy hc
      rw [e]
      go_wp2_with fail
      go_roundw
      case rel => exact ⟨k + 1, q + n.length + l.length, by omega, by go_num, by rw [HT.out, HQ.out]; omega, by go_num, bel_alloc HBW.out _⟩
      case measure => simp [intOf]; omega
    · have hke : k = F.length := by omega
      have HQ0 : Hid (q = sumF F) := by simp only [Hid]; rw [HQ.out, hke, List.take_length]
      have HXr := Lib.hid (blk_keep HBW.out HX0.out)
      have x1 := blk_cell (i := 1) HXr.out rfl
      have x2 := blk_cell (i := 2) HXr.out rfl
      have xz := blk_lt HXr.out
      clear HQ hke
      go_wp2_with fail
      go_loopw [3, 7, 28] (fun n _ i wr' => ∃ (k q' : Nat), k ≤ P.length ∧ n = .int .i64 (q' : Int) ∧ q' = q + sumP (P.take k) ∧ (∀ p ∈ P.take k, ptLow p = true) ∧ i = .int .i64 (k : Int) ∧ Below wr.heap.size wr wr') (fun _ _ i _ => P.length - (intOf i).toNat)
      case atStart => exact ⟨0, q, Nat.zero_le _, rfl, by simp [sumP], by simp, rfl, Below.refl _ _⟩
      case round =>
        obtain ⟨j, q', hj, rfl, hq', hlo, rfl, hbw'⟩ := hrel
        have HBW' := Lib.hid hbw'
        have HBA' := Lib.hid (bel_chain hbw' HBA.out)
        have HXr' := Lib.hid (blk_keep hbw' HXr.out)
        have HLO := Lib.hid hlo
        have HQ' := Lib.hid hq'
        have hqb' : q' ≤ 160000000000000000 := by rw [hq']; have := HSP.out j; omega
        clear hbw' x1 x2 xz hlo hq'
        have x1 := blk_cell (i := 1) HXr'.out rfl
        have x2 := blk_cell (i := 2) HXr'.out rfl
        have xz := blk_lt HXr'.out
        by_cases hlt' : j < P.length
        · obtain ⟨b, off, e, hb, hc⟩ := (HH.out.below HBA'.out).at' j hlt'
          have c0 := hc 0 _ rfl
          have c1 := hc 1 _ rfl
          have c2 := hc 2 _ rfl
          simp only [Nat.add_zero] at c0
          have HT := Lib.hid (sumP_take hlt')
          have hmx := HY.out _ (List.getElem_mem hlt')
          have HST := Lib.hid (all_take (p := ptLow) hlt' HLO.out)
          obtain ⟨⟨t, y1, y2⟩, hy⟩ : ∃ x, P[j] = x := ⟨_, rfl⟩
          rw [hy] at c0 c1 c2 hmx HT HST
          simp only at c0 c1 c2 hmx HT HST
          have hz1 : (⟨t.toArray⟩ : ByteArray).size = t.length := ba_size t
          clear hy hc
          rw [e]
          have HPL : Hid (ptLow (t, y1, y2) = ((decide (y2 ≤ 1099511627776) || decide (y2 = 4611686018427387904)) && decide (y1 ≤ 1099511627776))) := rfl
          have hcase : (1099511627776 < y2 ∧ (y2 != 4611686018427387904) = true) ∨ ((1099511627776 < y2 ∧ (y2 != 4611686018427387904) = false) ∨ ¬ 1099511627776 < y2) := by
            by_cases h1 : 1099511627776 < y2
            · by_cases h2 : y2 = 4611686018427387904
              · exact .inr (.inl ⟨h1, by rw [bne_eq_false_iff_eq]; exact h2⟩)
              · exact .inl ⟨h1, by rw [bne_iff_ne]; exact h2⟩
            · exact .inr (.inr h1)
          have hlow : (1099511627776 < y1) ∨ ¬ (1099511627776 < y1) := Classical.em _
          rcases hcase with ⟨a1, a2⟩ | hcase
          · clear hlow
            go_wp2_with fail
            go_ret
            exact imp_no (bel_alloc HBA'.out _)
          · rcases hlow with b1 | b1
            · rcases hcase with ⟨a1, a2⟩ | a1
              · go_wp2_with fail
                go_ret
                exact imp_no (bel_alloc HBA'.out _)
              · go_wp2_with fail
                go_ret
                exact imp_no (bel_alloc HBA'.out _)
            · rcases hcase with ⟨a1, a2⟩ | a1
              · have HG : Hid (ptLow (t, y1, y2) = true) := by
                  simp only [Hid]; rw [HPL.out]
                  have := bne_eq_false_iff_eq.1 a2
                  simp only [Bool.and_eq_true, Bool.or_eq_true, decide_eq_true_eq]
                  exact ⟨.inr this, by omega⟩
                go_wp2_with fail
                go_roundw
                case rel => exact ⟨j + 1, q' + t.length, by omega, by go_num, by rw [HT.out, HQ'.out]; omega, HST.out HG.out, by go_num, bel_alloc HBW'.out _⟩
                case measure => simp [intOf]; omega
              · have HG : Hid (ptLow (t, y1, y2) = true) := by
                  simp only [Hid]; rw [HPL.out]
                  simp only [Bool.and_eq_true, Bool.or_eq_true, decide_eq_true_eq]
                  exact ⟨.inl (by omega), by omega⟩
                go_wp2_with fail
                go_roundw
                case rel => exact ⟨j + 1, q' + t.length, by omega, by go_num, by rw [HT.out, HQ'.out]; omega, HST.out HG.out, by go_num, bel_alloc HBW'.out _⟩
                case measure => simp [intOf]; omega
        · have hje : j = P.length := by omega
          have hlo := HLO.out
          have hq' := HQ'.out
          rw [hje, List.take_length] at hlo hq'
          by_cases hn : q' ≤ 20000
          · have hn' : (q' : Int) ≤ 20000 := by omega
            have HS := Lib.hid (smallA_of hf40 hp80 hlo (by have := HQ0.out; omega))
            clear hlo hq' hn hje
            go_wp2_with fail
            go_ret
            exact imp_yes HS.out HBA'.out
          · have hn' : ¬ (q' : Int) ≤ 20000 := by omega
            clear hlo hq' hn hje
            go_wp2_with fail
            go_ret
            exact imp_no HBA'.out
end Go.Proofs.YtaaefgieklkekaaGreatDoor
namespace Go.Proofs.YtaaefgieklkekaaGreatDoor
open Go.RowKit

set_option maxHeartbeats 4000000 in
set_option maxRecDepth 100000 in
theorem ranged206_any (st sz : Int) (FA : Option Addr) (fk fc : Nat) (PA : Option Addr) (pc pk : Nat) (w : World) :
    Calls Tryz.prog 23 #[.agg #[.int .i64 st, .slice FA fk fc, .slice PA pk pc, .int .i64 sz]] w fun e w' => e = .returned (.bool (st == 206)) ∧ Below w.heap.size w w' := by
  go_enter Tryz.func23, Tryz.ntmps23
  go_wp2_with fail
  go_ret
  exact ⟨rfl, by (repeat (first | exact Below.refl _ _ | refine bel_drewN ?_ _ | refine bel_drew ?_ | refine bel_alloc ?_ _ | refine bel_set ?_ (by simp) _))⟩
set_option maxHeartbeats 16000000 in
set_option maxRecDepth 100000 in
theorem shapeRightLaw_any (st sz : Int) (FA : Option Addr) (fk fc : Nat) (F : List FieldL) (PA : Option Addr) (pc pk : Nat) (P : List PartL) (w : World) (hpk : pk = P.length) (hfk : fk = F.length) (h : SpG encPt 3 w PA pc P) (hf : SpG encFd 2 w FA fc F) (hl : P.length ≤ 1000000000000000) (hlf : F.length ≤ 1000000000000000) (hx : ∀ f ∈ F, f.1.length ≤ 1000000000000000 ∧ f.2.length ≤ 1000000000000000) (hy : ∀ p ∈ P, p.1.length ≤ 1000000000000000) (hE : EnvR w) :
    Calls Tryz.prog 7 #[.agg #[.int .i64 st, .slice FA fk fc, .slice PA pk pc, .int .i64 sz]] w fun e w' => e = .returned (.bool true) ∧ Below w.heap.size w w' := by
  have HH := Lib.hid h
  have HFF := Lib.hid hf
  have HEE := Lib.hid hE
  have HA := fun W (hW : EnvR W) => Lib.hid (alive_any W hW.env)
  have HSM := fun W (hp : SpG encPt 3 W PA pc P) (hf : SpG encFd 2 W FA fc F) => Lib.hid (rsmall15_any st sz FA fk fc F PA pc pk P W hpk hfk hp hf hl hlf hx hy)
  have HR1 := fun (hs : SmallA F P) W (hp : SpG encPt 3 W PA pc P) (hf : SpG encFd 2 W FA fc F) (hE : EnvR W) => Lib.hid (shapeRight_any st sz FA fk fc F PA pc pk P W hpk hfk hp hf (by have := hs.pl; omega) (by have := hs.fl; omega) (fun f hf => by have := hs.fs f hf; omega) (fun p hp => by have := hs.ps p hp; omega) hE)
  have HR2 := fun (hs : SmallA F P) W (hp : SpG encPt 3 W PA pc P) (hf : SpG encFd 2 W FA fc F) => Lib.hid (rright15_any st sz FA fk fc F PA pc pk P W hpk hfk hp hf (by have := hs.pl; omega) (by have := hs.fl; omega) (fun f hf => by have := hs.fs f hf; omega) (fun p hp => by have := hs.ps p hp; omega))
  have HS1 := fun (hs : SmallA F P) W (hp : SpG encPt 3 W PA pc P) => Lib.hid (spans_any st sz FA fk fc PA pc pk P W hpk hp (by have := hs.pl; omega))
  have HS2 := fun (hs : SmallA F P) W (hp : SpG encPt 3 W PA pc P) => Lib.hid (rspans15_any st sz FA fk fc PA pc pk P W hpk hp (by have := hs.pl; omega))
  have HRG := fun W => Lib.hid (ranged206_any st sz FA fk fc PA pc pk W)
  have hsl := fun (hs : SmallA F P) => Nat.le_trans (spansL_len P) hs.pl
  have HLI : SmallA F P → ∀ A c A' c' W, Sp W A c (spansL P) → Sp W A' c' (spansL P) → Hid (Calls Tryz.prog 14 #[.slice A (spansL P).length c, .slice A' (spansL P).length c'] W fun e w' => e = .returned (.bool true) ∧ Below W.heap.size W w') := fun hs A c A' c' W h h' => Lib.hid (rlist_same A c (spansL P) A' c' W h h' (by have := hsl hs; omega))
  generalize RightP st sz F P = Q at HR1 HR2
  generalize spansL P = S at HS1 HS2 HLI
  unfold RetSp at HS1 HS2
  subst hfk hpk
  clear h hf hx hy hE hsl
  go_enter Tryz.func7, Tryz.ntmps7
  go_wp2_with (go_at_call 9; refine (HA _ (HEE.out.below (bel_alloc (Below.refl _ _) _))).out.mono ?_; rintro e w1 ⟨rfl, hb1⟩
               have HX1 : Hid (w1.heap[w.heap.size]? = some (.cells #[.int .i64 st, .slice FA F.length fc, .slice PA P.length pc, .int .i64 sz] 43 (0, 0))) := blk_keep hb1 (blk_new rfl)
               have HB1 := Lib.hid (bel_chain hb1 (bel_alloc (Below.refl _ _) _))
               have y0 := blk_cell (i := 0) HX1.out rfl
               have y1 := blk_cell (i := 1) HX1.out rfl
               have y2 := blk_cell (i := 2) HX1.out rfl
               have y3 := blk_cell (i := 3) HX1.out rfl)
  refine (HSM _ (HH.out.below HB1.out) (HFF.out.below HB1.out)).out.mono ?_
  rintro e w2 ⟨b, rfl, hq, hb2⟩
  have HX2 := Lib.hid (blk_keep hb2 HX1.out)
  have HB2 := Lib.hid (bel_chain hb2 HB1.out)
  have HQ := Lib.hid hq
  clear hb1 hb2 HX1 HB1 hq y0 y1 y2 y3 HA HSM
  have x0 := blk_cell (i := 0) HX2.out rfl
  have x1 := blk_cell (i := 1) HX2.out rfl
  have x2 := blk_cell (i := 2) HX2.out rfl
  have x3 := blk_cell (i := 3) HX2.out rfl
  have xz := blk_lt HX2.out
  cases b with
  | false =>
    clear HR1 HR2 HS1 HS2 HLI HRG
    go_wp2_with fail
    go_ret
    exact ⟨rfl, HB2.out⟩
  | true =>
  have HR1 := HR1 (HQ.out rfl)
  have HR2 := HR2 (HQ.out rfl)
  have HS1 := HS1 (HQ.out rfl)
  have HS2 := HS2 (HQ.out rfl)
  have HLI := HLI (HQ.out rfl)
  have HP2 := fun W (hW : Below w2.heap.size w2 W) => HH.out.below (bel_chain hW HB2.out)
  have HF2 := fun W (hW : Below w2.heap.size w2 W) => HFF.out.below (bel_chain hW HB2.out)
  have HE2 := fun W (hW : Below w2.heap.size w2 W) => HEE.out.below (bel_chain hW HB2.out)
  clear HQ
  go_upto_region 5 with fail
  go_region_held3 (fun w' => w'.cell? ⟨w.heap.size, 0, none⟩ = some (.int .i64 st) ∧ w'.cell? ⟨w.heap.size, 1, none⟩ = some (.slice FA F.length fc) ∧ w'.cell? ⟨w.heap.size, 2, none⟩ = some (.slice PA P.length pc) ∧ w'.cell? ⟨w.heap.size, 3, none⟩ = some (.int .i64 sz))
    (first | exact ⟨f0, f1, f2, f3⟩ | exact ⟨a0, a1, a2, a3⟩ | exact ⟨b0, b1, b2, b3⟩ | exact ⟨c0, c1, c2, c3⟩ | exact ⟨d0, d1, d2, d3⟩ | exact ⟨e0, e1, e2, e3⟩ | exact ⟨x0, x1, x2, x3⟩ | fail)
    (first
      | (go_at_call 14; refine (HLI A6 c6 A7 c7 _ (hs6.sp.below hb7) hs7.sp).out.mono ?_; rintro e w8 ⟨rfl, hb8⟩
         have f0 := cell_keep hb8 a0; have f1 := cell_keep hb8 a1; have f2 := cell_keep hb8 a2; have f3 := cell_keep hb8 a3)
      | (go_at_call 24; refine (HS2 _ (HP2 _ hv6)).out.mono ?_; rintro e w7 ⟨A7, c7, rfl, hs7, hb7⟩
         have hv7 := bel_chain hb7 hv6
         have a0 := cell_keep hb7 b0; have a1 := cell_keep hb7 b1; have a2 := cell_keep hb7 b2; have a3 := cell_keep hb7 b3)
      | (go_at_call 15; refine (HS1 _ (HP2 _ hv5)).out.mono ?_; rintro e w6 ⟨A6, c6, rfl, hs6, hb6⟩
         have hv6 := bel_chain hb6 hv5
         have b0 := cell_keep hb6 c0; have b1 := cell_keep hb6 c1; have b2 := cell_keep hb6 c2; have b3 := cell_keep hb6 c3)
      | (go_at_call 23; refine (HRG _).out.mono ?_; rintro e w5 ⟨rfl, hb5⟩
         have hv5 := bel_chain hb5 hv4
         have c0 := cell_keep hb5 d0; have c1 := cell_keep hb5 d1; have c2 := cell_keep hb5 d2; have c3 := cell_keep hb5 d3)
      | (go_at_call 22; refine (HR2 _ (HP2 _ hv3) (HF2 _ hv3)).out.mono ?_; rintro e w4 ⟨⟨v4, rfl, hq4⟩, hb4⟩
         obtain rfl : v3 = v4 := Bool.eq_iff_iff.2 (hq3.trans hq4.symm)
         clear hq4
         have hv4 := bel_chain hb4 hv3
         have d0 := cell_keep hb4 e0; have d1 := cell_keep hb4 e1; have d2 := cell_keep hb4 e2; have d3 := cell_keep hb4 e3)
      | (go_at_call 16; refine (HR1 _ (HP2 _ (by first | exact bel_drew (Below.refl _ _) | exact bel_drewN (Below.refl _ _) _)) (HF2 _ (by first | exact bel_drew (Below.refl _ _) | exact bel_drewN (Below.refl _ _) _)) (HE2 _ (by first | exact bel_drew (Below.refl _ _) | exact bel_drewN (Below.refl _ _) _))).out.mono ?_; rintro e w3 ⟨⟨v3, rfl, hq3⟩, hb3⟩
         have hv3 : Below w2.heap.size w2 w3 := bel_chain hb3 (by first | exact bel_drew (Below.refl _ _) | exact bel_drewN (Below.refl _ _) _)
         have e0 := cell_keep hb3 x0; have e1 := cell_keep hb3 x1; have e2 := cell_keep hb3 x2; have e3 := cell_keep hb3 x3))
  go_wp2_with fail
  go_ret
  exact ⟨rfl, bel_chain hb8 (bel_chain hv7 HB2.out)⟩
end Go.Proofs.YtaaefgieklkekaaGreatDoor
