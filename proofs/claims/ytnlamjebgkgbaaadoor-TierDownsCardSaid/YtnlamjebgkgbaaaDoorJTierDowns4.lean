/- Contract of Tier.Parent. The reference's tier: how many may be, and what goes down. A tier is kept when the reference's block changes. The reference's tier is kept when the tier's map changes. The law's light. What a row's operations leave: the tier's map and the reference's list, and that they agree. tier.New of numbers that do not fit. The law's made, at numbers that do not fit. The law's made, at numbers that fit. Plain laws of the tier: the parents in the order of their first points, and who is the first that is up. The law's awake (chapter 48): the document's example is asked as the document says. A tier that stays: its calls one by one; and what shape.Fail tells of 404. The walk of TierDowns: one that goes down leaves the others' objects. TierDowns answers true whatever comes in. From a row's reading to what the walks ask: slices of spans and spans that came in, and the row's last step where of the world behind the call only 'Below' is known. From a row's reading to what the walks ask: slices of any rows; a tier with its operations. -/
import Derived.Test.YtnlamjebgkgbaaaDoorJTierDowns3
import Derived.Test.YtnlamjebgkgbaaaDoorJTierDowns2
import Derived.Deep.RegionHeld3
import Derived.Deep.DeepCutAuto
import Derived.ProofKit
import Derived.ChangeSame
import Derived.OpenShut
import Derived.Deep.DeepHandedRow
import Derived.Deep.Slices
import Derived.ChangeMaps5
namespace Go.Proofs.YtnlamjebgkgbaaaDoor
open Go.RowKit Go.Shelf Go.Sort

def upN (D : List (Int × Bool)) (p : Nat) : Bool := upB D (p : Int)
/-- The first that is up. -/
def firstUp (D : List (Int × Bool)) (Ps : List Nat) : Int × Bool := match Ps.find? (upN D) with
  | some p => ((p : Int), true)
  | none => (0, false)
theorem firstUp_at {D : List (Int × Bool)} {Ps : List Nat} {k : Nat} (hk : k < Ps.length) (h : ∀ p ∈ Ps.take k, upN D p = false) (hu : upN D Ps[k] = true) : firstUp D Ps = ((Ps[k] : Int), true) := by
  have hf : Ps.find? (upN D) = some Ps[k] := by
    conv => lhs; rw [← List.take_append_drop k Ps, List.drop_eq_getElem_cons hk]
    rw [List.find?_append, List.find?_eq_none.2 (fun p hp => by rw [h p hp]; simp), List.find?_cons, hu]
    rfl
  unfold firstUp; rw [hf]
theorem firstUp_no {D : List (Int × Bool)} {Ps : List Nat} (h : ∀ p ∈ Ps, upN D p = false) : firstUp D Ps = (0, false) := by
  unfold firstUp
  rw [List.find?_eq_none.2 (fun p hp => by rw [h p hp]; simp)]
theorem up_take {D : List (Int × Bool)} {Ps : List Nat} {k : Nat} (hk : k < Ps.length) (h : ∀ p ∈ Ps.take k, upN D p = false) (hu : upN D Ps[k] = false) : ∀ p ∈ Ps.take (k + 1), upN D p = false := by
  intro p hp
  rw [List.take_succ_eq_append_getElem hk] at hp
  rcases List.mem_append.1 hp with hp | hp
  · exact h p hp
  · simp at hp; rw [hp]; exact hu
theorem name_tail (p : Nat) : (⟨(nmL p).toArray⟩ : ByteArray).extract 1 (nmL p).length = ⟨(Lib.decDigits p).toArray⟩ :=
  ByteArray.ext (by simp [ByteArray.data_extract, nmL])
set_option maxHeartbeats 4000000 in
set_option maxRecDepth 100000 in
theorem parent_any {w : World} {base t n ch r d : Nat} {L : List Pt} {m : Nat} {nm : Option Nat} {A : Option Addr} {c : Nat} {D : List (Int × Bool)} (h : TierAt w base t n ch r d L m nm A c D) (hso : L.Pairwise ptLe) (hl : L.length ≤ 10000) (hn : n ≤ 64) (o : List UInt8) (ho : o.length ≤ 1000000) (Ps : List Nat) (hPs : ownersL (min n m) (rotL L (firstK (hashN o) L)) = Ps.map nmL) (hP : ∀ p ∈ Ps, p < 100) (q : Nat) (hq : q < ch) :
    Calls Tryd.prog 9 #[.pointer (some ⟨t, 0, none⟩), .int .i64 (q : Int), .string ⟨o.toArray⟩] w fun e w' => e = .returned (.tuple #[.int .i64 (firstUp D Ps).1, .bool (firstUp D Ps).2]) ∧ Below w.heap.size w w' := by
  have HT := Lib.hid h
  have HO := fun W (h1 : RingAt W r m L nm A c) => Lib.hid (owners_any W r m L nm A c o n h1 hso hl ho (by omega))
  have hPl : Ps.length ≤ 64 := by
    have := ownersL_len (min n m) (rotL L (firstK (hashN o) L))
    rw [hPs, List.length_map] at this; omega
  rw [hPs] at HO
  have HP := Lib.hid hP
  have x0 := blk_cell (i := 0) h.blk rfl
  have x1 := blk_cell (i := 1) h.blk rfl
  have x2 := blk_cell (i := 2) h.blk rfl
  have i1 : ¬ (q : Int) < 0 := by omega
  have i2 : ¬ (ch : Int) ≤ (q : Int) := by omega
  clear h hPs hP
  go_enter Tryd.func9, Tryd.ntmps9
  go_wp2_with fail
  go_region_held3 (fun w' => w'.cell? ⟨t, 0, none⟩ = some (.int .i64 (n : Int)) ∧ w'.cell? ⟨t, 2, none⟩ = some (.pointer (some ⟨r, 0, none⟩)))
    (first | exact ⟨x0, x2⟩ | exact ⟨y0, y2⟩ | fail)
    ((first | (go_at_call 19; refine (HO _ (by first | exact HT.out.ring | exact HT.out.ring.below (by (repeat (first | exact Below.refl _ _ | refine bel_drewN ?_ _ | refine bel_drew ?_ | refine bel_alloc ?_ _ | refine bel_set ?_ (by simp) _))))).out.mono ?_; rintro e w1 ⟨A1, c1, rfl, hs1, hb1⟩; have hq1 : Below w.heap.size w w1 := bel_chain hb1 (by (repeat (first | exact Below.refl _ _ | refine bel_drewN ?_ _ | refine bel_drew ?_ | refine bel_alloc ?_ _ | refine bel_set ?_ (by simp) _))); have y0 := cell_keep hq1 x0; have y2 := cell_keep hq1 x2)))
  have HS1 := Lib.hid hs1
  have HB1 := Lib.hid hq1
  have HT1 := Lib.hid (HT.out.below hq1)
  clear hs1 hb1 hq1 x0 x1 x2 y0 y2 HT HO
  go_wp2_with fail
  go_loopw [9, 10, 11, 40] (fun _ _ _ si wr => ∃ k : Nat, k ≤ Ps.length ∧ si = .int .i64 k ∧ (∀ p ∈ Ps.take k, upN D p = false) ∧ Below w1.heap.size w1 wr) (fun _ _ _ si _ => Ps.length - (intOf si).toNat)
  case atStart => exact ⟨0, Nat.zero_le _, rfl, fun p hp => by simp at hp, Below.refl _ _⟩
  case round =>
    obtain ⟨k, hk, rfl, hno, hb⟩ := hrel
    have HNO := Lib.hid hno
    have HB := Lib.hid hb
    have HTr := Lib.hid (HT1.out.below hb)
    clear hno hb
    by_cases hlt : k < Ps.length
    · obtain ⟨b, off, e, hbl, hc⟩ := (HS1.out.below HB.out).at' k (by simpa using hlt)
      have hp100 := HP.out Ps[k] (List.getElem_mem hlt)
      have HTK := Lib.hid (fun h => up_take hlt HNO.out h)
      have HAT := Lib.hid (fun h => firstUp_at hlt HNO.out h)
      rw [List.getElem_map] at hc
      obtain ⟨p, hpk⟩ : ∃ p, Ps[k] = p := ⟨_, rfl⟩
      rw [hpk] at hc hp100 HTK HAT
      have HK2 : Hid (k + 1 ≤ Ps.length) := hlt
      have c1 : wr.cell? ⟨b, off + k, none⟩ = some (.string ⟨(nmL p).toArray⟩) := by simpa using hc 0 _ rfl
      have HA := fun W => Lib.hid (atoi_any p hp100 W)
      have hnl := name_tail p
      have hsz : (⟨(nmL p).toArray⟩ : ByteArray).size = (nmL p).length := List.size_toArray ..
      have h1n : 1 ≤ (nmL p).length := by unfold nmL; simp
      have h1l : (1 : Int) ≤ ((nmL p).length : Int) := by omega
      generalize Lib.decDigits p = dg at HA hnl
      obtain ⟨nl, hnle⟩ : ∃ nl, nmL p = nl := ⟨_, rfl⟩
      rw [hnle] at c1 hnl hsz h1l h1n
      clear hc hpk hnle HS1 HP
      subst e
      cases hup : upN D p
      · have HD := Lib.hid (HTK.out hup)
        have HUP := Lib.hid hup
        clear hup
        go_wp2_with fail
        refine (HA _).out.mono ?_
        rintro e2 w3 ⟨rfl, hb3⟩
        have HT3 := Lib.hid (HTr.out.below hb3)
        have y3 := blk_cell (i := 3) HT3.out.blk rfl
        have hlk := downB_run HT3.out.down (p : Int) false HUP.out
        have HB3 := Lib.hid (bel_chain hb3 HB.out)
        clear hb3
        go_wp2_with fail
        go_roundw
        case rel => exact ⟨k + 1, HK2.out, by go_num, HD.out, HB3.out⟩
        case measure => have := HK2.out; simp [intOf]; omega
      · have HD := Lib.hid (HAT.out hup)
        have HUP := Lib.hid hup
        clear hup
        go_wp2_with fail
        refine (HA _).out.mono ?_
        rintro e2 w3 ⟨rfl, hb3⟩
        have HT3 := Lib.hid (HTr.out.below hb3)
        have y3 := blk_cell (i := 3) HT3.out.blk rfl
        have hlk := downB_run HT3.out.down (p : Int) true HUP.out
        have HB3 := Lib.hid (bel_chain hb3 HB.out)
        clear hb3
        go_wp2_with fail
        refine bodyPost_ret (by simp [results, Tryd.results9, go_sem]; try rfl) rfl ?_
        rw [HD.out]
        exact ⟨rfl, bel_chain HB3.out HB1.out⟩
    · have hF : firstUp D Ps = (0, false) := firstUp_no (fun p hp => HNO.out p (by rw [List.take_of_length_le (by omega)]; exact hp))
      have HF := Lib.hid hF
      clear hF
      go_wp2_with fail
      refine bodyPost_ret (by simp [results, Tryd.results9, go_sem]; try rfl) rfl ?_
      rw [HF.out]
      exact ⟨rfl, bel_chain HB.out HB1.out⟩
theorem parent_no {w : World} {base t n ch r d : Nat} {L : List Pt} {m : Nat} {nm : Option Nat} {A : Option Addr} {c : Nat} {D : List (Int × Bool)} (h : TierAt w base t n ch r d L m nm A c D) (s : ByteArray) (q : Int) (hq : q < 0 ∨ (ch : Int) ≤ q) :
    Calls Tryd.prog 9 #[.pointer (some ⟨t, 0, none⟩), .int .i64 q, .string s] w fun e w' => e = .returned (.tuple #[.int .i64 0, .bool false]) ∧ w' = w := by
  have x1 := blk_cell (i := 1) h.blk rfl
  clear h
  go_enter Tryd.func9, Tryd.ntmps9
  by_cases h1 : q < 0
  · go_wp2_with fail
    refine bodyPost_ret (by simp [results, Tryd.results9, go_sem]; try rfl) rfl ?_
    exact ⟨rfl, rfl⟩
  · have h2 : (ch : Int) ≤ q := hq.resolve_left h1
    go_wp2_with fail
    refine bodyPost_ret (by simp [results, Tryd.results9, go_sem]; try rfl) rfl ?_
    exact ⟨rfl, rfl⟩
end Go.Proofs.YtnlamjebgkgbaaaDoor
namespace Go.Proofs.YtnlamjebgkgbaaaDoor
open Go.RowKit Go.Shelf Go.Sort

theorem fits_any (n p : Int) (w : World) : Calls Tryd.prog 15 #[.int .i64 n, .int .i64 p] w fun e w' => e = .returned (.bool (decide (1 ≤ n ∧ n ≤ 64 ∧ 0 ≤ p ∧ p < n))) ∧ w' = w := by
  go_enter Tryd.func15, Tryd.ntmps15
  by_cases h1 : 1 ≤ n
  · by_cases h2 : n ≤ 64
    · by_cases h3 : 0 ≤ p
      · by_cases h4 : p < n
        · go_wp2_with fail
          go_ret
          exact ⟨by simp [h1, h2, h3, h4], rfl⟩
        · go_wp2_with fail
          go_ret
          exact ⟨by rw [decide_eq_false (by omega)]; rfl, rfl⟩
      · go_wp2_with fail
        go_ret
        exact ⟨by rw [decide_eq_false (by omega)]; rfl, rfl⟩
    · go_wp2_with fail
      go_ret
      exact ⟨by rw [decide_eq_false (by omega)]; rfl, rfl⟩
  · go_wp2_with fail
    go_ret
    exact ⟨by rw [decide_eq_false (by omega)]; rfl, rfl⟩
/-- The reference's tier. -/
structure RTierAt (w : World) (X n pn : Nat) (G : List Int) (A : Option Addr) (c : Nat) : Prop where
  blk : w.heap[X]? = some (.cells #[.int .i64 n, .int .i64 pn, .slice A G.length c] 61 (0, 0))
  sp : SpG encI 1 w A c G
  off : (Value.slice A G.length c).ownBlock ≠ some X
def goneL (G : List Int) (q : Int) (dn : Bool) : List Int := (G.filter fun g => decide (g ≠ q)) ++ if dn = true then [q] else []
theorem gone_step {G : List Int} {q : Int} {k : Nat} (h : k < G.length) : (G.take (k + 1)).filter (fun g => decide (g ≠ q)) = (G.take k).filter (fun g => decide (g ≠ q)) ++ if G[k] = q then [] else [G[k]] := by
  rw [List.take_succ_eq_append_getElem h, List.filter_append]
  congr 1
  by_cases e : G[k] = q <;> simp [e]
theorem gone_len (G : List Int) (q : Int) (k : Nat) : ((G.take k).filter fun g => decide (g ≠ q)).length ≤ G.length :=
  Nat.le_trans (List.length_filter_le _ _) (by rw [List.length_take]; omega)
def RDownPost (w : World) (X n pn : Nat) (G : List Int) (q : Int) (dn : Bool) (e : Ending) (w' : World) : Prop :=
  if (n : Int) - (pn : Int) ≤ q ∧ q < (n : Int) then e = .returned (.int .i64 0) ∧ (∃ A' c', RTierAt w' X n pn (goneL G q dn) A' c') ∧ w.grownBy w' (some X) else e = .returned (.int .i64 1) ∧ Below w.heap.size w w'
theorem rdown_end {w V wr : World} {X n pn : Nat} {G R : List Int} {A A' : Option Addr} {c c' nq : Nat} (hV : w.drewN nq = V) (hk : wr.heap[X]? = some (.cells #[.int .i64 n, .int .i64 pn, .slice A G.length c] 61 (0, 0))) (hb : Below V.heap.size V wr) (ho : OwnG 3 encI 1 wr V.heap.size A' c' R) :
    RTierAt (wr.setCell ⟨X, 2, none⟩ (.slice A' R.length c')) X n pn R A' c' ∧ w.grownBy (wr.setCell ⟨X, 2, none⟩ (.slice A' R.length c')) (some X) := by
  have hb2 : Below w.heap.size w wr := by subst hV; exact bel_chain hb (bel_drewN (Below.refl _ _) _)
  refine ⟨⟨blk_set hk, (ho.setAt hk (by decide) _).spg elemI.len, ho.ne_type hk (by decide)⟩, ?_⟩
  have hg : w.grownBy wr (some X) := ⟨hb2.os, hb2.tape, hb2.output, hb2.size, fun k hk _ => hb2.block k hk⟩
  exact World.grownBy.trans hg (grown_setA wr ⟨X, 2, none⟩ _)
set_option maxHeartbeats 4000000 in
theorem rdown_any {w : World} {X n pn : Nat} {G : List Int} {A : Option Addr} {c : Nat} (h : RTierAt w X n pn G A c) (hn : n ≤ 64) (hp : pn ≤ n) (hG : G.length ≤ 1000) (q : Int) (dn : Bool) :
    Calls Tryd.prog 18 #[.pointer (some ⟨X, 0, none⟩), .int .i64 q, .bool dn] w (RDownPost w X n pn G q dn) := by
  have HT := Lib.hid h
  have x0 := blk_cell (i := 0) h.blk rfl
  have x1 := blk_cell (i := 1) h.blk rfl
  have x2 := blk_cell (i := 2) h.blk rfl
  obtain ⟨ch, hch⟩ : ∃ ch : Nat, (n : Int) - (pn : Int) = (ch : Int) := ⟨n - pn, by omega⟩
  have hcb : ch ≤ 64 := by omega
  clear h
  unfold RDownPost
  rw [hch]
  have wch : IntKind.i64.wrap (ch : Int) = (ch : Int) := IntWalk.i64_in _ (by omega)
  by_cases h1 : q < (ch : Int)
  · have hne : ¬ ((ch : Int) ≤ q ∧ q < (n : Int)) := by omega
    simp only [if_neg hne]
    clear hne
    go_enter Tryd.func18, Tryd.ntmps18
    go_wp2_with fail
    go_quiet (fail)
    go_wp2_with fail
    refine bodyPost_ret (by simp [results, Tryd.results18, go_sem]; try rfl) rfl ?_
    exact ⟨rfl, bel_drewN (Below.refl _ _) _⟩
  · by_cases h2 : (n : Int) ≤ q
    · have hne : ¬ ((ch : Int) ≤ q ∧ q < (n : Int)) := by omega
      simp only [if_neg hne]
      clear hne
      go_enter Tryd.func18, Tryd.ntmps18
      go_wp2_with fail
      go_quiet (fail)
      go_wp2_with fail
      refine bodyPost_ret (by simp [results, Tryd.results18, go_sem]; try rfl) rfl ?_
      exact ⟨rfl, bel_drewN (Below.refl _ _) _⟩
    · have hye : (ch : Int) ≤ q ∧ q < (n : Int) := by omega
      simp only [if_pos hye]
      clear hye
      go_enter Tryd.func18, Tryd.ntmps18
      go_wp2_with fail
      go_quiet (fail)
      go_wp2_with fail
      have HSP := Lib.hid (HT.out.sp.drewN nq)
      have HBK : Hid ((w.drewN nq).heap[X]? = some (.cells #[.int .i64 n, .int .i64 pn, .slice A G.length c] 61 (0, 0))) := HT.out.blk
      obtain ⟨V, hV⟩ : ∃ V, w.drewN nq = V := ⟨_, rfl⟩
      have HV := Lib.hid hV
      rw [hV] at HSP HBK ⊢
      have hVs : V.heap.size = w.heap.size := by rw [← hV]; rfl
      have HVs := Lib.hid hVs
      clear hV hVs x0 x1 x2 hch
      go_loopw [7, 9, 34] (fun so _ si wr => ∃ (k : Nat) (A' : Option Addr) (c' : Nat), k ≤ G.length ∧ si = .int .i64 k ∧ so = .slice A' ((G.take k).filter fun g => decide (g ≠ q)).length c' ∧ OwnG 3 encI 1 wr V.heap.size A' c' ((G.take k).filter fun g => decide (g ≠ q)) ∧ Below V.heap.size V wr) (fun _ _ si _ => G.length - (intOf si).toNat)
      case atStart => exact ⟨0, none, 0, Nat.zero_le _, rfl, rfl, OwnG.nil _ _, Below.refl _ _⟩
      case round =>
        obtain ⟨k, A', c', hk, rfl, rfl, hown, hb⟩ := hrel
        have hll := gone_len G q k
        have HST := fun hh => Lib.hid (gone_step (q := q) (G := G) (k := k) hh)
        have HTK : Hid (k = G.length → (G.take k).filter (fun g => decide (g ≠ q)) = G.filter (fun g => decide (g ≠ q))) := fun e => by rw [e, List.take_length]
        obtain ⟨R, hR⟩ : ∃ R, (G.take k).filter (fun g => decide (g ≠ q)) = R := ⟨_, rfl⟩
        rw [hR] at hown hll HST HTK ⊢
        have HO := Lib.hid hown
        have HB := Lib.hid hb
        clear hown hb hR
        by_cases hlt : k < G.length
        · obtain ⟨b, off, e, hbl, hc⟩ := (HSP.out.below HB.out).at' k hlt
          have HS2 := HST hlt
          obtain ⟨x, hx⟩ : ∃ x, G[k] = x := ⟨_, rfl⟩
          rw [hx] at hc HS2
          have c1 : wr.cell? ⟨b, off + k, none⟩ = some (.int .i64 x) := by simpa using hc 0 _ rfl
          clear hc hx HST
          have HK2 : Hid (k + 1 ≤ G.length) := hlt
          subst e
          by_cases hxq : x = q
          · rw [if_pos hxq, List.append_nil] at HS2
            go_wp2_with fail
            go_roundw
            case rel => exact ⟨k + 1, A', c', HK2.out, by go_num, by rw [HS2.out], by rw [HS2.out]; exact HO.out, HB.out⟩
            case measure => have := HK2.out; simp [intOf]; omega
          · rw [if_neg hxq] at HS2
            go_wp2_with (at_builtin; go_must (refine wplG_append (w0 := V) elemI rfl (.tmp 41) (.tmp 43) rfl A' c' R rfl (HO.out.alloc _) (some ⟨wr.heap.size, 0, none⟩) 1 [x] rfl (SpG.built (enc := encI) (n := 1) elemI.len wr [x] #[.int .i64 x] rfl 3) (by simp) (by simp; omega) (bel_alloc HB.out _) ?_; intro A5 c5 w5 hown5 hbw5 hg5))
            go_roundw
            case rel => exact ⟨k + 1, A5, c5, HK2.out, by go_num, by rw [HS2.out, List.length_append]; rfl, by rw [HS2.out]; exact hown5, hbw5⟩
            case measure => have := HK2.out; simp [intOf]; omega
        · have hRG := HTK.out (by omega)
          have HRG := Lib.hid hRG
          have BK := HBK.out
          have BK1 := Lib.hid (blk_keep HB.out BK)
          have y2 := cell_keep HB.out (blk_cell (i := 2) BK rfl)
          have yf := blk_frozen (i := 2) BK1.out
          clear BK
          clear hRG HTK HST
          have BKV := Lib.hid HBK.out
          cases dn
          · go_wp2_with fail
            refine bodyPost_ret (by simp [results, Tryd.results18, go_sem]; try rfl) rfl ?_
            have E := rdown_end HV.out BK1.out HB.out HO.out
            have e1 : goneL G q false = R := by unfold goneL; rw [HRG.out]; simp
            rw [e1]
            exact ⟨rfl, ⟨_, _, E.1⟩, E.2⟩
          · go_wp2_with (at_builtin; go_must (refine wplG_append (w0 := V) elemI rfl (.tmp 47) (.tmp 49) rfl A' c' R rfl (HO.out.alloc _) (some ⟨wr.heap.size, 0, none⟩) 1 [q] rfl (SpG.built (enc := encI) (n := 1) elemI.len wr [q] #[.int .i64 q] rfl 3) (by simp) (by simp; omega) (bel_alloc HB.out _) ?_; intro A5 c5 w5 hown5 hbw5 hg5; have BK5 := Lib.hid (blk_keep hbw5 BKV.out); have zf := blk_frozen (i := 2) BK5.out; have z2 := blk_cell (i := 2) BK5.out rfl))
            refine bodyPost_ret (by simp [results, Tryd.results18, go_sem]; try rfl) rfl ?_
            have E := rdown_end HV.out BK5.out hbw5 hown5
            have e1 : goneL G q true = R ++ [q] := by unfold goneL; rw [HRG.out]; simp
            rw [e1]
            simp only [List.length_append] at E ⊢
            exact ⟨by first | rfl | trivial, ⟨_, _, E.1⟩, E.2⟩
end Go.Proofs.YtnlamjebgkgbaaaDoor
namespace Go.Proofs.YtnlamjebgkgbaaaDoor
open Go.RowKit Go.Shelf Go.Sort

section
variable {w w' : World} {X : Nat}
theorem blk_grX {r : Nat} {o : Obj} (hr : w.heap[r]? = some o) (hg : w.grownBy w' (some X)) (hne : r ≠ X) : w'.heap[r]? = some o :=
  (hg.block r (blk_lt hr) (fun e => hne (by injection e))).trans hr
theorem cell_grX {b o : Nat} {v : Value} (h : w.cell? ⟨b, o, none⟩ = some v) (hg : w.grownBy w' (some X)) (hne : b ≠ X) : w'.cell? ⟨b, o, none⟩ = some v := by
  have hb := World.block_lt_of_cell? w ⟨b, o, none⟩ h
  have e := hg.block b hb (fun e => hne (by injection e))
  rw [← h]
  unfold World.cell?
  rw [show w'.heap[b]? = w.heap[b]? from e]
theorem MapAt.grX {α β : Type} {enc : α → Value} {vf : β → Value} {M : List (α × β)} {b : Nat} {cs : Array Value} {T : TypeId} {f : Nat × Nat} (h : MapAt enc vf w b M) (hx : w.heap[X]? = some (.cells cs T f)) (hg : w.grownBy w' (some X)) : MapAt enc vf w' b M := by
  have hne := h.ne_cells hx
  obtain ⟨es, ck, h1, h2⟩ := h.at_
  exact ⟨es, ck, blk_grX h1 hg (fun e => hne e.symm), h2⟩
/-- The points lie in no block of the reference's. -/
theorem SpPt.grX {A B : Option Addr} {L : List Pt} {n pn l c : Nat} {T : TypeId} (h : SpPt w A L) (hx : w.heap[X]? = some (.cells #[.int .i64 n, .int .i64 pn, .slice B l c] T (0, 0))) (hg : w.grownBy w' (some X)) : SpPt w' A L :=
  ⟨fun k hk => by
    obtain ⟨b, off, e, hl, h1, h2⟩ := h.at' k hk
    have hne : b ≠ X := by
      intro e; subst e
      have h3 := h1
      simp only [World.cell?, hx] at h3
      rcases hq : off + k * 2 with _ | _ | _ | q <;> simp [hq] at h3
    exact ⟨b, off, e, Nat.lt_of_lt_of_le hl hg.size, cell_grX h1 hg hne, cell_grX h2 hg hne⟩⟩
theorem TierAt.grX {base t n ch r d : Nat} {L : List Pt} {m : Nat} {nm : Option Nat} {A : Option Addr} {c : Nat} {D : List (Int × Bool)} {n' pn : Nat} {G : List Int} {A' : Option Addr} {c' : Nat} (h : TierAt w base t n ch r d L m nm A c D) (hx : RTierAt w X n' pn G A' c') (hg : w.grownBy w' (some X)) : TierAt w' base t n ch r d L m nm A c D :=
  ⟨blk_grX h.blk hg (fun e => by have := h.blk; rw [e, hx.blk] at this; injection this with this; injection this with _ h2; exact absurd h2 (by decide)),
   ⟨blk_grX h.ring.blk hg (fun e => by have := h.ring.blk; rw [e, hx.blk] at this; injection this with this; injection this with _ h2; exact absurd h2 (by decide)), h.ring.sp.grX hx.blk hg, by
    rcases h.ring.names with h1 | ⟨b, h1, M, h2, h3⟩
    · exact .inl h1
    · exact .inr ⟨b, h1, M, h2.grX hx.blk hg, h3⟩⟩, h.down.grX hx.blk hg, h.bd, h.nd⟩
end
end Go.Proofs.YtnlamjebgkgbaaaDoor
namespace Go.Proofs.YtnlamjebgkgbaaaDoor
open Go.RowKit Go.Shelf Go.Sort

theorem SpG.withObj {α β γ : Type} {en : γ → List Value} {k : Nat} {w : World} {d : Nat} {A : Option Addr} {c : Nat} {L : List γ} {enc : α → Value} {vf : β → Value} {M : List (α × β)} (h : SpG en k w A c L) (hm : MapAt enc vf w d M) (o : Obj) : SpG en k (withObj w d o) A c L :=
  ⟨h.le, h.nil_, fun i hi => by
    obtain ⟨b, off, e, hl, h1⟩ := h.at' i hi
    exact ⟨b, off, e, by rw [withObj_size]; exact hl, fun j v hj => cell_withObj hm (h1 j v hj) o⟩⟩
theorem RTierAt.withMap {α β : Type} {enc : α → Value} {vf : β → Value} {M : List (α × β)} {w : World} {X n pn d : Nat} {G : List Int} {A : Option Addr} {c : Nat} (h : RTierAt w X n pn G A c) (hm : MapAt enc vf w d M) (o : Obj) : RTierAt (withObj w d o) X n pn G A c :=
  ⟨blk_with h.blk (hm.ne_cells h.blk), h.sp.withObj hm o, h.off⟩
theorem RTierAt.below {w w' : World} {X n pn : Nat} {G : List Int} {A : Option Addr} {c : Nat} (h : RTierAt w X n pn G A c) (hb : Below w.heap.size w w') : RTierAt w' X n pn G A c :=
  ⟨blk_keep hb h.blk, h.sp.below hb, h.off⟩
/-- A row may be laid: its two numbers and the count of its operations. -/
def lightB (n p : Int) (l : Nat) : Bool := decide (l ≤ 20) && (decide (p ≤ 8) || !decide (1 ≤ n ∧ n ≤ 64 ∧ 0 ≤ p ∧ p < n))
end Go.Proofs.YtnlamjebgkgbaaaDoor
namespace Go.Proofs.YtnlamjebgkgbaaaDoor
open Go.RowKit Go.Shelf Go.Sort

set_option maxHeartbeats 2000000 in
theorem light_any (w : World) (n p : Int) (A : Option Addr) (l c : Nat) (hl : l ≤ 1000000) :
    Calls Tryd.prog 5 #[.agg #[.int .i64 n, .int .i64 p, .slice A l c]] w fun e w' => e = .returned (.bool (lightB n p l)) ∧ Below w.heap.size w w' := by
  have HF := fun W => Lib.hid (fits_any n p W)
  have HE : Hid (∃ f, decide (1 ≤ n ∧ n ≤ 64 ∧ 0 ≤ p ∧ p < n) = f) := ⟨_, rfl⟩
  unfold lightB
  obtain ⟨f, hf⟩ := HE.out
  rw [hf]
  simp only [hf] at HF
  clear hf HE
  go_enter Tryd.func5, Tryd.ntmps5
  by_cases h1 : l ≤ 20
  · by_cases h2 : p ≤ 8
    · go_wp2_with fail
      go_ret
      exact ⟨by simp [h1, h2], bel_alloc (Below.refl _ _) _⟩
    · go_wp2_with (go_at_call 15; refine (HF _).out.mono ?_; rintro e w1 ⟨rfl, rfl⟩)
      go_ret
      exact ⟨by rw [decide_eq_true h1, decide_eq_false (by omega : ¬ p ≤ 8)]; simp, bel_alloc (Below.refl _ _) _⟩
  · go_wp2_with fail
    go_ret
    exact ⟨by first | rfl | simp, bel_alloc (Below.refl _ _) _⟩
end Go.Proofs.YtnlamjebgkgbaaaDoor
namespace Go.Proofs.YtnlamjebgkgbaaaDoor
open Go.RowKit Go.Shelf Go.Sort

/-- An operation in its cells. -/
def encO (x : Int × Bool) : List Value := [.int .i64 x.1, .bool x.2]
def inR (n ch : Nat) (q : Int) : Prop := (ch : Int) ≤ q ∧ q < (n : Int)
instance (n ch : Nat) (q : Int) : Decidable (inR n ch q) := by unfold inR; infer_instance
/-- The map behind the operations. -/
def foldD (n ch : Nat) (D : List (Int × Bool)) (os : List (Int × Bool)) : List (Int × Bool) := os.foldl (fun D o => if inR n ch o.1 then turnD D o.1 o.2 else D) D
/-- The list behind the operations. -/
def foldG (n ch : Nat) (G : List Int) (os : List (Int × Bool)) : List Int := os.foldl (fun G o => if inR n ch o.1 then goneL G o.1 o.2 else G) G
theorem goneL_len (G : List Int) (q : Int) (dn : Bool) : (goneL G q dn).length ≤ G.length + 1 := by
  unfold goneL
  rw [List.length_append]
  have := List.length_filter_le (fun g => decide (g ≠ q)) G
  generalize G.filter (fun g => decide (g ≠ q)) = R at this ⊢
  cases dn <;> simp <;> omega
theorem foldG_len (n ch : Nat) : ∀ (os : List (Int × Bool)) (G : List Int), (foldG n ch G os).length ≤ G.length + os.length
  | [], G => by simp [foldG]
  | o :: os, G => by
    have h1 : foldG n ch G (o :: os) = foldG n ch (if inR n ch o.1 then goneL G o.1 o.2 else G) os := rfl
    have ih := foldG_len n ch os (if inR n ch o.1 then goneL G o.1 o.2 else G)
    have h2 : (if inR n ch o.1 then goneL G o.1 o.2 else G).length ≤ G.length + 1 := by
      split
      · exact goneL_len G o.1 o.2
      · omega
    rw [h1, List.length_cons]; omega
theorem goneL_mem (G : List Int) (q : Int) (dn : Bool) (g : Int) : g ∈ goneL G q dn ↔ if g = q then dn = true else g ∈ G := by
  unfold goneL
  by_cases e : g = q
  · subst e; cases dn <;> simp
  · cases dn <;> simp [e]
/-- The map and the list agree on who is up. -/
structure Agree (D : List (Int × Bool)) (G : List Int) : Prop where
  nd : (keysM D).Nodup
  up : ∀ q, upB D q = !decide (q ∈ G)
theorem upB_turn {D : List (Int × Bool)} (hn : (keysM D).Nodup) (q0 : Int) (dn : Bool) (q : Int) : upB (turnD D q0 dn) q = if q0 = q then !dn else upB D q := by
  unfold upB turnD
  cases dn
  · rw [if_neg (by simp), lookM_del hn]
    by_cases e : q0 = q <;> simp [e]
  · rw [if_pos rfl, lookM_put]
    by_cases e : q0 = q <;> simp [e]
theorem turnD_nodup {D : List (Int × Bool)} (hn : (keysM D).Nodup) (q0 : Int) (dn : Bool) : (keysM (turnD D q0 dn)).Nodup := by
  unfold turnD
  cases dn
  · rw [if_neg (by simp)]; exact delM_nodup hn
  · rw [if_pos rfl]; exact putM_nodup hn
theorem Agree.turn {D : List (Int × Bool)} {G : List Int} (h : Agree D G) (q0 : Int) (dn : Bool) : Agree (turnD D q0 dn) (goneL G q0 dn) :=
  ⟨turnD_nodup h.nd q0 dn, fun q => by
    rw [upB_turn h.nd]
    have hm := goneL_mem G q0 dn q
    by_cases e : q0 = q
    · rw [if_pos e]
      rw [if_pos e.symm] at hm
      cases dn
      · rw [decide_eq_false (by rw [hm]; simp)]
      · rw [decide_eq_true (by rw [hm])]
    · rw [if_neg e, h.up]
      rw [if_neg (fun x => e x.symm)] at hm
      simp only [hm]⟩
theorem Agree.fold {n ch : Nat} : ∀ (os : List (Int × Bool)) {D : List (Int × Bool)} {G : List Int}, Agree D G → Agree (foldD n ch D os) (foldG n ch G os)
  | [], _, _, h => h
  | o :: os, D, G, h => by
    have h2 : Agree (if inR n ch o.1 then turnD D o.1 o.2 else D) (if inR n ch o.1 then goneL G o.1 o.2 else G) := by
      by_cases e : inR n ch o.1
      · rw [if_pos e, if_pos e]; exact h.turn o.1 o.2
      · rw [if_neg e, if_neg e]; exact h
    exact Agree.fold os h2
end Go.Proofs.YtnlamjebgkgbaaaDoor
namespace Go.Proofs.YtnlamjebgkgbaaaDoor
open Go.RowKit Go.Shelf Go.Sort

theorem new_no (w : World) (n p : Int) (hf : ¬ (1 ≤ n ∧ n ≤ 64 ∧ 0 ≤ p ∧ p < n)) :
    Calls Tryd.prog 17 #[.int .i64 n, .int .i64 p] w fun e w' => e = .returned (.tuple #[.pointer none, .int .i64 1]) ∧ w' = w := by
  go_enter Tryd.func17, Tryd.ntmps17
  by_cases h1 : n < 1
  · go_wp2_with fail
    refine bodyPost_ret (by simp [results, Tryd.results17, go_sem]; try rfl) rfl ?_
    exact ⟨rfl, rfl⟩
  · by_cases h2 : 64 < n
    · go_wp2_with fail
      refine bodyPost_ret (by simp [results, Tryd.results17, go_sem]; try rfl) rfl ?_
      exact ⟨rfl, rfl⟩
    · by_cases h3 : p < 0
      · go_wp2_with fail
        refine bodyPost_ret (by simp [results, Tryd.results17, go_sem]; try rfl) rfl ?_
        exact ⟨rfl, rfl⟩
      · have h4 : n ≤ p := by omega
        clear hf
        go_wp2_with fail
        refine bodyPost_ret (by simp [results, Tryd.results17, go_sem]; try rfl) rfl ?_
        exact ⟨rfl, rfl⟩
end Go.Proofs.YtnlamjebgkgbaaaDoor
namespace Go.Proofs.YtnlamjebgkgbaaaDoor
open Go.RowKit Go.Shelf Go.Sort

set_option maxHeartbeats 2000000 in
theorem made_no (w : World) (n p : Int) (v : Value) (hf : ¬ (1 ≤ n ∧ n ≤ 64 ∧ 0 ≤ p ∧ p < n)) :
    Calls Tryd.prog 7 #[.agg #[.int .i64 n, .int .i64 p, v]] w fun e w' => e = .returned (.tuple #[.pointer none, .pointer none, .bool true]) ∧ Below w.heap.size w w' := by
  have HN := fun W => Lib.hid (new_no W n p hf)
  have HF := fun W => Lib.hid (fits_any n p W)
  simp only [decide_eq_false hf] at HF
  clear hf
  go_enter Tryd.func7, Tryd.ntmps7
  go_wp2_with ((first | (go_at_call 17; refine (HN _).out.mono ?_; rintro e w1 ⟨rfl, rfl⟩) | (go_at_call 15; refine (HF _).out.mono ?_; rintro e w2 ⟨rfl, rfl⟩)))
  refine bodyPost_ret (by simp [results, Tryd.results7, go_sem]; try rfl) rfl ?_
  exact ⟨rfl, bel_alloc (Below.refl _ _) _⟩
end Go.Proofs.YtnlamjebgkgbaaaDoor
namespace Go.Proofs.YtnlamjebgkgbaaaDoor
open Go.RowKit Go.Shelf Go.Sort

def MadePost (w : World) (n p : Nat) (os : List (Int × Bool)) (e : Ending) (w' : World) : Prop :=
  ∃ t r d L nm A c X A' c', e = .returned (.tuple #[.pointer (some ⟨t, 0, none⟩), .pointer (some ⟨X, 0, none⟩), .bool true]) ∧ TierAt w' w.heap.size t n (n - p) r d L p nm A c (foldD n (n - p) [] os) ∧ L.Perm (allPts (n - p) p) ∧ L.Pairwise ptLe ∧ RTierAt w' X n p (foldG n (n - p) [] os) A' c' ∧ Below w.heap.size w w'
theorem foldD_step {n ch k : Nat} {os : List (Int × Bool)} {D : List (Int × Bool)} (h : k < os.length) : foldD n ch D (os.take (k + 1)) = if inR n ch os[k].1 then turnD (foldD n ch D (os.take k)) os[k].1 os[k].2 else foldD n ch D (os.take k) := by
  unfold foldD; rw [List.take_succ_eq_append_getElem h, List.foldl_append]; rfl
theorem foldG_step {n ch k : Nat} {os : List (Int × Bool)} {G : List Int} (h : k < os.length) : foldG n ch G (os.take (k + 1)) = if inR n ch os[k].1 then goneL (foldG n ch G (os.take k)) os[k].1 os[k].2 else foldG n ch G (os.take k) := by
  unfold foldG; rw [List.take_succ_eq_append_getElem h, List.foldl_append]; rfl
/-- A tier beside the reference's, and an operation in its box. -/
structure St (w0 : World) (t n ch r d : Nat) (L : List Pt) (m : Nat) (nm : Option Nat) (A : Option Addr) (c X p b : Nat) (q : Int) (dn : Bool) (D : List (Int × Bool)) (G : List Int) (W : World) : Prop where
  t : TierAt W w0.heap.size t n ch r d L m nm A c D
  r : ∃ A' c', RTierAt W X n p G A' c'
  blk : W.heap[b]? = some (.cells #[.int .i64 q, .bool dn] 63 (0, 0))
  hb : Below w0.heap.size w0 W
  hX : w0.heap.size ≤ X
/-- What both answer. -/
def rcI (n ch : Nat) (q : Int) : Int := if inR n ch q then 0 else 1
section
variable {w0 : World} {t n ch r d : Nat} {L : List Pt} {m : Nat} {nm : Option Nat} {A : Option Addr} {c X p b : Nat} {q : Int} {dn : Bool} {D : List (Int × Bool)} {G : List Int} {W : World}
theorem St.below {W' : World} (h : St w0 t n ch r d L m nm A c X p b q dn D G W) (hb : Below W.heap.size W W') : St w0 t n ch r d L m nm A c X p b q dn D G W' :=
  ⟨h.t.below hb, h.r.imp fun _ ⟨c', h'⟩ => ⟨c', h'.below hb⟩, blk_keep hb h.blk, bel_chain hb h.hb, h.hX⟩
theorem bel_grown {w w1 w2 : World} {X : Nat} (h : Below w.heap.size w w1) (hg : w1.grownBy w2 (some X)) (hX : w.heap.size ≤ X) : Below w.heap.size w w2 :=
  ⟨hg.os.trans h.os, hg.tape.trans h.tape, hg.output.trans h.output, Nat.le_trans h.size hg.size, fun k hk => (hg.block k (Nat.lt_of_lt_of_le hk h.size) (fun e => by injection e with e; omega)).trans (h.block k hk)⟩
theorem St.down (h : St w0 t n ch r d L m nm A c X p b q dn D G W) :
    Calls Tryd.prog 10 #[.pointer (some ⟨t, 0, none⟩), .int .i64 q, .bool dn] W fun e w' => e = .returned (.int .i64 (rcI n ch q)) ∧ St w0 t n ch r d L m nm A c X p b q dn (if inR n ch q then turnD D q dn else D) G w' := by
  refine (down_any h.t q dn).mono fun e w' hp => ?_
  unfold DownPost at hp
  unfold rcI
  by_cases hin : inR n ch q
  · rw [if_pos (show (ch : Int) ≤ q ∧ q < (n : Int) from hin)] at hp
    rw [if_pos hin, if_pos hin]
    obtain ⟨rfl, ⟨o, rfl⟩, ht⟩ := hp
    refine ⟨rfl, ht, ?_, blk_with h.blk (h.t.down.ne_cells h.blk), bel_with h.hb h.t.bd o, h.hX⟩
    obtain ⟨A', c', hr⟩ := h.r
    exact ⟨A', c', hr.withMap h.t.down o⟩
  · rw [if_neg (show ¬ ((ch : Int) ≤ q ∧ q < (n : Int)) from hin)] at hp
    rw [if_neg hin, if_neg hin]
    obtain ⟨rfl, rfl⟩ := hp
    exact ⟨rfl, h⟩
theorem St.rdown (h : St w0 t n ch r d L m nm A c X p b q dn D G W) (hn : n ≤ 64) (hp : p ≤ n) (hch : n - p = ch) (hG : G.length ≤ 1000) :
    Calls Tryd.prog 18 #[.pointer (some ⟨X, 0, none⟩), .int .i64 q, .bool dn] W fun e w' => e = .returned (.int .i64 (rcI n ch q)) ∧ St w0 t n ch r d L m nm A c X p b q dn D (if inR n ch q then goneL G q dn else G) w' := by
  obtain ⟨A0, c0, hr⟩ := h.r
  refine (rdown_any hr hn hp hG q dn).mono fun e w' hp' => ?_
  unfold RDownPost at hp'
  unfold rcI
  have ec : (n : Int) - (p : Int) = (ch : Int) := by omega
  rw [ec] at hp'
  by_cases hin : inR n ch q
  · rw [if_pos (show (ch : Int) ≤ q ∧ q < (n : Int) from hin)] at hp'
    rw [if_pos hin, if_pos hin]
    obtain ⟨rfl, hr2, hg⟩ := hp'
    refine ⟨rfl, h.t.grX hr hg, hr2, blk_grX h.blk hg (fun e => ?_), bel_grown h.hb hg h.hX, h.hX⟩
    have := h.blk; rw [e, hr.blk] at this; injection this with this; injection this with _ h2; exact absurd h2 (by decide)
  · rw [if_neg (show ¬ ((ch : Int) ≤ q ∧ q < (n : Int)) from hin)] at hp'
    rw [if_neg hin, if_neg hin]
    obtain ⟨rfl, hb⟩ := hp'
    exact ⟨rfl, h.below hb⟩
end
set_option maxHeartbeats 4000000 in
theorem made_any (w : World) (n p : Nat) (hn : 1 ≤ n) (hn2 : n ≤ 64) (hp : p < n) (hp8 : p ≤ 8) (A0 : Option Addr) (c0 : Nat) (os : List (Int × Bool)) (hos : os.length ≤ 20) (hs : SpG encO 2 w A0 c0 os) :
    Calls Tryd.prog 7 #[.agg #[.int .i64 n, .int .i64 p, .slice A0 os.length c0]] w (MadePost w n p os) := by
  have HN := fun W => Lib.hid (new_any W n p hn hn2 hp hp8)
  have HF := fun W => Lib.hid (fits_any (n : Int) (p : Int) W)
  simp only [decide_eq_true (by omega : 1 ≤ (n : Int) ∧ (n : Int) ≤ 64 ∧ 0 ≤ (p : Int) ∧ (p : Int) < (n : Int))] at HF
  have HS := Lib.hid hs
  clear hs
  go_enter Tryd.func7, Tryd.ntmps7
  go_wp2_with ((first | (go_at_call 17; refine (HN _).out.mono ?_; rintro e w1 ⟨t, r, d, L, nm, A, c, rfl, ht, hpm, hpw, hb1⟩; have BB := Lib.hid (blk_keep hb1 (blk_new rfl)); have z0 := blk_cell (i := 0) BB.out rfl; have z1 := blk_cell (i := 1) BB.out rfl; have z2 := blk_cell (i := 2) BB.out rfl; have hz := blk_lt BB.out; have HT1 := Lib.hid ht; have HB1 := Lib.hid hb1; have HPM := Lib.hid hpm; have HPW := Lib.hid hpw; clear ht hb1 hpm hpw) | (go_at_call 15; refine (HF _).out.mono ?_; rintro e w2 ⟨rfl, rfl⟩)))
  obtain ⟨X, hX⟩ : ∃ X, w2.heap.size = X := ⟨_, rfl⟩
  have HXX : Hid (w.heap.size ≤ X) := by simp only [Hid]; rw [← hX]; exact (bel_chain HB1.out (bel_alloc (Below.refl _ _) _)).size
  have HX : Hid (RTierAt (w2.alloc (.cells #[.int .i64 (n : Int), .int .i64 (p : Int), .slice none 0 0] 61)) X n p [] none 0) := ⟨blk_new hX.symm, SpG.nil _, by simp [Value.ownBlock]⟩
  obtain ⟨V, hV⟩ : ∃ V, w2.alloc (.cells #[.int .i64 (n : Int), .int .i64 (p : Int), .slice none 0 0] 61) = V := ⟨_, rfl⟩
  have HVb : Hid (Below w.heap.size w V) := by subst hV; exact bel_alloc (bel_chain HB1.out (bel_alloc (Below.refl _ _) _)) _
  have HTV : Hid (TierAt V w.heap.size t n (n - p) r d L (n - (n - p)) nm A c []) := by
    have := HT1.out.below (bel_alloc (Below.refl _ _) (.cells #[.int .i64 (n : Int), .int .i64 (p : Int), .slice none 0 0] 61))
    rw [hV] at this
    exact Lib.hid ⟨this.blk, this.ring, this.down, Nat.le_trans (by simp) this.bd, this.nd⟩
  have HSV : Hid (SpG encO 2 V A0 c0 os) := Lib.hid (HS.out.below HVb.out)
  rw [hV] at HX
  rw [hX, hV]
  clear hX hV BB z0 z1 z2 hz HT1 HB1 HSV HN HF
  go_loopw [9, 45] (fun _ si wr => ∃ (k : Nat) (A' : Option Addr) (c' : Nat), k ≤ os.length ∧ si = .int .i64 k ∧ TierAt wr w.heap.size t n (n - p) r d L (n - (n - p)) nm A c (foldD n (n - p) [] (os.take k)) ∧ RTierAt wr X n p (foldG n (n - p) [] (os.take k)) A' c' ∧ Below w.heap.size w wr) (fun _ si _ => os.length - (intOf si).toNat)
  case atStart => exact ⟨0, none, 0, Nat.zero_le _, rfl, HTV.out, HX.out, HVb.out⟩
  case round =>
    obtain ⟨k, A', c', hk, rfl, ht, hr, hb⟩ := hrel
    have HT := Lib.hid ht
    have HR := Lib.hid hr
    have HB := Lib.hid hb
    clear ht hr hb
    by_cases hlt : k < os.length
    · obtain ⟨b, off, e, hbl, hc⟩ := (HS.out.below HB.out).at' k hlt
      have HD2 := Lib.hid (foldD_step (n := n) (ch := n - p) (D := []) hlt)
      have HG2 := Lib.hid (foldG_step (n := n) (ch := n - p) (G := []) hlt)
      obtain ⟨q, dn, hq⟩ : ∃ q dn, os[k] = (q, dn) := ⟨_, _, rfl⟩
      rw [hq] at hc HD2 HG2
      have c1 : wr.cell? ⟨b, off + k * 2, none⟩ = some (.int .i64 q) := by simpa using hc 0 _ rfl
      have c2 : wr.cell? ⟨b, off + k * 2 + 1, none⟩ = some (.bool dn) := hc 1 _ rfl
      clear hc hq
      subst e
      have hgl : (foldG n (n - p) [] (os.take k)).length ≤ 1000 := by
        have := foldG_len n (n - p) (os.take k) []
        rw [List.length_take] at this; simp at this; omega
      obtain ⟨DD, hDD⟩ : ∃ DD, foldD n (n - p) [] (os.take k) = DD := ⟨_, rfl⟩
      obtain ⟨GG, hGG⟩ : ∃ GG, foldG n (n - p) [] (os.take k) = GG := ⟨_, rfl⟩
      rw [hDD] at HT HD2
      rw [hGG] at HR HG2 hgl
      have hbx := bel_alloc (Below.refl wr.heap.size wr) (.cells #[.int .i64 q, .bool dn] 63)
      have HST : Hid (St w t n (n - p) r d L (n - (n - p)) nm A c X p wr.heap.size q dn DD GG (wr.alloc (.cells #[.int .i64 q, .bool dn] 63))) :=
        ⟨HT.out.below hbx, ⟨A', c', HR.out.below hbx⟩, blk_new rfl, bel_chain hbx HB.out, HXX.out⟩
      obtain ⟨DE, hDE⟩ : ∃ DE, (if inR n (n - p) q then turnD DD q dn else DD) = DE := ⟨_, rfl⟩
      obtain ⟨GE, hGE⟩ : ∃ GE, (if inR n (n - p) q then goneL GG q dn else GG) = GE := ⟨_, rfl⟩
      have HDa := fun W D G (h : St w t n (n - p) r d L (n - (n - p)) nm A c X p wr.heap.size q dn D G W) => Lib.hid h.down
      have HRa := fun W D G (hl : G.length ≤ 1000) (h : St w t n (n - p) r d L (n - (n - p)) nm A c X p wr.heap.size q dn D G W) => Lib.hid (h.rdown hn2 (by omega) rfl hl)
      obtain ⟨z, hz⟩ : ∃ z, rcI n (n - p) q = z := ⟨_, rfl⟩
      simp only [hz] at HDa HRa
      have HD3 := Lib.hid (HD2.out.trans hDE)
      have HG3 := Lib.hid (HG2.out.trans hGE)
      have HDE := Lib.hid hDE
      have HGE := Lib.hid hGE
      have x0 := blk_cell (i := 0) HST.out.blk rfl
      have x1 := blk_cell (i := 1) HST.out.blk rfl
      clear hDD hGG hz hbx hDE hGE HD2 HG2 HT HR
      go_wp2_with fail
      go_region_held3 (fun w' => w'.cell? ⟨wr.heap.size, 0, none⟩ = some (.int .i64 q) ∧ w'.cell? ⟨wr.heap.size, 1, none⟩ = some (.bool dn))
        (first | exact ⟨x0, x1⟩ | exact ⟨y0, y1⟩ | exact ⟨z0, z1⟩ | fail)
        ((first | (go_at_call 10; refine (HDa _ _ _ (by first | exact s6 | exact HST.out | exact s6.below (by (repeat (first | exact Below.refl _ _ | refine bel_drewN ?_ _ | refine bel_drew ?_ | refine bel_alloc ?_ _ | refine bel_set ?_ (by simp) _))) | exact HST.out.below (by (repeat (first | exact Below.refl _ _ | refine bel_drewN ?_ _ | refine bel_drew ?_ | refine bel_alloc ?_ _ | refine bel_set ?_ (by simp) _))))).out.mono ?_; rintro e w5 ⟨rfl, s5⟩; have y0 := blk_cell (i := 0) s5.blk rfl; have y1 := blk_cell (i := 1) s5.blk rfl) | (go_at_call 18; refine (HRa _ _ _ hgl (by first | exact s5 | exact HST.out | exact s5.below (by (repeat (first | exact Below.refl _ _ | refine bel_drewN ?_ _ | refine bel_drew ?_ | refine bel_alloc ?_ _ | refine bel_set ?_ (by simp) _))) | exact HST.out.below (by (repeat (first | exact Below.refl _ _ | refine bel_drewN ?_ _ | refine bel_drew ?_ | refine bel_alloc ?_ _ | refine bel_set ?_ (by simp) _))))).out.mono ?_; rintro e w6 ⟨rfl, s6⟩; have z0 := blk_cell (i := 0) s6.blk rfl; have z1 := blk_cell (i := 1) s6.blk rfl)))
      go_wp2_with fail
      go_roundw
      case rel =>
        obtain ⟨A5, c5, hr5⟩ := s6.r
        refine ⟨k + 1, A5, c5, by omega, by go_num, ?_, ?_, s6.hb⟩
        · rw [HD3.out, ← HDE.out]; exact s6.t
        · rw [HG3.out, ← HGE.out]; exact hr5
      case measure => simp [intOf]; omega
    · have hke : os.take k = os := List.take_of_length_le (by omega)
      rw [hke] at HT HR
      have hnp : n - (n - p) = p := by omega
      rw [hnp] at HT HPM
      clear hke hnp
      go_wp2_with fail
      refine bodyPost_ret (by simp [results, Tryd.results7, go_sem]; try rfl) rfl ?_
      exact ⟨t, r, d, L, nm, A, c, X, A', c', rfl, HT.out, HPM.out, HPW.out, HR.out, HB.out⟩
end Go.Proofs.YtnlamjebgkgbaaaDoor
namespace Go.Proofs.YtnlamjebgkgbaaaDoor
open Go.RowKit

theorem names_mem {f k : Nat} {y : List UInt8} : y ∈ namesL f k ↔ ∃ p, f ≤ p ∧ p < f + k ∧ nmL p = y := by
  unfold namesL
  simp only [List.mem_map, List.mem_range]
  constructor
  · rintro ⟨i, hi, e⟩; exact ⟨f + i, by omega, by omega, e⟩
  · rintro ⟨p, h1, h2, e⟩; exact ⟨p - f, by omega, by rw [show f + (p - f) = p by omega]; exact e⟩
theorem map_of : ∀ {l : List (List UInt8)}, (∀ y ∈ l, ∃ p, nmL p = y) → ∃ Ps : List Nat, l = Ps.map nmL
  | [], _ => ⟨[], rfl⟩
  | y :: l, h => by
    obtain ⟨p, hp⟩ := h y (List.mem_cons_self ..)
    obtain ⟨Ps, e⟩ := map_of (l := l) fun z hz => h z (List.mem_cons_of_mem _ hz)
    exact ⟨p :: Ps, by rw [e, List.map_cons, hp]⟩
theorem mem_rot {L : List Pt} {k : Nat} {x : Pt} : x ∈ rotL L k ↔ x ∈ L := by
  unfold rotL
  rw [List.mem_append]
  constructor
  · rintro (h | h)
    · exact List.mem_of_mem_drop h
    · exact List.mem_of_mem_take h
  · intro h
    rw [← List.take_append_drop k L] at h
    rcases List.mem_append.1 h with h | h
    · exact .inr h
    · exact .inl h
theorem ptsOf_name {n : List UInt8} {x : Pt} (h : x ∈ ptsOf n) : x.2 = n := by
  unfold ptsOf at h
  obtain ⟨i, _, e⟩ := List.mem_map.1 h
  rw [← e]
theorem ptsOf_has (n : List UInt8) : ∃ x ∈ ptsOf n, x.2 = n :=
  ⟨(hashN (Lib.decDigits 0 ++ 35 :: n), n), List.mem_map.2 ⟨0, List.mem_range.2 (by omega), rfl⟩, rfl⟩
theorem allPts_name {f k : Nat} {x : Pt} (h : x ∈ allPts f k) : x.2 ∈ namesL f k := by
  unfold allPts at h
  obtain ⟨n, hn, hx⟩ := List.mem_flatMap.1 h
  rw [ptsOf_name hx]; exact hn
theorem allPts_has {f k : Nat} {y : List UInt8} (h : y ∈ namesL f k) : ∃ x ∈ allPts f k, x.2 = y := by
  obtain ⟨x, hx, e⟩ := ptsOf_has y
  exact ⟨x, List.mem_flatMap.2 ⟨y, h, hx⟩, e⟩
theorem nodup_of_map {Ps : List Nat} (h : (Ps.map nmL).Nodup) : Ps.Nodup := by
  unfold List.Nodup at *
  rw [List.pairwise_map] at h
  exact h.imp fun hne e => hne (by rw [e])
/-- The parents, in the order of their first points. -/
theorem ps_of {ch p m : Nat} {L : List Pt} (hL : L.Perm (allPts ch p)) (hm : p ≤ m) (j : Nat) :
    ∃ Ps : List Nat, ownersL m (rotL L j) = Ps.map nmL ∧ Ps.Nodup ∧ ∀ q, q ∈ Ps ↔ ch ≤ q ∧ q < ch + p := by
  obtain ⟨h1, h2, _⟩ := own_spec (m := m) (Ns := namesL ch p) (by rw [namesL_len]; exact hm) (fun _ => true) (rotL L j) [] List.nodup_nil (fun y hy => by simp at hy) (fun x hx => allPts_name (hL.mem_iff.1 (mem_rot.1 hx)))
  have h3 : ∀ y, y ∈ ownersL m (rotL L j) ↔ y ∈ namesL ch p := fun y => by
    unfold ownersL; rw [h2]
    constructor
    · rintro (h | ⟨x, hx, e⟩)
      · simp at h
      · rw [← e]; exact allPts_name (hL.mem_iff.1 (mem_rot.1 hx))
    · intro h
      obtain ⟨x, hx, e⟩ := allPts_has h
      exact .inr ⟨x, mem_rot.2 (hL.mem_iff.2 hx), e⟩
  obtain ⟨Ps, e⟩ := map_of (l := ownersL m (rotL L j)) fun y hy => by
    obtain ⟨q, _, _, e⟩ := names_mem.1 ((h3 y).1 hy)
    exact ⟨q, e⟩
  refine ⟨Ps, e, ?_, fun q => ?_⟩
  · refine nodup_of_map ?_
    rw [← e]; exact h1
  · have h4 := h3 (nmL q)
    rw [e, names_mem] at h4
    constructor
    · intro h
      obtain ⟨r, a, b, c⟩ := h4.1 (List.mem_map_of_mem h)
      have := nmL_inj c
      omega
    · intro ⟨a, b⟩
      obtain ⟨r, hr, c⟩ := List.mem_map.1 (h4.2 ⟨q, a, b, rfl⟩)
      rw [← nmL_inj c]; exact hr
theorem upL_mem {D : List (Int × Bool)} {ch : Nat} : ∀ {k : Nat} {x : Int}, x ∈ upL D ch k ↔ ∃ q : Nat, ch ≤ q ∧ q < ch + k ∧ x = (q : Int) ∧ upB D q = true
  | 0, x => by unfold upL; simp; omega
  | k + 1, x => by
    unfold upL
    rw [List.mem_append, upL_mem (k := k)]
    constructor
    · rintro (⟨q, a, b, c, d⟩ | h)
      · exact ⟨q, a, by omega, c, d⟩
      · split at h
        · rename_i hu
          simp at h
          exact ⟨ch + k, by omega, by omega, by rw [h]; simp, hu⟩
        · simp at h
    · rintro ⟨q, a, b, c, d⟩
      by_cases e : q = ch + k
      · subst e
        right
        rw [if_pos d]
        simp [c]
      · exact .inl ⟨q, a, by omega, c, d⟩
theorem upL_nodup (D : List (Int × Bool)) (ch : Nat) : ∀ k, (upL D ch k).Nodup
  | 0 => List.nodup_nil
  | k + 1 => by
    unfold upL
    split
    · refine nodup_snoc (upL_nodup D ch k) fun h => ?_
      obtain ⟨q, _, b, c, _⟩ := upL_mem.1 h
      omega
    · rw [List.append_nil]; exact upL_nodup D ch k
theorem firstUp_congr {D D' : List (Int × Bool)} {Ps : List Nat} (h : ∀ q ∈ Ps, upN D' q = upN D q) : firstUp D' Ps = firstUp D Ps := by
  have : Ps.find? (upN D') = Ps.find? (upN D) := by
    induction Ps with
    | nil => rfl
    | cons x r ih =>
      rw [List.find?_cons, List.find?_cons, h x (List.mem_cons_self ..), ih fun q hq => h q (List.mem_cons_of_mem _ hq)]
  unfold firstUp; rw [this]
theorem firstUp_some {D : List (Int × Bool)} {Ps : List Nat} {q : Nat} (hq : q ∈ Ps) (hu : upN D q = true) : ∃ r ∈ Ps, upN D r = true ∧ firstUp D Ps = ((r : Int), true) := by
  unfold firstUp
  cases h : Ps.find? (upN D) with
  | none => have := List.find?_eq_none.1 h q hq; rw [hu] at this; exact absurd rfl this
  | some r => exact ⟨r, List.mem_of_find?_eq_some h, List.find?_some h, rfl⟩
theorem firstUp_is {D : List (Int × Bool)} {Ps : List Nat} (h : (firstUp D Ps).2 = true) : ∃ r ∈ Ps, upN D r = true ∧ firstUp D Ps = ((r : Int), true) := by
  unfold firstUp at *
  cases e : Ps.find? (upN D) with
  | none => rw [e] at h; simp at h
  | some r => exact ⟨r, List.mem_of_find?_eq_some e, List.find?_some e, rfl⟩
theorem upN_down {D : List (Int × Bool)} (hn : (keysM D).Nodup) (g q : Nat) : upN (turnD D (g : Int) true) q = if g = q then false else upN D q := by
  unfold upN; rw [upB_turn hn]
  by_cases e : g = q
  · subst e; simp
  · rw [if_neg (fun h => e (by omega)), if_neg e]
/-- One that goes down leaves the others' objects, and comes back as it went. -/
theorem downs_law {D : List (Int × Bool)} {ch p g : Nat} {Ps : List Nat} (hn : (keysM D).Nodup) (hP : ∀ q, q ∈ Ps ↔ ch ≤ q ∧ q < ch + p) (hg : (g : Int) ∈ upL D ch p) :
    let was := firstUp D Ps
    let now := firstUp (turnD D (g : Int) true) Ps
    let again := firstUp (turnD (turnD D (g : Int) true) (g : Int) false) Ps
    (was.1 = (g : Int) ∨ (now.2 = true ∧ now.1 = was.1)) ∧ (now.2 = true → now.1 ≠ (g : Int)) ∧ now.2 = decide (1 < (upL D ch p).length) ∧ again = was := by
  obtain ⟨q, a, b, c, d⟩ := upL_mem.1 hg
  obtain rfl : g = q := by omega
  have hgP := (hP g).2 ⟨a, b⟩
  intro was now again
  refine ⟨?_, ?_, ?_, ?_⟩
  · obtain ⟨r, hr, hu, e⟩ := firstUp_some hgP d
    by_cases hrg : r = g
    · left; show (firstUp D Ps).1 = _; rw [e, hrg]
    · right
      have e2 : firstUp (turnD D (g : Int) true) Ps = ((r : Int), true) := by
        unfold firstUp at e ⊢
        cases hf : Ps.find? (upN D) with
        | none => rw [hf] at e; simp at e
        | some r' =>
          rw [hf] at e
          simp only [Prod.mk.injEq] at e
          obtain rfl : r' = r := by omega
          have hf2 : Ps.find? (upN (turnD D (g : Int) true)) = some r' := by
            rw [List.find?_eq_some_iff_append] at hf ⊢
            refine ⟨by rw [upN_down hn, if_neg (fun e => hrg e.symm)]; exact hf.1, ?_⟩
            obtain ⟨l1, l2, e1, e2⟩ := hf.2
            refine ⟨l1, l2, e1, fun x hx => ?_⟩
            rw [upN_down hn]
            split
            · rfl
            · exact e2 x hx
          rw [hf2]
      show (firstUp (turnD D (g : Int) true) Ps).2 = true ∧ (firstUp (turnD D (g : Int) true) Ps).1 = (firstUp D Ps).1
      rw [e2, e]; exact ⟨rfl, rfl⟩
  · intro h e
    obtain ⟨r, hr, hu, e2⟩ := firstUp_is (D := turnD D (g : Int) true) h
    have e3 : (firstUp (turnD D (g : Int) true) Ps).1 = (g : Int) := e
    rw [e2] at e3
    obtain rfl : r = g := by simp at e3; omega
    rw [upN_down hn, if_pos rfl] at hu; cases hu
  · show (firstUp (turnD D (g : Int) true) Ps).2 = _
    by_cases h : 1 < (upL D ch p).length
    · rw [decide_eq_true h]
      by_cases hx : ∃ x ∈ upL D ch p, x ≠ (g : Int)
      · obtain ⟨x, hx, hxg⟩ := hx
        obtain ⟨r, r1, r2, r3, r4⟩ := upL_mem.1 hx
        have hrg : ¬ g = r := fun e => hxg (by rw [r3, e])
        obtain ⟨s, _, _, e⟩ := firstUp_some (D := turnD D (g : Int) true) ((hP r).2 ⟨r1, r2⟩) (by rw [upN_down hn, if_neg hrg]; exact r4)
        rw [e]
      · exfalso
        have := nodup_le (b := [(g : Int)]) (upL_nodup D ch p) fun x hx2 => by
          by_cases e : x = (g : Int)
          · simp [e]
          · exact absurd ⟨x, hx2, e⟩ hx
        simp at this; omega
    · rw [decide_eq_false h]
      cases hb : (firstUp (turnD D (g : Int) true) Ps).2 with
      | false => rfl
      | true =>
        exfalso
        obtain ⟨r, hr, hu, _⟩ := firstUp_is hb
        rw [upN_down hn] at hu
        by_cases e : g = r
        · rw [if_pos e] at hu; cases hu
        · rw [if_neg e] at hu
          have hr2 := (hP r).1 hr
          have := nodup_le (a := [(g : Int), (r : Int)]) (b := upL D ch p) (by simp; omega) fun x hx => by
            simp at hx
            rcases hx with rfl | rfl
            · exact hg
            · exact upL_mem.2 ⟨r, hr2.1, hr2.2, rfl, hu⟩
          simp at this; omega
  · refine firstUp_congr fun q _ => ?_
    unfold upN
    rw [upB_turn (turnD_nodup hn _ _), upB_turn hn]
    by_cases e : (g : Int) = (q : Int)
    · rw [if_pos e, ← e, d]; rfl
    · rw [if_neg e, if_neg e]
end Go.Proofs.YtnlamjebgkgbaaaDoor
namespace Go.Proofs.YtnlamjebgkgbaaaDoor
open Go.RowKit

def okc (c : UInt8) : Bool := decide (33 ≤ c.toNat) && decide (c.toNat ≤ 126)
def okt (c : UInt8) : Bool := decide (33 ≤ c.toNat) && decide (c.toNat ≤ 126) && decide (c.toNat ≠ 34)
def objB (l : List UInt8) : Bool := decide (1 ≤ l.length) && decide (l.length ≤ 200) && (l.headD 0 == 47) && l.all okc
def tagB (l : List UInt8) : Bool := decide (1 ≤ l.length) && decide (l.length ≤ 100) && l.all okt
theorem all_take_succ (p : UInt8 → Bool) (s : ByteArray) (k : Nat) (h : k < s.size) : (s.data.toList.take (k + 1)).all p = ((s.data.toList.take k).all p && p s[k]) := by
  rw [List.take_succ_eq_append_getElem (by simpa using h), List.all_append]; simp; rfl
theorem all_step {p : UInt8 → Bool} {s : ByteArray} {k : Nat} (h : k < s.size) (ha : (s.data.toList.take k).all p = true) (hp : p s[k] = true) : (s.data.toList.take (k + 1)).all p = true := by
  rw [all_take_succ p s k h, ha, hp]; rfl
theorem head_eq (s : ByteArray) (h : 0 < s.size) : s.data.toList.headD 0 = s[0] := by
  obtain ⟨⟨l⟩⟩ := s
  cases l with
  | nil => simp [ByteArray.size] at h
  | cons a l => rfl
theorem all_false_of (p : UInt8 → Bool) (s : ByteArray) (k : Nat) (h : k < s.size) (hp : p s[k] = false) : s.data.toList.all p = false := by
  rw [List.all_eq_false]
  refine ⟨s[k], ?_, by simp [hp]⟩
  rw [ByteArray.getElem_eq_getElem_data]
  simp only [Array.mem_toList_iff]
  exact Array.getElem_mem _
theorem len_eq (s : ByteArray) : s.data.toList.length = s.size := rfl
theorem all_end {p : UInt8 → Bool} {s : ByteArray} {k : Nat} (h : ¬ k < s.size) (ha : (s.data.toList.take k).all p = true) : s.data.toList.all p = true := by
  rw [List.take_of_length_le (by rw [len_eq]; omega)] at ha; exact ha
set_option maxHeartbeats 400000 in
theorem objA (s : ByteArray) (w : World) :
    Calls Tryd.prog 26 #[.string s] w fun e w' => e = .returned (.bool (objB s.data.toList)) ∧ w = w' := by
  have hl := len_eq s
  by_cases h1 : 1 ≤ s.size ∧ s.size ≤ 200
  · obtain ⟨h1, h2⟩ := h1
    have hh := head_eq s (by omega)
    by_cases h3 : s[0] = 47
    · have hb : (((s[0].toNat : Int)) != 47) = false := by simp [h3]
      have H : Hid (objB s.data.toList = s.data.toList.all okc) := by
        simp only [Hid]; unfold objB; rw [hl, hh]; simp [h1, h2, h3]
      clear hl hh h3
      go_enter Tryd.func26, Tryd.ntmps26
      go_wp2
      go_loop [3, 19] (fun _ i => ∃ k : Nat, k ≤ s.size ∧ i = .int .i64 k ∧ (s.data.toList.take k).all okc = true) (fun _ i => s.size - (intOf i).toNat)
      case atStart => exact ⟨0, Nat.zero_le _, rfl, by simp⟩
      case round =>
        obtain ⟨k, hk, rfl, hal⟩ := hrel
        have HA := Lib.hid hal
        clear hal hb
        by_cases hlt : k < s.size
        · go_wp2
          · go_ret
            exact ⟨ret_bool (by rw [H.out, all_false_of okc s k hlt (by simp only [okc]; simp; omega)]), rfl⟩
          · go_round
            case rel => exact ⟨k + 1, by omega, by go_num, all_step hlt HA.out (by simp only [okc]; simp; omega)⟩
            case measure => simp [intOf]; omega
          · go_ret
            exact ⟨ret_bool (by rw [H.out, all_false_of okc s k hlt (by simp only [okc]; simp; omega)]), rfl⟩
        · go_wp2
          go_ret
          exact ⟨ret_bool (by rw [H.out, all_end hlt HA.out]), rfl⟩
    · have hb : (((s[0].toNat : Int)) != 47) = true := by
        rw [bne_iff_ne]; intro h; exact h3 (UInt8.toNat_inj.1 (by show s[0].toNat = 47; omega))
      have H : Hid (objB s.data.toList = false) := by
        simp only [Hid]; unfold objB; rw [hl, hh]; simp [h3]
      clear hl hh h3
      go_enter Tryd.func26, Tryd.ntmps26
      go_wp2
      go_ret
      exact ⟨ret_bool (by rw [H.out]), rfl⟩
  · have H : Hid (objB s.data.toList = false) := by
      simp only [Hid]; unfold objB; rw [hl]
      by_cases h2 : 1 ≤ s.size
      · have : ¬ s.size ≤ 200 := fun h => h1 ⟨h2, h⟩
        simp [this]
      · simp [h2]
    clear hl
    by_cases h2 : s.size < 1
    all_goals
      go_enter Tryd.func26, Tryd.ntmps26
      go_wp2
      go_ret
      exact ⟨ret_bool (by rw [H.out]), rfl⟩
set_option maxHeartbeats 400000 in
theorem tagA (s : ByteArray) (wk : Bool) (w : World) :
    Calls Tryd.prog 28 #[.agg #[.string s, .bool wk]] w fun e w' => e = .returned (.bool (tagB s.data.toList)) ∧ w.alloc (.cells #[.string s, .bool wk] 46) = w' := by
  have hl := len_eq s
  by_cases h1 : 1 ≤ s.size ∧ s.size ≤ 100
  · obtain ⟨h1, h2⟩ := h1
    have H : Hid (tagB s.data.toList = s.data.toList.all okt) := by
      simp only [Hid]; unfold tagB; rw [hl]; simp [h1, h2]
    clear hl
    go_enter Tryd.func28, Tryd.ntmps28
    go_wp2
    go_loop [3, 4, 18] (fun _ _ i => ∃ k : Nat, k ≤ s.size ∧ i = .int .i64 k ∧ (s.data.toList.take k).all okt = true) (fun _ _ i => s.size - (intOf i).toNat)
    case atStart => exact ⟨0, Nat.zero_le _, rfl, by simp⟩
    case round =>
      obtain ⟨k, hk, rfl, hal⟩ := hrel
      have HA := Lib.hid hal
      clear hal
      by_cases hlt : k < s.size
      · by_cases h4 : okt s[k] = true
        · have HB := Lib.hid h4
          have h5 : 33 ≤ s[k].toNat ∧ s[k].toNat ≤ 126 ∧ s[k].toNat ≠ 34 := by
            simp [okt] at h4; refine ⟨h4.1.1, h4.1.2, h4.2⟩
          obtain ⟨h5, h6, h7⟩ := h5
          have h8 : ((s[k].toNat : Int) == 34) = false := by rw [beq_eq_false_iff_ne]; omega
          clear h4 h7
          go_wp2
          go_round
          case rel => exact ⟨k + 1, by omega, by go_num, all_step hlt HA.out HB.out⟩
          case measure => simp [intOf]; omega
        · have HB : Hid (okt s[k] = false) := by simp only [Hid]; simpa using h4
          have h5 : s[k].toNat < 33 ∨ 126 < s[k].toNat ∨ s[k].toNat = 34 := by
            simp [okt] at h4; omega
          clear h4
          have fin : Hid (tagB s.data.toList = false) := by simp only [Hid]; rw [H.out]; exact all_false_of okt s k hlt HB.out
          by_cases h6 : s[k].toNat < 33
          · clear h5
            go_wp2
            go_ret
            exact ⟨ret_bool (by rw [fin.out]), rfl⟩
          · by_cases h7 : s[k].toNat = 34
            · have h8 : ((s[k].toNat : Int) == 34) = true := by rw [beq_iff_eq]; omega
              clear h5 h7
              go_wp2
              go_ret
              exact ⟨ret_bool (by rw [fin.out]), rfl⟩
            · have h8 : ((s[k].toNat : Int) == 34) = false := by rw [beq_eq_false_iff_ne]; omega
              have h9 : 126 < s[k].toNat := by omega
              clear h5 h7
              go_wp2
              go_ret
              exact ⟨ret_bool (by rw [fin.out]), rfl⟩
      · go_wp2
        go_ret
        exact ⟨ret_bool (by rw [H.out, all_end hlt HA.out]), rfl⟩
  · have H : Hid (tagB s.data.toList = false) := by
      simp only [Hid]; unfold tagB; rw [hl]
      by_cases h2 : 1 ≤ s.size
      · have : ¬ s.size ≤ 100 := fun h => h1 ⟨h2, h⟩
        simp [this]
      · simp [h2]
    clear hl
    by_cases h2 : s.size < 1
    all_goals
      go_enter Tryd.func28, Tryd.ntmps28
      go_wp2
      go_ret
      exact ⟨ret_bool (by rw [H.out]), rfl⟩
def spanRB (f t : Int) : Bool := decide (0 ≤ f) && decide (f ≤ t) && decide (t ≤ 4611686018427387904)
set_option maxHeartbeats 400000 in
theorem spanRightA (f t : Int) (w : World) :
    Calls Tryd.prog 27 #[.agg #[.int .i64 f, .int .i64 t]] w fun e w' => e = .returned (.bool (spanRB f t)) ∧ w.alloc (.cells #[.int .i64 f, .int .i64 t] 54) = w' := by
  go_enter Tryd.func27, Tryd.ntmps27
  go_wp2
  all_goals
    go_ret
    refine ⟨ret_bool ?_, rfl⟩
    unfold spanRB
    rw [Bool.eq_iff_iff]; simp; try omega
set_option maxHeartbeats 400000 in
theorem condNone (w : World) :
    Calls Tryd.prog 29 #[] w fun e w' => e = .returned (.agg #[.slice none 0 0, .slice none 0 0, .bool false, .bool false, .int .i64 (-1), .int .i64 (-1), .string ⟨#[]⟩, .bool false]) ∧ w.alloc (.cells #[.slice none 0 0, .slice none 0 0, .bool false, .bool false, .int .i64 (-1), .int .i64 (-1), .string ⟨#[]⟩, .bool false] 48) = w' := by
  go_enter Tryd.func29, Tryd.ntmps29
  go_wp2
  exact bodyPost_ret (v := .agg #[.slice none 0 0, .slice none 0 0, .bool false, .bool false, .int .i64 (-1), .int .i64 (-1), .string ⟨#[]⟩, .bool false]) (by simp [results, Tryd.results29, go_sem]) rfl ⟨rfl, rfl⟩
theorem frozen_drew' (w : World) (a : Addr) : w.drew.frozen? a = w.frozen? a := rfl
/-- A slice of at most one element of two cells. -/
def SL2 (w : World) (v : Value) (o : Option (Value × Value)) : Prop :=
  match o with
  | none => v = .slice none 0 0
  | some (x, y) => ∃ b, v = .slice (some ⟨b, 0, none⟩) 1 1 ∧ b < w.heap.size ∧ w.cell? ⟨b, 0, none⟩ = some x ∧ w.cell? ⟨b, 1, none⟩ = some y
def specO (f t : Int) : Option (Value × Value) :=
  if t = 4611686018427387904 then (if 0 < f then some (.int .i64 f, .int .i64 (-1)) else none) else some (.int .i64 f, .int .i64 (t - 1))
def tagO (m : ByteArray) (mw : Bool) : Option (Value × Value) := if m.toList = [] then none else some (.string m, .bool mw)
abbrev reqV (o : ByteArray) (S M N : Value) : Value := .agg #[.bool false, .string o, S, M, N, .bool false, .bool false, .int .i64 (-1), .int .i64 (-1), .string ⟨#[]⟩, .bool false]
def AskPost (o m n : ByteArray) (f t : Int) (mw nw : Bool) (w : World) (e : Ending) (w' : World) : Prop :=
  ∃ S M N, e = .returned (.tuple #[reqV o S M N, .int .i64 0]) ∧ SL2 w' S (specO f t) ∧ SL2 w' M (tagO m mw) ∧ SL2 w' N (tagO n nw) ∧ Below w.heap.size w w'
theorem SL2_some {w : World} {v x y : Value} (b : Nat) (hv : v = .slice (some ⟨b, 0, none⟩) 1 1) (hb : b < w.heap.size) (hx : w.cell? ⟨b, 0, none⟩ = some x) (hy : w.cell? ⟨b, 1, none⟩ = some y) : SL2 w v (some (x, y)) := ⟨b, hv, hb, hx, hy⟩
theorem SL2_none {w : World} : SL2 w (.slice none 0 0) none := rfl
set_option maxHeartbeats 8000000 in
set_option maxRecDepth 100000 in
theorem ask_yesC (o m n : ByteArray) (f t : Int) (mw nw : Bool) (w : World) (hO : objB o.data.toList = true) (hR : spanRB f t = true) (hft : (f == t) = false) (hfM : f < 1000000000000000000) (ht0 : 0 ≤ f)
   (htf : ¬ t = 4611686018427387904) (htM : t ≤ 1000000000000000000) (htb : (t != 4611686018427387904) = true) (htc : (t == 4611686018427387904) = false) (htn : 0 ≤ t)
   (hm : ¬ m.toList = [] ∧ tagB m.data.toList = true) (hn : n.toList = [] ∧ nw = false) :
    Calls Tryd.prog 16 #[.agg #[.string o, .int .i64 f, .int .i64 t, .string m, .bool mw, .string n, .bool nw]] w (AskPost o m n f t mw nw w) := by
  have HT : Hid (specO f t = some (.int .i64 f, .int .i64 (t - 1))) := by simp [Hid, specO, htf]
  clear htf
  obtain ⟨hm, hmt⟩ := hm
  obtain ⟨hn, rfl⟩ := hn
  all_goals
    have HM := Lib.hid hm
    have HN := Lib.hid hn
    go_enter Tryd.func16, Tryd.ntmps16
    go_wp2_with (first
      | (go_at_call 26; refine (objA _ _).mono ?_; rintro e w' ⟨rfl, rfl⟩)
      | (go_at_call 27; refine (spanRightA _ _ _).mono ?_; rintro e w' ⟨rfl, rfl⟩)
      | (go_at_call 28; refine (tagA _ _ _).mono ?_; rintro e w' ⟨rfl, rfl⟩))
    go_region_held3 (fun w' => w'.cell? ⟨w.heap.size, 0, none⟩ = some (.string o)) (go_simp)
      (first | (go_at_call 29; refine (condNone _).mono ?_; rintro e w' ⟨rfl, rfl⟩))
    all_goals go_wp2
    all_goals
      refine bodyPost_ret (by simp [results, Tryd.results16, go_sem]; try rfl) rfl ?_
      refine ⟨_, _, _, rfl, ?_, ?_, ?_, ?_⟩
      · rw [HT.out]; first | exact SL2_none | exact SL2_some _ rfl (by simp) (by simp [go_sem]) (by simp [go_sem])
      · simp only [tagO]; first | (rw [if_pos HM.out]; exact SL2_none) | (rw [if_neg HM.out]; exact SL2_some _ rfl (by simp) (by simp [go_sem]) (by simp [go_sem]))
      · simp only [tagO]; first | (rw [if_pos HN.out]; exact SL2_none) | (rw [if_neg HN.out]; exact SL2_some _ rfl (by simp) (by simp [go_sem]) (by simp [go_sem]))
      · repeat (first | exact Below.refl _ _ | refine bel_drew ?_ | refine bel_alloc ?_ _)
set_option maxHeartbeats 4000000 in
set_option maxRecDepth 100000 in
theorem awake48_any (w : World) : Calls Tryd.prog 6 #[] w fun e w' => e = .returned (.bool true) ∧ Below w.heap.size w w' := by
  have hO : objB (⟨#[47, 97]⟩ : ByteArray).data.toList = true := by decide
  have hy : tagB (⟨#[118]⟩ : ByteArray).data.toList = true := by decide
  have hm : ¬ (⟨#[118]⟩ : ByteArray).toList = [] := by rw [ByteArray.toList_eq]; simp
  have hn : (⟨#[]⟩ : ByteArray).toList = [] := by rw [ByteArray.toList_eq]
  have HA := fun W => Lib.hid (ask_yesC ⟨#[47, 97]⟩ ⟨#[118]⟩ ⟨#[]⟩ 4 8 false false W hO rfl rfl (by omega) (by omega) (by omega) (by omega) rfl rfl (by omega) ⟨hm, hy⟩ ⟨hn, rfl⟩)
  clear hO hm hn
  clear hy
  go_enter Tryd.func6, Tryd.ntmps6
  go_wp2_with fail
  refine (HA _).out.mono ?_
  intro e w1 h
  obtain ⟨S, M, N, rfl, hS, hM, hN, hb⟩ := h
  have eS : specO 4 8 = some (.int .i64 4, .int .i64 7) := rfl
  have eM : tagO ⟨#[118]⟩ false = some (.string ⟨#[118]⟩, .bool false) := by unfold tagO; rw [ByteArray.toList_eq]; rfl
  rw [eS] at hS
  rw [eM] at hM
  obtain ⟨bS, rfl, pS, qS, rS⟩ := hS
  obtain ⟨bM, rfl, pM, qM, rM⟩ := hM
  have eN : tagO ⟨#[]⟩ false = none := by unfold tagO; rw [ByteArray.toList_eq]; rfl
  rw [eN] at hN
  obtain rfl : N = .slice none 0 0 := hN
  clear eS eM eN HA
  go_wp2_with fail
  go_ret
  refine ⟨rfl, ?_⟩
  repeat (first | exact Below.refl _ _ | exact hb | refine bel_drewN ?_ _ | refine bel_drew ?_ | refine bel_alloc ?_ _)
end Go.Proofs.YtnlamjebgkgbaaaDoor
namespace Go.Proofs.YtnlamjebgkgbaaaDoor
open Go.RowKit Go.Shelf Go.Sort

/-- A tier, and that nothing older has turned. -/
structure Tw (w0 : World) (t n ch r d : Nat) (L : List Pt) (m : Nat) (nm : Option Nat) (A : Option Addr) (c : Nat) (D : List (Int × Bool)) (W : World) : Prop where
  t : TierAt W w0.heap.size t n ch r d L m nm A c D
  b : Below w0.heap.size w0 W
section
variable {w0 : World} {t n ch r d : Nat} {L : List Pt} {m : Nat} {nm : Option Nat} {A : Option Addr} {c : Nat} {D : List (Int × Bool)} {W : World}
theorem Tw.below {W' : World} (h : Tw w0 t n ch r d L m nm A c D W) (hb : Below W.heap.size W W') : Tw w0 t n ch r d L m nm A c D W' := ⟨h.t.below hb, bel_chain hb h.b⟩
theorem Tw.down (h : Tw w0 t n ch r d L m nm A c D W) (g : Nat) (hg : ch ≤ g ∧ g < n) (dn : Bool) :
    Calls Tryd.prog 10 #[.pointer (some ⟨t, 0, none⟩), .int .i64 (g : Int), .bool dn] W fun e w' => e = .returned (.int .i64 0) ∧ Tw w0 t n ch r d L m nm A c (turnD D (g : Int) dn) w' := by
  refine (down_any h.t (g : Int) dn).mono fun e w' hp => ?_
  unfold DownPost at hp
  rw [if_pos (by omega)] at hp
  obtain ⟨rfl, ⟨o, rfl⟩, ht⟩ := hp
  exact ⟨rfl, ht, bel_with h.b h.t.bd o⟩
theorem Tw.parent (h : Tw w0 t n ch r d L m nm A c D W) (hso : L.Pairwise ptLe) (hl : L.length ≤ 10000) (hn : n ≤ 64) (o : List UInt8) (ho : o.length ≤ 1000000) (Ps : List Nat) (hPs : ownersL (min n m) (rotL L (firstK (hashN o) L)) = Ps.map nmL) (hP : ∀ p ∈ Ps, p < 100) (q : Nat) (hq : q < ch) :
    Calls Tryd.prog 9 #[.pointer (some ⟨t, 0, none⟩), .int .i64 (q : Int), .string ⟨o.toArray⟩] W fun e w' => e = .returned (.tuple #[.int .i64 (firstUp D Ps).1, .bool (firstUp D Ps).2]) ∧ Tw w0 t n ch r d L m nm A c D w' :=
  (parent_any h.t hso hl hn o ho Ps hPs hP q hq).mono fun e w' hp => ⟨hp.1, h.below hp.2⟩
theorem Tw.parentNo (h : Tw w0 t n ch r d L m nm A c D W) (s : ByteArray) (q : Int) (hq : q < 0 ∨ (ch : Int) ≤ q) :
    Calls Tryd.prog 9 #[.pointer (some ⟨t, 0, none⟩), .int .i64 q, .string s] W fun e w' => e = .returned (.tuple #[.int .i64 0, .bool false]) ∧ Tw w0 t n ch r d L m nm A c D w' :=
  (parent_no h.t s q hq).mono fun e w' hp => ⟨hp.1, by rw [hp.2]; exact h⟩
end
theorem lightB_yes {n p : Nat} {l : Nat} (hp8 : p ≤ 8) (hl : l ≤ 20) : lightB (n : Int) (p : Int) l = true := by
  unfold lightB
  rw [decide_eq_true hl, decide_eq_true (by omega)]; rfl
theorem lightB_fits {n p : Int} {l : Nat} (h : lightB n p l = true) (hf : 1 ≤ n ∧ n ≤ 64 ∧ 0 ≤ p ∧ p < n) : l ≤ 20 ∧ p ≤ 8 := by
  unfold lightB at h
  rw [decide_eq_true hf] at h
  simpa using h
theorem agree_made (n ch : Nat) (os : List (Int × Bool)) : Agree (foldD n ch [] os) (foldG n ch [] os) :=
  Agree.fold os ⟨List.nodup_nil, fun q => by simp [upB, lookM]⟩
theorem allPts_length (f k : Nat) (L : List Pt) (h : L.Perm (allPts f k)) : L.length = 16 * k := by rw [h.length_eq, allPts_len]
theorem light_long (w : World) (n p : Int) (A : Option Addr) (l c : Nat) (h : 20 < l) (hl : l ≤ 9223372036854775807) :
    Calls Tryd.prog 5 #[.agg #[.int .i64 n, .int .i64 p, .slice A l c]] w fun e w' => e = .returned (.bool false) ∧ Below w.heap.size w w' := by
  have h1 : ¬ (l : Int) ≤ 20 := by omega
  go_enter Tryd.func5, Tryd.ntmps5
  go_wp2_with fail
  go_ret
  exact ⟨by first | rfl | simp, bel_alloc (Below.refl _ _) _⟩
theorem ba_listL (o : ByteArray) : ∃ l : List UInt8, o = ⟨l.toArray⟩ ∧ o.size = l.length := ⟨o.data.toList, by obtain ⟨⟨d⟩⟩ := o; rfl, rfl⟩
end Go.Proofs.YtnlamjebgkgbaaaDoor
namespace Go.Proofs.YtnlamjebgkgbaaaDoor
open Go.RowKit Go.Shelf Go.Sort

set_option maxHeartbeats 4000000 in
set_option maxRecDepth 100000 in
theorem downsWalk (w : World) (n p : Nat) (hn : 1 ≤ n) (hn2 : n ≤ 64) (hp : p < n) (hp8 : p ≤ 8) (A0 : Option Addr) (c0 : Nat) (os : List (Int × Bool)) (hos : os.length ≤ 20) (hs : SpG encO 2 w A0 c0 os) (x : Int) (hx : 0 ≤ x ∧ x ≤ 255) (o : List UInt8) (ho : o.length ≤ 200) :
    Calls Tryd.prog 3 #[.agg #[.int .i64 n, .int .i64 p, .slice A0 os.length c0], .int .u8 x, .string ⟨o.toArray⟩] w fun e w' => e = .returned (.bool true) ∧ Below w.heap.size w w' := by
  have HL := fun W => Lib.hid (light_any W (n : Int) (p : Int) A0 os.length c0 (by omega))
  simp only [lightB_yes hp8 hos] at HL
  have HM := fun W h => Lib.hid (made_any W n p hn hn2 hp hp8 A0 c0 os hos h)
  have HS := Lib.hid hs
  have hosz : (⟨o.toArray⟩ : ByteArray).size = o.length := List.size_toArray ..
  have HA := fun W => Lib.hid (awake48_any W)
  clear hs
  go_enter Tryd.func3, Tryd.ntmps3
  go_wp2_with ((first | (go_at_call 5; refine (HL _).out.mono ?_; rintro e w1 ⟨rfl, hb1⟩; have BB := Lib.hid (blk_keep hb1 (blk_new rfl)); have z0 := blk_cell (i := 0) BB.out rfl; have z1 := blk_cell (i := 1) BB.out rfl; have z2 := blk_cell (i := 2) BB.out rfl; have hz := blk_lt BB.out; have HB1 := Lib.hid (bel_chain hb1 (bel_alloc (Below.refl _ _) _)); clear hb1) | (go_at_call 7; go_must (refine (HM _ (HS.out.below HB1.out)).out.mono ?_; rintro e w2 ⟨t, r, d, L, nm, A, c, X, A', c', rfl, ht, hpm, hpw, hr, hb2⟩))))
  have hnp : n - (n - p) = p := by omega
  have hDn := (agree_made n (n - p) os).nd
  obtain ⟨D, hD⟩ : ∃ D, foldD n (n - p) [] os = D := ⟨_, rfl⟩
  rw [hD] at ht hDn
  have HB2 := Lib.hid (bel_chain hb2 HB1.out)
  have HTw : Hid (Tw w t n (n - p) r d L p nm A c D w2) := ⟨⟨ht.blk, ht.ring, ht.down, Nat.le_trans HB1.out.size ht.bd, ht.nd⟩, HB2.out⟩
  obtain ⟨Ps, hPs, hPn, hPm⟩ := ps_of (m := min n p) hpm (by omega) (firstK (hashN o) L)
  have hLl := allPts_length _ _ _ hpm
  have hPar := fun D W (h : Tw w t n (n - p) r d L p nm A c D W) => Lib.hid (h.parent hpw (by omega) hn2 o (by omega) Ps hPs (fun q hq => by have := (hPm q).1 hq; omega) 0 (by omega))
  have hUp := fun W (h : Tw w t n (n - p) r d L p nm A c D W) => Lib.hid (parents_any h.t hn2 (by omega))
  rw [hnp] at hUp
  have HDL := Lib.hid (fun g hg => downs_law (p := p) (g := g) (ch := n - p) hDn hPm hg)
  have HUM := Lib.hid (fun x => upL_mem (D := D) (ch := n - p) (k := p) (x := x))
  have hUl := upL_len D (n - p) p
  obtain ⟨U, hU⟩ : ∃ U, upL D (n - p) p = U := ⟨_, rfl⟩
  rw [hU] at hUp HDL HUM hUl
  have HDo := fun D W (g : Nat) (hg : n - p ≤ g ∧ g < n) dn (h : Tw w t n (n - p) r d L p nm A c D W) => Lib.hid (h.down g hg dn)
  clear ht hpm hpw hr hb2 hPs hPn hPm hLl hDn hD hU HM HL HB1 hnp
  refine (hUp _ HTw.out).out.mono ?_
  rintro e w3 ⟨AU, cU, rfl, hsU, hb3⟩
  have HT3 := Lib.hid (HTw.out.below hb3)
  have HSU := Lib.hid hsU
  clear hsU hb3 HTw hUp
  by_cases hU0 : U.length = 0
  · have hU1 : ((U.length : Int) == 0) = true := by rw [beq_iff_eq]; omega
    clear hU0
    go_wp2_with (go_at_call 6; refine (HA _).out.mono ?_; rintro e w4 ⟨rfl, hb4⟩)
    go_ret
    exact ⟨rfl, bel_chain hb4 HT3.out.b⟩
  · have hU1 : ((U.length : Int) == 0) = false := by rw [beq_eq_false_iff_ne]; omega
    obtain ⟨i, hi⟩ : ∃ i, x.toNat % U.length = i := ⟨_, rfl⟩
    have hil : i < U.length := by rw [← hi]; exact Nat.mod_lt _ (by omega)
    have hrem : x.tmod (U.length : Int) = (i : Int) := by
      rw [Int.tmod_eq_emod_of_nonneg hx.1, ← hi, Int.natCast_emod, Int.toNat_of_nonneg hx.1]
    obtain ⟨b, off, e, hbl, hc⟩ := HSU.out.at' i hil
    obtain ⟨g, g1, g2, g3, _⟩ := (HUM.out U[i]).1 (List.getElem_mem hil)
    have HG := HDL.out g (by rw [← g3]; exact List.getElem_mem hil)
    rw [g3] at hc
    have c1 : w3.cell? ⟨b, off + i, none⟩ = some (.int .i64 (g : Int)) := by simpa using hc 0 _ rfl
    have hgn : n - p ≤ g ∧ g < n := by omega
    have HP1 := Lib.hid (hPar D)
    have HP2 := Lib.hid (hPar (turnD D (g : Int) true))
    have HP3 := Lib.hid (hPar (turnD (turnD D (g : Int) true) (g : Int) false))
    have HD1 := Lib.hid (fun W => HDo D W g hgn true)
    have HD2 := Lib.hid (fun W => HDo (turnD D (g : Int) true) W g hgn false)
    obtain ⟨D1, hD1⟩ : ∃ D1, turnD D (g : Int) true = D1 := ⟨_, rfl⟩
    rw [hD1] at HG HP2 HP3 HD1 HD2
    obtain ⟨D2, hD2⟩ : ∃ D2, turnD D1 (g : Int) false = D2 := ⟨_, rfl⟩
    rw [hD2] at HG HP3 HD2
    obtain ⟨⟨f1, b1⟩, hf1⟩ : ∃ f, firstUp D Ps = f := ⟨_, rfl⟩
    obtain ⟨⟨f2, b2⟩, hf2⟩ : ∃ f, firstUp D1 Ps = f := ⟨_, rfl⟩
    obtain ⟨G1, G2, G3, G4⟩ := HG
    simp only [hf1, hf2] at G1 G2 G3 G4
    simp only [G4] at HP3
    simp only [hf1] at HP1
    simp only [hf2] at HP2
    have hxw : IntKind.i64.wrap x = x := IntWalk.i64_in _ (by omega)
    have hx0 := hx.1
    have hx1 := hx.2
    have hUz : ((U.length : Int) = 0) = False := eq_false (by omega)
    clear hc g1 g2 g3 hi hgn HDo hPar HDL HUM hD1 hD2 hf1 hf2 G4 hx HSU hU0
    subst e
    go_wp2_with fail
    refine (HP1.out _ HT3.out).out.mono ?_
    rintro e w4 ⟨rfl, t4⟩
    have T4 := Lib.hid t4
    clear t4 HT3 HP1 c1
    go_wp2_with fail
    refine (HD1.out _ T4.out).out.mono ?_
    rintro e w5 ⟨rfl, t5⟩
    have T5 := Lib.hid t5
    clear t5 T4 HD1
    go_wp2_with fail
    refine (HP2.out _ T5.out).out.mono ?_
    rintro e w6 ⟨rfl, t6⟩
    have T6 := Lib.hid t6
    clear t6 T5 HP2
    cases b2
    · have k1 : f1 = (g : Int) := by
        rcases G1 with h | ⟨h, _⟩
        · exact h
        · cases h
      have k2 : (f1 != (g : Int)) = false := by rw [k1]; simp
      have k3 : ¬ 1 < (U.length : Int) := by
        have := of_decide_eq_false G3.symm
        omega
      clear G1 G2 G3 k1
      go_wp2_with fail
      refine (HD2.out _ T6.out).out.mono ?_
      rintro e w7 ⟨rfl, t7⟩
      have T7 := Lib.hid t7
      clear t7 T6 HD2
      go_wp2_with fail
      refine (HP3.out _ T7.out).out.mono ?_
      rintro e w8 ⟨rfl, t8⟩
      have T8 := Lib.hid t8
      clear t8 T7 HP3
      go_wp2_with fail
      refine (HA _).out.mono ?_
      rintro e w9 ⟨rfl, hb9⟩
      go_wp2_with fail
      go_ret
      exact ⟨rfl, bel_chain hb9 T8.out.b⟩
    · have k2 : (f2 == (g : Int)) = false := by rw [beq_eq_false_iff_ne]; exact G2 rfl
      have k3 : 1 < (U.length : Int) := by
        have := of_decide_eq_true G3.symm
        omega
      have k1 : (f1 != (g : Int)) = false ∨ (f1 != (g : Int)) = true ∧ f2 = f1 := by
        by_cases h : f1 = (g : Int)
        · left; rw [h]; simp
        · right; exact ⟨by rw [bne_iff_ne]; exact h, by rcases G1 with h' | ⟨_, h'⟩
                                                        · exact absurd h' h
                                                        · exact h'⟩
      clear G1 G2 G3
      rcases k1 with k1 | ⟨k1, rfl⟩
      all_goals
        go_wp2_with fail
        refine (HD2.out _ T6.out).out.mono ?_
        rintro e w7 ⟨rfl, t7⟩
        have T7 := Lib.hid t7
        clear t7 T6 HD2
        go_wp2_with fail
        refine (HP3.out _ T7.out).out.mono ?_
        rintro e w8 ⟨rfl, t8⟩
        have T8 := Lib.hid t8
        clear t8 T7 HP3
        go_wp2_with fail
        refine (HA _).out.mono ?_
        rintro e w9 ⟨rfl, hb9⟩
        go_wp2_with fail
        go_ret
        exact ⟨rfl, bel_chain hb9 T8.out.b⟩
end Go.Proofs.YtnlamjebgkgbaaaDoor
namespace Go.Proofs.YtnlamjebgkgbaaaDoor
open Go.RowKit Go.Shelf Go.Sort

set_option maxHeartbeats 4000000 in
set_option maxRecDepth 100000 in
theorem downsDark (n p : Int) (A0 : Option Addr) (c0 l : Nat) (x : Int) (o : ByteArray) (w : World) (b : Bool) (hb : b = true → 200 < o.size)
    (HL : ∀ W, Calls Tryd.prog 5 #[.agg #[.int .i64 n, .int .i64 p, .slice A0 l c0]] W fun e w' => e = .returned (.bool b) ∧ Below W.heap.size W w') :
    Calls Tryd.prog 3 #[.agg #[.int .i64 n, .int .i64 p, .slice A0 l c0], .int .u8 x, .string o] w fun e w' => e = .returned (.bool true) ∧ Below w.heap.size w w' := by
  have HA := fun W => Lib.hid (awake48_any W)
  have HL2 := fun W => Lib.hid (HL W)
  clear HL
  cases b
  · clear hb
    go_enter Tryd.func3, Tryd.ntmps3
    go_wp2_with (go_at_call 5; refine (HL2 _).out.mono ?_; rintro e w1 ⟨rfl, hb1⟩; have HB1 := Lib.hid (bel_chain hb1 (bel_alloc (Below.refl _ _) _)); clear hb1)
    refine (HA _).out.mono ?_
    rintro e w2 ⟨rfl, hb2⟩
    go_wp2_with fail
    go_ret
    exact ⟨rfl, bel_chain hb2 HB1.out⟩
  · have ho : (200 : Int) < (o.size : Int) := by have := hb rfl; omega
    clear hb
    go_enter Tryd.func3, Tryd.ntmps3
    go_wp2_with (go_at_call 5; refine (HL2 _).out.mono ?_; rintro e w1 ⟨rfl, hb1⟩; have HB1 := Lib.hid (bel_chain hb1 (bel_alloc (Below.refl _ _) _)); clear hb1)
    refine (HA _).out.mono ?_
    rintro e w2 ⟨rfl, hb2⟩
    go_wp2_with fail
    go_ret
    exact ⟨rfl, bel_chain hb2 HB1.out⟩
set_option maxHeartbeats 4000000 in
set_option maxRecDepth 100000 in
theorem downsNo (n p : Int) (A0 : Option Addr) (c0 l : Nat) (hl : l ≤ 20) (hf : ¬ (1 ≤ n ∧ n ≤ 64 ∧ 0 ≤ p ∧ p < n)) (x : Int) (o : ByteArray) (ho : o.size ≤ 200) (w : World) :
    Calls Tryd.prog 3 #[.agg #[.int .i64 n, .int .i64 p, .slice A0 l c0], .int .u8 x, .string o] w fun e w' => e = .returned (.bool true) ∧ Below w.heap.size w w' := by
  have HA := fun W => Lib.hid (awake48_any W)
  have HL := fun W => Lib.hid (light_any W n p A0 l c0 (by omega))
  have e1 : lightB n p l = true := by unfold lightB; rw [decide_eq_true hl, decide_eq_false hf]; simp
  simp only [e1] at HL
  have HM := fun W => Lib.hid (made_no W n p (.slice A0 l c0) hf)
  clear hf e1
  go_enter Tryd.func3, Tryd.ntmps3
  go_wp2_with ((first | (go_at_call 5; refine (HL _).out.mono ?_; rintro e w1 ⟨rfl, hb1⟩; have BB := Lib.hid (blk_keep hb1 (blk_new rfl)); have z0 := blk_cell (i := 0) BB.out rfl; have z1 := blk_cell (i := 1) BB.out rfl; have z2 := blk_cell (i := 2) BB.out rfl; have hz := blk_lt BB.out; have HB1 := Lib.hid (bel_chain hb1 (bel_alloc (Below.refl _ _) _)); clear hb1) | (go_at_call 7; refine (HM _).out.mono ?_; rintro e w2 ⟨rfl, hb2⟩; have HB2 := Lib.hid (bel_chain hb2 HB1.out); clear hb2)))
  refine (HA _).out.mono ?_
  rintro e w3 ⟨rfl, hb3⟩
  go_wp2_with fail
  go_ret
  exact ⟨rfl, bel_chain hb3 HB2.out⟩
theorem tierDowns_any (n p : Int) (A0 : Option Addr) (c0 : Nat) (os : List (Int × Bool)) (x : Int) (o : ByteArray) (w : World) (hs : SpG encO 2 w A0 c0 os) (hl : os.length ≤ 9223372036854775807) (hx : (Lit.int .u8 x).wf = true) :
    Calls Tryd.prog 3 #[.agg #[.int .i64 n, .int .i64 p, .slice A0 os.length c0], .int .u8 x, .string o] w fun e w' => e = .returned (.bool true) ∧ Below w.heap.size w w' := by
  have hx2 : 0 ≤ x ∧ x ≤ 255 := by
    have h1 : IntKind.u8.min ≤ x ∧ x ≤ IntKind.u8.max := by simpa [Lit.wf] using hx
    exact ⟨h1.1, h1.2⟩
  by_cases h1 : os.length ≤ 20
  · cases hb : lightB n p os.length with
    | false => exact downsDark n p A0 c0 os.length x o w false (fun h => by cases h) (fun W => by have := light_any W n p A0 os.length c0 (by omega); rw [hb] at this; exact this)
    | true =>
      by_cases h2 : 200 < o.size
      · exact downsDark n p A0 c0 os.length x o w true (fun _ => h2) (fun W => by have := light_any W n p A0 os.length c0 (by omega); rw [hb] at this; exact this)
      · by_cases hf : 1 ≤ n ∧ n ≤ 64 ∧ 0 ≤ p ∧ p < n
        · have h8 := (lightB_fits hb hf).2
          obtain ⟨N, rfl⟩ : ∃ N : Nat, n = (N : Int) := ⟨n.toNat, by omega⟩
          obtain ⟨P, rfl⟩ : ∃ P : Nat, p = (P : Int) := ⟨p.toNat, by omega⟩
          obtain ⟨l, rfl, hol⟩ := ba_listL o
          exact downsWalk w N P (by omega) (by omega) (by omega) (by omega) A0 c0 os h1 hs x hx2 l (by omega)
        · exact downsNo n p A0 c0 os.length h1 hf x o (by omega) w
  · exact downsDark n p A0 c0 os.length x o w false (fun h => by cases h) (fun W => light_long W n p A0 os.length c0 (by omega) hl)
end Go.Proofs.YtnlamjebgkgbaaaDoor
namespace Go.Proofs.YtnlamjebgkgbaaaDoor
open Go.ChangeShapes Go.WideShapes Go.ChangeAt Go.RowKit

theorem Tryd.own : ownKnob Tryd.prog.godebug = none := by kernel_rfl
theorem Tryd.laidOut : laidOutB Tryd.prog = true := by kernel_rfl

section
variable {H : Type} {enc : TypeId × Value → H} {P : Program}
/-- The row's last step where of the world behind the call only 'Below' is known. -/
theorem post_of_below {f : Func} {s : ChangeSpec} {apart fresh handsOn again : Bool} {W W' : World} {args : Array Value} {v : Value} {ds gs : List (DataW H)} {before pa pv : List MemPlace}
    (hW : DataW.Whole enc P f.params.toList s.vars apart W args.toList ds gs before)
    (hres : ∀ (b : Nat) (sp : Nat → Bool) (hd : Bool), DataW.TrodAll enc P W' b sp hd f.resultTypes.toList (v.resultList f.resultTypes.size) (s.fn H (ds ++ gs)).results [])
    (hargs : ∀ sp : Nat → Bool, (∀ p ∈ before, sp p.block = true) → DataW.TrodAll enc P W' 0 sp true f.params.toList args.toList (s.fn H (ds ++ gs)).args pa)
    (hvars : ∀ sp : Nat → Bool, (∀ p ∈ before, sp p.block = true) → DataW.TrodVars enc P W' sp s.vars (s.fn H (ds ++ gs)).vars pv)
    (hps : before = pa ++ pv) (hb : Below W.heap.size W W')
    (hok : ∀ (j : Nat) (t : TypeId) (r : Value), f.resultTypes[j]? = some t → (v.resultList f.resultTypes.size)[j]? = some r → Value.okWide P W' .any 0 t r) :
    s.post enc P f apart fresh handsOn again W args v W' := by
  have hlt : ∀ p ∈ before, p.block < W.heap.size := fun p hp => hW.lt p hp
  have hold : ∀ p ∈ before, (fun b => decide (b < W.heap.size)) p.block = true := fun p hp => by simpa using hlt p hp
  refine ⟨ds, gs, before, [], pa, pv, hW, hres _ _ _, hargs _ hold, hvars _ hold, World.keptBut_mono (fun p hp => ⟨hp, ?_⟩) (hb.frame (· ∈ before)), fun _ => ?_⟩
  · rw [hps, List.mem_append] at hp
    exact Or.inr hp
  · obtain ⟨_, _, _, _, _, hz, hn⟩ := hW
    refine ⟨hok, _, _, ([] ++ pa) ++ pv, ⟨[] ++ pa, pv, trodAll_append (hargs _ (fun _ _ => rfl)) (hres _ _ _), hvars _ (fun _ _ => rfl), rfl, ?_, ?_⟩, ?_⟩
    · intro b off hp
      have hin : MemPlace.cell b off ∈ before := by rw [hps]; simpa using hp
      rw [hb.frozen (hlt _ hin)]
      exact hz b off hin
    · intro ha
      have := hn ha
      rw [hps] at this
      simpa using this
    · intro p hp _
      rw [hps]
      simpa using hp

variable {w : World} {base : Nat} {spare : Nat → Bool} {held : Bool} {n : Nat}
theorem spot_of_cell {a : Addr} {v : Value} (h : w.cell? a = some v) : a.spot = none := by
  unfold World.cell? at h
  split at h
  · split at h
    · cases h
    · rename_i hs; simpa using hs
  · cases h
theorem span_cells {c0 c1 : Value} {y : DataW H × List MemPlace} (h : DataW.trod enc Tryd.prog w base spare held n 54 [c0, c1] = some y) : ∃ a b : Int, c0 = .int .i64 a ∧ c1 = .int .i64 b := by
  obtain ⟨xs, m, _, _, _, hlen, hg⟩ := DataW.trod_struct Tryd.underlying54 h
  have k2 : Tryd.prog.cellsOf 2 = 1 := by kernel_rfl
  match xs, hlen with
  | [y0, y1], _ =>
    have g0 := hg 0 _ rfl
    have g1 := hg 1 _ rfl
    simp only [k2, List.drop_zero, List.take_succ_cons, List.take_zero, List.drop_succ_cons, List.getElem?_cons_zero, List.getElem?_cons_succ] at g0 g1
    obtain ⟨a, e0, _⟩ := DataW.trod_int Tryd.underlying2 g0
    obtain ⟨b, e1, _⟩ := DataW.trod_int Tryd.underlying2 g1
    exact ⟨a, b, by simpa [k2] using e0, by simpa [k2] using e1⟩
set_option maxRecDepth 100000 in
theorem open_span {r : Reach} {b0 : Nat} {v : Value} {d : DataW H} {p : List MemPlace} (hv : Value.okWide Tryd.prog w r b0 54 v) (h : DataW.Trod enc Tryd.prog w base spare held 54 v d p) :
    ∃ f t : Int, v = .agg #[.int .i64 f, .int .i64 t] := by
  obtain ⟨cs, rfl, hsz⟩ := okWide_struct Tryd.underlying54 hv
  have k : Tryd.prog.cellsOf 54 = 2 := by kernel_rfl
  obtain ⟨l⟩ := cs
  match l, hsz.trans k with
  | [c0, c1], _ =>
    obtain ⟨fuel, hf⟩ := h
    obtain ⟨a, b, rfl, rfl⟩ := span_cells hf
    exact ⟨a, b, rfl⟩
end
end Go.Proofs.YtnlamjebgkgbaaaDoor
/- Ranges and texts that came in. -/
namespace Go.Proofs.YtnlamjebgkgbaaaDoor
open Go.ChangeShapes Go.WideShapes Go.ChangeAt Go.RowKit
section
variable {H : Type} {enc : TypeId × Value → H} {P : Program}
variable {w : World} {base : Nat} {spare : Nat → Bool} {held : Bool} {n : Nat}
theorem spec_cells {c0 c1 : Value} {y : DataW H × List MemPlace} (h : DataW.trod enc Tryd.prog w base spare held n 57 [c0, c1] = some y) : ∃ a b : Int, c0 = .int .i64 a ∧ c1 = .int .i64 b := by
  obtain ⟨xs, m, _, _, _, hlen, hg⟩ := DataW.trod_struct Tryd.underlying57 h
  have k2 : Tryd.prog.cellsOf 2 = 1 := by kernel_rfl
  match xs, hlen with
  | [y0, y1], _ =>
    have g0 := hg 0 _ rfl
    have g1 := hg 1 _ rfl
    simp only [k2, List.drop_zero, List.take_succ_cons, List.take_zero, List.drop_succ_cons, List.getElem?_cons_zero, List.getElem?_cons_succ] at g0 g1
    obtain ⟨a, e0, _⟩ := DataW.trod_int Tryd.underlying2 g0
    obtain ⟨b, e1, _⟩ := DataW.trod_int Tryd.underlying2 g1
    exact ⟨a, b, by simpa [k2] using e0, by simpa [k2] using e1⟩
/-- A slice of ranges that came in. -/
theorem open_specs' {fuel : Nat} {A : Option Addr} {len c : Nat} {x : DataW H × List MemPlace} (h : DataW.trod enc Tryd.prog w base spare held fuel 43 [.slice A len c] = some x) :
    ∃ L, len = L.length ∧ Sp w A c L ∧ L.length ≤ 9223372036854775807 := by
  rcases Deep.open_slice Tryd.underlying43 h with ⟨h0, _⟩ | ⟨a, len', cap, m, n', D, Pl, hcs, hb, hl, hm, hmm, hx, hi⟩
  · simp only [List.cons.injEq, Value.slice.injEq, and_true] at h0
    obtain ⟨rfl, rfl, rfl⟩ := h0
    exact ⟨[], rfl, Sp.nil w, by simp⟩
  · simp only [List.cons.injEq, Value.slice.injEq, and_true] at hcs
    obtain ⟨rfl, rfl, rfl⟩ := hcs
    have hc : Tryd.prog.cellsOf 57 = 2 := by kernel_rfl
    have each : ∀ i, i < len → ∃ x : Int × Int, w.cell? (a.add (i * 2)) = some (.int .i64 x.1) ∧ w.cell? (a.add (i * 2 + 1)) = some (.int .i64 x.2) := by
      intro i hi'
      obtain ⟨cs', hcs, ht⟩ := hi i (by rw [hmm]; split <;> omega)
      rw [hc] at hcs
      obtain ⟨_, hlen, hcell⟩ := World.cells?_some hcs
      match cs', hlen with
      | [c0, c1], _ =>
        obtain ⟨f, t, rfl, rfl⟩ := spec_cells ht
        have h0 := hcell 0 (by omega)
        have h1 := hcell 1 (by omega)
        rw [Go.Deep.add_add] at h0 h1
        exact ⟨(f, t), by simpa using h0, by simpa using h1⟩
    obtain ⟨f, hf⟩ : ∃ f : Nat → Int × Int, ∀ i, i < len → w.cell? (a.add (i * 2)) = some (.int .i64 (f i).1) ∧ w.cell? (a.add (i * 2 + 1)) = some (.int .i64 (f i).2) :=
      ⟨fun i => if h : i < len then Classical.choose (each i h) else (0, 0), fun i h => by simp only [dif_pos h]; exact Classical.choose_spec (each i h)⟩
    refine ⟨(List.range len).map f, by simp, ⟨by simpa using hl, (fun e => by cases e), fun hn => ?_⟩, by simp only [maxLen] at hm; simp; omega⟩
    have hn' : 0 < len := by simpa using hn
    have h0 := (hf 0 hn').1
    have hs := spot_of_cell (show w.cell? a = _ from h0)
    obtain ⟨b, off, sp⟩ := a
    simp only at hs
    subst hs
    have hadd : ∀ j, (⟨b, off, none⟩ : Addr).add j = ⟨b, off + j, none⟩ := fun j => by unfold Addr.add; split <;> simp_all
    refine ⟨b, off, rfl, World.block_lt_of_cell? w ⟨b, off, none⟩ h0, fun i x hx => ?_⟩
    simp only [List.getElem?_map, Option.map_eq_some_iff] at hx
    obtain ⟨j, hj, rfl⟩ := hx
    have hjl : j < len ∧ j = i := by
      obtain ⟨h1, h2⟩ := List.getElem?_eq_some_iff.1 hj
      simp at h1 h2
      omega
    obtain ⟨hjl, rfl⟩ := hjl
    have := hf j hjl
    rw [hadd, hadd, ← Nat.add_assoc] at this
    exact this
set_option maxRecDepth 100000 in
theorem open_specs {r : Reach} {b0 : Nat} {v : Value} {d : DataW H} {p : List MemPlace} (hv : Value.okWide Tryd.prog w r b0 43 v) (h : DataW.Trod enc Tryd.prog w base spare held 43 v d p) :
    ∃ A c L, v = .slice A (List.length L) c ∧ Sp w A c L ∧ L.length ≤ 9223372036854775807 := by
  obtain ⟨A, len, c, rfl⟩ := okWide_slice Tryd.underlying43 hv
  obtain ⟨fuel, hf⟩ := h
  obtain ⟨L, rfl, h1, h2⟩ := open_specs' (show DataW.trod enc Tryd.prog w base spare held fuel 43 [.slice A len c] = some _ from hf)
  exact ⟨A, c, L, rfl, h1, h2⟩
end
end Go.Proofs.YtnlamjebgkgbaaaDoor
namespace Go.Proofs.YtnlamjebgkgbaaaDoor
open Go.ChangeShapes Go.WideShapes Go.ChangeAt Go.RowKit

section
variable {H : Type} {enc : TypeId × Value → H} {w : World} {base : Nat} {spare : Nat → Bool} {held : Bool} {n : Nat}
theorem open_rows {α : Type} [Inhabited α] {P : Program} {en : α → List Value} {k : Nat} {T ST : TypeId} {Pw : α → Prop} (hk : 0 < k) (hlen : ∀ x, (en x).length = k) (hu : P.underlying ST = some (.slice T)) (hc : P.cellsOf T = k)
    (hcells : ∀ (n : Nat) (cs : List Value) (y : DataW H × List MemPlace), cs.length = k → DataW.trod enc P w base spare held n T cs = some y → ∃ x, cs = en x ∧ Pw x)
    {fuel : Nat} {A : Option Addr} {len c : Nat} {x : DataW H × List MemPlace} (h : DataW.trod enc P w base spare held fuel ST [.slice A len c] = some x) :
    ∃ L : List α, len = L.length ∧ SpG en k w A c L ∧ (∀ x ∈ L, Pw x) ∧ L.length ≤ 9223372036854775807 := by
  rcases Deep.open_slice hu h with ⟨h0, _⟩ | ⟨a, len', cap, m, n', D, Pl, hcs, hb, hl, hm, hmm, hx, hi⟩
  · simp only [List.cons.injEq, Value.slice.injEq, and_true] at h0
    obtain ⟨rfl, rfl, rfl⟩ := h0
    exact ⟨[], rfl, SpG.nil w, fun x hx => by simp at hx, by simp⟩
  · simp only [List.cons.injEq, Value.slice.injEq, and_true] at hcs
    obtain ⟨rfl, rfl, rfl⟩ := hcs
    have each : ∀ i, i < len → ∃ x : α, (∀ j v, (en x)[j]? = some v → w.cell? (a.add (i * k + j)) = some v) ∧ Pw x := by
      intro i hi'
      obtain ⟨cs', hcs, ht⟩ := hi i (by rw [hmm]; split <;> omega)
      rw [hc] at hcs
      obtain ⟨_, hlen', hcell⟩ := World.cells?_some hcs
      obtain ⟨x, rfl, hp⟩ := hcells _ _ _ hlen' ht
      refine ⟨x, fun j v hj => ?_, hp⟩
      have hjk : j < k := by have := (List.getElem?_eq_some_iff.1 hj).1; rw [hlen] at this; exact this
      have h1 := hcell j hjk
      rw [Go.Deep.add_add] at h1
      rw [h1]; exact hj
    obtain ⟨f, hf⟩ : ∃ f : Nat → α, ∀ i, i < len → (∀ j v, (en (f i))[j]? = some v → w.cell? (a.add (i * k + j)) = some v) ∧ Pw (f i) :=
      ⟨fun i => if h : i < len then Classical.choose (each i h) else default, fun i h => by simp only [dif_pos h]; exact Classical.choose_spec (each i h)⟩
    refine ⟨(List.range len).map f, by simp, ⟨by simpa using hl, (fun e => by cases e), fun i hi' => ?_⟩, fun x hx => ?_, by simp only [maxLen] at hm; simp; omega⟩
    · have hi2 : i < len := by simpa using hi'
      obtain ⟨v0, hv0⟩ : ∃ v, (en (f 0))[0]? = some v := ⟨_, List.getElem?_eq_getElem (by rw [hlen]; exact hk)⟩
      have h0 := (hf 0 (by omega)).1 0 v0 hv0
      have ha0 : a.add (0 * k + 0) = a := by simp [Addr.add]
      rw [ha0] at h0
      have hs := spot_of_cell h0
      obtain ⟨b, off, sp⟩ := a
      simp only at hs
      subst hs
      have hadd : ∀ j, (⟨b, off, none⟩ : Addr).add j = ⟨b, off + j, none⟩ := fun j => by unfold Addr.add; split <;> simp_all
      refine ⟨b, off, rfl, World.block_lt_of_cell? w ⟨b, off, none⟩ h0, fun j v hj => ?_⟩
      have h3 := (hf i hi2).1 j v (by simpa using hj)
      rw [hadd, ← Nat.add_assoc] at h3
      exact h3
    · obtain ⟨i, hi2, rfl⟩ := List.mem_map.1 hx
      exact (hf i (by simpa using hi2)).2
set_option maxRecDepth 100000 in
theorem op_cells (n : Nat) (cs : List Value) (y : DataW H × List MemPlace) (hl : cs.length = 2) (h : DataW.trod enc Tryd.prog w base spare held n 63 cs = some y) : ∃ x : Int × Bool, cs = encO x ∧ True := by
  obtain ⟨xs, m, _, _, _, hlen, hg⟩ := DataW.trod_struct Tryd.underlying63 h
  have k2 : Tryd.prog.cellsOf 3 = 1 := by kernel_rfl
  have k3 : Tryd.prog.cellsOf 4 = 1 := by kernel_rfl
  match cs, hl, xs, hlen with
  | [c0, c1], _, [y0, y1], _ =>
    have g0 := hg 0 _ rfl
    have g1 := hg 1 _ rfl
    simp only [k2, k3, List.drop_zero, List.take_succ_cons, List.take_zero, List.drop_succ_cons, List.getElem?_cons_zero, List.getElem?_cons_succ] at g0 g1
    obtain ⟨a, e0, _⟩ := DataW.trod_int Tryd.underlying3 g0
    obtain ⟨b, e1, _⟩ := DataW.trod_bool Tryd.underlying4 g1
    obtain rfl : c0 = .int .i64 a := by simpa [k2] using e0
    obtain rfl : c1 = .bool b := by simpa [k3] using e1
    exact ⟨(a, b), rfl, trivial⟩
theorem open_ops1 {v : Value} {x : DataW H × List MemPlace} (h : DataW.trod enc Tryd.prog w base spare held n 22 [v] = some x) :
    ∃ A c os, v = .slice A (List.length os) c ∧ SpG encO 2 w A c os ∧ os.length ≤ 9223372036854775807 := by
  have hv : ∃ A len c, v = .slice A len c := by
    rcases Deep.open_slice Tryd.underlying22 h with ⟨h0, _⟩ | ⟨a, len', cap, m, n', D, Pl, hcs, _⟩
    · simp only [List.cons.injEq, and_true] at h0
      exact ⟨_, _, _, h0⟩
    · simp only [List.cons.injEq, and_true] at hcs
      exact ⟨_, _, _, hcs⟩
  obtain ⟨A, len, c, rfl⟩ := hv
  obtain ⟨L, rfl, h1, _, h2⟩ := open_rows (Pw := fun _ => True) (k := 2) (by decide) (fun _ => rfl) Tryd.underlying22 (by kernel_rfl) op_cells h
  exact ⟨A, c, L, rfl, h1, h2⟩
set_option maxRecDepth 100000 in
theorem make_cells {c0 c1 c2 : Value} {y : DataW H × List MemPlace} (h : DataW.trod enc Tryd.prog w base spare held n 24 [c0, c1, c2] = some y) :
    ∃ (a b : Int) (A : Option Addr) (c : Nat) (os : List (Int × Bool)), c0 = .int .i64 a ∧ c1 = .int .i64 b ∧ c2 = .slice A os.length c ∧ SpG encO 2 w A c os ∧ os.length ≤ 9223372036854775807 := by
  obtain ⟨xs, m, _, _, _, hlen, hg⟩ := DataW.trod_struct Tryd.underlying24 h
  have k2 : Tryd.prog.cellsOf 3 = 1 := by kernel_rfl
  have k3 : Tryd.prog.cellsOf 22 = 1 := by kernel_rfl
  match xs, hlen with
  | [y0, y1, y2], _ =>
    have g0 := hg 0 _ rfl
    have g1 := hg 1 _ rfl
    have g2 := hg 2 _ rfl
    simp only [k2, k3, List.drop_zero, List.take_succ_cons, List.take_zero, List.drop_succ_cons, List.getElem?_cons_zero, List.getElem?_cons_succ] at g0 g1 g2
    obtain ⟨a, e0, _⟩ := DataW.trod_int Tryd.underlying3 g0
    obtain ⟨b, e1, _⟩ := DataW.trod_int Tryd.underlying3 g1
    obtain ⟨A, c, os, rfl, hs, hn⟩ := open_ops1 g2
    exact ⟨a, b, A, c, os, by simpa [k2] using e0, by simpa [k2] using e1, rfl, hs, hn⟩
set_option maxRecDepth 100000 in
theorem open_make {r : Reach} {b0 : Nat} {v : Value} {d : DataW H} {p : List MemPlace} (hv : Value.okWide Tryd.prog w r b0 24 v) (h : DataW.Trod enc Tryd.prog w base spare held 24 v d p) :
    ∃ (a b : Int) (A : Option Addr) (c : Nat) (os : List (Int × Bool)), v = .agg #[.int .i64 a, .int .i64 b, .slice A os.length c] ∧ SpG encO 2 w A c os ∧ os.length ≤ 9223372036854775807 := by
  obtain ⟨cs, rfl, hsz⟩ := okWide_struct Tryd.underlying24 hv
  have k : Tryd.prog.cellsOf 24 = 3 := by kernel_rfl
  obtain ⟨l⟩ := cs
  match l, hsz.trans k with
  | [c0, c1, c2], _ =>
    obtain ⟨fuel, hf⟩ := h
    obtain ⟨a, b, A, c, os, rfl, rfl, rfl, h1, h2⟩ := make_cells (show DataW.trod enc Tryd.prog w base spare held fuel 24 [c0, c1, c2] = some _ from hf)
    exact ⟨a, b, A, c, os, rfl, h1, h2⟩
theorem u8_wf' {q : Int} (h : (Lit.int .u8 q).wf = true) : 0 ≤ q ∧ q ≤ 255 := by
  have h1 : IntKind.u8.min ≤ q ∧ q ≤ IntKind.u8.max := by simpa [Lit.wf] using h
  exact ⟨h1.1, h1.2⟩
end
end Go.Proofs.YtnlamjebgkgbaaaDoor
