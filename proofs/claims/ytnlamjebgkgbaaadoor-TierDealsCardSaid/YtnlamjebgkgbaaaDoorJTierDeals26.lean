/- Contract of strconv.Atoi at a small number's digits. Contract of Tier.Parent. The reference's tier: how many may be, and what goes down. A tier is kept when the reference's block changes. The reference's tier is kept when the tier's map changes. The law's light. What a row's operations leave: the tier's map and the reference's list, and that they agree. tier.New of numbers that do not fit. The law's made, at numbers that do not fit. Plain laws of the tier: the parents in the order of their first points, and who is the first that is up. Plain law of TierDeals: the first of the points that is up is the first of the selection that is up. The document's ring and tier, and the tier's order: the small functions. The document's ring: Digits of small numbers, Has, Add, Way. The document's owners: by selection. -/
import Derived.Test.YtnlamjebgkgbaaaDoorJTierDeals25
import Derived.Test.YtnlamjebgkgbaaaDoorJTierDeals2
import Derived.Laws.IdiomStrings
import Derived.Test.YtnlamjebgkgbaaaDoorJTierDeals20
import Derived.Test.YtnlamjebgkgbaaaDoorJTierDeals9
namespace Go.Proofs.YtnlamjebgkgbaaaDoor
open Go.RowKit Go.Shelf Go.Sort

set_option maxHeartbeats 2000000 in
set_option maxRecDepth 100000 in
theorem atoiIn_any (l : List UInt8) (p : Nat) (h0 : 0 < l.length) (h1 : l.length ≤ 2) (hd : ∀ c ∈ l, 48 ≤ c.toNat ∧ c.toNat ≤ 57) (hv : numFrom 0 l = some (p : Int)) (w : World) :
    Calls Tryd.prog 37 #[.string ⟨l.toArray⟩] w fun e w' => e = .returned (.tuple #[.int .i64 p, .nilIface]) ∧ Below w.heap.size w w' := by
  have hsz : (⟨l.toArray⟩ : ByteArray).size = l.length := List.size_toArray ..
  have HD := Lib.hid hd
  have HV := Lib.hid hv
  have hf := hd l[0] (List.getElem_mem h0)
  obtain ⟨c0, hc0⟩ : ∃ c, (⟨l.toArray⟩ : ByteArray)[0]'(by rw [hsz]; exact h0) = c := ⟨_, rfl⟩
  have hcl : l[0] = c0 := hc0
  rw [hcl] at hf
  have j1 : ((c0.toNat : Int) == 45) = false := by rw [beq_eq_false_iff_ne]; omega
  have j2 : ((c0.toNat : Int) == 43) = false := by rw [beq_eq_false_iff_ne]; omega
  have i1 : (0 : Int) < (l.length : Int) := by omega
  have i2 : (l.length : Int) < 10 := by omega
  have i3 : (l.length : Int) < 19 := by omega
  clear hd hv hcl
  have hconv := run_bytes_of_string (P := Tryd.prog) w 9 104 5 ⟨l.toArray⟩ Tryd.underlying9 Tryd.underlying104 Tryd.underlying5
  rw [hsz] at hconv
  obtain ⟨cap, hcap⟩ : ∃ cap, grownCap w l.length 0 5 = cap := ⟨_, rfl⟩
  rw [hcap] at hconv
  obtain ⟨V, hV⟩ : ∃ V, w.drew.alloc (.cells (bytesRow ⟨l.toArray⟩ cap) 5 ((bytesRow ⟨l.toArray⟩ cap).size, (bytesRow ⟨l.toArray⟩ cap).size + 1)) = V := ⟨_, rfl⟩
  rw [hV] at hconv
  have HBV : Hid (Below w.heap.size w V) := by simp only [Hid]; rw [← hV]; exact bel_alloc (bel_drew (Below.refl _ _)) _
  have HC : Hid (∀ k (hk : k < l.length), V.cell? ⟨w.heap.size, k, none⟩ = some (.int .u8 (l[k].toNat : Int))) := by
    intro k hk
    have hb : V.heap[w.heap.size]? = some (.cells (bytesRow ⟨l.toArray⟩ cap) 5 ((bytesRow ⟨l.toArray⟩ cap).size, (bytesRow ⟨l.toArray⟩ cap).size + 1)) := by rw [← hV]; exact blk_new (by simp)
    rw [Lib.cell_of_heap hb]
    unfold bytesRow
    rw [Array.getElem?_append_left (by simpa using hk)]
    simp [hk]
  clear hV hcap
  go_enter Tryd.func37, Tryd.ntmps37
  go_wp2_with fail
  go_loopw [6, 8, 49] (fun sn _ si wr => wr = V ∧ ∃ (k : Nat) (a : Nat), k ≤ l.length ∧ si = .int .i64 k ∧ sn = .int .i64 a ∧ a < 10 ^ k ∧ numFrom a (l.drop k) = some (p : Int)) (fun _ _ si _ => l.length - (intOf si).toNat)
  case atStart => exact ⟨rfl, 0, 0, Nat.zero_le _, rfl, rfl, by decide, HV.out⟩
  case round =>
    obtain ⟨rfl, k, a, hk, rfl, rfl, ha, hv⟩ := hrel
    have HVr := Lib.hid hv
    clear hv
    by_cases hlt : k < l.length
    · have hc1 := HC.out k hlt
      have hdk := HD.out l[k] (List.getElem_mem hlt)
      have hst := numFrom_step (acc := (a : Int)) hlt
      obtain ⟨c, hc⟩ : ∃ c, l[k] = c := ⟨_, rfl⟩
      rw [hc] at hc1 hdk hst
      rw [HVr.out, if_pos (by unfold digB; simp; exact hdk)] at hst
      have hka : a < 10 := by
        rcases Nat.lt_or_ge k 1 with h | h
        · have : k = 0 := by omega
          subst this; simpa using Nat.lt_of_lt_of_le ha (by decide)
        · have : k = 1 := by omega
          subst this; simpa using ha
      have w1 : IntKind.u8.wrap ((c.toNat : Int) - 48) = (c.toNat : Int) - 48 := by rw [IntKind.wrap_u8]; omega
      have w2 : ¬ (9 : Int) < (c.toNat : Int) - 48 := by omega
      obtain ⟨a2, ha2⟩ : ∃ a2 : Nat, (a : Int) * 10 + ((c.toNat : Int) - 48) = (a2 : Int) := ⟨a * 10 + (c.toNat - 48), by omega⟩
      have ha3 : a2 < 10 ^ (k + 1) := by rw [Nat.pow_succ]; omega
      rw [ha2] at hst
      have HST := Lib.hid hst.symm
      have hk1 : (k : Int) < (l.length : Int) := by omega
      clear hst hc
      go_wp2_with fail
      go_roundw
      case rel => exact ⟨by first | trivial | rfl, k + 1, a2, by omega, by go_num, rfl, ha3, HST.out⟩
      case measure => simp [intOf]; omega
    · have hkl : l.drop k = [] := List.drop_of_length_le (by omega)
      have hv := HVr.out
      rw [hkl] at hv
      have hap : (a : Int) = (p : Int) := by injection hv
      obtain rfl : a = p := by omega
      clear hv hkl hap
      go_wp2_with fail
      refine bodyPost_ret (by simp [results, Tryd.results37, go_sem]; try rfl) rfl ?_
      exact ⟨rfl, HBV.out⟩
theorem atoi_any (p : Nat) (hp : p < 100) (w : World) : Calls Tryd.prog 20 #[.string ⟨(Lib.decDigits p).toArray⟩] w fun e w' => e = .returned (.tuple #[.int .i64 p, .nilIface]) ∧ Below w.heap.size w w' := by
  have HI := fun W => Lib.hid (atoiIn_any (Lib.decDigits p) p (dec_pos p) (dec_len2 hp) (dec_dig p) (numFrom_dec p) W)
  generalize Lib.decDigits p = l at HI ⊢
  go_enter Tryd.func20, Tryd.ntmps20
  go_wp2_with (go_at_call 37; refine (HI _).out.mono ?_; rintro e w1 ⟨rfl, hb1⟩)
  refine bodyPost_ret (by simp [results, Tryd.results20, go_sem]; try rfl) rfl ?_
  exact ⟨rfl, hb1⟩
end Go.Proofs.YtnlamjebgkgbaaaDoor
namespace Go.Proofs.YtnlamjebgkgbaaaDoor
open Go.RowKit Go.Shelf Go.Sort

def upN (D : List (Int × Bool)) (p : Nat) : Bool := upB D (p : Int)
/-- The first that is up. -/
def firstUp (D : List (Int × Bool)) (Ps : List Nat) : Int × Bool := match Ps.find? (upN D) with
  | some p => ((p : Int), true)
  | none => (0, false)
theorem firstUp_at {D : List (Int × Bool)} {Ps : List Nat} {k : Nat} (hk : k < Ps.length) (h : ∀ p ∈ Ps.take k, upN D p = false) (hu : upN D Ps[k] = true) : firstUp D Ps = ((Ps[k] : Int), true) := by
  have hf : Ps.find? (upN D) = some Ps[k] := by
    conv => lhs; rw [← List.take_append_drop k Ps, List.drop_eq_getElem_cons hk]
    rw [List.find?_append, List.find?_eq_none.2 (fun p hp => by rw [h p hp]; simp), List.find?_cons, hu]
    rfl
  unfold firstUp; rw [hf]
theorem firstUp_no {D : List (Int × Bool)} {Ps : List Nat} (h : ∀ p ∈ Ps, upN D p = false) : firstUp D Ps = (0, false) := by
  unfold firstUp
  rw [List.find?_eq_none.2 (fun p hp => by rw [h p hp]; simp)]
theorem up_take {D : List (Int × Bool)} {Ps : List Nat} {k : Nat} (hk : k < Ps.length) (h : ∀ p ∈ Ps.take k, upN D p = false) (hu : upN D Ps[k] = false) : ∀ p ∈ Ps.take (k + 1), upN D p = false := by
  intro p hp
  rw [List.take_succ_eq_append_getElem hk] at hp
  rcases List.mem_append.1 hp with hp | hp
  · exact h p hp
  · simp at hp; rw [hp]; exact hu
theorem name_tail (p : Nat) : (⟨(nmL p).toArray⟩ : ByteArray).extract 1 (nmL p).length = ⟨(Lib.decDigits p).toArray⟩ :=
  ByteArray.ext (by simp [ByteArray.data_extract, nmL])
set_option maxHeartbeats 4000000 in
set_option maxRecDepth 100000 in
theorem parent_any {w : World} {base t n ch r d : Nat} {L : List Pt} {m : Nat} {nm : Option Nat} {A : Option Addr} {c : Nat} {D : List (Int × Bool)} (h : TierAt w base t n ch r d L m nm A c D) (hso : L.Pairwise ptLe) (hl : L.length ≤ 10000) (hn : n ≤ 64) (o : List UInt8) (ho : o.length ≤ 1000000) (Ps : List Nat) (hPs : ownersL (min n m) (rotL L (firstK (hashN o) L)) = Ps.map nmL) (hP : ∀ p ∈ Ps, p < 100) (q : Nat) (hq : q < ch) :
    Calls Tryd.prog 9 #[.pointer (some ⟨t, 0, none⟩), .int .i64 (q : Int), .string ⟨o.toArray⟩] w fun e w' => e = .returned (.tuple #[.int .i64 (firstUp D Ps).1, .bool (firstUp D Ps).2]) ∧ Below w.heap.size w w' := by
  have HT := Lib.hid h
  have HO := fun W (h1 : RingAt W r m L nm A c) => Lib.hid (owners_any W r m L nm A c o n h1 hso hl ho (by omega))
  have hPl : Ps.length ≤ 64 := by
    have := ownersL_len (min n m) (rotL L (firstK (hashN o) L))
    rw [hPs, List.length_map] at this; omega
  rw [hPs] at HO
  have HP := Lib.hid hP
  have x0 := blk_cell (i := 0) h.blk rfl
  have x1 := blk_cell (i := 1) h.blk rfl
  have x2 := blk_cell (i := 2) h.blk rfl
  have i1 : ¬ (q : Int) < 0 := by omega
  have i2 : ¬ (ch : Int) ≤ (q : Int) := by omega
  clear h hPs hP
  go_enter Tryd.func9, Tryd.ntmps9
  go_wp2_with fail
  go_region_held3 (fun w' => w'.cell? ⟨t, 0, none⟩ = some (.int .i64 (n : Int)) ∧ w'.cell? ⟨t, 2, none⟩ = some (.pointer (some ⟨r, 0, none⟩)))
    (first | exact ⟨x0, x2⟩ | exact ⟨y0, y2⟩ | fail)
    ((first | (go_at_call 19; refine (HO _ (by first | exact HT.out.ring | exact HT.out.ring.below (by (repeat (first | exact Below.refl _ _ | refine bel_drewN ?_ _ | refine bel_drew ?_ | refine bel_alloc ?_ _ | refine bel_set ?_ (by simp) _))))).out.mono ?_; rintro e w1 ⟨A1, c1, rfl, hs1, hb1⟩; have hq1 : Below w.heap.size w w1 := bel_chain hb1 (by (repeat (first | exact Below.refl _ _ | refine bel_drewN ?_ _ | refine bel_drew ?_ | refine bel_alloc ?_ _ | refine bel_set ?_ (by simp) _))); have y0 := cell_keep hq1 x0; have y2 := cell_keep hq1 x2)))
  have HS1 := Lib.hid hs1
  have HB1 := Lib.hid hq1
  have HT1 := Lib.hid (HT.out.below hq1)
  clear hs1 hb1 hq1 x0 x1 x2 y0 y2 HT HO
  go_wp2_with fail
  go_loopw [9, 10, 11, 40] (fun _ _ _ si wr => ∃ k : Nat, k ≤ Ps.length ∧ si = .int .i64 k ∧ (∀ p ∈ Ps.take k, upN D p = false) ∧ Below w1.heap.size w1 wr) (fun _ _ _ si _ => Ps.length - (intOf si).toNat)
  case atStart => exact ⟨0, Nat.zero_le _, rfl, fun p hp => by simp at hp, Below.refl _ _⟩
  case round =>
    obtain ⟨k, hk, rfl, hno, hb⟩ := hrel
    have HNO := Lib.hid hno
    have HB := Lib.hid hb
    have HTr := Lib.hid (HT1.out.below hb)
    clear hno hb
    by_cases hlt : k < Ps.length
    · obtain ⟨b, off, e, hbl, hc⟩ := (HS1.out.below HB.out).at' k (by simpa using hlt)
      have hp100 := HP.out Ps[k] (List.getElem_mem hlt)
      have HTK := Lib.hid (fun h => up_take hlt HNO.out h)
      have HAT := Lib.hid (fun h => firstUp_at hlt HNO.out h)
      rw [List.getElem_map] at hc
      obtain ⟨p, hpk⟩ : ∃ p, Ps[k] = p := ⟨_, rfl⟩
      rw [hpk] at hc hp100 HTK HAT
      have HK2 : Hid (k + 1 ≤ Ps.length) := hlt
      have c1 : wr.cell? ⟨b, off + k, none⟩ = some (.string ⟨(nmL p).toArray⟩) := by simpa using hc 0 _ rfl
      have HA := fun W => Lib.hid (atoi_any p hp100 W)
      have hnl := name_tail p
      have hsz : (⟨(nmL p).toArray⟩ : ByteArray).size = (nmL p).length := List.size_toArray ..
      have h1n : 1 ≤ (nmL p).length := by unfold nmL; simp
      have h1l : (1 : Int) ≤ ((nmL p).length : Int) := by omega
      generalize Lib.decDigits p = dg at HA hnl
      obtain ⟨nl, hnle⟩ : ∃ nl, nmL p = nl := ⟨_, rfl⟩
      rw [hnle] at c1 hnl hsz h1l h1n
      clear hc hpk hnle HS1 HP
      subst e
      cases hup : upN D p
      · have HD := Lib.hid (HTK.out hup)
        have HUP := Lib.hid hup
        clear hup
        go_wp2_with fail
        refine (HA _).out.mono ?_
        rintro e2 w3 ⟨rfl, hb3⟩
        have HT3 := Lib.hid (HTr.out.below hb3)
        have y3 := blk_cell (i := 3) HT3.out.blk rfl
        have hlk := downB_run HT3.out.down (p : Int) false HUP.out
        have HB3 := Lib.hid (bel_chain hb3 HB.out)
        clear hb3
        go_wp2_with fail
        go_roundw
        case rel => exact ⟨k + 1, HK2.out, by go_num, HD.out, HB3.out⟩
        case measure => have := HK2.out; simp [intOf]; omega
      · have HD := Lib.hid (HAT.out hup)
        have HUP := Lib.hid hup
        clear hup
        go_wp2_with fail
        refine (HA _).out.mono ?_
        rintro e2 w3 ⟨rfl, hb3⟩
        have HT3 := Lib.hid (HTr.out.below hb3)
        have y3 := blk_cell (i := 3) HT3.out.blk rfl
        have hlk := downB_run HT3.out.down (p : Int) true HUP.out
        have HB3 := Lib.hid (bel_chain hb3 HB.out)
        clear hb3
        go_wp2_with fail
        refine bodyPost_ret (by simp [results, Tryd.results9, go_sem]; try rfl) rfl ?_
        rw [HD.out]
        exact ⟨rfl, bel_chain HB3.out HB1.out⟩
    · have hF : firstUp D Ps = (0, false) := firstUp_no (fun p hp => HNO.out p (by rw [List.take_of_length_le (by omega)]; exact hp))
      have HF := Lib.hid hF
      clear hF
      go_wp2_with fail
      refine bodyPost_ret (by simp [results, Tryd.results9, go_sem]; try rfl) rfl ?_
      rw [HF.out]
      exact ⟨rfl, bel_chain HB.out HB1.out⟩
theorem parent_no {w : World} {base t n ch r d : Nat} {L : List Pt} {m : Nat} {nm : Option Nat} {A : Option Addr} {c : Nat} {D : List (Int × Bool)} (h : TierAt w base t n ch r d L m nm A c D) (s : ByteArray) (q : Int) (hq : q < 0 ∨ (ch : Int) ≤ q) :
    Calls Tryd.prog 9 #[.pointer (some ⟨t, 0, none⟩), .int .i64 q, .string s] w fun e w' => e = .returned (.tuple #[.int .i64 0, .bool false]) ∧ w' = w := by
  have x1 := blk_cell (i := 1) h.blk rfl
  clear h
  go_enter Tryd.func9, Tryd.ntmps9
  by_cases h1 : q < 0
  · go_wp2_with fail
    refine bodyPost_ret (by simp [results, Tryd.results9, go_sem]; try rfl) rfl ?_
    exact ⟨rfl, rfl⟩
  · have h2 : (ch : Int) ≤ q := hq.resolve_left h1
    go_wp2_with fail
    refine bodyPost_ret (by simp [results, Tryd.results9, go_sem]; try rfl) rfl ?_
    exact ⟨rfl, rfl⟩
end Go.Proofs.YtnlamjebgkgbaaaDoor
namespace Go.Proofs.YtnlamjebgkgbaaaDoor
open Go.RowKit Go.Shelf Go.Sort

theorem fits_any (n p : Int) (w : World) : Calls Tryd.prog 15 #[.int .i64 n, .int .i64 p] w fun e w' => e = .returned (.bool (decide (1 ≤ n ∧ n ≤ 64 ∧ 0 ≤ p ∧ p < n))) ∧ w' = w := by
  go_enter Tryd.func15, Tryd.ntmps15
  by_cases h1 : 1 ≤ n
  · by_cases h2 : n ≤ 64
    · by_cases h3 : 0 ≤ p
      · by_cases h4 : p < n
        · go_wp2_with fail
          go_ret
          exact ⟨by simp [h1, h2, h3, h4], rfl⟩
        · go_wp2_with fail
          go_ret
          exact ⟨by rw [decide_eq_false (by omega)]; rfl, rfl⟩
      · go_wp2_with fail
        go_ret
        exact ⟨by rw [decide_eq_false (by omega)]; rfl, rfl⟩
    · go_wp2_with fail
      go_ret
      exact ⟨by rw [decide_eq_false (by omega)]; rfl, rfl⟩
  · go_wp2_with fail
    go_ret
    exact ⟨by rw [decide_eq_false (by omega)]; rfl, rfl⟩
/-- The reference's tier. -/
structure RTierAt (w : World) (X n pn : Nat) (G : List Int) (A : Option Addr) (c : Nat) : Prop where
  blk : w.heap[X]? = some (.cells #[.int .i64 n, .int .i64 pn, .slice A G.length c] 61 (0, 0))
  sp : SpG encI 1 w A c G
  off : (Value.slice A G.length c).ownBlock ≠ some X
def goneL (G : List Int) (q : Int) (dn : Bool) : List Int := (G.filter fun g => decide (g ≠ q)) ++ if dn = true then [q] else []
theorem gone_step {G : List Int} {q : Int} {k : Nat} (h : k < G.length) : (G.take (k + 1)).filter (fun g => decide (g ≠ q)) = (G.take k).filter (fun g => decide (g ≠ q)) ++ if G[k] = q then [] else [G[k]] := by
  rw [List.take_succ_eq_append_getElem h, List.filter_append]
  congr 1
  by_cases e : G[k] = q <;> simp [e]
theorem gone_len (G : List Int) (q : Int) (k : Nat) : ((G.take k).filter fun g => decide (g ≠ q)).length ≤ G.length :=
  Nat.le_trans (List.length_filter_le _ _) (by rw [List.length_take]; omega)
def RDownPost (w : World) (X n pn : Nat) (G : List Int) (q : Int) (dn : Bool) (e : Ending) (w' : World) : Prop :=
  if (n : Int) - (pn : Int) ≤ q ∧ q < (n : Int) then e = .returned (.int .i64 0) ∧ (∃ A' c', RTierAt w' X n pn (goneL G q dn) A' c') ∧ w.grownBy w' (some X) else e = .returned (.int .i64 1) ∧ Below w.heap.size w w'
theorem rdown_end {w V wr : World} {X n pn : Nat} {G R : List Int} {A A' : Option Addr} {c c' nq : Nat} (hV : w.drewN nq = V) (hk : wr.heap[X]? = some (.cells #[.int .i64 n, .int .i64 pn, .slice A G.length c] 61 (0, 0))) (hb : Below V.heap.size V wr) (ho : OwnG 3 encI 1 wr V.heap.size A' c' R) :
    RTierAt (wr.setCell ⟨X, 2, none⟩ (.slice A' R.length c')) X n pn R A' c' ∧ w.grownBy (wr.setCell ⟨X, 2, none⟩ (.slice A' R.length c')) (some X) := by
  have hb2 : Below w.heap.size w wr := by subst hV; exact bel_chain hb (bel_drewN (Below.refl _ _) _)
  refine ⟨⟨blk_set hk, (ho.setAt hk (by decide) _).spg elemI.len, ho.ne_type hk (by decide)⟩, ?_⟩
  have hg : w.grownBy wr (some X) := ⟨hb2.os, hb2.tape, hb2.output, hb2.size, fun k hk _ => hb2.block k hk⟩
  exact World.grownBy.trans hg (grown_setA wr ⟨X, 2, none⟩ _)
set_option maxHeartbeats 4000000 in
theorem rdown_any {w : World} {X n pn : Nat} {G : List Int} {A : Option Addr} {c : Nat} (h : RTierAt w X n pn G A c) (hn : n ≤ 64) (hp : pn ≤ n) (hG : G.length ≤ 1000) (q : Int) (dn : Bool) :
    Calls Tryd.prog 18 #[.pointer (some ⟨X, 0, none⟩), .int .i64 q, .bool dn] w (RDownPost w X n pn G q dn) := by
  have HT := Lib.hid h
  have x0 := blk_cell (i := 0) h.blk rfl
  have x1 := blk_cell (i := 1) h.blk rfl
  have x2 := blk_cell (i := 2) h.blk rfl
  obtain ⟨ch, hch⟩ : ∃ ch : Nat, (n : Int) - (pn : Int) = (ch : Int) := ⟨n - pn, by omega⟩
  have hcb : ch ≤ 64 := by omega
  clear h
  unfold RDownPost
  rw [hch]
  have wch : IntKind.i64.wrap (ch : Int) = (ch : Int) := IntWalk.i64_in _ (by omega)
  by_cases h1 : q < (ch : Int)
  · have hne : ¬ ((ch : Int) ≤ q ∧ q < (n : Int)) := by omega
    simp only [if_neg hne]
    clear hne
    go_enter Tryd.func18, Tryd.ntmps18
    go_wp2_with fail
    go_quiet (fail)
    go_wp2_with fail
    refine bodyPost_ret (by simp [results, Tryd.results18, go_sem]; try rfl) rfl ?_
    exact ⟨rfl, bel_drewN (Below.refl _ _) _⟩
  · by_cases h2 : (n : Int) ≤ q
    · have hne : ¬ ((ch : Int) ≤ q ∧ q < (n : Int)) := by omega
      simp only [if_neg hne]
      clear hne
      go_enter Tryd.func18, Tryd.ntmps18
      go_wp2_with fail
      go_quiet (fail)
      go_wp2_with fail
      refine bodyPost_ret (by simp [results, Tryd.results18, go_sem]; try rfl) rfl ?_
      exact ⟨rfl, bel_drewN (Below.refl _ _) _⟩
    · have hye : (ch : Int) ≤ q ∧ q < (n : Int) := by omega
      simp only [if_pos hye]
      clear hye
      go_enter Tryd.func18, Tryd.ntmps18
      go_wp2_with fail
      go_quiet (fail)
      go_wp2_with fail
      have HSP := Lib.hid (HT.out.sp.drewN nq)
      have HBK : Hid ((w.drewN nq).heap[X]? = some (.cells #[.int .i64 n, .int .i64 pn, .slice A G.length c] 61 (0, 0))) := HT.out.blk
      obtain ⟨V, hV⟩ : ∃ V, w.drewN nq = V := ⟨_, rfl⟩
      have HV := Lib.hid hV
      rw [hV] at HSP HBK ⊢
      have hVs : V.heap.size = w.heap.size := by rw [← hV]; rfl
      have HVs := Lib.hid hVs
      clear hV hVs x0 x1 x2 hch
      go_loopw [7, 9, 34] (fun so _ si wr => ∃ (k : Nat) (A' : Option Addr) (c' : Nat), k ≤ G.length ∧ si = .int .i64 k ∧ so = .slice A' ((G.take k).filter fun g => decide (g ≠ q)).length c' ∧ OwnG 3 encI 1 wr V.heap.size A' c' ((G.take k).filter fun g => decide (g ≠ q)) ∧ Below V.heap.size V wr) (fun _ _ si _ => G.length - (intOf si).toNat)
      case atStart => exact ⟨0, none, 0, Nat.zero_le _, rfl, rfl, OwnG.nil _ _, Below.refl _ _⟩
      case round =>
        obtain ⟨k, A', c', hk, rfl, rfl, hown, hb⟩ := hrel
        have hll := gone_len G q k
        have HST := fun hh => Lib.hid (gone_step (q := q) (G := G) (k := k) hh)
        have HTK : Hid (k = G.length → (G.take k).filter (fun g => decide (g ≠ q)) = G.filter (fun g => decide (g ≠ q))) := fun e => by rw [e, List.take_length]
        obtain ⟨R, hR⟩ : ∃ R, (G.take k).filter (fun g => decide (g ≠ q)) = R := ⟨_, rfl⟩
        rw [hR] at hown hll HST HTK ⊢
        have HO := Lib.hid hown
        have HB := Lib.hid hb
        clear hown hb hR
        by_cases hlt : k < G.length
        · obtain ⟨b, off, e, hbl, hc⟩ := (HSP.out.below HB.out).at' k hlt
          have HS2 := HST hlt
          obtain ⟨x, hx⟩ : ∃ x, G[k] = x := ⟨_, rfl⟩
          rw [hx] at hc HS2
          have c1 : wr.cell? ⟨b, off + k, none⟩ = some (.int .i64 x) := by simpa using hc 0 _ rfl
          clear hc hx HST
          have HK2 : Hid (k + 1 ≤ G.length) := hlt
          subst e
          by_cases hxq : x = q
          · rw [if_pos hxq, List.append_nil] at HS2
            go_wp2_with fail
            go_roundw
            case rel => exact ⟨k + 1, A', c', HK2.out, by go_num, by rw [HS2.out], by rw [HS2.out]; exact HO.out, HB.out⟩
            case measure => have := HK2.out; simp [intOf]; omega
          · rw [if_neg hxq] at HS2
            go_wp2_with (at_builtin; go_must (refine wplG_append (w0 := V) elemI rfl (.tmp 41) (.tmp 43) rfl A' c' R rfl (HO.out.alloc _) (some ⟨wr.heap.size, 0, none⟩) 1 [x] rfl (SpG.built (enc := encI) (n := 1) elemI.len wr [x] #[.int .i64 x] rfl 3) (by simp) (by simp; omega) (bel_alloc HB.out _) ?_; intro A5 c5 w5 hown5 hbw5 hg5))
            go_roundw
            case rel => exact ⟨k + 1, A5, c5, HK2.out, by go_num, by rw [HS2.out, List.length_append]; rfl, by rw [HS2.out]; exact hown5, hbw5⟩
            case measure => have := HK2.out; simp [intOf]; omega
        · have hRG := HTK.out (by omega)
          have HRG := Lib.hid hRG
          have BK := HBK.out
          have BK1 := Lib.hid (blk_keep HB.out BK)
          have y2 := cell_keep HB.out (blk_cell (i := 2) BK rfl)
          have yf := blk_frozen (i := 2) BK1.out
          clear BK
          clear hRG HTK HST
          have BKV := Lib.hid HBK.out
          cases dn
          · go_wp2_with fail
            refine bodyPost_ret (by simp [results, Tryd.results18, go_sem]; try rfl) rfl ?_
            have E := rdown_end HV.out BK1.out HB.out HO.out
            have e1 : goneL G q false = R := by unfold goneL; rw [HRG.out]; simp
            rw [e1]
            exact ⟨rfl, ⟨_, _, E.1⟩, E.2⟩
          · go_wp2_with (at_builtin; go_must (refine wplG_append (w0 := V) elemI rfl (.tmp 47) (.tmp 49) rfl A' c' R rfl (HO.out.alloc _) (some ⟨wr.heap.size, 0, none⟩) 1 [q] rfl (SpG.built (enc := encI) (n := 1) elemI.len wr [q] #[.int .i64 q] rfl 3) (by simp) (by simp; omega) (bel_alloc HB.out _) ?_; intro A5 c5 w5 hown5 hbw5 hg5; have BK5 := Lib.hid (blk_keep hbw5 BKV.out); have zf := blk_frozen (i := 2) BK5.out; have z2 := blk_cell (i := 2) BK5.out rfl))
            refine bodyPost_ret (by simp [results, Tryd.results18, go_sem]; try rfl) rfl ?_
            have E := rdown_end HV.out BK5.out hbw5 hown5
            have e1 : goneL G q true = R ++ [q] := by unfold goneL; rw [HRG.out]; simp
            rw [e1]
            simp only [List.length_append] at E ⊢
            exact ⟨by first | rfl | trivial, ⟨_, _, E.1⟩, E.2⟩
end Go.Proofs.YtnlamjebgkgbaaaDoor
namespace Go.Proofs.YtnlamjebgkgbaaaDoor
open Go.RowKit Go.Shelf Go.Sort

section
variable {w w' : World} {X : Nat}
theorem blk_grX {r : Nat} {o : Obj} (hr : w.heap[r]? = some o) (hg : w.grownBy w' (some X)) (hne : r ≠ X) : w'.heap[r]? = some o :=
  (hg.block r (blk_lt hr) (fun e => hne (by injection e))).trans hr
theorem cell_grX {b o : Nat} {v : Value} (h : w.cell? ⟨b, o, none⟩ = some v) (hg : w.grownBy w' (some X)) (hne : b ≠ X) : w'.cell? ⟨b, o, none⟩ = some v := by
  have hb := World.block_lt_of_cell? w ⟨b, o, none⟩ h
  have e := hg.block b hb (fun e => hne (by injection e))
  rw [← h]
  unfold World.cell?
  rw [show w'.heap[b]? = w.heap[b]? from e]
theorem MapAt.grX {α β : Type} {enc : α → Value} {vf : β → Value} {M : List (α × β)} {b : Nat} {cs : Array Value} {T : TypeId} {f : Nat × Nat} (h : MapAt enc vf w b M) (hx : w.heap[X]? = some (.cells cs T f)) (hg : w.grownBy w' (some X)) : MapAt enc vf w' b M := by
  have hne := h.ne_cells hx
  obtain ⟨es, ck, h1, h2⟩ := h.at_
  exact ⟨es, ck, blk_grX h1 hg (fun e => hne e.symm), h2⟩
/-- The points lie in no block of the reference's. -/
theorem SpPt.grX {A B : Option Addr} {L : List Pt} {n pn l c : Nat} {T : TypeId} (h : SpPt w A L) (hx : w.heap[X]? = some (.cells #[.int .i64 n, .int .i64 pn, .slice B l c] T (0, 0))) (hg : w.grownBy w' (some X)) : SpPt w' A L :=
  ⟨fun k hk => by
    obtain ⟨b, off, e, hl, h1, h2⟩ := h.at' k hk
    have hne : b ≠ X := by
      intro e; subst e
      have h3 := h1
      simp only [World.cell?, hx] at h3
      rcases hq : off + k * 2 with _ | _ | _ | q <;> simp [hq] at h3
    exact ⟨b, off, e, Nat.lt_of_lt_of_le hl hg.size, cell_grX h1 hg hne, cell_grX h2 hg hne⟩⟩
theorem TierAt.grX {base t n ch r d : Nat} {L : List Pt} {m : Nat} {nm : Option Nat} {A : Option Addr} {c : Nat} {D : List (Int × Bool)} {n' pn : Nat} {G : List Int} {A' : Option Addr} {c' : Nat} (h : TierAt w base t n ch r d L m nm A c D) (hx : RTierAt w X n' pn G A' c') (hg : w.grownBy w' (some X)) : TierAt w' base t n ch r d L m nm A c D :=
  ⟨blk_grX h.blk hg (fun e => by have := h.blk; rw [e, hx.blk] at this; injection this with this; injection this with _ h2; exact absurd h2 (by decide)),
   ⟨blk_grX h.ring.blk hg (fun e => by have := h.ring.blk; rw [e, hx.blk] at this; injection this with this; injection this with _ h2; exact absurd h2 (by decide)), h.ring.sp.grX hx.blk hg, by
    rcases h.ring.names with h1 | ⟨b, h1, M, h2, h3⟩
    · exact .inl h1
    · exact .inr ⟨b, h1, M, h2.grX hx.blk hg, h3⟩⟩, h.down.grX hx.blk hg, h.bd, h.nd⟩
end
end Go.Proofs.YtnlamjebgkgbaaaDoor
namespace Go.Proofs.YtnlamjebgkgbaaaDoor
open Go.RowKit Go.Shelf Go.Sort

theorem SpG.withObj {α β γ : Type} {en : γ → List Value} {k : Nat} {w : World} {d : Nat} {A : Option Addr} {c : Nat} {L : List γ} {enc : α → Value} {vf : β → Value} {M : List (α × β)} (h : SpG en k w A c L) (hm : MapAt enc vf w d M) (o : Obj) : SpG en k (withObj w d o) A c L :=
  ⟨h.le, h.nil_, fun i hi => by
    obtain ⟨b, off, e, hl, h1⟩ := h.at' i hi
    exact ⟨b, off, e, by rw [withObj_size]; exact hl, fun j v hj => cell_withObj hm (h1 j v hj) o⟩⟩
theorem RTierAt.withMap {α β : Type} {enc : α → Value} {vf : β → Value} {M : List (α × β)} {w : World} {X n pn d : Nat} {G : List Int} {A : Option Addr} {c : Nat} (h : RTierAt w X n pn G A c) (hm : MapAt enc vf w d M) (o : Obj) : RTierAt (withObj w d o) X n pn G A c :=
  ⟨blk_with h.blk (hm.ne_cells h.blk), h.sp.withObj hm o, h.off⟩
theorem RTierAt.below {w w' : World} {X n pn : Nat} {G : List Int} {A : Option Addr} {c : Nat} (h : RTierAt w X n pn G A c) (hb : Below w.heap.size w w') : RTierAt w' X n pn G A c :=
  ⟨blk_keep hb h.blk, h.sp.below hb, h.off⟩
/-- A row may be laid: its two numbers and the count of its operations. -/
def lightB (n p : Int) (l : Nat) : Bool := decide (l ≤ 20) && (decide (p ≤ 8) || !decide (1 ≤ n ∧ n ≤ 64 ∧ 0 ≤ p ∧ p < n))
end Go.Proofs.YtnlamjebgkgbaaaDoor
namespace Go.Proofs.YtnlamjebgkgbaaaDoor
open Go.RowKit Go.Shelf Go.Sort

set_option maxHeartbeats 2000000 in
theorem light_any (w : World) (n p : Int) (A : Option Addr) (l c : Nat) (hl : l ≤ 1000000) :
    Calls Tryd.prog 5 #[.agg #[.int .i64 n, .int .i64 p, .slice A l c]] w fun e w' => e = .returned (.bool (lightB n p l)) ∧ Below w.heap.size w w' := by
  have HF := fun W => Lib.hid (fits_any n p W)
  have HE : Hid (∃ f, decide (1 ≤ n ∧ n ≤ 64 ∧ 0 ≤ p ∧ p < n) = f) := ⟨_, rfl⟩
  unfold lightB
  obtain ⟨f, hf⟩ := HE.out
  rw [hf]
  simp only [hf] at HF
  clear hf HE
  go_enter Tryd.func5, Tryd.ntmps5
  by_cases h1 : l ≤ 20
  · by_cases h2 : p ≤ 8
    · go_wp2_with fail
      go_ret
      exact ⟨by simp [h1, h2], bel_alloc (Below.refl _ _) _⟩
    · go_wp2_with (go_at_call 15; refine (HF _).out.mono ?_; rintro e w1 ⟨rfl, rfl⟩)
      go_ret
      exact ⟨by rw [decide_eq_true h1, decide_eq_false (by omega : ¬ p ≤ 8)]; simp, bel_alloc (Below.refl _ _) _⟩
  · go_wp2_with fail
    go_ret
    exact ⟨by first | rfl | simp, bel_alloc (Below.refl _ _) _⟩
end Go.Proofs.YtnlamjebgkgbaaaDoor
namespace Go.Proofs.YtnlamjebgkgbaaaDoor
open Go.RowKit Go.Shelf Go.Sort

/-- An operation in its cells. -/
def encO (x : Int × Bool) : List Value := [.int .i64 x.1, .bool x.2]
def inR (n ch : Nat) (q : Int) : Prop := (ch : Int) ≤ q ∧ q < (n : Int)
instance (n ch : Nat) (q : Int) : Decidable (inR n ch q) := by unfold inR; infer_instance
/-- The map behind the operations. -/
def foldD (n ch : Nat) (D : List (Int × Bool)) (os : List (Int × Bool)) : List (Int × Bool) := os.foldl (fun D o => if inR n ch o.1 then turnD D o.1 o.2 else D) D
/-- The list behind the operations. -/
def foldG (n ch : Nat) (G : List Int) (os : List (Int × Bool)) : List Int := os.foldl (fun G o => if inR n ch o.1 then goneL G o.1 o.2 else G) G
theorem goneL_len (G : List Int) (q : Int) (dn : Bool) : (goneL G q dn).length ≤ G.length + 1 := by
  unfold goneL
  rw [List.length_append]
  have := List.length_filter_le (fun g => decide (g ≠ q)) G
  generalize G.filter (fun g => decide (g ≠ q)) = R at this ⊢
  cases dn <;> simp <;> omega
theorem foldG_len (n ch : Nat) : ∀ (os : List (Int × Bool)) (G : List Int), (foldG n ch G os).length ≤ G.length + os.length
  | [], G => by simp [foldG]
  | o :: os, G => by
    have h1 : foldG n ch G (o :: os) = foldG n ch (if inR n ch o.1 then goneL G o.1 o.2 else G) os := rfl
    have ih := foldG_len n ch os (if inR n ch o.1 then goneL G o.1 o.2 else G)
    have h2 : (if inR n ch o.1 then goneL G o.1 o.2 else G).length ≤ G.length + 1 := by
      split
      · exact goneL_len G o.1 o.2
      · omega
    rw [h1, List.length_cons]; omega
theorem goneL_mem (G : List Int) (q : Int) (dn : Bool) (g : Int) : g ∈ goneL G q dn ↔ if g = q then dn = true else g ∈ G := by
  unfold goneL
  by_cases e : g = q
  · subst e; cases dn <;> simp
  · cases dn <;> simp [e]
/-- The map and the list agree on who is up. -/
structure Agree (D : List (Int × Bool)) (G : List Int) : Prop where
  nd : (keysM D).Nodup
  up : ∀ q, upB D q = !decide (q ∈ G)
theorem upB_turn {D : List (Int × Bool)} (hn : (keysM D).Nodup) (q0 : Int) (dn : Bool) (q : Int) : upB (turnD D q0 dn) q = if q0 = q then !dn else upB D q := by
  unfold upB turnD
  cases dn
  · rw [if_neg (by simp), lookM_del hn]
    by_cases e : q0 = q <;> simp [e]
  · rw [if_pos rfl, lookM_put]
    by_cases e : q0 = q <;> simp [e]
theorem turnD_nodup {D : List (Int × Bool)} (hn : (keysM D).Nodup) (q0 : Int) (dn : Bool) : (keysM (turnD D q0 dn)).Nodup := by
  unfold turnD
  cases dn
  · rw [if_neg (by simp)]; exact delM_nodup hn
  · rw [if_pos rfl]; exact putM_nodup hn
theorem Agree.turn {D : List (Int × Bool)} {G : List Int} (h : Agree D G) (q0 : Int) (dn : Bool) : Agree (turnD D q0 dn) (goneL G q0 dn) :=
  ⟨turnD_nodup h.nd q0 dn, fun q => by
    rw [upB_turn h.nd]
    have hm := goneL_mem G q0 dn q
    by_cases e : q0 = q
    · rw [if_pos e]
      rw [if_pos e.symm] at hm
      cases dn
      · rw [decide_eq_false (by rw [hm]; simp)]
      · rw [decide_eq_true (by rw [hm])]
    · rw [if_neg e, h.up]
      rw [if_neg (fun x => e x.symm)] at hm
      simp only [hm]⟩
theorem Agree.fold {n ch : Nat} : ∀ (os : List (Int × Bool)) {D : List (Int × Bool)} {G : List Int}, Agree D G → Agree (foldD n ch D os) (foldG n ch G os)
  | [], _, _, h => h
  | o :: os, D, G, h => by
    have h2 : Agree (if inR n ch o.1 then turnD D o.1 o.2 else D) (if inR n ch o.1 then goneL G o.1 o.2 else G) := by
      by_cases e : inR n ch o.1
      · rw [if_pos e, if_pos e]; exact h.turn o.1 o.2
      · rw [if_neg e, if_neg e]; exact h
    exact Agree.fold os h2
end Go.Proofs.YtnlamjebgkgbaaaDoor
namespace Go.Proofs.YtnlamjebgkgbaaaDoor
open Go.RowKit Go.Shelf Go.Sort

theorem new_no (w : World) (n p : Int) (hf : ¬ (1 ≤ n ∧ n ≤ 64 ∧ 0 ≤ p ∧ p < n)) :
    Calls Tryd.prog 17 #[.int .i64 n, .int .i64 p] w fun e w' => e = .returned (.tuple #[.pointer none, .int .i64 1]) ∧ w' = w := by
  go_enter Tryd.func17, Tryd.ntmps17
  by_cases h1 : n < 1
  · go_wp2_with fail
    refine bodyPost_ret (by simp [results, Tryd.results17, go_sem]; try rfl) rfl ?_
    exact ⟨rfl, rfl⟩
  · by_cases h2 : 64 < n
    · go_wp2_with fail
      refine bodyPost_ret (by simp [results, Tryd.results17, go_sem]; try rfl) rfl ?_
      exact ⟨rfl, rfl⟩
    · by_cases h3 : p < 0
      · go_wp2_with fail
        refine bodyPost_ret (by simp [results, Tryd.results17, go_sem]; try rfl) rfl ?_
        exact ⟨rfl, rfl⟩
      · have h4 : n ≤ p := by omega
        clear hf
        go_wp2_with fail
        refine bodyPost_ret (by simp [results, Tryd.results17, go_sem]; try rfl) rfl ?_
        exact ⟨rfl, rfl⟩
end Go.Proofs.YtnlamjebgkgbaaaDoor
namespace Go.Proofs.YtnlamjebgkgbaaaDoor
open Go.RowKit Go.Shelf Go.Sort

set_option maxHeartbeats 2000000 in
theorem made_no (w : World) (n p : Int) (v : Value) (hf : ¬ (1 ≤ n ∧ n ≤ 64 ∧ 0 ≤ p ∧ p < n)) :
    Calls Tryd.prog 7 #[.agg #[.int .i64 n, .int .i64 p, v]] w fun e w' => e = .returned (.tuple #[.pointer none, .pointer none, .bool true]) ∧ Below w.heap.size w w' := by
  have HN := fun W => Lib.hid (new_no W n p hf)
  have HF := fun W => Lib.hid (fits_any n p W)
  simp only [decide_eq_false hf] at HF
  clear hf
  go_enter Tryd.func7, Tryd.ntmps7
  go_wp2_with ((first | (go_at_call 17; refine (HN _).out.mono ?_; rintro e w1 ⟨rfl, rfl⟩) | (go_at_call 15; refine (HF _).out.mono ?_; rintro e w2 ⟨rfl, rfl⟩)))
  refine bodyPost_ret (by simp [results, Tryd.results7, go_sem]; try rfl) rfl ?_
  exact ⟨rfl, bel_alloc (Below.refl _ _) _⟩
end Go.Proofs.YtnlamjebgkgbaaaDoor
namespace Go.Proofs.YtnlamjebgkgbaaaDoor
open Go.RowKit

theorem names_mem {f k : Nat} {y : List UInt8} : y ∈ namesL f k ↔ ∃ p, f ≤ p ∧ p < f + k ∧ nmL p = y := by
  unfold namesL
  simp only [List.mem_map, List.mem_range]
  constructor
  · rintro ⟨i, hi, e⟩; exact ⟨f + i, by omega, by omega, e⟩
  · rintro ⟨p, h1, h2, e⟩; exact ⟨p - f, by omega, by rw [show f + (p - f) = p by omega]; exact e⟩
theorem map_of : ∀ {l : List (List UInt8)}, (∀ y ∈ l, ∃ p, nmL p = y) → ∃ Ps : List Nat, l = Ps.map nmL
  | [], _ => ⟨[], rfl⟩
  | y :: l, h => by
    obtain ⟨p, hp⟩ := h y (List.mem_cons_self ..)
    obtain ⟨Ps, e⟩ := map_of (l := l) fun z hz => h z (List.mem_cons_of_mem _ hz)
    exact ⟨p :: Ps, by rw [e, List.map_cons, hp]⟩
theorem mem_rot {L : List Pt} {k : Nat} {x : Pt} : x ∈ rotL L k ↔ x ∈ L := by
  unfold rotL
  rw [List.mem_append]
  constructor
  · rintro (h | h)
    · exact List.mem_of_mem_drop h
    · exact List.mem_of_mem_take h
  · intro h
    rw [← List.take_append_drop k L] at h
    rcases List.mem_append.1 h with h | h
    · exact .inr h
    · exact .inl h
theorem ptsOf_name {n : List UInt8} {x : Pt} (h : x ∈ ptsOf n) : x.2 = n := by
  unfold ptsOf at h
  obtain ⟨i, _, e⟩ := List.mem_map.1 h
  rw [← e]
theorem ptsOf_has (n : List UInt8) : ∃ x ∈ ptsOf n, x.2 = n :=
  ⟨(hashN (Lib.decDigits 0 ++ 35 :: n), n), List.mem_map.2 ⟨0, List.mem_range.2 (by omega), rfl⟩, rfl⟩
theorem allPts_name {f k : Nat} {x : Pt} (h : x ∈ allPts f k) : x.2 ∈ namesL f k := by
  unfold allPts at h
  obtain ⟨n, hn, hx⟩ := List.mem_flatMap.1 h
  rw [ptsOf_name hx]; exact hn
theorem allPts_has {f k : Nat} {y : List UInt8} (h : y ∈ namesL f k) : ∃ x ∈ allPts f k, x.2 = y := by
  obtain ⟨x, hx, e⟩ := ptsOf_has y
  exact ⟨x, List.mem_flatMap.2 ⟨y, h, hx⟩, e⟩
theorem nodup_of_map {Ps : List Nat} (h : (Ps.map nmL).Nodup) : Ps.Nodup := by
  unfold List.Nodup at *
  rw [List.pairwise_map] at h
  exact h.imp fun hne e => hne (by rw [e])
/-- The parents, in the order of their first points. -/
theorem ps_of {ch p m : Nat} {L : List Pt} (hL : L.Perm (allPts ch p)) (hm : p ≤ m) (j : Nat) :
    ∃ Ps : List Nat, ownersL m (rotL L j) = Ps.map nmL ∧ Ps.Nodup ∧ ∀ q, q ∈ Ps ↔ ch ≤ q ∧ q < ch + p := by
  obtain ⟨h1, h2, _⟩ := own_spec (m := m) (Ns := namesL ch p) (by rw [namesL_len]; exact hm) (fun _ => true) (rotL L j) [] List.nodup_nil (fun y hy => by simp at hy) (fun x hx => allPts_name (hL.mem_iff.1 (mem_rot.1 hx)))
  have h3 : ∀ y, y ∈ ownersL m (rotL L j) ↔ y ∈ namesL ch p := fun y => by
    unfold ownersL; rw [h2]
    constructor
    · rintro (h | ⟨x, hx, e⟩)
      · simp at h
      · rw [← e]; exact allPts_name (hL.mem_iff.1 (mem_rot.1 hx))
    · intro h
      obtain ⟨x, hx, e⟩ := allPts_has h
      exact .inr ⟨x, mem_rot.2 (hL.mem_iff.2 hx), e⟩
  obtain ⟨Ps, e⟩ := map_of (l := ownersL m (rotL L j)) fun y hy => by
    obtain ⟨q, _, _, e⟩ := names_mem.1 ((h3 y).1 hy)
    exact ⟨q, e⟩
  refine ⟨Ps, e, ?_, fun q => ?_⟩
  · refine nodup_of_map ?_
    rw [← e]; exact h1
  · have h4 := h3 (nmL q)
    rw [e, names_mem] at h4
    constructor
    · intro h
      obtain ⟨r, a, b, c⟩ := h4.1 (List.mem_map_of_mem h)
      have := nmL_inj c
      omega
    · intro ⟨a, b⟩
      obtain ⟨r, hr, c⟩ := List.mem_map.1 (h4.2 ⟨q, a, b, rfl⟩)
      rw [← nmL_inj c]; exact hr
theorem upL_mem {D : List (Int × Bool)} {ch : Nat} : ∀ {k : Nat} {x : Int}, x ∈ upL D ch k ↔ ∃ q : Nat, ch ≤ q ∧ q < ch + k ∧ x = (q : Int) ∧ upB D q = true
  | 0, x => by unfold upL; simp; omega
  | k + 1, x => by
    unfold upL
    rw [List.mem_append, upL_mem (k := k)]
    constructor
    · rintro (⟨q, a, b, c, d⟩ | h)
      · exact ⟨q, a, by omega, c, d⟩
      · split at h
        · rename_i hu
          simp at h
          exact ⟨ch + k, by omega, by omega, by rw [h]; simp, hu⟩
        · simp at h
    · rintro ⟨q, a, b, c, d⟩
      by_cases e : q = ch + k
      · subst e
        right
        rw [if_pos d]
        simp [c]
      · exact .inl ⟨q, a, by omega, c, d⟩
theorem upL_nodup (D : List (Int × Bool)) (ch : Nat) : ∀ k, (upL D ch k).Nodup
  | 0 => List.nodup_nil
  | k + 1 => by
    unfold upL
    split
    · refine nodup_snoc (upL_nodup D ch k) fun h => ?_
      obtain ⟨q, _, b, c, _⟩ := upL_mem.1 h
      omega
    · rw [List.append_nil]; exact upL_nodup D ch k
theorem firstUp_congr {D D' : List (Int × Bool)} {Ps : List Nat} (h : ∀ q ∈ Ps, upN D' q = upN D q) : firstUp D' Ps = firstUp D Ps := by
  have : Ps.find? (upN D') = Ps.find? (upN D) := by
    induction Ps with
    | nil => rfl
    | cons x r ih =>
      rw [List.find?_cons, List.find?_cons, h x (List.mem_cons_self ..), ih fun q hq => h q (List.mem_cons_of_mem _ hq)]
  unfold firstUp; rw [this]
theorem firstUp_some {D : List (Int × Bool)} {Ps : List Nat} {q : Nat} (hq : q ∈ Ps) (hu : upN D q = true) : ∃ r ∈ Ps, upN D r = true ∧ firstUp D Ps = ((r : Int), true) := by
  unfold firstUp
  cases h : Ps.find? (upN D) with
  | none => have := List.find?_eq_none.1 h q hq; rw [hu] at this; exact absurd rfl this
  | some r => exact ⟨r, List.mem_of_find?_eq_some h, List.find?_some h, rfl⟩
theorem firstUp_is {D : List (Int × Bool)} {Ps : List Nat} (h : (firstUp D Ps).2 = true) : ∃ r ∈ Ps, upN D r = true ∧ firstUp D Ps = ((r : Int), true) := by
  unfold firstUp at *
  cases e : Ps.find? (upN D) with
  | none => rw [e] at h; simp at h
  | some r => exact ⟨r, List.mem_of_find?_eq_some e, List.find?_some e, rfl⟩
theorem upN_down {D : List (Int × Bool)} (hn : (keysM D).Nodup) (g q : Nat) : upN (turnD D (g : Int) true) q = if g = q then false else upN D q := by
  unfold upN; rw [upB_turn hn]
  by_cases e : g = q
  · subst e; simp
  · rw [if_neg (fun h => e (by omega)), if_neg e]
/-- One that goes down leaves the others' objects, and comes back as it went. -/
theorem downs_law {D : List (Int × Bool)} {ch p g : Nat} {Ps : List Nat} (hn : (keysM D).Nodup) (hP : ∀ q, q ∈ Ps ↔ ch ≤ q ∧ q < ch + p) (hg : (g : Int) ∈ upL D ch p) :
    let was := firstUp D Ps
    let now := firstUp (turnD D (g : Int) true) Ps
    let again := firstUp (turnD (turnD D (g : Int) true) (g : Int) false) Ps
    (was.1 = (g : Int) ∨ (now.2 = true ∧ now.1 = was.1)) ∧ (now.2 = true → now.1 ≠ (g : Int)) ∧ now.2 = decide (1 < (upL D ch p).length) ∧ again = was := by
  obtain ⟨q, a, b, c, d⟩ := upL_mem.1 hg
  obtain rfl : g = q := by omega
  have hgP := (hP g).2 ⟨a, b⟩
  intro was now again
  refine ⟨?_, ?_, ?_, ?_⟩
  · obtain ⟨r, hr, hu, e⟩ := firstUp_some hgP d
    by_cases hrg : r = g
    · left; show (firstUp D Ps).1 = _; rw [e, hrg]
    · right
      have e2 : firstUp (turnD D (g : Int) true) Ps = ((r : Int), true) := by
        unfold firstUp at e ⊢
        cases hf : Ps.find? (upN D) with
        | none => rw [hf] at e; simp at e
        | some r' =>
          rw [hf] at e
          simp only [Prod.mk.injEq] at e
          obtain rfl : r' = r := by omega
          have hf2 : Ps.find? (upN (turnD D (g : Int) true)) = some r' := by
            rw [List.find?_eq_some_iff_append] at hf ⊢
            refine ⟨by rw [upN_down hn, if_neg (fun e => hrg e.symm)]; exact hf.1, ?_⟩
            obtain ⟨l1, l2, e1, e2⟩ := hf.2
            refine ⟨l1, l2, e1, fun x hx => ?_⟩
            rw [upN_down hn]
            split
            · rfl
            · exact e2 x hx
          rw [hf2]
      show (firstUp (turnD D (g : Int) true) Ps).2 = true ∧ (firstUp (turnD D (g : Int) true) Ps).1 = (firstUp D Ps).1
      rw [e2, e]; exact ⟨rfl, rfl⟩
  · intro h e
    obtain ⟨r, hr, hu, e2⟩ := firstUp_is (D := turnD D (g : Int) true) h
    have e3 : (firstUp (turnD D (g : Int) true) Ps).1 = (g : Int) := e
    rw [e2] at e3
    obtain rfl : r = g := by simp at e3; omega
    rw [upN_down hn, if_pos rfl] at hu; cases hu
  · show (firstUp (turnD D (g : Int) true) Ps).2 = _
    by_cases h : 1 < (upL D ch p).length
    · rw [decide_eq_true h]
      by_cases hx : ∃ x ∈ upL D ch p, x ≠ (g : Int)
      · obtain ⟨x, hx, hxg⟩ := hx
        obtain ⟨r, r1, r2, r3, r4⟩ := upL_mem.1 hx
        have hrg : ¬ g = r := fun e => hxg (by rw [r3, e])
        obtain ⟨s, _, _, e⟩ := firstUp_some (D := turnD D (g : Int) true) ((hP r).2 ⟨r1, r2⟩) (by rw [upN_down hn, if_neg hrg]; exact r4)
        rw [e]
      · exfalso
        have := nodup_le (b := [(g : Int)]) (upL_nodup D ch p) fun x hx2 => by
          by_cases e : x = (g : Int)
          · simp [e]
          · exact absurd ⟨x, hx2, e⟩ hx
        simp at this; omega
    · rw [decide_eq_false h]
      cases hb : (firstUp (turnD D (g : Int) true) Ps).2 with
      | false => rfl
      | true =>
        exfalso
        obtain ⟨r, hr, hu, _⟩ := firstUp_is hb
        rw [upN_down hn] at hu
        by_cases e : g = r
        · rw [if_pos e] at hu; cases hu
        · rw [if_neg e] at hu
          have hr2 := (hP r).1 hr
          have := nodup_le (a := [(g : Int), (r : Int)]) (b := upL D ch p) (by simp; omega) fun x hx => by
            simp at hx
            rcases hx with rfl | rfl
            · exact hg
            · exact upL_mem.2 ⟨r, hr2.1, hr2.2, rfl, hu⟩
          simp at this; omega
  · refine firstUp_congr fun q _ => ?_
    unfold upN
    rw [upB_turn (turnD_nodup hn _ _), upB_turn hn]
    by_cases e : (g : Int) = (q : Int)
    · rw [if_pos e, ← e, d]; rfl
    · rw [if_neg e, if_neg e]
end Go.Proofs.YtnlamjebgkgbaaaDoor
namespace Go.Proofs.YtnlamjebgkgbaaaDoor
open Go.RowKit

/-- The shortest way to the first points of a name. -/
def bestW (h : Nat) (name : List UInt8) : Nat → Nat
  | 0 => 0
  | k + 1 => if k = 0 ∨ wayN h (hashN (Lib.decDigits k ++ 35 :: name)) < bestW h name k then wayN h (hashN (Lib.decDigits k ++ 35 :: name)) else bestW h name k
theorem bestW_spec (h : Nat) (name : List UInt8) : ∀ k, 1 ≤ k → (∃ i, i < k ∧ bestW h name k = wayN h (hashN (Lib.decDigits i ++ 35 :: name))) ∧ ∀ i, i < k → bestW h name k ≤ wayN h (hashN (Lib.decDigits i ++ 35 :: name))
  | 0, h0 => absurd h0 (by omega)
  | 1, _ => by
    have e : bestW h name 1 = wayN h (hashN (Lib.decDigits 0 ++ 35 :: name)) := by unfold bestW; rw [if_pos (.inl rfl)]
    exact ⟨⟨0, by omega, e⟩, fun i hi => by obtain rfl : i = 0 := by omega
                                            rw [e]; exact Nat.le_refl _⟩
  | k + 2, _ => by
    obtain ⟨⟨i, hi, e⟩, hl⟩ := bestW_spec h name (k + 1) (by omega)
    rw [bestW]
    by_cases c : k + 1 = 0 ∨ wayN h (hashN (Lib.decDigits (k + 1) ++ 35 :: name)) < bestW h name (k + 1)
    · rw [if_pos c]
      refine ⟨⟨k + 1, by omega, rfl⟩, fun j hj => ?_⟩
      by_cases e2 : j = k + 1
      · rw [e2]; exact Nat.le_refl _
      · have := hl j (by omega)
        rcases c with c | c
        · omega
        · omega
    · rw [if_neg c]
      refine ⟨⟨i, by omega, e⟩, fun j hj => ?_⟩
      by_cases e2 : j = k + 1
      · rw [e2]; omega
      · exact hl j (by omega)
theorem ptsOf_mem {name : List UInt8} {x : Pt} : x ∈ ptsOf name ↔ ∃ i, i < 16 ∧ x = (hashN (Lib.decDigits i ++ 35 :: name), name) := by
  unfold ptsOf
  simp only [List.mem_map, List.mem_range]
  constructor
  · rintro ⟨i, hi, e⟩; exact ⟨i, hi, e.symm⟩
  · rintro ⟨i, hi, e⟩; exact ⟨i, hi, e.symm⟩
theorem allPts_at {f k : Nat} {x : Pt} : x ∈ allPts f k ↔ x.2 ∈ namesL f k ∧ x ∈ ptsOf x.2 := by
  unfold allPts
  rw [List.mem_flatMap]
  constructor
  · rintro ⟨n, hn, hx⟩
    rw [ptsOf_name hx]; exact ⟨hn, hx⟩
  · rintro ⟨hn, hx⟩; exact ⟨x.2, hn, hx⟩
theorem leastW_of {h f k : Nat} {R : List Pt} (hR : ∀ x, x ∈ R ↔ x ∈ allPts f k) {n : List UInt8} (hn : n ∈ namesL f k) : LeastW h R n (bestW h n 16) := by
  obtain ⟨⟨i, hi, e⟩, hl⟩ := bestW_spec h n 16 (by omega)
  refine ⟨⟨(hashN (Lib.decDigits i ++ 35 :: n), n), ?_, rfl, e.symm⟩, fun x hx hxn => ?_⟩
  · rw [hR, allPts_at]; exact ⟨hn, ptsOf_mem.2 ⟨i, hi, rfl⟩⟩
  · have := ((hR x).1 hx)
    rw [allPts_at, hxn] at this
    obtain ⟨j, hj, rfl⟩ := ptsOf_mem.1 this.2
    exact hl j hj
/-- The order of the selection. -/
def selLt (h : Nat) (x y : List UInt8) : Prop := bestW h x 16 < bestW h y 16 ∨ (bestW h x 16 = bestW h y 16 ∧ x < y)
def selLe (h : Nat) (x y : List UInt8) : Prop := bestW h x 16 < bestW h y 16 ∨ (bestW h x 16 = bestW h y 16 ∧ ¬ y < x)
theorem selLe_of_not {h : Nat} {x y : List UInt8} (hn : ¬ selLt h x y) : selLe h y x := by
  unfold selLt at hn; unfold selLe
  by_cases h1 : bestW h y 16 < bestW h x 16
  · exact .inl h1
  · right
    by_cases h2 : bestW h x 16 < bestW h y 16
    · exact absurd (.inl h2) hn
    · exact ⟨by omega, fun h3 => hn (.inr ⟨by omega, h3⟩)⟩
theorem selLe_refl (h : Nat) (x : List UInt8) : selLe h x x := .inr ⟨rfl, List.lt_irrefl x⟩
theorem selLe_trans {h : Nat} {x y z : List UInt8} (a : selLe h x y) (b : selLe h y z) : selLe h x z := by
  unfold selLe at *
  rcases a with a | ⟨a, a'⟩
  · rcases b with b | ⟨b, _⟩
    · exact .inl (by omega)
    · exact .inl (by omega)
  · rcases b with b | ⟨b, b'⟩
    · exact .inl (by omega)
    · exact .inr ⟨by omega, List.not_lt.2 (List.le_trans (List.not_lt.1 a') (List.not_lt.1 b'))⟩
theorem selLe_of_lt {h : Nat} {x y : List UInt8} (a : selLt h x y) : selLe h x y := by
  unfold selLt at a; unfold selLe
  rcases a with a | ⟨a, a'⟩
  · exact .inl a
  · exact .inr ⟨a, fun hh => List.lt_irrefl x (List.lt_trans a' hh)⟩
/-- What was taken, so far. -/
structure SelOk (h : Nat) (Ns : List (List UInt8)) (I : List Nat) : Prop where
  nd : I.Nodup
  lt : ∀ i ∈ I, i < Ns.length
  pw : (I.map fun i => Ns.getD i []).Pairwise (selLe h)
  rest : ∀ i ∈ I, ∀ j, j < Ns.length → j ∉ I → selLe h (Ns.getD i []) (Ns.getD j [])
theorem SelOk.nil (h : Nat) (Ns : List (List UInt8)) : SelOk h Ns [] := ⟨List.nodup_nil, fun i hi => by simp at hi, List.Pairwise.nil, fun i hi => by simp at hi⟩
/-- The best of the first places that are not taken. -/
def SelBest (h : Nat) (Ns : List (List UInt8)) (I : List Nat) (k : Nat) : Option Nat → Prop
  | none => ∀ j, j < k → j ∈ I
  | some c => c < k ∧ c ∉ I ∧ ∀ j, j < k → j ∉ I → selLe h (Ns.getD c []) (Ns.getD j [])
theorem SelBest.zero (h : Nat) (Ns : List (List UInt8)) (I : List Nat) : SelBest h Ns I 0 none := fun j hj => by omega
theorem SelBest.taken {h : Nat} {Ns : List (List UInt8)} {I : List Nat} {k : Nat} {b : Option Nat} (hb : SelBest h Ns I k b) (hk : k ∈ I) : SelBest h Ns I (k + 1) b := by
  cases b with
  | none =>
    intro j hj
    by_cases e : j = k
    · rw [e]; exact hk
    · exact hb j (by omega)
  | some c =>
    obtain ⟨h1, h2, h3⟩ := hb
    refine ⟨by omega, h2, fun j hj hn => ?_⟩
    by_cases e : j = k
    · exact absurd (e ▸ hk) hn
    · exact h3 j (by omega) hn
theorem SelBest.first {h : Nat} {Ns : List (List UInt8)} {I : List Nat} {k : Nat} (hb : SelBest h Ns I k none) (hk : k ∉ I) : SelBest h Ns I (k + 1) (some k) :=
  ⟨by omega, hk, fun j hj hn => by
    by_cases e : j = k
    · rw [e]; exact selLe_refl _ _
    · exact absurd (hb j (by omega)) hn⟩
theorem SelBest.new {h : Nat} {Ns : List (List UInt8)} {I : List Nat} {k c : Nat} (hb : SelBest h Ns I k (some c)) (hk : k ∉ I) (hl : selLt h (Ns.getD k []) (Ns.getD c [])) : SelBest h Ns I (k + 1) (some k) :=
  ⟨by omega, hk, fun j hj hn => by
    by_cases e : j = k
    · rw [e]; exact selLe_refl _ _
    · exact selLe_trans (selLe_of_lt hl) (hb.2.2 j (by omega) hn)⟩
theorem SelBest.old {h : Nat} {Ns : List (List UInt8)} {I : List Nat} {k c : Nat} (hb : SelBest h Ns I k (some c)) (hl : ¬ selLt h (Ns.getD k []) (Ns.getD c [])) : SelBest h Ns I (k + 1) (some c) :=
  ⟨by have := hb.1; omega, hb.2.1, fun j hj hn => by
    by_cases e : j = k
    · rw [e]; exact selLe_of_not hl
    · exact hb.2.2 j (by omega) hn⟩
theorem SelOk.next {h : Nat} {Ns : List (List UInt8)} {I : List Nat} {c : Nat} (hI : SelOk h Ns I) (hb : SelBest h Ns I Ns.length (some c)) : SelOk h Ns (I ++ [c]) := by
  obtain ⟨h1, h2, h3⟩ := hb
  refine ⟨nodup_snoc hI.nd h2, fun i hi => ?_, ?_, fun i hi j hj hn => ?_⟩
  · rcases List.mem_append.1 hi with hi | hi
    · exact hI.lt i hi
    · simp at hi; omega
  · rw [List.map_append, List.pairwise_append]
    refine ⟨hI.pw, by simp, fun x hx y hy => ?_⟩
    obtain ⟨i, hi, rfl⟩ := List.mem_map.1 hx
    simp at hy; subst hy
    have := hI.rest i hi c h1 h2
    simpa using this
  · simp only [List.mem_append, List.mem_singleton, not_or] at hn
    rcases List.mem_append.1 hi with hi | hi
    · exact hI.rest i hi j hj hn.1
    · simp at hi; subst hi; exact h3 j hj hn.1
/-- There is one as long as not all are taken. -/
theorem SelBest.there {h : Nat} {Ns : List (List UInt8)} {I : List Nat} {b : Option Nat} (hb : SelBest h Ns I Ns.length b) (hl : I.length < Ns.length) : ∃ c, b = some c ∧ c < Ns.length := by
  cases b with
  | some c => exact ⟨c, rfl, hb.1⟩
  | none =>
    exfalso
    have := nodup_le (a := List.range Ns.length) (b := I) List.nodup_range fun x hx => hb x (List.mem_range.1 hx)
    rw [List.length_range] at this; omega
/-- The parents in the order of the selection. -/
theorem sel_parents {h ch p : Nat} {I : List Nat} (hI : SelOk h (namesL ch p) I) (hl : I.length = p) : (I.map fun i => ch + i).Nodup ∧ (∀ q, q ∈ I.map (fun i => ch + i) ↔ ch ≤ q ∧ q < ch + p) ∧ ((I.map fun i => ch + i).map nmL).Pairwise (selLe h) := by
  have hlt : ∀ i ∈ I, i < p := fun i hi => by have := hI.lt i hi; rw [namesL_len] at this; exact this
  have hall : ∀ i, i < p → i ∈ I := fun i hi => by
    by_cases hm : i ∈ I
    · exact hm
    · have := nodup_le (a := i :: I) (b := List.range p) (List.nodup_cons.2 ⟨hm, hI.nd⟩) fun x hx => by
        rcases List.mem_cons.1 hx with rfl | hx
        · exact List.mem_range.2 hi
        · exact List.mem_range.2 (hlt x hx)
      rw [List.length_range, List.length_cons] at this; omega
  refine ⟨?_, fun q => ?_, ?_⟩
  · unfold List.Nodup
    rw [List.pairwise_map]
    exact hI.nd.imp fun hne => by omega
  · rw [List.mem_map]
    constructor
    · rintro ⟨i, hi, rfl⟩; have := hlt i hi; omega
    · rintro ⟨a, b⟩; exact ⟨q - ch, hall _ (by omega), by omega⟩
  · have := hI.pw
    rw [List.map_map]
    have e : I.map (nmL ∘ fun i => ch + i) = I.map fun i => (namesL ch p).getD i [] := by
      refine List.map_congr_left fun i hi => ?_
      have := hlt i hi
      simp [namesL, this]
    rw [e]; exact this
/-- The first of a list in an order that is up is least of all that are. -/
theorem find_sel {h : Nat} {Qs : List Nat} {up : Nat → Bool} (hs : (Qs.map nmL).Pairwise (selLe h)) {q : Nat} (hf : Qs.find? up = some q) : q ∈ Qs ∧ up q = true ∧ ∀ r ∈ Qs, up r = true → selLe h (nmL q) (nmL r) := by
  refine ⟨List.mem_of_find?_eq_some hf, List.find?_some hf, ?_⟩
  induction Qs with
  | nil => simp at hf
  | cons z Qs ih =>
    intro r hr hu
    rw [List.map_cons, List.pairwise_cons] at hs
    rw [List.find?_cons] at hf
    cases hz : up z with
    | true =>
      simp only [hz] at hf
      injection hf with hf; subst hf
      rcases List.mem_cons.1 hr with rfl | hr
      · exact selLe_refl _ _
      · exact hs.1 _ (List.mem_map_of_mem hr)
    | false =>
      simp only [hz] at hf
      rcases List.mem_cons.1 hr with rfl | hr
      · rw [hz] at hu; cases hu
      · exact ih hs.2 hf r hr hu
/-- THE LAW: whoever is first on the ring is first in the selection. -/
theorem deals_law {h ch p m k : Nat} {L : List Pt} {Ps Qs : List Nat} {D : List (Int × Bool)} (hh : h < 18446744073709551616) (hL : L.Perm (allPts ch p)) (hso : L.Pairwise ptLe) (hm : p ≤ m)
    (hb : ∀ x ∈ L, x.1 < 18446744073709551616) (h1 : ∀ x ∈ L.take k, x.1 < h) (h2 : ∀ x ∈ L.drop k, h ≤ x.1)
    (hPs : ownersL m (rotL L k) = Ps.map nmL) (hP : ∀ q, q ∈ Ps ↔ ch ≤ q ∧ q < ch + p) (hQ : ∀ q, q ∈ Qs ↔ ch ≤ q ∧ q < ch + p) (hQs : (Qs.map nmL).Pairwise (selLe h)) : Ps.find? (upN D) = Qs.find? (upN D) := by
  have hmem : ∀ x, x ∈ rotL L k ↔ x ∈ allPts ch p := fun x => by rw [mem_rot]; exact hL.mem_iff
  let up : List UInt8 → Bool := fun y => Ps.any fun q => decide (nmL q = y) && upN D q
  have hup : ∀ q, q ∈ Ps → up (nmL q) = upN D q := fun q hq => by
    rw [Bool.eq_iff_iff]
    simp only [up, List.any_eq_true, Bool.and_eq_true, decide_eq_true_eq]
    constructor
    · rintro ⟨r, _, e, hu⟩; rw [← nmL_inj e]; exact hu
    · intro hu; exact ⟨q, hq, rfl, hu⟩
  obtain ⟨_, _, h3⟩ := own_spec (m := m) (Ns := namesL ch p) (by rw [namesL_len]; exact hm) up (rotL L k) [] List.nodup_nil (fun y hy => by simp at hy) (fun x hx => allPts_name ((hmem x).1 hx))
  have h4 : (ownersL m (rotL L k)).find? up = ((rotL L k).find? fun x => up x.2).map Prod.snd := by
    unfold ownersL; rw [h3]; simp
  rw [hPs] at h4
  have h5 : (Ps.map nmL).find? up = (Ps.find? (upN D)).map nmL := by
    have : ∀ (l : List Nat), (∀ q ∈ l, q ∈ Ps) → (l.map nmL).find? up = (l.find? (upN D)).map nmL := by
      intro l
      induction l with
      | nil => intro _; rfl
      | cons z l ih =>
        intro hs
        rw [List.map_cons, List.find?_cons, List.find?_cons, hup z (hs z (List.mem_cons_self ..)), ih fun q hq => hs q (List.mem_cons_of_mem _ hq)]
        cases upN D z <;> rfl
    exact this Ps fun _ h => h
  rw [h5] at h4
  cases hq : Qs.find? (upN D) with
  | none =>
    cases hp : Ps.find? (upN D) with
    | none => rfl
    | some q =>
      have a := List.mem_of_find?_eq_some hp
      have b := List.find?_some hp
      have := List.find?_eq_none.1 hq q ((hQ q).2 ((hP q).1 a))
      exact absurd b this
  | some q =>
    obtain ⟨hq1, hq2, hq3⟩ := find_sel hQs hq
    have hqP := (hP q).2 ((hQ q).1 hq1)
    cases hf : (rotL L k).find? (fun x => up x.2) with
    | none =>
      exfalso
      obtain ⟨x, hx, e⟩ := allPts_has (names_mem.2 ⟨q, ((hQ q).1 hq1).1, ((hQ q).1 hq1).2, rfl⟩)
      have := List.find?_eq_none.1 hf x ((hmem x).2 hx)
      rw [e, hup q hqP, hq2] at this
      exact this rfl
    | some x =>
      rw [hf] at h4
      obtain ⟨hx1, hx2, hx3⟩ := find_least (rot_sorted hh hb hso h1 h2) hf
      have hxe := least_eq (W := fun n => bestW h n 16) (b := nmL q) (up := up) (fun y hy => leastW_of hmem (allPts_name ((hmem y).1 hy))) hx1 hx2 hx3 (by
        obtain ⟨y, hy, e⟩ := allPts_has (names_mem.2 ⟨q, ((hQ q).1 hq1).1, ((hQ q).1 hq1).2, rfl⟩)
        exact ⟨y, (hmem y).2 hy, e⟩) (by rw [hup q hqP]; exact hq2) (fun y hy hyu => by
        obtain ⟨r, r1, r2, r3⟩ := names_mem.1 (allPts_name ((hmem y).1 hy))
        rw [← r3] at hyu ⊢
        rw [hup r ((hP r).2 ⟨r1, r2⟩)] at hyu
        exact hq3 r ((hQ r).2 ⟨r1, r2⟩) hyu)
      cases hp : Ps.find? (upN D) with
      | none => rw [hp] at h4; simp at h4
      | some r =>
        rw [hp] at h4
        simp only [Option.map_some, Option.some.injEq] at h4
        rw [hxe] at h4
        rw [nmL_inj h4]
end Go.Proofs.YtnlamjebgkgbaaaDoor
namespace Go.Proofs.YtnlamjebgkgbaaaDoor
open Go.RowKit Go.Shelf Go.Sort

theorem rhash_any (l : List UInt8) (w : World) (hl : l.length ≤ 1000000) : Calls Tryd.prog 54 #[.string ⟨l.toArray⟩] w fun e w' => e = .returned (.int .u64 (hashN l : Int)) ∧ w' = w := by
  have hsz : (⟨l.toArray⟩ : ByteArray).size = l.length := List.size_toArray ..
  go_enter Tryd.func54, Tryd.ntmps54
  go_wp2_with fail
  go_loopw [3, 4] (fun s i wr => wr = w ∧ ∃ k : Nat, k ≤ l.length ∧ i = .int .i64 k ∧ s = .int .u64 (hashI (l.take k))) (fun _ i _ => l.length - (intOf i).toNat)
  case atStart => exact ⟨rfl, 0, Nat.zero_le _, rfl, rfl⟩
  case round =>
    obtain ⟨rfl, k, hk, rfl, rfl⟩ := hrel
    by_cases hlt : k < l.length
    · have HS := Lib.hid (hashI_step hlt)
      go_wp2_with fail
      go_roundw
      case rel => exact ⟨by first | trivial | rfl, k + 1, by omega, by go_num, by rw [HS.out]; rfl⟩
      case measure => simp [intOf]; omega
    · go_wp2_with fail
      go_ret
      exact ⟨by rw [hashN_eq, List.take_of_length_le (by omega)]; rfl, rfl⟩
theorem right40_any (l : List UInt8) (h : NameOk l) (w : World) : Calls Tryd.prog 39 #[.string ⟨l.toArray⟩] w fun e w' => e = .returned (.bool true) ∧ w' = w := by
  have hsz : (⟨l.toArray⟩ : ByteArray).size = l.length := List.size_toArray ..
  obtain ⟨h1, h2, h3⟩ := h
  have H3 := Lib.hid h3
  clear h3
  have i1 : ¬ (l.length : Int) < 1 := by omega
  have i2 : ¬ (100 : Int) < (l.length : Int) := by omega
  go_enter Tryd.func39, Tryd.ntmps39
  go_wp2_with fail
  go_loopw [3] (fun i wr => wr = w ∧ ∃ k : Nat, k ≤ l.length ∧ i = .int .i64 k) (fun i _ => l.length - (intOf i).toNat)
  case atStart => exact ⟨rfl, 0, Nat.zero_le _, rfl⟩
  case round =>
    obtain ⟨rfl, k, hk, rfl⟩ := hrel
    by_cases hlt : k < l.length
    · obtain ⟨c, hc⟩ : ∃ c, (⟨l.toArray⟩ : ByteArray)[k]'(by rw [hsz]; exact hlt) = c := ⟨_, rfl⟩
      have hcl : l[k] = c := hc
      have h4 := H3.out l[k] (List.getElem_mem hlt)
      rw [hcl] at h4
      have j1 : ¬ (c.toNat : Int) ≤ 32 := by omega
      have j2 : ¬ (126 : Int) < (c.toNat : Int) := by omega
      go_wp2_with fail
      go_roundw
      case rel => exact ⟨by first | trivial | rfl, k + 1, by omega, by go_num⟩
      case measure => simp [intOf]; omega
    · go_wp2_with fail
      go_ret
      exact ⟨rfl, rfl⟩
/-- Whether a parent is up, as the document says it. -/
def upR (n ch : Nat) (G : List Int) (q : Int) : Bool := !decide (q ∈ G) && decide (inR n ch q)
theorem notin_step {G : List Int} {q : Int} {k : Nat} (hk : k < G.length) (h : q ∉ G.take k) (hx : ¬ G[k] = q) : q ∉ G.take (k + 1) := by
  rw [List.take_succ_eq_append_getElem hk, List.mem_append]
  rintro (h1 | h1)
  · exact h h1
  · simp at h1; exact hx h1.symm
set_option maxHeartbeats 2000000 in
theorem up_any {w : World} {X n pn : Nat} {G : List Int} {A : Option Addr} {c : Nat} (h : RTierAt w X n pn G A c) (hn : n ≤ 64) (hp : pn ≤ n) (hG : G.length ≤ 1000) (q : Int) :
    Calls Tryd.prog 25 #[.pointer (some ⟨X, 0, none⟩), .int .i64 q] w fun e w' => e = .returned (.bool (upR n (n - pn) G q)) ∧ Below w.heap.size w w' := by
  have HT := Lib.hid h
  have x0 := blk_cell (i := 0) h.blk rfl
  have x1 := blk_cell (i := 1) h.blk rfl
  have x2 := blk_cell (i := 2) h.blk rfl
  obtain ⟨ch, hch⟩ : ∃ ch : Nat, n - pn = ch := ⟨_, rfl⟩
  have hc2 : (n : Int) - (pn : Int) = (ch : Int) := by omega
  have hcb : ch ≤ 64 := by omega
  have wch : IntKind.i64.wrap (ch : Int) = (ch : Int) := IntWalk.i64_in _ (by omega)
  rw [hch]
  clear h hch
  go_enter Tryd.func25, Tryd.ntmps25
  go_wp2_with fail
  go_loopw [6, 12] (fun _ si wr => wr = w ∧ ∃ k : Nat, k ≤ G.length ∧ si = .int .i64 k ∧ q ∉ G.take k) (fun _ si _ => G.length - (intOf si).toNat)
  case atStart => exact ⟨rfl, 0, Nat.zero_le _, rfl, by simp⟩
  case round =>
    obtain ⟨rfl, k, hk, rfl, hno⟩ := hrel
    by_cases hlt : k < G.length
    · obtain ⟨b, off, e, hbl, hc⟩ := HT.out.sp.at' k hlt
      have HNX := Lib.hid (fun hx => notin_step hlt hno hx)
      have HIN : Hid (G[k] = q → decide (q ∈ G) = true) := fun e => decide_eq_true (by rw [← e]; exact List.getElem_mem hlt)
      obtain ⟨x, hx⟩ : ∃ x, G[k] = x := ⟨_, rfl⟩
      rw [hx] at hc HNX HIN
      have c1 : wr.cell? ⟨b, off + k, none⟩ = some (.int .i64 x) := by simpa using hc 0 _ rfl
      clear hc hx hno
      subst e
      have HK2 : Hid (k + 1 ≤ G.length) := hlt
      by_cases hxq : x = q
      · have HF := Lib.hid (HIN.out hxq)
        go_wp2_with fail
        go_ret
        have e : upR n ch G q = false := by unfold upR; rw [HF.out]; rfl
        exact ⟨by rw [e]; rfl, Below.refl _ _⟩
      · have HF := Lib.hid (HNX.out hxq)
        go_wp2_with fail
        go_roundw
        case rel => exact ⟨by first | trivial | rfl, k + 1, HK2.out, by go_num, HF.out⟩
        case measure => have := HK2.out; simp [intOf]; omega
    · have HF : Hid (decide (q ∈ G) = false) := decide_eq_false (by rw [List.take_of_length_le (by omega)] at hno; exact hno)
      clear hno
      by_cases h1 : q < (ch : Int)
      · have e : upR n ch G q = false := by unfold upR; rw [decide_eq_false (show ¬ inR n ch q from fun h => by unfold inR at h; omega)]; simp
        have cb : decide ((ch : Int) ≤ q) = false := decide_eq_false (by omega)
        go_wp2_with fail
        go_quiet (fail)
        go_wp2_with fail
        go_ret
        exact ⟨by rw [e]; rfl, bel_drewN (Below.refl _ _) _⟩
      · have h1' : (ch : Int) ≤ q := by omega
        by_cases h2 : q < (n : Int)
        · have e : upR n ch G q = true := by unfold upR; rw [HF.out, decide_eq_true (show inR n ch q from ⟨h1', h2⟩)]; rfl
          go_wp2_with fail
          go_quiet (fail)
          go_wp2_with fail
          go_ret
          exact ⟨by rw [e]; rfl, bel_drewN (Below.refl _ _) _⟩
        · have e : upR n ch G q = false := by unfold upR; rw [decide_eq_false (show ¬ inR n ch q from fun h => by unfold inR at h; omega)]; simp
          have cb : decide (q < (n : Int)) = false := decide_eq_false (by omega)
          go_wp2_with fail
          go_quiet (fail)
          go_wp2_with fail
          go_ret
          exact ⟨by rw [e]; rfl, bel_drewN (Below.refl _ _) _⟩
/-- Numbers from one on, those that hold. -/
def numsL (f : Int → Bool) (a : Nat) : Nat → List Int
  | 0 => []
  | k + 1 => numsL f a k ++ if f ((a + k : Nat) : Int) = true then [((a + k : Nat) : Int)] else []
theorem numsL_len (f : Int → Bool) (a : Nat) : ∀ k, (numsL f a k).length ≤ k
  | 0 => Nat.le_refl _
  | k + 1 => by have := numsL_len f a k; unfold numsL; rw [List.length_append]; split <;> simp <;> omega
theorem numsL_congr {f g : Int → Bool} {a : Nat} : ∀ {k : Nat}, (∀ q : Nat, a ≤ q → q < a + k → f (q : Int) = g (q : Int)) → numsL f a k = numsL g a k
  | 0, _ => rfl
  | k + 1, h => by
    unfold numsL
    rw [numsL_congr (k := k) fun q h1 h2 => h q h1 (by omega), h (a + k) (by omega) (by omega)]
theorem upL_nums (D : List (Int × Bool)) (ch : Nat) : ∀ k, upL D ch k = numsL (upB D) ch k
  | 0 => rfl
  | k + 1 => by unfold upL numsL; rw [upL_nums D ch k]
/-- What Numbers asks of each. -/
def numF (n ch : Nat) (G : List Int) (all : Bool) (q : Int) : Bool := all || upR n ch G q
def RetIntsO (R : List Int) (w : World) (e : Ending) (w' : World) : Prop := ∃ A c, e = .returned (.slice A R.length c) ∧ OwnG 3 encI 1 w' w.heap.size A c R ∧ Below w.heap.size w w'
set_option maxHeartbeats 2000000 in
theorem numbers_any {w : World} {X n pn : Nat} {G : List Int} {A : Option Addr} {c : Nat} (h : RTierAt w X n pn G A c) (hn : n ≤ 64) (hp : pn ≤ n) (hG : G.length ≤ 1000) (a p : Nat) (hap : a + p ≤ 64) (all : Bool) :
    Calls Tryd.prog 12 #[.pointer (some ⟨X, 0, none⟩), .int .i64 (a : Int), .int .i64 ((a + p : Nat) : Int), .bool all] w (RetIntsO (numsL (numF n (n - pn) G all) a p) w) := by
  have HT := Lib.hid h
  have HU := fun W (h : RTierAt W X n pn G A c) q => Lib.hid (up_any h hn hp hG q)
  obtain ⟨ch, hch⟩ : ∃ ch : Nat, n - pn = ch := ⟨_, rfl⟩
  obtain ⟨b, hto⟩ : ∃ b : Nat, a + p = b := ⟨_, rfl⟩
  have hto2 : a + p ≤ b ∧ b ≤ a + p := by omega
  rw [hch] at HU ⊢
  rw [hto]
  clear h hch hto
  go_enter Tryd.func12, Tryd.ntmps12
  go_wp2_with fail
  go_loopw [9, 10] (fun so sp wr => ∃ (k q : Nat) (A' : Option Addr) (c' : Nat), k ≤ p ∧ q = a + k ∧ sp = .int .i64 (q : Int) ∧ so = .slice A' (numsL (numF n ch G all) a k).length c' ∧ OwnG 3 encI 1 wr w.heap.size A' c' (numsL (numF n ch G all) a k) ∧ Below w.heap.size w wr) (fun _ sp _ => b - (intOf sp).toNat)
  case atStart => exact ⟨0, a, none, 0, Nat.zero_le _, rfl, rfl, rfl, OwnG.nil _ _, Below.refl _ _⟩
  case round =>
    obtain ⟨k, q, A', c', hk, hq, rfl, rfl, hown, hb⟩ := hrel
    have HTr := Lib.hid (HT.out.below hb)
    have hll := numsL_len (numF n ch G all) a k
    have HQ : Hid (q + 1 = a + (k + 1)) := by simp only [Hid]; omega
    have HST : Hid (numsL (numF n ch G all) a (k + 1) = numsL (numF n ch G all) a k ++ if numF n ch G all (q : Int) = true then [(q : Int)] else []) := by simp only [Hid]; rw [hq]; rfl
    obtain ⟨R, hR⟩ : ∃ R, numsL (numF n ch G all) a k = R := ⟨_, rfl⟩
    have HRe := Lib.hid hR
    rw [hR] at hown hll HST ⊢
    have HO := Lib.hid hown
    have HB := Lib.hid hb
    by_cases hlt : k < p
    · have hqn : (q : Int) < (b : Int) := by omega
      clear hq hown hb hR
      cases all
      · cases hup : upR n ch G (q : Int)
        · have HUq := Lib.hid (HU _ HTr.out (q : Int))
          have HS2 : Hid (numsL (numF n ch G false) a (k + 1) = R) := by
            have := HST.out; simp only [Hid]; unfold numF at this ⊢; rw [this, hup]; simp
          rw [hup] at HUq
          clear hup HST
          go_wp2_with (go_at_call 25; refine HUq.out.out.mono ?_; rintro e w3 ⟨rfl, hb3⟩)
          have HB3 := Lib.hid (bel_chain hb3 HB.out)
          have HO3 := Lib.hid (HO.out.below hb3)
          clear hb3
          go_wp2_with fail
          go_roundw
          case rel => exact ⟨k + 1, q + 1, A', c', by omega, HQ.out, by go_num, by rw [HS2.out], by rw [HS2.out]; exact HO3.out, HB3.out⟩
          case measure => simp [intOf]; omega
        · have HUq := Lib.hid (HU _ HTr.out (q : Int))
          have HS2 : Hid (numsL (numF n ch G false) a (k + 1) = R ++ [(q : Int)]) := by
            have := HST.out; simp only [Hid]; unfold numF at this ⊢; rw [this, hup]; simp
          rw [hup] at HUq
          clear hup HST
          go_wp2_with ((first | (go_at_call 25; refine HUq.out.out.mono ?_; rintro e w3 ⟨rfl, hb3⟩; have HB3 := Lib.hid (bel_chain hb3 HB.out); have HO3 := Lib.hid (HO.out.below hb3); clear hb3) | (at_builtin; go_must (refine wplG_append (w0 := w) elemI rfl (.tmp 23) (.tmp 25) rfl A' c' R rfl (HO3.out.alloc _) (some ⟨w3.heap.size, 0, none⟩) 1 [(q : Int)] rfl (SpG.built (enc := encI) (n := 1) elemI.len w3 [(q : Int)] #[.int .i64 (q : Int)] rfl 3) (by simp) (by simp; omega) (bel_alloc HB3.out _) ?_; intro A5 c5 w5 hown5 hbw5 hg5))))
          go_roundw
          case rel => exact ⟨k + 1, q + 1, A5, c5, by omega, HQ.out, by go_num, by rw [HS2.out, List.length_append]; rfl, by rw [HS2.out]; exact hown5, hbw5⟩
          case measure => simp [intOf]; omega
      · have HS2 : Hid (numsL (numF n ch G true) a (k + 1) = R ++ [(q : Int)]) := by
          have := HST.out; simp only [Hid]; unfold numF at this ⊢; rw [this]; simp
        clear HST
        go_wp2_with (at_builtin; go_must (refine wplG_append (w0 := w) elemI rfl (.tmp 23) (.tmp 25) rfl A' c' R rfl (HO.out.alloc _) (some ⟨wr.heap.size, 0, none⟩) 1 [(q : Int)] rfl (SpG.built (enc := encI) (n := 1) elemI.len wr [(q : Int)] #[.int .i64 (q : Int)] rfl 3) (by simp) (by simp; omega) (bel_alloc HB.out _) ?_; intro A5 c5 w5 hown5 hbw5 hg5))
        go_roundw
        case rel => exact ⟨k + 1, q + 1, A5, c5, by omega, HQ.out, by go_num, by rw [HS2.out, List.length_append]; rfl, by rw [HS2.out]; exact hown5, hbw5⟩
        case measure => simp [intOf]; omega
    · have hkp : k = p := by omega
      have hqn : ¬ (q : Int) < (b : Int) := by omega
      have HKP := Lib.hid hkp
      clear hq hown hb hR hkp
      go_wp2_with fail
      go_ret
      rw [← HKP.out, HRe.out]
      exact ⟨A', c', rfl, HO.out, HB.out⟩
set_option maxHeartbeats 2000000 in
theorem ints_any (A : Option Addr) (c : Nat) (L : List Int) (A' : Option Addr) (c' : Nat) (w : World) (h : SpG encI 1 w A c L) (h' : SpG encI 1 w A' c' L) (hl : L.length ≤ 1000000) :
    Calls Tryd.prog 13 #[.slice A L.length c, .slice A' L.length c'] w fun e w' => e = .returned (.bool true) ∧ Below w.heap.size w w' := by
  have HH := Lib.hid h
  have HH' := Lib.hid h'
  clear h h'
  go_enter Tryd.func13, Tryd.ntmps13
  go_wp2_with fail
  go_loopw [5, 13] (fun _ i wr => ∃ k n : Nat, k ≤ L.length ∧ i = .int .i64 k ∧ wr = w.drewN n) (fun _ i _ => L.length - (intOf i).toNat)
  case atStart => exact ⟨0, 0, Nat.zero_le _, rfl, rfl⟩
  case round =>
    obtain ⟨k, n, hk, rfl, rfl⟩ := hrel
    by_cases hlt : k < L.length
    · obtain ⟨b, off, e, hbl, hc⟩ := (HH.out.drewN n).at' k hlt
      obtain ⟨b', off', e', hbl', hc'⟩ := (HH'.out.drewN n).at' k hlt
      obtain ⟨x, hx⟩ : ∃ x, L[k] = x := ⟨_, rfl⟩
      rw [hx] at hc hc'
      have c1 : w.cell? ⟨b, off + k, none⟩ = some (.int .i64 x) := by simpa using hc 0 _ rfl
      have c2 : w.cell? ⟨b', off' + k, none⟩ = some (.int .i64 x) := by simpa using hc' 0 _ rfl
      clear hc hc' hx
      subst e; subst e'
      go_wp2_with fail
      go_quiet (fail)
      go_wp2_with fail
      go_roundw
      case rel => exact ⟨k + 1, _, by omega, by go_num, rfl⟩
      case measure => simp [intOf]; omega
    · go_wp2_with fail
      go_ret
      exact ⟨rfl, bel_drewN (Below.refl _ _) _⟩
set_option maxHeartbeats 2000000 in
theorem order_any {w : World} {base t n ch r d : Nat} {L : List Pt} {m : Nat} {nm : Option Nat} {A : Option Addr} {c : Nat} {D : List (Int × Bool)} (h : TierAt w base t n ch r d L m nm A c D) (hn : n ≤ 64) (hc : ch ≤ n) :
    Calls Tryd.prog 14 #[.pointer (some ⟨t, 0, none⟩)] w (RetInts (numsL (fun _ => true) ch (n - ch) ++ numsL (fun _ => true) 0 ch) w) := by
  have HT := Lib.hid h
  have x1 := blk_cell (i := 1) h.blk rfl
  clear h
  obtain ⟨p, hp⟩ : ∃ p, n - ch = p := ⟨_, rfl⟩
  have hp2 : n ≤ ch + p ∧ ch + p ≤ n := by omega
  rw [hp]
  clear hp
  go_enter Tryd.func14, Tryd.ntmps14
  go_wp2_with fail
  go_loopw [3, 4] (fun so sp wr => ∃ (k q : Nat) (A' : Option Addr) (c' : Nat), k ≤ p ∧ q = ch + k ∧ sp = .int .i64 (q : Int) ∧ so = .slice A' (numsL (fun _ => true) ch k).length c' ∧ OwnG 3 encI 1 wr w.heap.size A' c' (numsL (fun _ => true) ch k) ∧ Below w.heap.size w wr) (fun _ sp _ => n - (intOf sp).toNat)
  case atStart => exact ⟨0, ch, none, 0, Nat.zero_le _, rfl, rfl, rfl, OwnG.nil _ _, Below.refl _ _⟩
  case round =>
    obtain ⟨k, q, A', c', hk, hq, rfl, rfl, hown, hb⟩ := hrel
    have HTr := Lib.hid (HT.out.below hb)
    have y0 := blk_cell (i := 0) HTr.out.blk rfl
    have y1 := blk_cell (i := 1) HTr.out.blk rfl
    have hll := numsL_len (fun _ => true) ch k
    have HQ : Hid (q + 1 = ch + (k + 1)) := by simp only [Hid]; omega
    have HST : Hid (numsL (fun _ => true) ch (k + 1) = numsL (fun _ => true) ch k ++ [(q : Int)]) := by simp only [Hid]; rw [hq]; rfl
    obtain ⟨R, hR⟩ : ∃ R, numsL (fun _ => true) ch k = R := ⟨_, rfl⟩
    have HRe := Lib.hid hR
    rw [hR] at hown hll HST ⊢
    have HO := Lib.hid hown
    have HB := Lib.hid hb
    by_cases hlt : k < p
    · have hqn : (q : Int) < (n : Int) := by omega
      clear hq hown hb hR
      go_wp2_with (at_builtin; go_must (refine wplG_append (w0 := w) elemI rfl (.tmp 18) (.tmp 20) rfl A' c' R rfl (HO.out.alloc _) (some ⟨wr.heap.size, 0, none⟩) 1 [(q : Int)] rfl (SpG.built (enc := encI) (n := 1) elemI.len wr [(q : Int)] #[.int .i64 (q : Int)] rfl 3) (by simp) (by simp; omega) (bel_alloc HB.out _) ?_; intro A5 c5 w5 hown5 hbw5 hg5))
      go_roundw
      case rel => exact ⟨k + 1, q + 1, A5, c5, by omega, HQ.out, by go_num, by rw [HST.out, List.length_append]; rfl, by rw [HST.out]; exact hown5, hbw5⟩
      case measure => simp [intOf]; omega
    · have hkp : k = p := by omega
      have hqn : ¬ (q : Int) < (n : Int) := by omega
      have HKP := Lib.hid hkp
      have HRP : Hid (numsL (fun _ => true) ch p = R) := by simp only [Hid]; rw [← hkp]; exact HRe.out
      clear hq hown hb hR hkp HKP HRe HST
      have hc64 : ch ≤ 64 := by omega
      go_wp2_with fail
      go_loopw [3, 5, 26] (fun so _ si ws => ∃ (j : Nat) (A' : Option Addr) (c' : Nat), j ≤ ch ∧ si = .int .i64 (j : Int) ∧ so = .slice A' (R ++ numsL (fun _ => true) 0 j).length c' ∧ OwnG 3 encI 1 ws w.heap.size A' c' (R ++ numsL (fun _ => true) 0 j) ∧ Below w.heap.size w ws) (fun _ _ si _ => ch - (intOf si).toNat)
      case atStart => exact ⟨0, A', c', Nat.zero_le _, rfl, by simp [numsL], by simpa [numsL] using HO.out, HB.out⟩
      case round =>
        clear HO HB HTr y0 y1
        obtain ⟨j, A2, c2, hj, rfl, rfl, hown, hb⟩ := hrel
        have hll2 : (R ++ numsL (fun _ => true) 0 j).length ≤ 128 := by
          have := numsL_len (fun _ => true) 0 j
          rw [List.length_append]; omega
        have HST : Hid (R ++ numsL (fun _ => true) 0 (j + 1) = (R ++ numsL (fun _ => true) 0 j) ++ [(j : Int)]) := by simp only [Hid]; rw [List.append_assoc]; congr 1; simp [numsL]
        obtain ⟨S, hS⟩ : ∃ S, R ++ numsL (fun _ => true) 0 j = S := ⟨_, rfl⟩
        have HSe := Lib.hid hS
        rw [hS] at hown hll2 HST ⊢
        have HO := Lib.hid hown
        have HB := Lib.hid hb
        clear hown hb hS
        by_cases hlt2 : j < ch
        · go_wp2_with (at_builtin; go_must (refine wplG_append (w0 := w) elemI rfl (.tmp 29) (.tmp 31) rfl A2 c2 S rfl (HO.out.alloc _) (some ⟨wr.heap.size, 0, none⟩) 1 [(j : Int)] rfl (SpG.built (enc := encI) (n := 1) elemI.len wr [(j : Int)] #[.int .i64 (j : Int)] rfl 3) (by simp) (by simp; omega) (bel_alloc HB.out _) ?_; intro A5 c5 w5 hown5 hbw5 hg5))
          go_roundw
          case rel => exact ⟨j + 1, A5, c5, by omega, by go_num, by rw [HST.out, List.length_append]; rfl, by rw [HST.out]; exact hown5, hbw5⟩
          case measure => simp [intOf]; omega
        · have hje : j = ch := by omega
          have HJE := Lib.hid hje
          clear hje
          go_wp2_with fail
          go_ret
          have e : numsL (fun _ => true) ch p ++ numsL (fun _ => true) 0 ch = S := by rw [HRP.out, ← HJE.out]; exact HSe.out
          rw [e]
          exact ⟨A2, c2, rfl, HO.out.spg elemI.len, HB.out⟩
end Go.Proofs.YtnlamjebgkgbaaaDoor
namespace Go.Proofs.YtnlamjebgkgbaaaDoor
open Go.RowKit Go.Shelf Go.Sort

set_option maxHeartbeats 4000000 in
set_option maxRecDepth 100000 in
theorem digits1_any (p : Nat) (hp : p < 10) (w : World) : Calls Tryd.prog 23 #[.int .i64 (p : Int)] w fun e w' => e = .returned (.string ⟨(Lib.decDigits p).toArray⟩) ∧ Below w.heap.size w w' := by
  obtain ⟨c, hcc⟩ : ∃ c, UInt8.ofNat (48 + p) = c := ⟨_, rfl⟩
  have HD : Hid (Lib.decDigits p = [c]) := by simp only [Hid]; rw [Lib.decDigits, dif_pos hp, hcc]
  have hc' : (48 : Int) + (p : Int) = (c.toNat : Int) := by rw [← hcc, digt_toNat hp]; omega
  have hmod : (p : Int) % 10 = (p : Int) := by omega
  have kc := fun W => conv_one W c (c.toNat : Int) rfl
  have hcb : (c.toNat : Int) < 256 := by have := UInt8.toNat_lt c; omega
  have hp2 : (p : Int) < 10 := by omega
  clear hcc
  go_enter Tryd.func23, Tryd.ntmps23
  go_wp2_with fail
  go_ret
  rw [HD.out]
  exact ⟨rfl, bel_alloc (Below.refl _ _) _⟩
set_option maxHeartbeats 4000000 in
set_option maxRecDepth 100000 in
theorem digits2_any (p : Nat) (hp : p < 100) (w : World) : Calls Tryd.prog 23 #[.int .i64 (p : Int)] w fun e w' => e = .returned (.string ⟨(Lib.decDigits p).toArray⟩) ∧ Below w.heap.size w w' := by
  by_cases h10 : p < 10
  · exact digits1_any p h10 w
  · obtain ⟨c, hcc⟩ : ∃ c, UInt8.ofNat (48 + p % 10) = c := ⟨_, rfl⟩
    have HD : Hid (Lib.decDigits p = Lib.decDigits (p / 10) ++ [c]) := by simp only [Hid]; rw [Lib.decDigits, dif_neg h10, hcc]
    obtain ⟨m, hm⟩ : ∃ m, p % 10 = m := ⟨_, rfl⟩
    have hmod : (p : Int) % 10 = (m : Int) := by omega
    have hm10 : m < 10 := by omega
    have hc' : (48 : Int) + (m : Int) = (c.toNat : Int) := by rw [← hcc, hm, digt_toNat hm10]; omega
    obtain ⟨q, hq⟩ : ∃ q, p / 10 = q := ⟨_, rfl⟩
    have hdiv : (p : Int) / 10 = (q : Int) := by omega
    have hq10 : q < 10 := by omega
    have kc := fun W => conv_one W c (c.toNat : Int) rfl
    have hcb : (c.toNat : Int) < 256 := by have := UInt8.toNat_lt c; omega
    have hp2 : ¬ (p : Int) < 10 := by omega
    rw [hq] at HD
    have HI := fun W => Lib.hid (digits1_any q hq10 W)
    have hdl : (Lib.decDigits q).length ≤ 10 := by have := dec_len2 (i := q) (by omega); omega
    clear hcc hm hq h10
    go_enter Tryd.func23, Tryd.ntmps23
    go_wp2_with fail
    refine (HI _).out.mono ?_
    rintro e w1 ⟨rfl, hb1⟩
    have HB := Lib.hid hb1
    clear hb1 HI
    go_wp2_with fail
    go_ret
    rw [HD.out, ← cat_one]
    exact ⟨rfl, bel_chain HB.out (bel_alloc (Below.refl _ _) _)⟩
theorem ba_ne {a b : List UInt8} (h : a ≠ b) : ((⟨a.toArray⟩ : ByteArray) == ⟨b.toArray⟩) = false := by
  show (a.toArray == b.toArray) = false
  rw [beq_eq_false_iff_ne]
  intro e
  exact h (by simpa using congrArg Array.toList e)
theorem ba_same (a : List UInt8) : ((⟨a.toArray⟩ : ByteArray) == ⟨a.toArray⟩) = true := by
  show (a.toArray == a.toArray) = true
  simp
/-- A name and its weight, in their cells. -/
def encN (l : List UInt8) : List Value := [.string ⟨l.toArray⟩, .int .i64 1]
theorem Tryd.nameInfo : (Tryd.prog.info? 103).map (fun i => (i.zero, i.size, i.bytes)) = some (some (.agg #[.string ⟨#[]⟩, .int .i64 0]), 2, 24) := by kernel_rfl
set_option maxRecDepth 100000 in
theorem elemN : ElemK Tryd.prog encN 2 103 76 24 where
  und := Tryd.underlying76
  info := by
    obtain ⟨i0, hi, hz0, hz1, hz2⟩ := info_parts Tryd.nameInfo
    exact ⟨i0, _, hi, hz0, hz1, hz2, rfl⟩
  pos := by decide
  small := by decide
  len _ := rfl
  one _ v hv := by simp [encN] at hv; rcases hv with rfl | rfl <;> rfl
/-- The document's ring, with names of weight 1. -/
structure RRing (w : World) (base y : Nat) (Ns : List (List UInt8)) (A : Option Addr) (c : Nat) : Prop where
  blk : w.heap[y]? = some (.cells #[.int .i64 16, .slice A Ns.length c] 78 (0, 0))
  own : OwnG 103 encN 2 w base A c Ns
theorem RRing.below {w w' : World} {base y : Nat} {Ns : List (List UInt8)} {A : Option Addr} {c : Nat} (h : RRing w base y Ns A c) (hb : Below w.heap.size w w') : RRing w' base y Ns A c :=
  ⟨blk_keep hb h.blk, h.own.below hb⟩
theorem has_any {w : World} {base y : Nat} {Ns : List (List UInt8)} {A : Option Addr} {c : Nat} (h : RRing w base y Ns A c) (l : List UInt8) (hl : l ∉ Ns) (hn : Ns.length ≤ 64) :
    Calls Tryd.prog 40 #[.pointer (some ⟨y, 0, none⟩), .string ⟨l.toArray⟩] w fun e w' => e = .returned (.int .i64 0) ∧ Below w.heap.size w w' := by
  have HS := Lib.hid (h.own.spg elemN.len)
  have x1 := blk_cell (i := 1) h.blk rfl
  have HL : Hid (∀ n ∈ Ns, (n == l) = false) := fun n hn => by rw [beq_eq_false_iff_ne]; exact fun e => hl (e ▸ hn)
  clear h hl
  go_enter Tryd.func40, Tryd.ntmps40
  go_wp2_with fail
  go_loopw [6, 12] (fun _ si wr => ∃ k : Nat, k ≤ Ns.length ∧ si = .int .i64 k ∧ Below w.heap.size w wr) (fun _ si _ => Ns.length - (intOf si).toNat)
  case atStart => exact ⟨0, Nat.zero_le _, rfl, Below.refl _ _⟩
  case round =>
    obtain ⟨k, hk, rfl, hb⟩ := hrel
    have HB := Lib.hid hb
    clear hb
    by_cases hlt : k < Ns.length
    · obtain ⟨b, off, e, hbl, hc⟩ := (HS.out.below HB.out).at' k hlt
      have hne := HL.out Ns[k] (List.getElem_mem hlt)
      obtain ⟨n, hnk⟩ : ∃ n, Ns[k] = n := ⟨_, rfl⟩
      rw [hnk] at hc hne
      have c1 : wr.cell? ⟨b, off + k * 2, none⟩ = some (.string ⟨n.toArray⟩) := by simpa using hc 0 _ rfl
      have c2 : wr.cell? ⟨b, off + k * 2 + 1, none⟩ = some (.int .i64 1) := hc 1 _ rfl
      clear hc hnk
      subst e
      go_wp2_with fail
      go_roundw
      case rel => exact ⟨k + 1, by omega, by go_num, bel_alloc HB.out _⟩
      case measure => simp [intOf]; omega
    · go_wp2_with fail
      go_ret
      exact ⟨rfl, HB.out⟩
def Add40Post (w0 : World) (y : Nat) (Ns : List (List UInt8)) (l : List UInt8) (e : Ending) (w' : World) : Prop :=
  e = .returned (.int .i64 0) ∧ ∃ A c, RRing w' w0.heap.size y (Ns ++ [l]) A c ∧ Below w0.heap.size w0 w'
theorem add40_any {w0 w : World} {y : Nat} {Ns : List (List UInt8)} {A : Option Addr} {c : Nat} (h : RRing w w0.heap.size y Ns A c) (hy : w0.heap.size ≤ y) (hb : Below w0.heap.size w0 w) (l : List UInt8) (hl : NameOk l) (hno : l ∉ Ns) (hn : Ns.length < 64) :
    Calls Tryd.prog 22 #[.pointer (some ⟨y, 0, none⟩), .string ⟨l.toArray⟩, .int .i64 1] w (Add40Post w0 y Ns l) := by
  have HR := fun W => Lib.hid (right40_any l hl W)
  have HH := fun W (h : RRing W w0.heap.size y Ns A c) => Lib.hid (has_any h l hno (by omega))
  have HT := Lib.hid h
  have HB0 := Lib.hid hb
  have hne : ((Ns.length : Int) == 64) = false := by rw [beq_eq_false_iff_ne]; omega
  clear h hb hno hl
  go_enter Tryd.func22, Tryd.ntmps22
  go_wp2_with ((first
    | (go_at_call 39; refine (HR _).out.mono ?_; rintro e w1 ⟨rfl, rfl⟩)
    | (go_at_call 40; refine (HH _ HT.out).out.mono ?_; rintro e w2 ⟨rfl, hb2⟩; have HT2 := Lib.hid (HT.out.below hb2); have HB2 := Lib.hid (bel_chain hb2 HB0.out); have x1 := blk_cell (i := 1) HT2.out.blk rfl; have xf := blk_frozen (i := 1) HT2.out.blk; have HNT := Lib.hid (HT2.out.own.ne_type HT2.out.blk (by decide)); clear hb2)
    | (at_builtin; go_must (refine wplG_append (w0 := w0) elemN rfl (.tmp 32) (.tmp 36) rfl A c Ns rfl (HT2.out.own.alloc _) (some ⟨w2.heap.size, 0, none⟩) 1 [l] rfl (SpG.built (enc := encN) (n := 2) elemN.len w2 [l] #[.string ⟨l.toArray⟩, .int .i64 1] rfl 103) (by simp) (by simp; omega) (bel_alloc HB2.out _) ?_; intro A5 c5 w5 hown5 hbw5 hg5; have B5 := Lib.hid (blk_grown (blk_skip HT2.out.blk) hg5 HNT.out); have z5 := blk_cell (i := 1) B5.out rfl; have zf5 := blk_frozen (i := 1) B5.out; have zz5 := blk_lt B5.out))))
  refine bodyPost_ret (by simp [results, Tryd.results22, go_sem]; try rfl) rfl ?_
  refine ⟨rfl, A5, c5, ⟨?_, hown5.setAt B5.out (by decide) _⟩, bel_set hbw5 hy _⟩
  rw [List.length_append]
  exact blk_set B5.out
theorem way_wrap {a h : Nat} (ha : a < 18446744073709551616) (hh : h < 18446744073709551616) : IntKind.u64.wrap ((a : Int) - (h : Int)) = ((wayN h a : Nat) : Int) := by
  unfold wayN
  have : IntKind.u64.wrap ((a : Int) - (h : Int)) = ((a : Int) - (h : Int)) % 18446744073709551616 := by simp [IntKind.wrap, IntKind.signed, IntKind.bits]
  rw [this]; omega
set_option maxHeartbeats 4000000 in
set_option maxRecDepth 100000 in
theorem way_any {w : World} {base y : Nat} {Ns : List (List UInt8)} {A : Option Addr} {c : Nat} (h : RRing w base y Ns A c) (o l : List UInt8) (ho : o.length ≤ 100000) (hl : l.length ≤ 100) :
    Calls Tryd.prog 41 #[.pointer (some ⟨y, 0, none⟩), .string ⟨o.toArray⟩, .agg #[.string ⟨l.toArray⟩, .int .i64 1]] w fun e w' => e = .returned (.int .u64 ((bestW (hashN o) l 16 : Nat) : Int)) ∧ Below w.heap.size w w' := by
  have HT := Lib.hid h
  have HHo := fun W => Lib.hid (rhash_any o W (by omega))
  have hlt0 := hashN_lt o
  obtain ⟨ho', hho⟩ : ∃ x, hashN o = x := ⟨_, rfl⟩
  rw [hho] at HHo hlt0 ⊢
  clear h hho
  go_enter Tryd.func41, Tryd.ntmps41
  go_wp2_with (go_at_call 54; refine (HHo _).out.mono ?_; rintro e w1 ⟨rfl, rfl⟩)
  obtain ⟨V, hV⟩ : ∃ V, w.alloc (.cells #[.string ⟨l.toArray⟩, .int .i64 1] 103) = V := ⟨_, rfl⟩
  have HVB : Hid (V.heap[w.heap.size]? = some (.cells #[.string ⟨l.toArray⟩, .int .i64 1] 103 (0, 0))) := by simp only [Hid]; rw [← hV]; exact blk_new rfl
  have HVb : Hid (Below w.heap.size w V) := by simp only [Hid]; rw [← hV]; exact bel_alloc (Below.refl _ _) _
  have HVT := Lib.hid (HT.out.below HVb.out)
  rw [hV]
  clear hV HT HHo
  go_loopw [7, 9, 10] (fun sb si _ wr => ∃ k : Nat, k ≤ 16 ∧ si = .int .i64 k ∧ sb = .int .u64 ((bestW ho' l k : Nat) : Int) ∧ Below V.heap.size V wr) (fun _ si _ _ => 16 - (intOf si).toNat)
  case atStart => exact ⟨0, by omega, rfl, rfl, Below.refl _ _⟩
  case round =>
    obtain ⟨k, hk, rfl, rfl, hb⟩ := hrel
    have HB := Lib.hid hb
    have y0 := blk_cell (i := 0) (HVT.out.below hb).blk rfl
    have z0 := blk_cell (i := 0) (blk_keep hb HVB.out) rfl
    have z1 := blk_cell (i := 1) (blk_keep hb HVB.out) rfl
    clear hb
    by_cases hlt : k < 16
    · have hk' : (k : Int) < 16 := by omega
      have HD := fun W => Lib.hid (digits2_any k (by omega) W)
      have hdl := dec_len2 (i := k) (by omega)
      have hc1 := catRun (a := Lib.decDigits k) (b := [35]) (by simp; omega)
      have hc2 := catRun (a := Lib.decDigits k ++ [35]) (b := l) (by simp; omega)
      rw [List.append_assoc, List.singleton_append] at hc2
      have HH := fun W => Lib.hid (rhash_any (Lib.decDigits k ++ 35 :: l) W (by simp; omega))
      have hw := way_wrap (hashN_lt (Lib.decDigits k ++ 35 :: l)) hlt0
      have HBW : Hid (bestW ho' l (k + 1) = if k = 0 ∨ wayN ho' (hashN (Lib.decDigits k ++ 35 :: l)) < bestW ho' l k then wayN ho' (hashN (Lib.decDigits k ++ 35 :: l)) else bestW ho' l k) := rfl
      obtain ⟨hv, hhv⟩ : ∃ hv, hashN (Lib.decDigits k ++ 35 :: l) = hv := ⟨_, rfl⟩
      rw [hhv] at HH hw HBW
      obtain ⟨wy, hwy⟩ : ∃ wy, wayN ho' hv = wy := ⟨_, rfl⟩
      rw [hwy] at hw HBW
      generalize Lib.decDigits k ++ 35 :: l = tx at hc2 HH
      generalize Lib.decDigits k ++ [35] = ty at hc1 hc2
      generalize Lib.decDigits k = dg at HD hc1
      obtain ⟨bw, hbw⟩ : ∃ bw, bestW ho' l k = bw := ⟨_, rfl⟩
      rw [hbw] at HBW ⊢
      clear hhv hwy hbw hdl
      go_wp2_with fail
      go_quiet (fail)
      go_wp2_with fail
      go_region_held3 (fun w' => w'.cell? ⟨w.heap.size, 0, none⟩ = some (.string ⟨l.toArray⟩))
        (first | exact z0 | exact s0 | fail)
        (first
          | (go_at_call 23; refine (HD _).out.mono ?_; rintro e w5 ⟨rfl, hb5⟩; have s0 := cell_keep hb5 z0)
          | (go_at_call 54; refine (HH _).out.mono ?_; rintro e w6 ⟨rfl, rfl⟩))
      have HB6 : Hid (Below V.heap.size V w6) := bel_chain hb5 (bel_drewN HB.out _)
      clear hb5 s0 z0 z1 y0 hc1 hc2 HD HH hw
      by_cases h0 : k = 0
      · have h0' : ((k : Int) == 0) = true := by rw [beq_iff_eq]; omega
        have HBW2 : Hid (bestW ho' l (k + 1) = wy) := by have := HBW.out; rw [if_pos (.inl h0)] at this; exact this
        clear h0 HBW
        go_wp2_with fail
        go_roundw
        case rel => exact ⟨k + 1, by omega, by go_num, by rw [HBW2.out], HB6.out⟩
        case measure => simp [intOf]; omega
      · have h0' : ((k : Int) == 0) = false := by rw [beq_eq_false_iff_ne]; omega
        by_cases h1 : wy < bw
        · have h1' : (wy : Int) < (bw : Int) := by omega
          have HBW2 : Hid (bestW ho' l (k + 1) = wy) := by have := HBW.out; rw [if_pos (.inr h1)] at this; exact this
          clear h0 HBW h1
          go_wp2_with fail
          go_roundw
          case rel => exact ⟨k + 1, by omega, by go_num, by rw [HBW2.out], HB6.out⟩
          case measure => simp [intOf]; omega
        · have h1' : ¬ (wy : Int) < (bw : Int) := by omega
          have HBW2 : Hid (bestW ho' l (k + 1) = bw) := by have := HBW.out; rw [if_neg (by omega)] at this; exact this
          clear h0 HBW h1
          go_wp2_with fail
          go_roundw
          case rel => exact ⟨k + 1, by omega, by go_num, by rw [HBW2.out], HB6.out⟩
          case measure => simp [intOf]; omega
    · have h16 : k = 16 := by omega
      subst h16
      go_wp2_with fail
      go_quiet (fail)
      go_wp2_with fail
      go_ret
      exact ⟨rfl, bel_drewN (bel_chain HB.out HVb.out) _⟩
end Go.Proofs.YtnlamjebgkgbaaaDoor
namespace Go.Proofs.YtnlamjebgkgbaaaDoor
open Go.RowKit Go.Shelf Go.Sort

def encU (x : Nat) : List Value := [.int .u64 (x : Int)]
theorem Tryd.u64Info : (Tryd.prog.info? 90).map (fun i => (i.zero, i.size, i.bytes)) = some (some (.int .u64 0), 1, 8) := by kernel_rfl
theorem Tryd.boolInfo : (Tryd.prog.info? 4).map (fun i => (i.zero, i.size, i.bytes)) = some (some (.bool false), 1, 1) := by kernel_rfl
set_option maxRecDepth 100000 in
theorem elemU : ElemK Tryd.prog encU 1 90 105 8 where
  und := Tryd.underlying105
  info := by
    obtain ⟨i0, hi, hz0, hz1, hz2⟩ := info_parts Tryd.u64Info
    exact ⟨i0, _, hi, hz0, hz1, hz2, rfl⟩
  pos := by decide
  small := by decide
  len _ := rfl
  one _ v hv := by simp [encU] at hv; rw [hv]; rfl
/-- The marks of what was taken. -/
def marks (I : List Nat) (n : Nat) : Array Value := ((List.range n).map fun i => Value.bool (decide (i ∈ I))).toArray
theorem marks_at {I : List Nat} {n i : Nat} (h : i < n) : (marks I n)[i]? = some (.bool (decide (i ∈ I))) := by
  unfold marks; simp [h]
theorem marks_set {I : List Nat} {n c : Nat} (h : c < n) : (marks I n).setIfInBounds c (.bool true) = marks (I ++ [c]) n := by
  apply Array.ext_getElem?
  intro i
  rw [Array.getElem?_setIfInBounds]
  have hs : (marks I n).size = n := by simp [marks]
  by_cases e : c = i
  · subst e
    rw [if_pos rfl, if_pos (by rw [hs]; exact h), marks_at h]; simp
  · rw [if_neg e]
    by_cases hi : i < n
    · rw [marks_at hi, marks_at hi]
      have : ¬ i = c := fun h => e h.symm
      simp [this]
    · rw [Array.getElem?_eq_none (by rw [hs]; omega), Array.getElem?_eq_none (by simp [marks]; omega)]
theorem made_marks (n : Nat) (h : n ≤ 1000) (W : World) : (Instr.makeSlice 107 (.int .i64 (n : Int)) (.int .i64 (n : Int))).run Tryd.prog W = .ok (.slice (some ⟨W.heap.size, 0, none⟩) n n) (W.alloc (.cells (marks [] n) 4)) := by
  obtain ⟨i0, hi, hz0, hz1, hz2⟩ := info_parts Tryd.boolInfo
  have := run_make (P := Tryd.prog) (w := W) 107 4 i0 _ Tryd.underlying107 hi hz0 .i64 .i64 (n : Int) (n : Int) (by omega) (by omega) (by rw [hz2]; omega) (by omega)
  rw [hz1] at this
  have e : madeCells (Value.bool false).cells (n * 1) = marks [] n := by
    rw [Nat.mul_one]
    apply Array.ext_getElem?
    intro i
    by_cases hi : i < n
    · rw [marks_at hi]
      unfold madeCells
      simp [hi, Value.cells, Nat.mod_one]
    · rw [Array.getElem?_eq_none (by rw [size_madeCells]; omega), Array.getElem?_eq_none (by simp [marks]; omega)]
  have e2 : ((n : Int)).toNat = n := by omega
  rw [e2, e] at this
  exact this
section
variable {α β : Type} {T T' : TypeId} {en : α → List Value} {en' : β → List Value} {n n' base base' c c' : Nat} {A A' : Option Addr} {L : List α} {L' : List β} {w w' : World}
/-- Rows of two types: one stays when the other grows. -/
theorem OwnG.other (h : OwnG T en n w base A c L) (h' : OwnG T' en' n' w base' A' c' L') (hT : T ≠ T') (hg : w.grownBy w' (Value.slice A' L'.length c').ownBlock) : OwnG T en n w' base A c L := by
  refine World.ownsRow.kept h hg ?_
  rcases h'.2 with ⟨hv, _⟩ | ⟨g, cap, cur, hv, _, hgg, _⟩
  · rw [hv]
    cases hh : (Value.slice A L.length c).ownBlock with
    | none => exact .inl rfl
    | some k => exact .inr (by simp [Value.ownBlock])
  · rw [hv]; exact .inr (h.ne_type hgg hT)
/-- All cells of a row lie in one block. -/
theorem SpG.all (h : SpG en n w A c L) (hl : 0 < L.length) : ∃ b off, A = some ⟨b, off, none⟩ ∧ b < w.heap.size ∧ ∀ k (hk : k < L.length) j v, (en L[k])[j]? = some v → w.cell? ⟨b, off + k * n + j, none⟩ = some v := by
  obtain ⟨b, off, e, hb, _⟩ := h.at' 0 hl
  refine ⟨b, off, e, hb, fun k hk j v hv => ?_⟩
  obtain ⟨b', off', e', _, h1⟩ := h.at' k hk
  rw [e] at e'
  injection e' with e'
  injection e' with e1 e2
  subst e1 e2
  exact h1 j v hv
end
theorem RRing.other {β : Type} {en' : β → List Value} {n' base base' c c' y : Nat} {A A' : Option Addr} {Ns : List (List UInt8)} {L' : List β} {T' : TypeId} {w w' : World} (h : RRing w base y Ns A c) (h' : OwnG T' en' n' w base' A' c' L') (hT : 103 ≠ T') (hT2 : T' ≠ 78) (hg : w.grownBy w' (Value.slice A' L'.length c').ownBlock) : RRing w' base y Ns A c :=
  ⟨blk_grown h.blk hg (h'.ne_type h.blk hT2), h.own.other h' hT hg⟩
theorem RRing.setAt {base y g i c : Nat} {A : Option Addr} {Ns : List (List UInt8)} {cs : Array Value} {T' : TypeId} {f : Nat × Nat} {w : World} (h : RRing w base y Ns A c) (hr : w.heap[g]? = some (.cells cs T' f)) (hT : 103 ≠ T') (hT2 : 78 ≠ T') (v : Value) : RRing (w.setCell ⟨g, i, none⟩ v) base y Ns A c :=
  ⟨blk_set_ne (p := ⟨g, i, none⟩) (fun e => by have := h.blk; rw [e, hr] at this; injection this with this; injection this with _ h2; exact hT2 h2.symm) h.blk, h.own.setAt hr hT v⟩
/-- The selection so far: what the walk keeps. -/
structure SelW (w0 : World) (y base : Nat) (Ns : List (List UInt8)) (A : Option Addr) (c : Nat) (Aw : Option Addr) (cw : Nat) (Ws : List Nat) (tb : Nat) (J : List Nat) (Ao : Option Addr) (co : Nat) (R : List (List UInt8)) (W : World) : Prop where
  ring : RRing W base y Ns A c
  ways : OwnG 90 encU 1 W w0.heap.size Aw cw Ws
  mrk : W.heap[tb]? = some (.cells (marks J Ns.length) 4 (0, 0))
  out : OwnG 9 encT 1 W w0.heap.size Ao co R
  b : Below w0.heap.size w0 W
  tl : w0.heap.size ≤ tb
section
variable {w0 W W' : World} {y base c cw tb co : Nat} {Ns R : List (List UInt8)} {A Aw Ao : Option Addr} {Ws J : List Nat}
theorem SelW.below (h : SelW w0 y base Ns A c Aw cw Ws tb J Ao co R W) (hb : Below W.heap.size W W') : SelW w0 y base Ns A c Aw cw Ws tb J Ao co R W' :=
  ⟨h.ring.below hb, h.ways.below hb, blk_keep hb h.mrk, h.out.below hb, bel_chain hb h.b, h.tl⟩
theorem SelW.drewN (h : SelW w0 y base Ns A c Aw cw Ws tb J Ao co R W) (q : Nat) : SelW w0 y base Ns A c Aw cw Ws tb J Ao co R (W.drewN q) :=
  ⟨⟨h.ring.blk, h.ring.own⟩, h.ways, h.mrk, h.out, bel_drewN h.b q, h.tl⟩
theorem SelW.take (h : SelW w0 y base Ns A c Aw cw Ws tb J Ao co R W) (k : Nat) (hk : k < Ns.length) : SelW w0 y base Ns A c Aw cw Ws tb (J ++ [k]) Ao co R (W.setCell ⟨tb, k, none⟩ (.bool true)) :=
  ⟨h.ring.setAt h.mrk (by decide) (by decide) _, h.ways.setAt h.mrk (by decide) _, (blk_set h.mrk).trans (by rw [marks_set hk]), h.out.setAt h.mrk (by decide) _, bel_set h.b h.tl _, h.tl⟩
theorem SelW.put {A5 : Option Addr} {c5 : Nat} {x : List UInt8} (h : SelW w0 y base Ns A c Aw cw Ws tb J Ao co R W) (h5 : OwnG 9 encT 1 W' w0.heap.size A5 c5 (R ++ [x])) (hb : Below w0.heap.size w0 W') (hg : W.grownBy W' (Value.slice Ao R.length co).ownBlock) : SelW w0 y base Ns A c Aw cw Ws tb J A5 c5 (R ++ [x]) W' :=
  ⟨h.ring.other h.out (by decide) (by decide) hg, h.ways.other h.out (by decide) hg, blk_grown h.mrk hg (h.out.ne_type h.mrk (by decide)), h5, hb, h.tl⟩
theorem SelW.putA {A5 : Option Addr} {c5 : Nat} {x : List UInt8} {o : Obj} (h : SelW w0 y base Ns A c Aw cw Ws tb J Ao co R W) (h5 : OwnG 9 encT 1 W' w0.heap.size A5 c5 (R ++ [x])) (hb : Below w0.heap.size w0 W') (hg : (W.alloc o).grownBy W' (Value.slice Ao R.length co).ownBlock) : SelW w0 y base Ns A c Aw cw Ws tb J A5 c5 (R ++ [x]) W' :=
  (h.below (bel_alloc (Below.refl _ _) o)).put h5 hb hg
end
def bInt : Option Nat → Int
  | none => -1
  | some c => (c : Int)
/-- How long a slice is. -/
def slLen : Value → Nat
  | .slice _ n _ => n
  | _ => 0
theorem ways_at {f : List UInt8 → Nat} {R : List Nat} {Ns : List (List UInt8)} (h : R = Ns.map f) {j : Nat} (hj : j < Ns.length) : ∃ hr : j < R.length, R[j] = f (Ns.getD j []) := by
  subst h
  refine ⟨by simpa using hj, ?_⟩
  simp [List.getD, hj]
theorem names_at {Ns : List (List UInt8)} {j : Nat} (hj : j < Ns.length) : Ns[j] = Ns.getD j [] := by simp [List.getD, hj]
def Own40Post (h : Nat) (Ns : List (List UInt8)) (w : World) (e : Ending) (w' : World) : Prop :=
  ∃ I A c, e = .returned (.slice A (I.map fun i => Ns.getD i []).length c) ∧ SelOk h Ns I ∧ I.length = Ns.length ∧ SpG encT 1 w' A c (I.map fun i => Ns.getD i []) ∧ Below w.heap.size w w'
set_option maxHeartbeats 4000000 in
set_option maxRecDepth 100000 in
theorem owners40_any {w : World} {base y : Nat} {Ns : List (List UInt8)} {A : Option Addr} {c : Nat} (h : RRing w base y Ns A c) (o : List UInt8) (ho : o.length ≤ 100000) (hN : ∀ l ∈ Ns, l.length ≤ 100) (hn : Ns.length ≤ 64) :
    Calls Tryd.prog 24 #[.pointer (some ⟨y, 0, none⟩), .string ⟨o.toArray⟩, .int .i64 64] w (Own40Post (hashN o) Ns w) := by
  have HT := Lib.hid h
  have HW := fun W (h : RRing W base y Ns A c) l (hl : l ∈ Ns) => Lib.hid (way_any h o l ho (hN l hl))
  obtain ⟨ho', hho⟩ : ∃ x, hashN o = x := ⟨_, rfl⟩
  rw [hho] at HW ⊢
  have HMK := Lib.hid (made_marks Ns.length (by omega))
  have x1 := blk_cell (i := 1) h.blk rfl
  clear h hho hN
  go_enter Tryd.func24, Tryd.ntmps24
  go_wp2_with fail
  go_loopw [8, 10, 19] (fun sw _ si wr => ∃ (k : Nat) (Aw : Option Addr) (cw : Nat), k ≤ Ns.length ∧ si = .int .i64 (k : Int) ∧ sw = .slice Aw ((Ns.take k).map fun l => bestW ho' l 16).length cw ∧ OwnG 90 encU 1 wr w.heap.size Aw cw ((Ns.take k).map fun l => bestW ho' l 16) ∧ Below w.heap.size w wr) (fun _ _ si _ => Ns.length - (intOf si).toNat)
  case atStart => exact ⟨0, none, 0, Nat.zero_le _, rfl, rfl, OwnG.nil _ _, Below.refl _ _⟩
  case round =>
    obtain ⟨k, Aw, cw, hk, rfl, rfl, hown, hb⟩ := hrel
    have HTr := Lib.hid (HT.out.below hb)
    have x1r := blk_cell (i := 1) HTr.out.blk rfl
    have hll : ((Ns.take k).map fun l => bestW ho' l 16).length ≤ 64 := by rw [List.length_map, List.length_take]; omega
    have HST : Hid (∀ hlt : k < Ns.length, (Ns.take (k + 1)).map (fun l => bestW ho' l 16) = (Ns.take k).map (fun l => bestW ho' l 16) ++ [bestW ho' Ns[k] 16]) := fun hlt => by rw [List.take_succ_eq_append_getElem hlt, List.map_append]; rfl
    have HALL : Hid (¬ k < Ns.length → (Ns.take k).map (fun l => bestW ho' l 16) = Ns.map fun l => bestW ho' l 16) := fun h => by rw [List.take_of_length_le (by omega)]
    obtain ⟨R, hR⟩ : ∃ R, (Ns.take k).map (fun l => bestW ho' l 16) = R := ⟨_, rfl⟩
    rw [hR] at hown hll HST HALL ⊢
    have HO := Lib.hid hown
    have HB := Lib.hid hb
    clear hown hb hR
    by_cases hlt : k < Ns.length
    · have HS2 := Lib.hid (HST.out hlt)
      have HW2 := fun W h => Lib.hid ((HW W h Ns[k] (List.getElem_mem hlt)).out)
      obtain ⟨b, off, e, hbl, hc⟩ := (HTr.out.own.spg elemN.len).at' k hlt
      obtain ⟨n, hnk⟩ : ∃ n, Ns[k] = n := ⟨_, rfl⟩
      rw [hnk] at hc HS2 HW2
      have c1 : wr.cell? ⟨b, off + k * 2, none⟩ = some (.string ⟨n.toArray⟩) := by simpa using hc 0 _ rfl
      have c2 : wr.cell? ⟨b, off + k * 2 + 1, none⟩ = some (.int .i64 1) := hc 1 _ rfl
      obtain ⟨bv, hbv⟩ : ∃ bv, bestW ho' n 16 = bv := ⟨_, rfl⟩
      rw [hbv] at HS2 HW2
      clear hc hnk hbv HW HST HALL
      subst e
      go_wp2_with ((first
        | (go_at_call 41; refine (HW2 _ (HTr.out.below (bel_alloc (Below.refl _ _) _))).out.mono ?_; rintro e w3 ⟨rfl, hb3⟩; have HB3 := Lib.hid (bel_chain hb3 (bel_alloc HB.out _)); have HO3 := Lib.hid ((HO.out.alloc _).below hb3); clear hb3)
        | (at_builtin; go_must (refine wplG_append (w0 := w) elemU rfl (.tmp 23) (.tmp 28) rfl Aw cw R rfl (HO3.out.alloc _) (some ⟨w3.heap.size, 0, none⟩) 1 [bv] rfl (SpG.built (enc := encU) (n := 1) elemU.len w3 [bv] #[.int .u64 (bv : Int)] rfl 90) (by simp) (by simp; omega) (bel_alloc HB3.out _) ?_; intro A5 c5 w5 hown5 hbw5 hg5))))
      go_roundw
      case rel => exact ⟨k + 1, A5, c5, by omega, by go_num, by rw [HS2.out, List.length_append]; rfl, by rw [HS2.out]; exact hown5, hbw5⟩
      case measure => simp [intOf]; omega
    · have HE := Lib.hid (HALL.out hlt)
      have hRn : R.length = Ns.length := by rw [HE.out, List.length_map]
      have HRn := Lib.hid hRn
      have HWE := Lib.hid (fun (j : Nat) (hj : j < Ns.length) => ways_at HE.out hj)
      have HMK2 := HMK.out
      clear HALL HST HW hRn HMK hll HE
      go_wp2_with fail
      obtain ⟨V, hV⟩ : ∃ V, wr.alloc (.cells (marks [] Ns.length) 4) = V := ⟨_, rfl⟩
      have hMV : V.heap[wr.heap.size]? = some (.cells (marks [] Ns.length) 4 (0, 0)) := by rw [← hV]; exact blk_new rfl
      have hRV : RRing V base y Ns A c := by rw [← hV]; exact HTr.out.below (bel_alloc (Below.refl _ _) _)
      have hWV : OwnG 90 encU 1 V w.heap.size Aw cw R := by rw [← hV]; exact HO.out.alloc _
      have hBV : Below w.heap.size w V := by rw [← hV]; exact bel_alloc HB.out _
      have htl : w.heap.size ≤ wr.heap.size := HB.out.size
      rw [hV]
      obtain ⟨tb, htb⟩ : ∃ tb, wr.heap.size = tb := ⟨_, rfl⟩
      rw [htb] at hMV htl ⊢
      have HS0 : Hid (SelW w y base Ns A c Aw cw R tb [] none 0 [] V) := ⟨hRV, hWV, hMV, OwnG.nil _ _, hBV, htl⟩
      have HWS := HRn
      clear hMV hRV hWV hBV hV htb x1r HTr HO HB HMK2 htl
      go_loopw [7, 12, 13, 56] (fun so _ _ _ ws => ∃ (I : List Nat) (Ao : Option Addr) (co : Nat) (Q : List (List UInt8)), Q = I.map (fun i => Ns.getD i []) ∧ so = .slice Ao Q.length co ∧ SelOk ho' Ns I ∧ Q.length ≤ Ns.length ∧ SelW w y base Ns A c Aw cw R tb I Ao co Q ws) (fun so _ _ _ _ => Ns.length - slLen so)
      case atStart => exact ⟨[], none, 0, [], rfl, rfl, SelOk.nil _ _, Nat.zero_le _, HS0.out⟩
      case round =>
        clear HS0
        obtain ⟨I, Ao, co, Q, hQ, rfl, hok, hQl, hsw⟩ := hrel
        obtain ⟨ws, hws⟩ : ∃ ws, ws = wr := ⟨_, rfl⟩
        subst hws
        have HQ := Lib.hid hQ
        have HOK := Lib.hid hok
        have HSW := Lib.hid hsw
        have y1 := blk_cell (i := 1) hsw.ring.blk rfl
        have HIQ : Hid (I.length = Q.length) := by simp only [Hid]; rw [hQ, List.length_map]
        clear hQ hok hsw
        by_cases hlt2 : Q.length < Ns.length
        · have h64 : (Q.length : Int) < 64 := by omega
          have hqn : (Q.length : Int) < (Ns.length : Int) := by omega
          go_wp2_with fail
          go_loopw [12, 13, 56] (fun sb _ sc wi => ∃ (j q : Nat) (b : Option Nat), j ≤ Ns.length ∧ sc = .int .i64 (j : Int) ∧ sb = .int .i64 (bInt b) ∧ SelBest ho' Ns I j b ∧ wi = ws.drewN q) (fun _ _ sc _ => Ns.length - (intOf sc).toNat)
          case atStart => exact ⟨0, 0, none, Nat.zero_le _, rfl, rfl, SelBest.zero _ _ _, rfl⟩
          case round =>
            obtain ⟨j, q, b, hj, rfl, rfl, hbst, rfl⟩ := hrel
            have HBST := Lib.hid hbst
            clear hbst
            by_cases hjl : j < Ns.length
            · have ct := blk_cell (i := j) HSW.out.mrk (marks_at hjl)
              by_cases hin : j ∈ I
              · rw [decide_eq_true hin] at ct
                have HNX := Lib.hid (HBST.out.taken hin)
                clear hin
                go_wp2_with fail
                go_quiet (fail)
                go_wp2_with fail
                go_roundw
                case rel => exact ⟨j + 1, _, b, by omega, by go_num, rfl, HNX.out, rfl⟩
                case measure => simp [intOf]; omega
              · rw [decide_eq_false hin] at ct
                obtain ⟨hjr, hjv⟩ := HWE.out j hjl
                cases b with
                | none =>
                  have HNX := Lib.hid (HBST.out.first hin)
                  clear hin hjv
                  simp only [bInt]
                  go_wp2_with fail
                  go_quiet (fail)
                  go_wp2_with fail
                  go_roundw
                  case rel => exact ⟨j + 1, _, some j, by omega, by go_num, rfl, HNX.out, rfl⟩
                  case measure => simp [intOf]; omega
                | some cc =>
                  have hcj : cc < j := HBST.out.1
                  have hcl : cc < Ns.length := by omega
                  obtain ⟨hcr, hcv⟩ := HWE.out cc hcl
                  obtain ⟨bw, ow, ew, hbw, hcw⟩ := (HSW.out.ways.spg elemU.len).all (by omega)
                  obtain ⟨bn, on, en, hbn, hcn⟩ := (HSW.out.ring.own.spg elemN.len).all (by omega)
                  have wa0 := hcw j hjr 0 _ rfl
                  have wb0 := hcw cc hcr 0 _ rfl
                  have na0 := hcn j hjl 0 _ rfl
                  have nb0 := hcn cc hcl 0 _ rfl
                  rw [hjv] at wa0
                  rw [hcv] at wb0
                  rw [names_at hjl] at na0
                  rw [names_at hcl] at nb0
                  have HNEW := Lib.hid (fun h => HBST.out.new hin h)
                  have HOLD := Lib.hid (fun h => HBST.out.old (k := j) h)
                  unfold selLt at HNEW HOLD
                  obtain ⟨nj, hnj⟩ : ∃ x, Ns.getD j [] = x := ⟨_, rfl⟩
                  obtain ⟨nc, hnc⟩ : ∃ x, Ns.getD cc [] = x := ⟨_, rfl⟩
                  rw [hnj] at wa0 na0 HNEW HOLD
                  rw [hnc] at wb0 nb0 HNEW HOLD
                  obtain ⟨va, hva⟩ : ∃ x, bestW ho' nj 16 = x := ⟨_, rfl⟩
                  obtain ⟨vb, hvb⟩ : ∃ x, bestW ho' nc 16 = x := ⟨_, rfl⟩
                  rw [hva] at wa0 HNEW HOLD
                  rw [hvb] at wb0 HNEW HOLD
                  have wa : ws.cell? ⟨bw, ow + j, none⟩ = some (.int .u64 (va : Int)) := by simpa using wa0
                  have wb : ws.cell? ⟨bw, ow + cc, none⟩ = some (.int .u64 (vb : Int)) := by simpa using wb0
                  have na : ws.cell? ⟨bn, on + j * 2, none⟩ = some (.string ⟨nj.toArray⟩) := by simpa using na0
                  have nb : ws.cell? ⟨bn, on + cc * 2, none⟩ = some (.string ⟨nc.toArray⟩) := by simpa using nb0
                  have hcm : ((cc : Int) == -1) = false := by rw [beq_eq_false_iff_ne]; omega
                  have hls : Op.bytesLess nj nc = decide (nj < nc) := less_bytes nj nc
                  clear wa0 wb0 na0 nb0 hcw hcn hva hvb hnj hnc hjv hcv hin HBST HWE
                  subst ew
                  subst en
                  simp only [bInt]
                  by_cases h1 : va < vb
                  · have h1' : (va : Int) < (vb : Int) := by omega
                    have HNX := Lib.hid (HNEW.out (.inl h1))
                    clear h1 HNEW HOLD hls
                    go_wp2_with fail
                    go_quiet (fail)
                    go_wp2_with fail
                    go_roundw
                    case rel => exact ⟨j + 1, _, some j, by omega, by go_num, rfl, HNX.out, rfl⟩
                    case measure => simp [intOf]; omega
                  · have h1' : ¬ (va : Int) < (vb : Int) := by omega
                    by_cases h2 : va = vb
                    · subst h2
                      have h2' : ((va : Int) == (va : Int)) = true := by rw [beq_iff_eq]
                      have h2'' : decide ((va : Int) < (va : Int)) = false := decide_eq_false (by omega)
                      by_cases h3 : nj < nc
                      · have HNX := Lib.hid (HNEW.out (.inr ⟨rfl, h3⟩))
                        rw [decide_eq_true h3] at hls
                        clear h1 h1' h3 HNEW HOLD
                        go_wp2_with fail
                        go_quiet (fail)
                        go_wp2_with fail
                        go_roundw
                        case rel => exact ⟨j + 1, _, some j, by omega, by go_num, rfl, HNX.out, rfl⟩
                        case measure => simp [intOf]; omega
                      · have HNX := Lib.hid (HOLD.out (fun h => by rcases h with h | ⟨_, h⟩; exact h1 h; exact h3 h))
                        rw [decide_eq_false h3] at hls
                        clear h1 h1' h3 HNEW HOLD
                        go_wp2_with fail
                        go_quiet (fail)
                        go_wp2_with fail
                        go_roundw
                        case rel => exact ⟨j + 1, _, some cc, by omega, by go_num, rfl, HNX.out, rfl⟩
                        case measure => simp [intOf]; omega
                    · have h2' : ((va : Int) == (vb : Int)) = false := by rw [beq_eq_false_iff_ne]; omega
                      have HNX := Lib.hid (HOLD.out (fun h => by rcases h with h | ⟨h, _⟩; exact h1 h; exact h2 h))
                      have h2d : decide ((va : Int) < (vb : Int)) = false := decide_eq_false h1'
                      have h2e : decide (va < vb) = false := decide_eq_false h1
                      clear h1 h1' h2 HNEW HOLD hls
                      go_wp2_with fail
                      go_quiet (fail)
                      go_wp2_with fail
                      go_roundw
                      case rel => exact ⟨j + 1, _, some cc, by omega, by go_num, rfl, HNX.out, rfl⟩
                      case measure => simp [intOf]; omega
            · have hje : j = Ns.length := by omega
              subst hje
              obtain ⟨cc, hcb, hcl⟩ := HBST.out.there (by rw [HIQ.out]; exact hlt2)
              subst hcb
              have HNX := Lib.hid (HOK.out.next HBST.out)
              have HS2 := Lib.hid ((HSW.out.drewN q).take cc hcl)
              have xf : ws.frozen? ⟨tb, cc, none⟩ = false := blk_frozen HSW.out.mrk
              have xl := blk_lt HSW.out.mrk
              have ctt := blk_cell (i := cc) HSW.out.mrk (marks_at hcl)
              obtain ⟨bn, on, en, hbn, hcn⟩ := (HS2.out.ring.own.spg elemN.len).all (by omega)
              have nb0 := hcn cc hcl 0 _ rfl
              rw [names_at hcl] at nb0
              have y2 := blk_cell (i := 1) HS2.out.ring.blk rfl
              have HQ2 : Hid (Q ++ [Ns.getD cc []] = (I ++ [cc]).map fun i => Ns.getD i []) := by simp only [Hid]; rw [HQ.out, List.map_append]; rfl
              obtain ⟨nc, hnc⟩ : ∃ x, Ns.getD cc [] = x := ⟨_, rfl⟩
              rw [hnc] at nb0 HQ2
              obtain ⟨W2, hW2⟩ : ∃ W2, (ws.drewN q).setCell ⟨tb, cc, none⟩ (.bool true) = W2 := ⟨_, rfl⟩
              rw [hW2] at HS2 nb0 y2
              have nb : W2.cell? ⟨bn, on + cc * 2, none⟩ = some (.string ⟨nc.toArray⟩) := by simpa using nb0
              clear nb0 hcn hnc HBST HOK HQ HIQ HSW HWE
              subst en
              simp only [bInt]
              go_wp2_with (at_builtin; go_must (refine wplG_append (w0 := w) elemT rfl (.tmp 114) (.tmp 123) rfl Ao co Q rfl (HS2.out.out.alloc _) (some ⟨W2.heap.size, 0, none⟩) 1 [nc] rfl (SpG.built (enc := encT) (n := 1) elemT.len W2 [nc] #[.string ⟨nc.toArray⟩] rfl 9) (by simp) (by simp; omega) (bel_alloc HS2.out.b _) ?_; intro A5 c5 w5 hown5 hbw5 hg5))
              go_roundw
              case rel => exact ⟨I ++ [cc], A5, c5, Q ++ [nc], HQ2.out, by rw [List.length_append]; rfl, HNX.out, by simp; omega, HS2.out.putA hown5 hbw5 hg5⟩
              case measure => simp [slLen]; omega
        · have HF : Hid (Own40Post ho' Ns w (.returned (.slice Ao Q.length co)) ws) := by
            refine ⟨I, Ao, co, by rw [← HQ.out], HOK.out, by rw [HIQ.out]; omega, by rw [← HQ.out]; exact HSW.out.out.spg elemT.len, HSW.out.b⟩
          have hqn : ¬ (Q.length : Int) < (Ns.length : Int) := by omega
          clear HQ HOK HSW HIQ hlt2
          by_cases h64 : (Q.length : Int) < 64
          · go_wp2_with fail
            go_ret
            exact HF.out
          · go_wp2_with fail
            go_ret
            exact HF.out
end Go.Proofs.YtnlamjebgkgbaaaDoor
