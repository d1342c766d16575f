/- Contract of strconv.Atoi at a small number's digits. Contract of Tier.Parent. The reference's tier: how many may be, and what goes down. A tier is kept when the reference's block changes. The reference's tier is kept when the tier's map changes. The law's light. What a row's operations leave: the tier's map and the reference's list, and that they agree. tier.New of numbers that do not fit. The law's made, at numbers that do not fit. The law's made, at numbers that fit. Plain laws of the tier: the parents in the order of their first points, and who is the first that is up. A tier that stays: its calls one by one; and what shape.Fail tells of 404. The walk of TierSame: all children ask the same parent. TierSame answers true whatever comes in. -/
import Derived.Test.YtnlamjebgkgbaaaGreatDoorJTierSame24
import Derived.Test.YtnlamjebgkgbaaaGreatDoorJTierSame2
import Derived.Laws.IdiomStrings
import Derived.Test.YtnlamjebgkgbaaaGreatDoorJTierSame6
namespace Go.Proofs.YtnlamjebgkgbaaaGreatDoor
open Go.RowKit Go.Shelf Go.Sort

set_option maxHeartbeats 2000000 in
set_option maxRecDepth 100000 in
theorem atoiIn_any (l : List UInt8) (p : Nat) (h0 : 0 < l.length) (h1 : l.length ≤ 2) (hd : ∀ c ∈ l, 48 ≤ c.toNat ∧ c.toNat ≤ 57) (hv : numFrom 0 l = some (p : Int)) (w : World) :
    Calls Tryz.prog 60 #[.string ⟨l.toArray⟩] w fun e w' => e = .returned (.tuple #[.int .i64 p, .nilIface]) ∧ Below w.heap.size w w' := by
  have hsz : (⟨l.toArray⟩ : ByteArray).size = l.length := List.size_toArray ..
  have HD := Lib.hid hd
  have HV := Lib.hid hv
  have hf := hd l[0] (List.getElem_mem h0)
  obtain ⟨c0, hc0⟩ : ∃ c, (⟨l.toArray⟩ : ByteArray)[0]'(by rw [hsz]; exact h0) = c := ⟨_, rfl⟩
  have hcl : l[0] = c0 := hc0
  rw [hcl] at hf
  have j1 : ((c0.toNat : Int) == 45) = false := by rw [beq_eq_false_iff_ne]; omega
  have j2 : ((c0.toNat : Int) == 43) = false := by rw [beq_eq_false_iff_ne]; omega
  have i1 : (0 : Int) < (l.length : Int) := by omega
  have i2 : (l.length : Int) < 10 := by omega
  have i3 : (l.length : Int) < 19 := by omega
  clear hd hv hcl
  have hconv := run_bytes_of_string (P := Tryz.prog) w 9 112 5 ⟨l.toArray⟩ Tryz.underlying9 Tryz.underlying112 Tryz.underlying5
  rw [hsz] at hconv
  obtain ⟨cap, hcap⟩ : ∃ cap, grownCap w l.length 0 5 = cap := ⟨_, rfl⟩
  rw [hcap] at hconv
  obtain ⟨V, hV⟩ : ∃ V, w.drew.alloc (.cells (bytesRow ⟨l.toArray⟩ cap) 5 ((bytesRow ⟨l.toArray⟩ cap).size, (bytesRow ⟨l.toArray⟩ cap).size + 1)) = V := ⟨_, rfl⟩
  rw [hV] at hconv
  have HBV : Hid (Below w.heap.size w V) := by simp only [Hid]; rw [← hV]; exact bel_alloc (bel_drew (Below.refl _ _)) _
  have HC : Hid (∀ k (hk : k < l.length), V.cell? ⟨w.heap.size, k, none⟩ = some (.int .u8 (l[k].toNat : Int))) := by
    intro k hk
    have hb : V.heap[w.heap.size]? = some (.cells (bytesRow ⟨l.toArray⟩ cap) 5 ((bytesRow ⟨l.toArray⟩ cap).size, (bytesRow ⟨l.toArray⟩ cap).size + 1)) := by rw [← hV]; exact blk_new (by simp)
    rw [Lib.cell_of_heap hb]
    unfold bytesRow
    rw [Array.getElem?_append_left (by simpa using hk)]
    simp [hk]
  clear hV hcap
  go_enter Tryz.func60, Tryz.ntmps60
  go_wp2_with fail
  go_loopw [6, 8, 49] (fun sn _ si wr => wr = V ∧ ∃ (k : Nat) (a : Nat), k ≤ l.length ∧ si = .int .i64 k ∧ sn = .int .i64 a ∧ a < 10 ^ k ∧ numFrom a (l.drop k) = some (p : Int)) (fun _ _ si _ => l.length - (intOf si).toNat)
  case atStart => exact ⟨rfl, 0, 0, Nat.zero_le _, rfl, rfl, by decide, HV.out⟩
  case round =>
    obtain ⟨rfl, k, a, hk, rfl, rfl, ha, hv⟩ := hrel
    have HVr := Lib.hid hv
    clear hv
    by_cases hlt : k < l.length
    · have hc1 := HC.out k hlt
      have hdk := HD.out l[k] (List.getElem_mem hlt)
      have hst := numFrom_step (acc := (a : Int)) hlt
      obtain ⟨c, hc⟩ : ∃ c, l[k] = c := ⟨_, rfl⟩
      rw [hc] at hc1 hdk hst
      rw [HVr.out, if_pos (by unfold digB; simp; exact hdk)] at hst
      have hka : a < 10 := by
        rcases Nat.lt_or_ge k 1 with h | h
        · have : k = 0 := by omega
          subst this; simpa using Nat.lt_of_lt_of_le ha (by decide)
        · have : k = 1 := by omega
          subst this; simpa using ha
      have w1 : IntKind.u8.wrap ((c.toNat : Int) - 48) = (c.toNat : Int) - 48 := by rw [IntKind.wrap_u8]; omega
      have w2 : ¬ (9 : Int) < (c.toNat : Int) - 48 := by omega
      obtain ⟨a2, ha2⟩ : ∃ a2 : Nat, (a : Int) * 10 + ((c.toNat : Int) - 48) = (a2 : Int) := ⟨a * 10 + (c.toNat - 48), by omega⟩
      have ha3 : a2 < 10 ^ (k + 1) := by rw [Nat.pow_succ]; omega
      rw [ha2] at hst
      have HST := Lib.hid hst.symm
      have hk1 : (k : Int) < (l.length : Int) := by omega
      clear hst hc
      go_wp2_with fail
      go_roundw
      case rel => exact ⟨by first | trivial | rfl, k + 1, a2, by omega, by go_num, rfl, ha3, HST.out⟩
      case measure => simp [intOf]; omega
    · have hkl : l.drop k = [] := List.drop_of_length_le (by omega)
      have hv := HVr.out
      rw [hkl] at hv
      have hap : (a : Int) = (p : Int) := by injection hv
      obtain rfl : a = p := by omega
      clear hv hkl hap
      go_wp2_with fail
      refine bodyPost_ret (by simp [results, Tryz.results60, go_sem]; try rfl) rfl ?_
      exact ⟨rfl, HBV.out⟩
theorem atoi_any (p : Nat) (hp : p < 100) (w : World) : Calls Tryz.prog 28 #[.string ⟨(Lib.decDigits p).toArray⟩] w fun e w' => e = .returned (.tuple #[.int .i64 p, .nilIface]) ∧ Below w.heap.size w w' := by
  have HI := fun W => Lib.hid (atoiIn_any (Lib.decDigits p) p (dec_pos p) (dec_len2 hp) (dec_dig p) (numFrom_dec p) W)
  generalize Lib.decDigits p = l at HI ⊢
  go_enter Tryz.func28, Tryz.ntmps28
  go_wp2_with (go_at_call 60; refine (HI _).out.mono ?_; rintro e w1 ⟨rfl, hb1⟩)
  refine bodyPost_ret (by simp [results, Tryz.results28, go_sem]; try rfl) rfl ?_
  exact ⟨rfl, hb1⟩
end Go.Proofs.YtnlamjebgkgbaaaGreatDoor
namespace Go.Proofs.YtnlamjebgkgbaaaGreatDoor
open Go.RowKit Go.Shelf Go.Sort

def upN (D : List (Int × Bool)) (p : Nat) : Bool := upB D (p : Int)
/-- The first that is up. -/
def firstUp (D : List (Int × Bool)) (Ps : List Nat) : Int × Bool := match Ps.find? (upN D) with
  | some p => ((p : Int), true)
  | none => (0, false)
theorem firstUp_at {D : List (Int × Bool)} {Ps : List Nat} {k : Nat} (hk : k < Ps.length) (h : ∀ p ∈ Ps.take k, upN D p = false) (hu : upN D Ps[k] = true) : firstUp D Ps = ((Ps[k] : Int), true) := by
  have hf : Ps.find? (upN D) = some Ps[k] := by
    conv => lhs; rw [← List.take_append_drop k Ps, List.drop_eq_getElem_cons hk]
    rw [List.find?_append, List.find?_eq_none.2 (fun p hp => by rw [h p hp]; simp), List.find?_cons, hu]
    rfl
  unfold firstUp; rw [hf]
theorem firstUp_no {D : List (Int × Bool)} {Ps : List Nat} (h : ∀ p ∈ Ps, upN D p = false) : firstUp D Ps = (0, false) := by
  unfold firstUp
  rw [List.find?_eq_none.2 (fun p hp => by rw [h p hp]; simp)]
theorem up_take {D : List (Int × Bool)} {Ps : List Nat} {k : Nat} (hk : k < Ps.length) (h : ∀ p ∈ Ps.take k, upN D p = false) (hu : upN D Ps[k] = false) : ∀ p ∈ Ps.take (k + 1), upN D p = false := by
  intro p hp
  rw [List.take_succ_eq_append_getElem hk] at hp
  rcases List.mem_append.1 hp with hp | hp
  · exact h p hp
  · simp at hp; rw [hp]; exact hu
theorem name_tail (p : Nat) : (⟨(nmL p).toArray⟩ : ByteArray).extract 1 (nmL p).length = ⟨(Lib.decDigits p).toArray⟩ :=
  ByteArray.ext (by simp [ByteArray.data_extract, nmL])
set_option maxHeartbeats 4000000 in
set_option maxRecDepth 100000 in
theorem parent_any {w : World} {base t n ch r d : Nat} {L : List Pt} {m : Nat} {nm : Option Nat} {A : Option Addr} {c : Nat} {D : List (Int × Bool)} (h : TierAt w base t n ch r d L m nm A c D) (hso : L.Pairwise ptLe) (hl : L.length ≤ 10000) (hn : n ≤ 64) (o : List UInt8) (ho : o.length ≤ 1000000) (Ps : List Nat) (hPs : ownersL (min n m) (rotL L (firstK (hashN o) L)) = Ps.map nmL) (hP : ∀ p ∈ Ps, p < 100) (q : Nat) (hq : q < ch) :
    Calls Tryz.prog 8 #[.pointer (some ⟨t, 0, none⟩), .int .i64 (q : Int), .string ⟨o.toArray⟩] w fun e w' => e = .returned (.tuple #[.int .i64 (firstUp D Ps).1, .bool (firstUp D Ps).2]) ∧ Below w.heap.size w w' := by
  have HT := Lib.hid h
  have HO := fun W (h1 : RingAt W r m L nm A c) => Lib.hid (owners_any W r m L nm A c o n h1 hso hl ho (by omega))
  have hPl : Ps.length ≤ 64 := by
    have := ownersL_len (min n m) (rotL L (firstK (hashN o) L))
    rw [hPs, List.length_map] at this; omega
  rw [hPs] at HO
  have HP := Lib.hid hP
  have x0 := blk_cell (i := 0) h.blk rfl
  have x1 := blk_cell (i := 1) h.blk rfl
  have x2 := blk_cell (i := 2) h.blk rfl
  have i1 : ¬ (q : Int) < 0 := by omega
  have i2 : ¬ (ch : Int) ≤ (q : Int) := by omega
  clear h hPs hP
  go_enter Tryz.func8, Tryz.ntmps8
  go_wp2_with fail
  go_region_held3 (fun w' => w'.cell? ⟨t, 0, none⟩ = some (.int .i64 (n : Int)) ∧ w'.cell? ⟨t, 2, none⟩ = some (.pointer (some ⟨r, 0, none⟩)))
    (first | exact ⟨x0, x2⟩ | exact ⟨y0, y2⟩ | fail)
    ((first | (go_at_call 27; refine (HO _ (by first | exact HT.out.ring | exact HT.out.ring.below (by (repeat (first | exact Below.refl _ _ | refine bel_drewN ?_ _ | refine bel_drew ?_ | refine bel_alloc ?_ _ | refine bel_set ?_ (by simp) _))))).out.mono ?_; rintro e w1 ⟨A1, c1, rfl, hs1, hb1⟩; have hq1 : Below w.heap.size w w1 := bel_chain hb1 (by (repeat (first | exact Below.refl _ _ | refine bel_drewN ?_ _ | refine bel_drew ?_ | refine bel_alloc ?_ _ | refine bel_set ?_ (by simp) _))); have y0 := cell_keep hq1 x0; have y2 := cell_keep hq1 x2)))
  have HS1 := Lib.hid hs1
  have HB1 := Lib.hid hq1
  have HT1 := Lib.hid (HT.out.below hq1)
  clear hs1 hb1 hq1 x0 x1 x2 y0 y2 HT HO
  go_wp2_with fail
  go_loopw [9, 10, 11, 40] (fun _ _ _ si wr => ∃ k : Nat, k ≤ Ps.length ∧ si = .int .i64 k ∧ (∀ p ∈ Ps.take k, upN D p = false) ∧ Below w1.heap.size w1 wr) (fun _ _ _ si _ => Ps.length - (intOf si).toNat)
  case atStart => exact ⟨0, Nat.zero_le _, rfl, fun p hp => by simp at hp, Below.refl _ _⟩
  case round =>
    obtain ⟨k, hk, rfl, hno, hb⟩ := hrel
    have HNO := Lib.hid hno
    have HB := Lib.hid hb
    have HTr := Lib.hid (HT1.out.below hb)
    clear hno hb
    by_cases hlt : k < Ps.length
    · obtain ⟨b, off, e, hbl, hc⟩ := (HS1.out.below HB.out).at' k (by simpa using hlt)
      have hp100 := HP.out Ps[k] (List.getElem_mem hlt)
      have HTK := Lib.hid (fun h => up_take hlt HNO.out h)
      have HAT := Lib.hid (fun h => firstUp_at hlt HNO.out h)
      rw [List.getElem_map] at hc
      obtain ⟨p, hpk⟩ : ∃ p, Ps[k] = p := ⟨_, rfl⟩
      rw [hpk] at hc hp100 HTK HAT
      have HK2 : Hid (k + 1 ≤ Ps.length) := hlt
      have c1 : wr.cell? ⟨b, off + k, none⟩ = some (.string ⟨(nmL p).toArray⟩) := by simpa using hc 0 _ rfl
      have HA := fun W => Lib.hid (atoi_any p hp100 W)
      have hnl := name_tail p
      have hsz : (⟨(nmL p).toArray⟩ : ByteArray).size = (nmL p).length := List.size_toArray ..
      have h1n : 1 ≤ (nmL p).length := by unfold nmL; simp
      have h1l : (1 : Int) ≤ ((nmL p).length : Int) := by omega
      generalize Lib.decDigits p = dg at HA hnl
      obtain ⟨nl, hnle⟩ : ∃ nl, nmL p = nl := ⟨_, rfl⟩
      rw [hnle] at c1 hnl hsz h1l h1n
      clear hc hpk hnle HS1 HP
      subst e
      cases hup : upN D p
      · have HD := Lib.hid (HTK.out hup)
        have HUP := Lib.hid hup
        clear hup
        go_wp2_with fail
        refine (HA _).out.mono ?_
        rintro e2 w3 ⟨rfl, hb3⟩
        have HT3 := Lib.hid (HTr.out.below hb3)
        have y3 := blk_cell (i := 3) HT3.out.blk rfl
        have hlk := downB_run HT3.out.down (p : Int) false HUP.out
        have HB3 := Lib.hid (bel_chain hb3 HB.out)
        clear hb3
        go_wp2_with fail
        go_roundw
        case rel => exact ⟨k + 1, HK2.out, by go_num, HD.out, HB3.out⟩
        case measure => have := HK2.out; simp [intOf]; omega
      · have HD := Lib.hid (HAT.out hup)
        have HUP := Lib.hid hup
        clear hup
        go_wp2_with fail
        refine (HA _).out.mono ?_
        rintro e2 w3 ⟨rfl, hb3⟩
        have HT3 := Lib.hid (HTr.out.below hb3)
        have y3 := blk_cell (i := 3) HT3.out.blk rfl
        have hlk := downB_run HT3.out.down (p : Int) true HUP.out
        have HB3 := Lib.hid (bel_chain hb3 HB.out)
        clear hb3
        go_wp2_with fail
        refine bodyPost_ret (by simp [results, Tryz.results8, go_sem]; try rfl) rfl ?_
        rw [HD.out]
        exact ⟨rfl, bel_chain HB3.out HB1.out⟩
    · have hF : firstUp D Ps = (0, false) := firstUp_no (fun p hp => HNO.out p (by rw [List.take_of_length_le (by omega)]; exact hp))
      have HF := Lib.hid hF
      clear hF
      go_wp2_with fail
      refine bodyPost_ret (by simp [results, Tryz.results8, go_sem]; try rfl) rfl ?_
      rw [HF.out]
      exact ⟨rfl, bel_chain HB.out HB1.out⟩
theorem parent_no {w : World} {base t n ch r d : Nat} {L : List Pt} {m : Nat} {nm : Option Nat} {A : Option Addr} {c : Nat} {D : List (Int × Bool)} (h : TierAt w base t n ch r d L m nm A c D) (s : ByteArray) (q : Int) (hq : q < 0 ∨ (ch : Int) ≤ q) :
    Calls Tryz.prog 8 #[.pointer (some ⟨t, 0, none⟩), .int .i64 q, .string s] w fun e w' => e = .returned (.tuple #[.int .i64 0, .bool false]) ∧ w' = w := by
  have x1 := blk_cell (i := 1) h.blk rfl
  clear h
  go_enter Tryz.func8, Tryz.ntmps8
  by_cases h1 : q < 0
  · go_wp2_with fail
    refine bodyPost_ret (by simp [results, Tryz.results8, go_sem]; try rfl) rfl ?_
    exact ⟨rfl, rfl⟩
  · have h2 : (ch : Int) ≤ q := hq.resolve_left h1
    go_wp2_with fail
    refine bodyPost_ret (by simp [results, Tryz.results8, go_sem]; try rfl) rfl ?_
    exact ⟨rfl, rfl⟩
end Go.Proofs.YtnlamjebgkgbaaaGreatDoor
namespace Go.Proofs.YtnlamjebgkgbaaaGreatDoor
open Go.RowKit Go.Shelf Go.Sort

theorem fits_any (n p : Int) (w : World) : Calls Tryz.prog 22 #[.int .i64 n, .int .i64 p] w fun e w' => e = .returned (.bool (decide (1 ≤ n ∧ n ≤ 64 ∧ 0 ≤ p ∧ p < n))) ∧ w' = w := by
  go_enter Tryz.func22, Tryz.ntmps22
  by_cases h1 : 1 ≤ n
  · by_cases h2 : n ≤ 64
    · by_cases h3 : 0 ≤ p
      · by_cases h4 : p < n
        · go_wp2_with fail
          go_ret
          exact ⟨by simp [h1, h2, h3, h4], rfl⟩
        · go_wp2_with fail
          go_ret
          exact ⟨by rw [decide_eq_false (by omega)]; rfl, rfl⟩
      · go_wp2_with fail
        go_ret
        exact ⟨by rw [decide_eq_false (by omega)]; rfl, rfl⟩
    · go_wp2_with fail
      go_ret
      exact ⟨by rw [decide_eq_false (by omega)]; rfl, rfl⟩
  · go_wp2_with fail
    go_ret
    exact ⟨by rw [decide_eq_false (by omega)]; rfl, rfl⟩
/-- The reference's tier. -/
structure RTierAt (w : World) (X n pn : Nat) (G : List Int) (A : Option Addr) (c : Nat) : Prop where
  blk : w.heap[X]? = some (.cells #[.int .i64 n, .int .i64 pn, .slice A G.length c] 79 (0, 0))
  sp : SpG encI 1 w A c G
  off : (Value.slice A G.length c).ownBlock ≠ some X
def goneL (G : List Int) (q : Int) (dn : Bool) : List Int := (G.filter fun g => decide (g ≠ q)) ++ if dn = true then [q] else []
theorem gone_step {G : List Int} {q : Int} {k : Nat} (h : k < G.length) : (G.take (k + 1)).filter (fun g => decide (g ≠ q)) = (G.take k).filter (fun g => decide (g ≠ q)) ++ if G[k] = q then [] else [G[k]] := by
  rw [List.take_succ_eq_append_getElem h, List.filter_append]
  congr 1
  by_cases e : G[k] = q <;> simp [e]
theorem gone_len (G : List Int) (q : Int) (k : Nat) : ((G.take k).filter fun g => decide (g ≠ q)).length ≤ G.length :=
  Nat.le_trans (List.length_filter_le _ _) (by rw [List.length_take]; omega)
def RDownPost (w : World) (X n pn : Nat) (G : List Int) (q : Int) (dn : Bool) (e : Ending) (w' : World) : Prop :=
  if (n : Int) - (pn : Int) ≤ q ∧ q < (n : Int) then e = .returned (.int .i64 0) ∧ (∃ A' c', RTierAt w' X n pn (goneL G q dn) A' c') ∧ w.grownBy w' (some X) else e = .returned (.int .i64 1) ∧ Below w.heap.size w w'
theorem rdown_end {w V wr : World} {X n pn : Nat} {G R : List Int} {A A' : Option Addr} {c c' nq : Nat} (hV : w.drewN nq = V) (hk : wr.heap[X]? = some (.cells #[.int .i64 n, .int .i64 pn, .slice A G.length c] 79 (0, 0))) (hb : Below V.heap.size V wr) (ho : OwnG 3 encI 1 wr V.heap.size A' c' R) :
    RTierAt (wr.setCell ⟨X, 2, none⟩ (.slice A' R.length c')) X n pn R A' c' ∧ w.grownBy (wr.setCell ⟨X, 2, none⟩ (.slice A' R.length c')) (some X) := by
  have hb2 : Below w.heap.size w wr := by subst hV; exact bel_chain hb (bel_drewN (Below.refl _ _) _)
  refine ⟨⟨blk_set hk, (ho.setAt hk (by decide) _).spg elemI.len, ho.ne_type hk (by decide)⟩, ?_⟩
  have hg : w.grownBy wr (some X) := ⟨hb2.os, hb2.tape, hb2.output, hb2.size, fun k hk _ => hb2.block k hk⟩
  exact World.grownBy.trans hg (grown_setA wr ⟨X, 2, none⟩ _)
set_option maxHeartbeats 4000000 in
theorem rdown_any {w : World} {X n pn : Nat} {G : List Int} {A : Option Addr} {c : Nat} (h : RTierAt w X n pn G A c) (hn : n ≤ 64) (hp : pn ≤ n) (hG : G.length ≤ 1000) (q : Int) (dn : Bool) :
    Calls Tryz.prog 26 #[.pointer (some ⟨X, 0, none⟩), .int .i64 q, .bool dn] w (RDownPost w X n pn G q dn) := by
  have HT := Lib.hid h
  have x0 := blk_cell (i := 0) h.blk rfl
  have x1 := blk_cell (i := 1) h.blk rfl
  have x2 := blk_cell (i := 2) h.blk rfl
  obtain ⟨ch, hch⟩ : ∃ ch : Nat, (n : Int) - (pn : Int) = (ch : Int) := ⟨n - pn, by omega⟩
  have hcb : ch ≤ 64 := by omega
  clear h
  unfold RDownPost
  rw [hch]
  have wch : IntKind.i64.wrap (ch : Int) = (ch : Int) := IntWalk.i64_in _ (by omega)
  by_cases h1 : q < (ch : Int)
  · have hne : ¬ ((ch : Int) ≤ q ∧ q < (n : Int)) := by omega
    simp only [if_neg hne]
    clear hne
    go_enter Tryz.func26, Tryz.ntmps26
    go_wp2_with fail
    go_quiet (fail)
    go_wp2_with fail
    refine bodyPost_ret (by simp [results, Tryz.results26, go_sem]; try rfl) rfl ?_
    exact ⟨rfl, bel_drewN (Below.refl _ _) _⟩
  · by_cases h2 : (n : Int) ≤ q
    · have hne : ¬ ((ch : Int) ≤ q ∧ q < (n : Int)) := by omega
      simp only [if_neg hne]
      clear hne
      go_enter Tryz.func26, Tryz.ntmps26
      go_wp2_with fail
      go_quiet (fail)
      go_wp2_with fail
      refine bodyPost_ret (by simp [results, Tryz.results26, go_sem]; try rfl) rfl ?_
      exact ⟨rfl, bel_drewN (Below.refl _ _) _⟩
    · have hye : (ch : Int) ≤ q ∧ q < (n : Int) := by omega
      simp only [if_pos hye]
      clear hye
      go_enter Tryz.func26, Tryz.ntmps26
      go_wp2_with fail
      go_quiet (fail)
      go_wp2_with fail
      have HSP := Lib.hid (HT.out.sp.drewN nq)
      have HBK : Hid ((w.drewN nq).heap[X]? = some (.cells #[.int .i64 n, .int .i64 pn, .slice A G.length c] 79 (0, 0))) := HT.out.blk
      obtain ⟨V, hV⟩ : ∃ V, w.drewN nq = V := ⟨_, rfl⟩
      have HV := Lib.hid hV
      rw [hV] at HSP HBK ⊢
      have hVs : V.heap.size = w.heap.size := by rw [← hV]; rfl
      have HVs := Lib.hid hVs
      clear hV hVs x0 x1 x2 hch
      go_loopw [7, 9, 34] (fun so _ si wr => ∃ (k : Nat) (A' : Option Addr) (c' : Nat), k ≤ G.length ∧ si = .int .i64 k ∧ so = .slice A' ((G.take k).filter fun g => decide (g ≠ q)).length c' ∧ OwnG 3 encI 1 wr V.heap.size A' c' ((G.take k).filter fun g => decide (g ≠ q)) ∧ Below V.heap.size V wr) (fun _ _ si _ => G.length - (intOf si).toNat)
      case atStart => exact ⟨0, none, 0, Nat.zero_le _, rfl, rfl, OwnG.nil _ _, Below.refl _ _⟩
      case round =>
        obtain ⟨k, A', c', hk, rfl, rfl, hown, hb⟩ := hrel
        have hll := gone_len G q k
        have HST := fun hh => Lib.hid (gone_step (q := q) (G := G) (k := k) hh)
        have HTK : Hid (k = G.length → (G.take k).filter (fun g => decide (g ≠ q)) = G.filter (fun g => decide (g ≠ q))) := fun e => by rw [e, List.take_length]
        obtain ⟨R, hR⟩ : ∃ R, (G.take k).filter (fun g => decide (g ≠ q)) = R := ⟨_, rfl⟩
        rw [hR] at hown hll HST HTK ⊢
        have HO := Lib.hid hown
        have HB := Lib.hid hb
        clear hown hb hR
        by_cases hlt : k < G.length
        · obtain ⟨b, off, e, hbl, hc⟩ := (HSP.out.below HB.out).at' k hlt
          have HS2 := HST hlt
          obtain ⟨x, hx⟩ : ∃ x, G[k] = x := ⟨_, rfl⟩
          rw [hx] at hc HS2
          have c1 : wr.cell? ⟨b, off + k, none⟩ = some (.int .i64 x) := by simpa using hc 0 _ rfl
          clear hc hx HST
          have HK2 : Hid (k + 1 ≤ G.length) := hlt
          subst e
          by_cases hxq : x = q
          · rw [if_pos hxq, List.append_nil] at HS2
            go_wp2_with fail
            go_roundw
            case rel => exact ⟨k + 1, A', c', HK2.out, by go_num, by rw [HS2.out], by rw [HS2.out]; exact HO.out, HB.out⟩
            case measure => have := HK2.out; simp [intOf]; omega
          · rw [if_neg hxq] at HS2
            go_wp2_with (at_builtin; go_must (refine wplG_append (w0 := V) elemI rfl (.tmp 41) (.tmp 43) rfl A' c' R rfl (HO.out.alloc _) (some ⟨wr.heap.size, 0, none⟩) 1 [x] rfl (SpG.built (enc := encI) (n := 1) elemI.len wr [x] #[.int .i64 x] rfl 3) (by simp) (by simp; omega) (bel_alloc HB.out _) ?_; intro A5 c5 w5 hown5 hbw5 hg5))
            go_roundw
            case rel => exact ⟨k + 1, A5, c5, HK2.out, by go_num, by rw [HS2.out, List.length_append]; rfl, by rw [HS2.out]; exact hown5, hbw5⟩
            case measure => have := HK2.out; simp [intOf]; omega
        · have hRG := HTK.out (by omega)
          have HRG := Lib.hid hRG
          have BK := HBK.out
          have BK1 := Lib.hid (blk_keep HB.out BK)
          have y2 := cell_keep HB.out (blk_cell (i := 2) BK rfl)
          have yf := blk_frozen (i := 2) BK1.out
          clear BK
          clear hRG HTK HST
          have BKV := Lib.hid HBK.out
          cases dn
          · go_wp2_with fail
            refine bodyPost_ret (by simp [results, Tryz.results26, go_sem]; try rfl) rfl ?_
            have E := rdown_end HV.out BK1.out HB.out HO.out
            have e1 : goneL G q false = R := by unfold goneL; rw [HRG.out]; simp
            rw [e1]
            exact ⟨rfl, ⟨_, _, E.1⟩, E.2⟩
          · go_wp2_with (at_builtin; go_must (refine wplG_append (w0 := V) elemI rfl (.tmp 47) (.tmp 49) rfl A' c' R rfl (HO.out.alloc _) (some ⟨wr.heap.size, 0, none⟩) 1 [q] rfl (SpG.built (enc := encI) (n := 1) elemI.len wr [q] #[.int .i64 q] rfl 3) (by simp) (by simp; omega) (bel_alloc HB.out _) ?_; intro A5 c5 w5 hown5 hbw5 hg5; have BK5 := Lib.hid (blk_keep hbw5 BKV.out); have zf := blk_frozen (i := 2) BK5.out; have z2 := blk_cell (i := 2) BK5.out rfl))
            refine bodyPost_ret (by simp [results, Tryz.results26, go_sem]; try rfl) rfl ?_
            have E := rdown_end HV.out BK5.out hbw5 hown5
            have e1 : goneL G q true = R ++ [q] := by unfold goneL; rw [HRG.out]; simp
            rw [e1]
            simp only [List.length_append] at E ⊢
            exact ⟨by first | rfl | trivial, ⟨_, _, E.1⟩, E.2⟩
end Go.Proofs.YtnlamjebgkgbaaaGreatDoor
namespace Go.Proofs.YtnlamjebgkgbaaaGreatDoor
open Go.RowKit Go.Shelf Go.Sort

section
variable {w w' : World} {X : Nat}
theorem blk_grX {r : Nat} {o : Obj} (hr : w.heap[r]? = some o) (hg : w.grownBy w' (some X)) (hne : r ≠ X) : w'.heap[r]? = some o :=
  (hg.block r (blk_lt hr) (fun e => hne (by injection e))).trans hr
theorem cell_grX {b o : Nat} {v : Value} (h : w.cell? ⟨b, o, none⟩ = some v) (hg : w.grownBy w' (some X)) (hne : b ≠ X) : w'.cell? ⟨b, o, none⟩ = some v := by
  have hb := World.block_lt_of_cell? w ⟨b, o, none⟩ h
  have e := hg.block b hb (fun e => hne (by injection e))
  rw [← h]
  unfold World.cell?
  rw [show w'.heap[b]? = w.heap[b]? from e]
theorem MapAt.grX {α β : Type} {enc : α → Value} {vf : β → Value} {M : List (α × β)} {b : Nat} {cs : Array Value} {T : TypeId} {f : Nat × Nat} (h : MapAt enc vf w b M) (hx : w.heap[X]? = some (.cells cs T f)) (hg : w.grownBy w' (some X)) : MapAt enc vf w' b M := by
  have hne := h.ne_cells hx
  obtain ⟨es, ck, h1, h2⟩ := h.at_
  exact ⟨es, ck, blk_grX h1 hg (fun e => hne e.symm), h2⟩
/-- The points lie in no block of the reference's. -/
theorem SpPt.grX {A B : Option Addr} {L : List Pt} {n pn l c : Nat} {T : TypeId} (h : SpPt w A L) (hx : w.heap[X]? = some (.cells #[.int .i64 n, .int .i64 pn, .slice B l c] T (0, 0))) (hg : w.grownBy w' (some X)) : SpPt w' A L :=
  ⟨fun k hk => by
    obtain ⟨b, off, e, hl, h1, h2⟩ := h.at' k hk
    have hne : b ≠ X := by
      intro e; subst e
      have h3 := h1
      simp only [World.cell?, hx] at h3
      rcases hq : off + k * 2 with _ | _ | _ | q <;> simp [hq] at h3
    exact ⟨b, off, e, Nat.lt_of_lt_of_le hl hg.size, cell_grX h1 hg hne, cell_grX h2 hg hne⟩⟩
theorem TierAt.grX {base t n ch r d : Nat} {L : List Pt} {m : Nat} {nm : Option Nat} {A : Option Addr} {c : Nat} {D : List (Int × Bool)} {n' pn : Nat} {G : List Int} {A' : Option Addr} {c' : Nat} (h : TierAt w base t n ch r d L m nm A c D) (hx : RTierAt w X n' pn G A' c') (hg : w.grownBy w' (some X)) : TierAt w' base t n ch r d L m nm A c D :=
  ⟨blk_grX h.blk hg (fun e => by have := h.blk; rw [e, hx.blk] at this; injection this with this; injection this with _ h2; exact absurd h2 (by decide)),
   ⟨blk_grX h.ring.blk hg (fun e => by have := h.ring.blk; rw [e, hx.blk] at this; injection this with this; injection this with _ h2; exact absurd h2 (by decide)), h.ring.sp.grX hx.blk hg, by
    rcases h.ring.names with h1 | ⟨b, h1, M, h2, h3⟩
    · exact .inl h1
    · exact .inr ⟨b, h1, M, h2.grX hx.blk hg, h3⟩⟩, h.down.grX hx.blk hg, h.bd, h.nd⟩
end
end Go.Proofs.YtnlamjebgkgbaaaGreatDoor
namespace Go.Proofs.YtnlamjebgkgbaaaGreatDoor
open Go.RowKit Go.Shelf Go.Sort

theorem SpG.withObj {α β γ : Type} {en : γ → List Value} {k : Nat} {w : World} {d : Nat} {A : Option Addr} {c : Nat} {L : List γ} {enc : α → Value} {vf : β → Value} {M : List (α × β)} (h : SpG en k w A c L) (hm : MapAt enc vf w d M) (o : Obj) : SpG en k (withObj w d o) A c L :=
  ⟨h.le, h.nil_, fun i hi => by
    obtain ⟨b, off, e, hl, h1⟩ := h.at' i hi
    exact ⟨b, off, e, by rw [withObj_size]; exact hl, fun j v hj => cell_withObj hm (h1 j v hj) o⟩⟩
theorem RTierAt.withMap {α β : Type} {enc : α → Value} {vf : β → Value} {M : List (α × β)} {w : World} {X n pn d : Nat} {G : List Int} {A : Option Addr} {c : Nat} (h : RTierAt w X n pn G A c) (hm : MapAt enc vf w d M) (o : Obj) : RTierAt (withObj w d o) X n pn G A c :=
  ⟨blk_with h.blk (hm.ne_cells h.blk), h.sp.withObj hm o, h.off⟩
theorem RTierAt.below {w w' : World} {X n pn : Nat} {G : List Int} {A : Option Addr} {c : Nat} (h : RTierAt w X n pn G A c) (hb : Below w.heap.size w w') : RTierAt w' X n pn G A c :=
  ⟨blk_keep hb h.blk, h.sp.below hb, h.off⟩
/-- A row may be laid: its two numbers and the count of its operations. -/
def lightB (n p : Int) (l : Nat) : Bool := decide (l ≤ 20) && (decide (p ≤ 8) || !decide (1 ≤ n ∧ n ≤ 64 ∧ 0 ≤ p ∧ p < n))
end Go.Proofs.YtnlamjebgkgbaaaGreatDoor
namespace Go.Proofs.YtnlamjebgkgbaaaGreatDoor
open Go.RowKit Go.Shelf Go.Sort

set_option maxHeartbeats 2000000 in
theorem light_any (w : World) (n p : Int) (A : Option Addr) (l c : Nat) (hl : l ≤ 1000000) :
    Calls Tryz.prog 5 #[.agg #[.int .i64 n, .int .i64 p, .slice A l c]] w fun e w' => e = .returned (.bool (lightB n p l)) ∧ Below w.heap.size w w' := by
  have HF := fun W => Lib.hid (fits_any n p W)
  have HE : Hid (∃ f, decide (1 ≤ n ∧ n ≤ 64 ∧ 0 ≤ p ∧ p < n) = f) := ⟨_, rfl⟩
  unfold lightB
  obtain ⟨f, hf⟩ := HE.out
  rw [hf]
  simp only [hf] at HF
  clear hf HE
  go_enter Tryz.func5, Tryz.ntmps5
  by_cases h1 : l ≤ 20
  · by_cases h2 : p ≤ 8
    · go_wp2_with fail
      go_ret
      exact ⟨by simp [h1, h2], bel_alloc (Below.refl _ _) _⟩
    · go_wp2_with (go_at_call 22; refine (HF _).out.mono ?_; rintro e w1 ⟨rfl, rfl⟩)
      go_ret
      exact ⟨by rw [decide_eq_true h1, decide_eq_false (by omega : ¬ p ≤ 8)]; simp, bel_alloc (Below.refl _ _) _⟩
  · go_wp2_with fail
    go_ret
    exact ⟨by first | rfl | simp, bel_alloc (Below.refl _ _) _⟩
end Go.Proofs.YtnlamjebgkgbaaaGreatDoor
namespace Go.Proofs.YtnlamjebgkgbaaaGreatDoor
open Go.RowKit Go.Shelf Go.Sort

/-- An operation in its cells. -/
def encO (x : Int × Bool) : List Value := [.int .i64 x.1, .bool x.2]
def inR (n ch : Nat) (q : Int) : Prop := (ch : Int) ≤ q ∧ q < (n : Int)
instance (n ch : Nat) (q : Int) : Decidable (inR n ch q) := by unfold inR; infer_instance
/-- The map behind the operations. -/
def foldD (n ch : Nat) (D : List (Int × Bool)) (os : List (Int × Bool)) : List (Int × Bool) := os.foldl (fun D o => if inR n ch o.1 then turnD D o.1 o.2 else D) D
/-- The list behind the operations. -/
def foldG (n ch : Nat) (G : List Int) (os : List (Int × Bool)) : List Int := os.foldl (fun G o => if inR n ch o.1 then goneL G o.1 o.2 else G) G
theorem goneL_len (G : List Int) (q : Int) (dn : Bool) : (goneL G q dn).length ≤ G.length + 1 := by
  unfold goneL
  rw [List.length_append]
  have := List.length_filter_le (fun g => decide (g ≠ q)) G
  generalize G.filter (fun g => decide (g ≠ q)) = R at this ⊢
  cases dn <;> simp <;> omega
theorem foldG_len (n ch : Nat) : ∀ (os : List (Int × Bool)) (G : List Int), (foldG n ch G os).length ≤ G.length + os.length
  | [], G => by simp [foldG]
  | o :: os, G => by
    have h1 : foldG n ch G (o :: os) = foldG n ch (if inR n ch o.1 then goneL G o.1 o.2 else G) os := rfl
    have ih := foldG_len n ch os (if inR n ch o.1 then goneL G o.1 o.2 else G)
    have h2 : (if inR n ch o.1 then goneL G o.1 o.2 else G).length ≤ G.length + 1 := by
      split
      · exact goneL_len G o.1 o.2
      · omega
    rw [h1, List.length_cons]; omega
theorem goneL_mem (G : List Int) (q : Int) (dn : Bool) (g : Int) : g ∈ goneL G q dn ↔ if g = q then dn = true else g ∈ G := by
  unfold goneL
  by_cases e : g = q
  · subst e; cases dn <;> simp
  · cases dn <;> simp [e]
/-- The map and the list agree on who is up. -/
structure Agree (D : List (Int × Bool)) (G : List Int) : Prop where
  nd : (keysM D).Nodup
  up : ∀ q, upB D q = !decide (q ∈ G)
theorem upB_turn {D : List (Int × Bool)} (hn : (keysM D).Nodup) (q0 : Int) (dn : Bool) (q : Int) : upB (turnD D q0 dn) q = if q0 = q then !dn else upB D q := by
  unfold upB turnD
  cases dn
  · rw [if_neg (by simp), lookM_del hn]
    by_cases e : q0 = q <;> simp [e]
  · rw [if_pos rfl, lookM_put]
    by_cases e : q0 = q <;> simp [e]
theorem turnD_nodup {D : List (Int × Bool)} (hn : (keysM D).Nodup) (q0 : Int) (dn : Bool) : (keysM (turnD D q0 dn)).Nodup := by
  unfold turnD
  cases dn
  · rw [if_neg (by simp)]; exact delM_nodup hn
  · rw [if_pos rfl]; exact putM_nodup hn
theorem Agree.turn {D : List (Int × Bool)} {G : List Int} (h : Agree D G) (q0 : Int) (dn : Bool) : Agree (turnD D q0 dn) (goneL G q0 dn) :=
  ⟨turnD_nodup h.nd q0 dn, fun q => by
    rw [upB_turn h.nd]
    have hm := goneL_mem G q0 dn q
    by_cases e : q0 = q
    · rw [if_pos e]
      rw [if_pos e.symm] at hm
      cases dn
      · rw [decide_eq_false (by rw [hm]; simp)]
      · rw [decide_eq_true (by rw [hm])]
    · rw [if_neg e, h.up]
      rw [if_neg (fun x => e x.symm)] at hm
      simp only [hm]⟩
theorem Agree.fold {n ch : Nat} : ∀ (os : List (Int × Bool)) {D : List (Int × Bool)} {G : List Int}, Agree D G → Agree (foldD n ch D os) (foldG n ch G os)
  | [], _, _, h => h
  | o :: os, D, G, h => by
    have h2 : Agree (if inR n ch o.1 then turnD D o.1 o.2 else D) (if inR n ch o.1 then goneL G o.1 o.2 else G) := by
      by_cases e : inR n ch o.1
      · rw [if_pos e, if_pos e]; exact h.turn o.1 o.2
      · rw [if_neg e, if_neg e]; exact h
    exact Agree.fold os h2
end Go.Proofs.YtnlamjebgkgbaaaGreatDoor
namespace Go.Proofs.YtnlamjebgkgbaaaGreatDoor
open Go.RowKit Go.Shelf Go.Sort

theorem new_no (w : World) (n p : Int) (hf : ¬ (1 ≤ n ∧ n ≤ 64 ∧ 0 ≤ p ∧ p < n)) :
    Calls Tryz.prog 24 #[.int .i64 n, .int .i64 p] w fun e w' => e = .returned (.tuple #[.pointer none, .int .i64 1]) ∧ w' = w := by
  go_enter Tryz.func24, Tryz.ntmps24
  by_cases h1 : n < 1
  · go_wp2_with fail
    refine bodyPost_ret (by simp [results, Tryz.results24, go_sem]; try rfl) rfl ?_
    exact ⟨rfl, rfl⟩
  · by_cases h2 : 64 < n
    · go_wp2_with fail
      refine bodyPost_ret (by simp [results, Tryz.results24, go_sem]; try rfl) rfl ?_
      exact ⟨rfl, rfl⟩
    · by_cases h3 : p < 0
      · go_wp2_with fail
        refine bodyPost_ret (by simp [results, Tryz.results24, go_sem]; try rfl) rfl ?_
        exact ⟨rfl, rfl⟩
      · have h4 : n ≤ p := by omega
        clear hf
        go_wp2_with fail
        refine bodyPost_ret (by simp [results, Tryz.results24, go_sem]; try rfl) rfl ?_
        exact ⟨rfl, rfl⟩
end Go.Proofs.YtnlamjebgkgbaaaGreatDoor
namespace Go.Proofs.YtnlamjebgkgbaaaGreatDoor
open Go.RowKit Go.Shelf Go.Sort

set_option maxHeartbeats 2000000 in
theorem made_no (w : World) (n p : Int) (v : Value) (hf : ¬ (1 ≤ n ∧ n ≤ 64 ∧ 0 ≤ p ∧ p < n)) :
    Calls Tryz.prog 7 #[.agg #[.int .i64 n, .int .i64 p, v]] w fun e w' => e = .returned (.tuple #[.pointer none, .pointer none, .bool true]) ∧ Below w.heap.size w w' := by
  have HN := fun W => Lib.hid (new_no W n p hf)
  have HF := fun W => Lib.hid (fits_any n p W)
  simp only [decide_eq_false hf] at HF
  clear hf
  go_enter Tryz.func7, Tryz.ntmps7
  go_wp2_with ((first | (go_at_call 24; refine (HN _).out.mono ?_; rintro e w1 ⟨rfl, rfl⟩) | (go_at_call 22; refine (HF _).out.mono ?_; rintro e w2 ⟨rfl, rfl⟩)))
  refine bodyPost_ret (by simp [results, Tryz.results7, go_sem]; try rfl) rfl ?_
  exact ⟨rfl, bel_alloc (Below.refl _ _) _⟩
end Go.Proofs.YtnlamjebgkgbaaaGreatDoor
namespace Go.Proofs.YtnlamjebgkgbaaaGreatDoor
open Go.RowKit Go.Shelf Go.Sort

def MadePost (w : World) (n p : Nat) (os : List (Int × Bool)) (e : Ending) (w' : World) : Prop :=
  ∃ t r d L nm A c X A' c', e = .returned (.tuple #[.pointer (some ⟨t, 0, none⟩), .pointer (some ⟨X, 0, none⟩), .bool true]) ∧ TierAt w' w.heap.size t n (n - p) r d L p nm A c (foldD n (n - p) [] os) ∧ L.Perm (allPts (n - p) p) ∧ L.Pairwise ptLe ∧ RTierAt w' X n p (foldG n (n - p) [] os) A' c' ∧ Below w.heap.size w w'
theorem foldD_step {n ch k : Nat} {os : List (Int × Bool)} {D : List (Int × Bool)} (h : k < os.length) : foldD n ch D (os.take (k + 1)) = if inR n ch os[k].1 then turnD (foldD n ch D (os.take k)) os[k].1 os[k].2 else foldD n ch D (os.take k) := by
  unfold foldD; rw [List.take_succ_eq_append_getElem h, List.foldl_append]; rfl
theorem foldG_step {n ch k : Nat} {os : List (Int × Bool)} {G : List Int} (h : k < os.length) : foldG n ch G (os.take (k + 1)) = if inR n ch os[k].1 then goneL (foldG n ch G (os.take k)) os[k].1 os[k].2 else foldG n ch G (os.take k) := by
  unfold foldG; rw [List.take_succ_eq_append_getElem h, List.foldl_append]; rfl
/-- A tier beside the reference's, and an operation in its box. -/
structure St (w0 : World) (t n ch r d : Nat) (L : List Pt) (m : Nat) (nm : Option Nat) (A : Option Addr) (c X p b : Nat) (q : Int) (dn : Bool) (D : List (Int × Bool)) (G : List Int) (W : World) : Prop where
  t : TierAt W w0.heap.size t n ch r d L m nm A c D
  r : ∃ A' c', RTierAt W X n p G A' c'
  blk : W.heap[b]? = some (.cells #[.int .i64 q, .bool dn] 81 (0, 0))
  hb : Below w0.heap.size w0 W
  hX : w0.heap.size ≤ X
/-- What both answer. -/
def rcI (n ch : Nat) (q : Int) : Int := if inR n ch q then 0 else 1
section
variable {w0 : World} {t n ch r d : Nat} {L : List Pt} {m : Nat} {nm : Option Nat} {A : Option Addr} {c X p b : Nat} {q : Int} {dn : Bool} {D : List (Int × Bool)} {G : List Int} {W : World}
theorem St.below {W' : World} (h : St w0 t n ch r d L m nm A c X p b q dn D G W) (hb : Below W.heap.size W W') : St w0 t n ch r d L m nm A c X p b q dn D G W' :=
  ⟨h.t.below hb, h.r.imp fun _ ⟨c', h'⟩ => ⟨c', h'.below hb⟩, blk_keep hb h.blk, bel_chain hb h.hb, h.hX⟩
theorem bel_grown {w w1 w2 : World} {X : Nat} (h : Below w.heap.size w w1) (hg : w1.grownBy w2 (some X)) (hX : w.heap.size ≤ X) : Below w.heap.size w w2 :=
  ⟨hg.os.trans h.os, hg.tape.trans h.tape, hg.output.trans h.output, Nat.le_trans h.size hg.size, fun k hk => (hg.block k (Nat.lt_of_lt_of_le hk h.size) (fun e => by injection e with e; omega)).trans (h.block k hk)⟩
theorem St.down (h : St w0 t n ch r d L m nm A c X p b q dn D G W) :
    Calls Tryz.prog 25 #[.pointer (some ⟨t, 0, none⟩), .int .i64 q, .bool dn] W fun e w' => e = .returned (.int .i64 (rcI n ch q)) ∧ St w0 t n ch r d L m nm A c X p b q dn (if inR n ch q then turnD D q dn else D) G w' := by
  refine (down_any h.t q dn).mono fun e w' hp => ?_
  unfold DownPost at hp
  unfold rcI
  by_cases hin : inR n ch q
  · rw [if_pos (show (ch : Int) ≤ q ∧ q < (n : Int) from hin)] at hp
    rw [if_pos hin, if_pos hin]
    obtain ⟨rfl, ⟨o, rfl⟩, ht⟩ := hp
    refine ⟨rfl, ht, ?_, blk_with h.blk (h.t.down.ne_cells h.blk), bel_with h.hb h.t.bd o, h.hX⟩
    obtain ⟨A', c', hr⟩ := h.r
    exact ⟨A', c', hr.withMap h.t.down o⟩
  · rw [if_neg (show ¬ ((ch : Int) ≤ q ∧ q < (n : Int)) from hin)] at hp
    rw [if_neg hin, if_neg hin]
    obtain ⟨rfl, rfl⟩ := hp
    exact ⟨rfl, h⟩
theorem St.rdown (h : St w0 t n ch r d L m nm A c X p b q dn D G W) (hn : n ≤ 64) (hp : p ≤ n) (hch : n - p = ch) (hG : G.length ≤ 1000) :
    Calls Tryz.prog 26 #[.pointer (some ⟨X, 0, none⟩), .int .i64 q, .bool dn] W fun e w' => e = .returned (.int .i64 (rcI n ch q)) ∧ St w0 t n ch r d L m nm A c X p b q dn D (if inR n ch q then goneL G q dn else G) w' := by
  obtain ⟨A0, c0, hr⟩ := h.r
  refine (rdown_any hr hn hp hG q dn).mono fun e w' hp' => ?_
  unfold RDownPost at hp'
  unfold rcI
  have ec : (n : Int) - (p : Int) = (ch : Int) := by omega
  rw [ec] at hp'
  by_cases hin : inR n ch q
  · rw [if_pos (show (ch : Int) ≤ q ∧ q < (n : Int) from hin)] at hp'
    rw [if_pos hin, if_pos hin]
    obtain ⟨rfl, hr2, hg⟩ := hp'
    refine ⟨rfl, h.t.grX hr hg, hr2, blk_grX h.blk hg (fun e => ?_), bel_grown h.hb hg h.hX, h.hX⟩
    have := h.blk; rw [e, hr.blk] at this; injection this with this; injection this with _ h2; exact absurd h2 (by decide)
  · rw [if_neg (show ¬ ((ch : Int) ≤ q ∧ q < (n : Int)) from hin)] at hp'
    rw [if_neg hin, if_neg hin]
    obtain ⟨rfl, hb⟩ := hp'
    exact ⟨rfl, h.below hb⟩
end
set_option maxHeartbeats 4000000 in
theorem made_any (w : World) (n p : Nat) (hn : 1 ≤ n) (hn2 : n ≤ 64) (hp : p < n) (hp8 : p ≤ 8) (A0 : Option Addr) (c0 : Nat) (os : List (Int × Bool)) (hos : os.length ≤ 20) (hs : SpG encO 2 w A0 c0 os) :
    Calls Tryz.prog 7 #[.agg #[.int .i64 n, .int .i64 p, .slice A0 os.length c0]] w (MadePost w n p os) := by
  have HN := fun W => Lib.hid (new_any W n p hn hn2 hp hp8)
  have HF := fun W => Lib.hid (fits_any (n : Int) (p : Int) W)
  simp only [decide_eq_true (by omega : 1 ≤ (n : Int) ∧ (n : Int) ≤ 64 ∧ 0 ≤ (p : Int) ∧ (p : Int) < (n : Int))] at HF
  have HS := Lib.hid hs
  clear hs
  go_enter Tryz.func7, Tryz.ntmps7
  go_wp2_with ((first | (go_at_call 24; refine (HN _).out.mono ?_; rintro e w1 ⟨t, r, d, L, nm, A, c, rfl, ht, hpm, hpw, hb1⟩; have BB := Lib.hid (blk_keep hb1 (blk_new rfl)); have z0 := blk_cell (i := 0) BB.out rfl; have z1 := blk_cell (i := 1) BB.out rfl; have z2 := blk_cell (i := 2) BB.out rfl; have hz := blk_lt BB.out; have HT1 := Lib.hid ht; have HB1 := Lib.hid hb1; have HPM := Lib.hid hpm; have HPW := Lib.hid hpw; clear ht hb1 hpm hpw) | (go_at_call 22; refine (HF _).out.mono ?_; rintro e w2 ⟨rfl, rfl⟩)))
  obtain ⟨X, hX⟩ : ∃ X, w2.heap.size = X := ⟨_, rfl⟩
  have HXX : Hid (w.heap.size ≤ X) := by simp only [Hid]; rw [← hX]; exact (bel_chain HB1.out (bel_alloc (Below.refl _ _) _)).size
  have HX : Hid (RTierAt (w2.alloc (.cells #[.int .i64 (n : Int), .int .i64 (p : Int), .slice none 0 0] 79)) X n p [] none 0) := ⟨blk_new hX.symm, SpG.nil _, by simp [Value.ownBlock]⟩
  obtain ⟨V, hV⟩ : ∃ V, w2.alloc (.cells #[.int .i64 (n : Int), .int .i64 (p : Int), .slice none 0 0] 79) = V := ⟨_, rfl⟩
  have HVb : Hid (Below w.heap.size w V) := by subst hV; exact bel_alloc (bel_chain HB1.out (bel_alloc (Below.refl _ _) _)) _
  have HTV : Hid (TierAt V w.heap.size t n (n - p) r d L (n - (n - p)) nm A c []) := by
    have := HT1.out.below (bel_alloc (Below.refl _ _) (.cells #[.int .i64 (n : Int), .int .i64 (p : Int), .slice none 0 0] 79))
    rw [hV] at this
    exact Lib.hid ⟨this.blk, this.ring, this.down, Nat.le_trans (by simp) this.bd, this.nd⟩
  have HSV : Hid (SpG encO 2 V A0 c0 os) := Lib.hid (HS.out.below HVb.out)
  rw [hV] at HX
  rw [hX, hV]
  clear hX hV BB z0 z1 z2 hz HT1 HB1 HSV HN HF
  go_loopw [9, 45] (fun _ si wr => ∃ (k : Nat) (A' : Option Addr) (c' : Nat), k ≤ os.length ∧ si = .int .i64 k ∧ TierAt wr w.heap.size t n (n - p) r d L (n - (n - p)) nm A c (foldD n (n - p) [] (os.take k)) ∧ RTierAt wr X n p (foldG n (n - p) [] (os.take k)) A' c' ∧ Below w.heap.size w wr) (fun _ si _ => os.length - (intOf si).toNat)
  case atStart => exact ⟨0, none, 0, Nat.zero_le _, rfl, HTV.out, HX.out, HVb.out⟩
  case round =>
    obtain ⟨k, A', c', hk, rfl, ht, hr, hb⟩ := hrel
    have HT := Lib.hid ht
    have HR := Lib.hid hr
    have HB := Lib.hid hb
    clear ht hr hb
    by_cases hlt : k < os.length
    · obtain ⟨b, off, e, hbl, hc⟩ := (HS.out.below HB.out).at' k hlt
      have HD2 := Lib.hid (foldD_step (n := n) (ch := n - p) (D := []) hlt)
      have HG2 := Lib.hid (foldG_step (n := n) (ch := n - p) (G := []) hlt)
      obtain ⟨q, dn, hq⟩ : ∃ q dn, os[k] = (q, dn) := ⟨_, _, rfl⟩
      rw [hq] at hc HD2 HG2
      have c1 : wr.cell? ⟨b, off + k * 2, none⟩ = some (.int .i64 q) := by simpa using hc 0 _ rfl
      have c2 : wr.cell? ⟨b, off + k * 2 + 1, none⟩ = some (.bool dn) := hc 1 _ rfl
      clear hc hq
      subst e
      have hgl : (foldG n (n - p) [] (os.take k)).length ≤ 1000 := by
        have := foldG_len n (n - p) (os.take k) []
        rw [List.length_take] at this; simp at this; omega
      obtain ⟨DD, hDD⟩ : ∃ DD, foldD n (n - p) [] (os.take k) = DD := ⟨_, rfl⟩
      obtain ⟨GG, hGG⟩ : ∃ GG, foldG n (n - p) [] (os.take k) = GG := ⟨_, rfl⟩
      rw [hDD] at HT HD2
      rw [hGG] at HR HG2 hgl
      have hbx := bel_alloc (Below.refl wr.heap.size wr) (.cells #[.int .i64 q, .bool dn] 81)
      have HST : Hid (St w t n (n - p) r d L (n - (n - p)) nm A c X p wr.heap.size q dn DD GG (wr.alloc (.cells #[.int .i64 q, .bool dn] 81))) :=
        ⟨HT.out.below hbx, ⟨A', c', HR.out.below hbx⟩, blk_new rfl, bel_chain hbx HB.out, HXX.out⟩
      obtain ⟨DE, hDE⟩ : ∃ DE, (if inR n (n - p) q then turnD DD q dn else DD) = DE := ⟨_, rfl⟩
      obtain ⟨GE, hGE⟩ : ∃ GE, (if inR n (n - p) q then goneL GG q dn else GG) = GE := ⟨_, rfl⟩
      have HDa := fun W D G (h : St w t n (n - p) r d L (n - (n - p)) nm A c X p wr.heap.size q dn D G W) => Lib.hid h.down
      have HRa := fun W D G (hl : G.length ≤ 1000) (h : St w t n (n - p) r d L (n - (n - p)) nm A c X p wr.heap.size q dn D G W) => Lib.hid (h.rdown hn2 (by omega) rfl hl)
      obtain ⟨z, hz⟩ : ∃ z, rcI n (n - p) q = z := ⟨_, rfl⟩
      simp only [hz] at HDa HRa
      have HD3 := Lib.hid (HD2.out.trans hDE)
      have HG3 := Lib.hid (HG2.out.trans hGE)
      have HDE := Lib.hid hDE
      have HGE := Lib.hid hGE
      have x0 := blk_cell (i := 0) HST.out.blk rfl
      have x1 := blk_cell (i := 1) HST.out.blk rfl
      clear hDD hGG hz hbx hDE hGE HD2 HG2 HT HR
      go_wp2_with fail
      go_region_held3 (fun w' => w'.cell? ⟨wr.heap.size, 0, none⟩ = some (.int .i64 q) ∧ w'.cell? ⟨wr.heap.size, 1, none⟩ = some (.bool dn))
        (first | exact ⟨x0, x1⟩ | exact ⟨y0, y1⟩ | exact ⟨z0, z1⟩ | fail)
        ((first | (go_at_call 25; refine (HDa _ _ _ (by first | exact s6 | exact HST.out | exact s6.below (by (repeat (first | exact Below.refl _ _ | refine bel_drewN ?_ _ | refine bel_drew ?_ | refine bel_alloc ?_ _ | refine bel_set ?_ (by simp) _))) | exact HST.out.below (by (repeat (first | exact Below.refl _ _ | refine bel_drewN ?_ _ | refine bel_drew ?_ | refine bel_alloc ?_ _ | refine bel_set ?_ (by simp) _))))).out.mono ?_; rintro e w5 ⟨rfl, s5⟩; have y0 := blk_cell (i := 0) s5.blk rfl; have y1 := blk_cell (i := 1) s5.blk rfl) | (go_at_call 26; refine (HRa _ _ _ hgl (by first | exact s5 | exact HST.out | exact s5.below (by (repeat (first | exact Below.refl _ _ | refine bel_drewN ?_ _ | refine bel_drew ?_ | refine bel_alloc ?_ _ | refine bel_set ?_ (by simp) _))) | exact HST.out.below (by (repeat (first | exact Below.refl _ _ | refine bel_drewN ?_ _ | refine bel_drew ?_ | refine bel_alloc ?_ _ | refine bel_set ?_ (by simp) _))))).out.mono ?_; rintro e w6 ⟨rfl, s6⟩; have z0 := blk_cell (i := 0) s6.blk rfl; have z1 := blk_cell (i := 1) s6.blk rfl)))
      go_wp2_with fail
      go_roundw
      case rel =>
        obtain ⟨A5, c5, hr5⟩ := s6.r
        refine ⟨k + 1, A5, c5, by omega, by go_num, ?_, ?_, s6.hb⟩
        · rw [HD3.out, ← HDE.out]; exact s6.t
        · rw [HG3.out, ← HGE.out]; exact hr5
      case measure => simp [intOf]; omega
    · have hke : os.take k = os := List.take_of_length_le (by omega)
      rw [hke] at HT HR
      have hnp : n - (n - p) = p := by omega
      rw [hnp] at HT HPM
      clear hke hnp
      go_wp2_with fail
      refine bodyPost_ret (by simp [results, Tryz.results7, go_sem]; try rfl) rfl ?_
      exact ⟨t, r, d, L, nm, A, c, X, A', c', rfl, HT.out, HPM.out, HPW.out, HR.out, HB.out⟩
end Go.Proofs.YtnlamjebgkgbaaaGreatDoor
namespace Go.Proofs.YtnlamjebgkgbaaaGreatDoor
open Go.RowKit

theorem names_mem {f k : Nat} {y : List UInt8} : y ∈ namesL f k ↔ ∃ p, f ≤ p ∧ p < f + k ∧ nmL p = y := by
  unfold namesL
  simp only [List.mem_map, List.mem_range]
  constructor
  · rintro ⟨i, hi, e⟩; exact ⟨f + i, by omega, by omega, e⟩
  · rintro ⟨p, h1, h2, e⟩; exact ⟨p - f, by omega, by rw [show f + (p - f) = p by omega]; exact e⟩
theorem map_of : ∀ {l : List (List UInt8)}, (∀ y ∈ l, ∃ p, nmL p = y) → ∃ Ps : List Nat, l = Ps.map nmL
  | [], _ => ⟨[], rfl⟩
  | y :: l, h => by
    obtain ⟨p, hp⟩ := h y (List.mem_cons_self ..)
    obtain ⟨Ps, e⟩ := map_of (l := l) fun z hz => h z (List.mem_cons_of_mem _ hz)
    exact ⟨p :: Ps, by rw [e, List.map_cons, hp]⟩
theorem mem_rot {L : List Pt} {k : Nat} {x : Pt} : x ∈ rotL L k ↔ x ∈ L := by
  unfold rotL
  rw [List.mem_append]
  constructor
  · rintro (h | h)
    · exact List.mem_of_mem_drop h
    · exact List.mem_of_mem_take h
  · intro h
    rw [← List.take_append_drop k L] at h
    rcases List.mem_append.1 h with h | h
    · exact .inr h
    · exact .inl h
theorem ptsOf_name {n : List UInt8} {x : Pt} (h : x ∈ ptsOf n) : x.2 = n := by
  unfold ptsOf at h
  obtain ⟨i, _, e⟩ := List.mem_map.1 h
  rw [← e]
theorem ptsOf_has (n : List UInt8) : ∃ x ∈ ptsOf n, x.2 = n :=
  ⟨(hashN (Lib.decDigits 0 ++ 35 :: n), n), List.mem_map.2 ⟨0, List.mem_range.2 (by omega), rfl⟩, rfl⟩
theorem allPts_name {f k : Nat} {x : Pt} (h : x ∈ allPts f k) : x.2 ∈ namesL f k := by
  unfold allPts at h
  obtain ⟨n, hn, hx⟩ := List.mem_flatMap.1 h
  rw [ptsOf_name hx]; exact hn
theorem allPts_has {f k : Nat} {y : List UInt8} (h : y ∈ namesL f k) : ∃ x ∈ allPts f k, x.2 = y := by
  obtain ⟨x, hx, e⟩ := ptsOf_has y
  exact ⟨x, List.mem_flatMap.2 ⟨y, h, hx⟩, e⟩
theorem nodup_of_map {Ps : List Nat} (h : (Ps.map nmL).Nodup) : Ps.Nodup := by
  unfold List.Nodup at *
  rw [List.pairwise_map] at h
  exact h.imp fun hne e => hne (by rw [e])
/-- The parents, in the order of their first points. -/
theorem ps_of {ch p m : Nat} {L : List Pt} (hL : L.Perm (allPts ch p)) (hm : p ≤ m) (j : Nat) :
    ∃ Ps : List Nat, ownersL m (rotL L j) = Ps.map nmL ∧ Ps.Nodup ∧ ∀ q, q ∈ Ps ↔ ch ≤ q ∧ q < ch + p := by
  obtain ⟨h1, h2, _⟩ := own_spec (m := m) (Ns := namesL ch p) (by rw [namesL_len]; exact hm) (fun _ => true) (rotL L j) [] List.nodup_nil (fun y hy => by simp at hy) (fun x hx => allPts_name (hL.mem_iff.1 (mem_rot.1 hx)))
  have h3 : ∀ y, y ∈ ownersL m (rotL L j) ↔ y ∈ namesL ch p := fun y => by
    unfold ownersL; rw [h2]
    constructor
    · rintro (h | ⟨x, hx, e⟩)
      · simp at h
      · rw [← e]; exact allPts_name (hL.mem_iff.1 (mem_rot.1 hx))
    · intro h
      obtain ⟨x, hx, e⟩ := allPts_has h
      exact .inr ⟨x, mem_rot.2 (hL.mem_iff.2 hx), e⟩
  obtain ⟨Ps, e⟩ := map_of (l := ownersL m (rotL L j)) fun y hy => by
    obtain ⟨q, _, _, e⟩ := names_mem.1 ((h3 y).1 hy)
    exact ⟨q, e⟩
  refine ⟨Ps, e, ?_, fun q => ?_⟩
  · refine nodup_of_map ?_
    rw [← e]; exact h1
  · have h4 := h3 (nmL q)
    rw [e, names_mem] at h4
    constructor
    · intro h
      obtain ⟨r, a, b, c⟩ := h4.1 (List.mem_map_of_mem h)
      have := nmL_inj c
      omega
    · intro ⟨a, b⟩
      obtain ⟨r, hr, c⟩ := List.mem_map.1 (h4.2 ⟨q, a, b, rfl⟩)
      rw [← nmL_inj c]; exact hr
theorem upL_mem {D : List (Int × Bool)} {ch : Nat} : ∀ {k : Nat} {x : Int}, x ∈ upL D ch k ↔ ∃ q : Nat, ch ≤ q ∧ q < ch + k ∧ x = (q : Int) ∧ upB D q = true
  | 0, x => by unfold upL; simp; omega
  | k + 1, x => by
    unfold upL
    rw [List.mem_append, upL_mem (k := k)]
    constructor
    · rintro (⟨q, a, b, c, d⟩ | h)
      · exact ⟨q, a, by omega, c, d⟩
      · split at h
        · rename_i hu
          simp at h
          exact ⟨ch + k, by omega, by omega, by rw [h]; simp, hu⟩
        · simp at h
    · rintro ⟨q, a, b, c, d⟩
      by_cases e : q = ch + k
      · subst e
        right
        rw [if_pos d]
        simp [c]
      · exact .inl ⟨q, a, by omega, c, d⟩
theorem upL_nodup (D : List (Int × Bool)) (ch : Nat) : ∀ k, (upL D ch k).Nodup
  | 0 => List.nodup_nil
  | k + 1 => by
    unfold upL
    split
    · refine nodup_snoc (upL_nodup D ch k) fun h => ?_
      obtain ⟨q, _, b, c, _⟩ := upL_mem.1 h
      omega
    · rw [List.append_nil]; exact upL_nodup D ch k
theorem firstUp_congr {D D' : List (Int × Bool)} {Ps : List Nat} (h : ∀ q ∈ Ps, upN D' q = upN D q) : firstUp D' Ps = firstUp D Ps := by
  have : Ps.find? (upN D') = Ps.find? (upN D) := by
    induction Ps with
    | nil => rfl
    | cons x r ih =>
      rw [List.find?_cons, List.find?_cons, h x (List.mem_cons_self ..), ih fun q hq => h q (List.mem_cons_of_mem _ hq)]
  unfold firstUp; rw [this]
theorem firstUp_some {D : List (Int × Bool)} {Ps : List Nat} {q : Nat} (hq : q ∈ Ps) (hu : upN D q = true) : ∃ r ∈ Ps, upN D r = true ∧ firstUp D Ps = ((r : Int), true) := by
  unfold firstUp
  cases h : Ps.find? (upN D) with
  | none => have := List.find?_eq_none.1 h q hq; rw [hu] at this; exact absurd rfl this
  | some r => exact ⟨r, List.mem_of_find?_eq_some h, List.find?_some h, rfl⟩
theorem firstUp_is {D : List (Int × Bool)} {Ps : List Nat} (h : (firstUp D Ps).2 = true) : ∃ r ∈ Ps, upN D r = true ∧ firstUp D Ps = ((r : Int), true) := by
  unfold firstUp at *
  cases e : Ps.find? (upN D) with
  | none => rw [e] at h; simp at h
  | some r => exact ⟨r, List.mem_of_find?_eq_some e, List.find?_some e, rfl⟩
theorem upN_down {D : List (Int × Bool)} (hn : (keysM D).Nodup) (g q : Nat) : upN (turnD D (g : Int) true) q = if g = q then false else upN D q := by
  unfold upN; rw [upB_turn hn]
  by_cases e : g = q
  · subst e; simp
  · rw [if_neg (fun h => e (by omega)), if_neg e]
/-- One that goes down leaves the others' objects, and comes back as it went. -/
theorem downs_law {D : List (Int × Bool)} {ch p g : Nat} {Ps : List Nat} (hn : (keysM D).Nodup) (hP : ∀ q, q ∈ Ps ↔ ch ≤ q ∧ q < ch + p) (hg : (g : Int) ∈ upL D ch p) :
    let was := firstUp D Ps
    let now := firstUp (turnD D (g : Int) true) Ps
    let again := firstUp (turnD (turnD D (g : Int) true) (g : Int) false) Ps
    (was.1 = (g : Int) ∨ (now.2 = true ∧ now.1 = was.1)) ∧ (now.2 = true → now.1 ≠ (g : Int)) ∧ now.2 = decide (1 < (upL D ch p).length) ∧ again = was := by
  obtain ⟨q, a, b, c, d⟩ := upL_mem.1 hg
  obtain rfl : g = q := by omega
  have hgP := (hP g).2 ⟨a, b⟩
  intro was now again
  refine ⟨?_, ?_, ?_, ?_⟩
  · obtain ⟨r, hr, hu, e⟩ := firstUp_some hgP d
    by_cases hrg : r = g
    · left; show (firstUp D Ps).1 = _; rw [e, hrg]
    · right
      have e2 : firstUp (turnD D (g : Int) true) Ps = ((r : Int), true) := by
        unfold firstUp at e ⊢
        cases hf : Ps.find? (upN D) with
        | none => rw [hf] at e; simp at e
        | some r' =>
          rw [hf] at e
          simp only [Prod.mk.injEq] at e
          obtain rfl : r' = r := by omega
          have hf2 : Ps.find? (upN (turnD D (g : Int) true)) = some r' := by
            rw [List.find?_eq_some_iff_append] at hf ⊢
            refine ⟨by rw [upN_down hn, if_neg (fun e => hrg e.symm)]; exact hf.1, ?_⟩
            obtain ⟨l1, l2, e1, e2⟩ := hf.2
            refine ⟨l1, l2, e1, fun x hx => ?_⟩
            rw [upN_down hn]
            split
            · rfl
            · exact e2 x hx
          rw [hf2]
      show (firstUp (turnD D (g : Int) true) Ps).2 = true ∧ (firstUp (turnD D (g : Int) true) Ps).1 = (firstUp D Ps).1
      rw [e2, e]; exact ⟨rfl, rfl⟩
  · intro h e
    obtain ⟨r, hr, hu, e2⟩ := firstUp_is (D := turnD D (g : Int) true) h
    have e3 : (firstUp (turnD D (g : Int) true) Ps).1 = (g : Int) := e
    rw [e2] at e3
    obtain rfl : r = g := by simp at e3; omega
    rw [upN_down hn, if_pos rfl] at hu; cases hu
  · show (firstUp (turnD D (g : Int) true) Ps).2 = _
    by_cases h : 1 < (upL D ch p).length
    · rw [decide_eq_true h]
      by_cases hx : ∃ x ∈ upL D ch p, x ≠ (g : Int)
      · obtain ⟨x, hx, hxg⟩ := hx
        obtain ⟨r, r1, r2, r3, r4⟩ := upL_mem.1 hx
        have hrg : ¬ g = r := fun e => hxg (by rw [r3, e])
        obtain ⟨s, _, _, e⟩ := firstUp_some (D := turnD D (g : Int) true) ((hP r).2 ⟨r1, r2⟩) (by rw [upN_down hn, if_neg hrg]; exact r4)
        rw [e]
      · exfalso
        have := nodup_le (b := [(g : Int)]) (upL_nodup D ch p) fun x hx2 => by
          by_cases e : x = (g : Int)
          · simp [e]
          · exact absurd ⟨x, hx2, e⟩ hx
        simp at this; omega
    · rw [decide_eq_false h]
      cases hb : (firstUp (turnD D (g : Int) true) Ps).2 with
      | false => rfl
      | true =>
        exfalso
        obtain ⟨r, hr, hu, _⟩ := firstUp_is hb
        rw [upN_down hn] at hu
        by_cases e : g = r
        · rw [if_pos e] at hu; cases hu
        · rw [if_neg e] at hu
          have hr2 := (hP r).1 hr
          have := nodup_le (a := [(g : Int), (r : Int)]) (b := upL D ch p) (by simp; omega) fun x hx => by
            simp at hx
            rcases hx with rfl | rfl
            · exact hg
            · exact upL_mem.2 ⟨r, hr2.1, hr2.2, rfl, hu⟩
          simp at this; omega
  · refine firstUp_congr fun q _ => ?_
    unfold upN
    rw [upB_turn (turnD_nodup hn _ _), upB_turn hn]
    by_cases e : (g : Int) = (q : Int)
    · rw [if_pos e, ← e, d]; rfl
    · rw [if_neg e, if_neg e]
end Go.Proofs.YtnlamjebgkgbaaaGreatDoor
namespace Go.Proofs.YtnlamjebgkgbaaaGreatDoor
open Go.RowKit Go.Shelf Go.Sort

theorem fail404_any (w : World) : Calls Tryz.prog 10 #[.int .i64 404] w fun e w' => e = .returned (.agg #[.int .i64 404, .slice none 0 0, .slice none 0 0, .int .i64 0]) ∧ Below w.heap.size w w' := by
  go_enter Tryz.func10, Tryz.ntmps10
  go_wp2_with fail
  refine bodyPost_ret (by simp [results, Tryz.results10, go_sem]; try rfl) rfl ?_
  exact ⟨rfl, by (repeat (first | exact Below.refl _ _ | refine bel_drewN ?_ _ | refine bel_drew ?_ | refine bel_alloc ?_ _ | refine bel_set ?_ (by simp) _))⟩
theorem right404_any (w : World) : Calls Tryz.prog 9 #[.agg #[.int .i64 404, .slice none 0 0, .slice none 0 0, .int .i64 0]] w fun e w' => e = .returned (.bool true) ∧ Below w.heap.size w w' := by
  go_enter Tryz.func9, Tryz.ntmps9
  go_wp2_with fail
  go_loopw [4, 9] (fun _ si wr => si = .int .i64 0 ∧ wr = w.alloc (.cells #[.int .i64 404, .slice none 0 0, .slice none 0 0, .int .i64 0] 39)) (fun _ _ _ => 0)
  case atStart => exact ⟨rfl, rfl⟩
  case round =>
    obtain ⟨rfl, rfl⟩ := hrel
    go_wp2_with fail
    go_ret
    exact ⟨rfl, bel_alloc (Below.refl _ _) _⟩
/-- A tier, and that nothing older has turned. -/
structure Tw (w0 : World) (t n ch r d : Nat) (L : List Pt) (m : Nat) (nm : Option Nat) (A : Option Addr) (c : Nat) (D : List (Int × Bool)) (W : World) : Prop where
  t : TierAt W w0.heap.size t n ch r d L m nm A c D
  b : Below w0.heap.size w0 W
section
variable {w0 : World} {t n ch r d : Nat} {L : List Pt} {m : Nat} {nm : Option Nat} {A : Option Addr} {c : Nat} {D : List (Int × Bool)} {W : World}
theorem Tw.below {W' : World} (h : Tw w0 t n ch r d L m nm A c D W) (hb : Below W.heap.size W W') : Tw w0 t n ch r d L m nm A c D W' := ⟨h.t.below hb, bel_chain hb h.b⟩
theorem Tw.down (h : Tw w0 t n ch r d L m nm A c D W) (g : Nat) (hg : ch ≤ g ∧ g < n) (dn : Bool) :
    Calls Tryz.prog 25 #[.pointer (some ⟨t, 0, none⟩), .int .i64 (g : Int), .bool dn] W fun e w' => e = .returned (.int .i64 0) ∧ Tw w0 t n ch r d L m nm A c (turnD D (g : Int) dn) w' := by
  refine (down_any h.t (g : Int) dn).mono fun e w' hp => ?_
  unfold DownPost at hp
  rw [if_pos (by omega)] at hp
  obtain ⟨rfl, ⟨o, rfl⟩, ht⟩ := hp
  exact ⟨rfl, ht, bel_with h.b h.t.bd o⟩
theorem Tw.parent (h : Tw w0 t n ch r d L m nm A c D W) (hso : L.Pairwise ptLe) (hl : L.length ≤ 10000) (hn : n ≤ 64) (o : List UInt8) (ho : o.length ≤ 1000000) (Ps : List Nat) (hPs : ownersL (min n m) (rotL L (firstK (hashN o) L)) = Ps.map nmL) (hP : ∀ p ∈ Ps, p < 100) (q : Nat) (hq : q < ch) :
    Calls Tryz.prog 8 #[.pointer (some ⟨t, 0, none⟩), .int .i64 (q : Int), .string ⟨o.toArray⟩] W fun e w' => e = .returned (.tuple #[.int .i64 (firstUp D Ps).1, .bool (firstUp D Ps).2]) ∧ Tw w0 t n ch r d L m nm A c D w' :=
  (parent_any h.t hso hl hn o ho Ps hPs hP q hq).mono fun e w' hp => ⟨hp.1, h.below hp.2⟩
theorem Tw.parentNo (h : Tw w0 t n ch r d L m nm A c D W) (s : ByteArray) (q : Int) (hq : q < 0 ∨ (ch : Int) ≤ q) :
    Calls Tryz.prog 8 #[.pointer (some ⟨t, 0, none⟩), .int .i64 q, .string s] W fun e w' => e = .returned (.tuple #[.int .i64 0, .bool false]) ∧ Tw w0 t n ch r d L m nm A c D w' :=
  (parent_no h.t s q hq).mono fun e w' hp => ⟨hp.1, by rw [hp.2]; exact h⟩
end
theorem lightB_yes {n p : Nat} {l : Nat} (hp8 : p ≤ 8) (hl : l ≤ 20) : lightB (n : Int) (p : Int) l = true := by
  unfold lightB
  rw [decide_eq_true hl, decide_eq_true (by omega)]; rfl
theorem lightB_fits {n p : Int} {l : Nat} (h : lightB n p l = true) (hf : 1 ≤ n ∧ n ≤ 64 ∧ 0 ≤ p ∧ p < n) : l ≤ 20 ∧ p ≤ 8 := by
  unfold lightB at h
  rw [decide_eq_true hf] at h
  simpa using h
theorem agree_made (n ch : Nat) (os : List (Int × Bool)) : Agree (foldD n ch [] os) (foldG n ch [] os) :=
  Agree.fold os ⟨List.nodup_nil, fun q => by simp [upB, lookM]⟩
theorem allPts_length (f k : Nat) (L : List Pt) (h : L.Perm (allPts f k)) : L.length = 16 * k := by rw [h.length_eq, allPts_len]
theorem light_long (w : World) (n p : Int) (A : Option Addr) (l c : Nat) (h : 20 < l) (hl : l ≤ 9223372036854775807) :
    Calls Tryz.prog 5 #[.agg #[.int .i64 n, .int .i64 p, .slice A l c]] w fun e w' => e = .returned (.bool false) ∧ Below w.heap.size w w' := by
  have h1 : ¬ (l : Int) ≤ 20 := by omega
  go_enter Tryz.func5, Tryz.ntmps5
  go_wp2_with fail
  go_ret
  exact ⟨by first | rfl | simp, bel_alloc (Below.refl _ _) _⟩
theorem ba_listL (o : ByteArray) : ∃ l : List UInt8, o = ⟨l.toArray⟩ ∧ o.size = l.length := ⟨o.data.toList, by obtain ⟨⟨d⟩⟩ := o; rfl, rfl⟩
end Go.Proofs.YtnlamjebgkgbaaaGreatDoor
namespace Go.Proofs.YtnlamjebgkgbaaaGreatDoor
open Go.RowKit Go.Shelf Go.Sort

set_option maxHeartbeats 4000000 in
set_option maxRecDepth 100000 in
theorem sameWalk (w : World) (n p : Nat) (hn : 1 ≤ n) (hn2 : n ≤ 64) (hp : p < n) (hp8 : p ≤ 8) (A0 : Option Addr) (c0 : Nat) (os : List (Int × Bool)) (hos : os.length ≤ 20) (hs : SpG encO 2 w A0 c0 os) (o : List UInt8) (ho : o.length ≤ 200) (x y : Int) (hx : 0 ≤ x ∧ x ≤ 255) (hy : 0 ≤ y ∧ y ≤ 255) :
    Calls Tryz.prog 3 #[.agg #[.int .i64 n, .int .i64 p, .slice A0 os.length c0, .string ⟨o.toArray⟩, .int .u8 x, .int .u8 y]] w fun e w' => e = .returned (.bool true) ∧ Below w.heap.size w w' := by
  have HL := fun W => Lib.hid (light_any W (n : Int) (p : Int) A0 os.length c0 (by omega))
  simp only [lightB_yes hp8 hos] at HL
  have HM := fun W h => Lib.hid (made_any W n p hn hn2 hp hp8 A0 c0 os hos h)
  have HS := Lib.hid hs
  have hosz : (⟨o.toArray⟩ : ByteArray).size = o.length := List.size_toArray ..
  have HA := fun W => Lib.hid (awake48_any W)
  clear hs
  go_enter Tryz.func3, Tryz.ntmps3
  go_wp2_with fail
  have BP := Lib.hid (blk_new (w := w) (o := .cells #[.int .i64 (n : Int), .int .i64 (p : Int), .slice A0 os.length c0, .string ⟨o.toArray⟩, .int .u8 x, .int .u8 y] 26) rfl)
  have q0 := blk_cell (i := 0) BP.out rfl
  have q1 := blk_cell (i := 1) BP.out rfl
  have q2 := blk_cell (i := 2) BP.out rfl
  have q3 := blk_cell (i := 3) BP.out rfl
  have q4 := blk_cell (i := 4) BP.out rfl
  have q5 := blk_cell (i := 5) BP.out rfl
  have HS6 := fun (W' : World) (hb : Below (w.alloc (.cells #[.int .i64 (n : Int), .int .i64 (p : Int), .slice A0 os.length c0, .string ⟨o.toArray⟩, .int .u8 x, .int .u8 y] 26)).heap.size (w.alloc (.cells #[.int .i64 (n : Int), .int .i64 (p : Int), .slice A0 os.length c0, .string ⟨o.toArray⟩, .int .u8 x, .int .u8 y] 26)) W') => Lib.hid (show W'.cell? ⟨w.heap.size, 0, none⟩ = some (.int .i64 (n : Int)) ∧ W'.cell? ⟨w.heap.size, 1, none⟩ = some (.int .i64 (p : Int)) ∧ W'.cell? ⟨w.heap.size, 2, none⟩ = some (.slice A0 os.length c0) ∧ W'.cell? ⟨w.heap.size, 3, none⟩ = some (.string ⟨o.toArray⟩) ∧ W'.cell? ⟨w.heap.size, 4, none⟩ = some (.int .u8 x) ∧ W'.cell? ⟨w.heap.size, 5, none⟩ = some (.int .u8 y) from ⟨cell_keep hb q0, cell_keep hb q1, cell_keep hb q2, cell_keep hb q3, cell_keep hb q4, cell_keep hb q5⟩)
  go_region_held3 (fun w' => w'.cell? ⟨w.heap.size, 0, none⟩ = some (.int .i64 (n : Int)) ∧ w'.cell? ⟨w.heap.size, 1, none⟩ = some (.int .i64 (p : Int)) ∧ w'.cell? ⟨w.heap.size, 2, none⟩ = some (.slice A0 os.length c0) ∧ w'.cell? ⟨w.heap.size, 3, none⟩ = some (.string ⟨o.toArray⟩) ∧ w'.cell? ⟨w.heap.size, 4, none⟩ = some (.int .u8 x) ∧ w'.cell? ⟨w.heap.size, 5, none⟩ = some (.int .u8 y))
    (first | exact (HS6 _ (by (repeat (first | exact Below.refl _ _ | refine bel_drewN ?_ _ | refine bel_drew ?_ | refine bel_alloc ?_ _ | refine bel_set ?_ (by simp) _)))).out | fail)
    (fail)
  clear HS6 q0 q1 q2 q3 q4 q5 BP
  obtain ⟨V, hV⟩ : ∃ V, ((w.alloc (.cells #[.int .i64 (n : Int), .int .i64 (p : Int), .slice A0 os.length c0, .string ⟨o.toArray⟩, .int .u8 x, .int .u8 y] 26)).alloc (.cells #[.int .i64 (n : Int), .int .i64 (p : Int), .slice A0 os.length c0] 24)).drew = V := ⟨_, rfl⟩
  have HVB : Hid (V.heap[w.heap.size + 1]? = some (.cells #[.int .i64 (n : Int), .int .i64 (p : Int), .slice A0 os.length c0] 24 (0, 0))) := by simp only [Hid]; rw [← hV]; exact blk_drew (blk_new (by simp))
  have HVb : Hid (Below w.heap.size w V) := by simp only [Hid]; rw [← hV]; (repeat (first | exact Below.refl _ _ | refine bel_drewN ?_ _ | refine bel_drew ?_ | refine bel_alloc ?_ _ | refine bel_set ?_ (by simp) _))
  rename_i hHeld
  clear hHeld
  rw [hV]
  clear hV
  have v0 := blk_cell (i := 0) HVB.out rfl
  have v1 := blk_cell (i := 1) HVB.out rfl
  have v2 := blk_cell (i := 2) HVB.out rfl
  have hvz := blk_lt HVB.out
  go_wp2_with ((first | (go_at_call 5; refine (HL _).out.mono ?_; rintro e w1 ⟨rfl, hb1⟩; have BB := Lib.hid (blk_keep hb1 HVB.out); have z0 := blk_cell (i := 0) BB.out rfl; have z1 := blk_cell (i := 1) BB.out rfl; have z2 := blk_cell (i := 2) BB.out rfl; have hz := blk_lt BB.out; have HB1 := Lib.hid (bel_chain hb1 HVb.out); clear hb1) | (go_at_call 7; go_must (refine (HM _ (HS.out.below HB1.out)).out.mono ?_; rintro e w2 ⟨t, r, d, L, nm, A, c, X, A', c', rfl, ht, hpm, hpw, hr, hb2⟩; have y0 := cell_keep hb2 z0; have y1 := cell_keep hb2 z1))))
  have hnp : n - (n - p) = p := by omega
  obtain ⟨D, hD⟩ : ∃ D, foldD n (n - p) [] os = D := ⟨_, rfl⟩
  rw [hD] at ht
  have HTw : Hid (Tw w t n (n - p) r d L p nm A c D w2) := ⟨⟨ht.blk, ht.ring, ht.down, Nat.le_trans HB1.out.size ht.bd, ht.nd⟩, bel_chain hb2 HB1.out⟩
  obtain ⟨Ps, hPs, hPn, hPm⟩ := ps_of (m := min n p) hpm (by omega) (firstK (hashN o) L)
  have hLl := allPts_length _ _ _ hpm
  obtain ⟨qa, hqa, hqa2⟩ : ∃ qa : Nat, x % ((n : Int) - (p : Int)) = (qa : Int) ∧ qa < n - p := ⟨(x % ((n : Int) - (p : Int))).toNat, by have := Int.emod_nonneg x (show (n : Int) - (p : Int) ≠ 0 by omega); omega, by have := Int.emod_lt_of_pos x (show 0 < (n : Int) - (p : Int) by omega); have := Int.emod_nonneg x (show (n : Int) - (p : Int) ≠ 0 by omega); omega⟩
  obtain ⟨qb, hqb, hqb2⟩ : ∃ qb : Nat, y % ((n : Int) - (p : Int)) = (qb : Int) ∧ qb < n - p := ⟨(y % ((n : Int) - (p : Int))).toNat, by have := Int.emod_nonneg y (show (n : Int) - (p : Int) ≠ 0 by omega); omega, by have := Int.emod_lt_of_pos y (show 0 < (n : Int) - (p : Int) by omega); have := Int.emod_nonneg y (show (n : Int) - (p : Int) ≠ 0 by omega); omega⟩
  have hPar := fun q hq W (h : Tw w t n (n - p) r d L p nm A c D W) => Lib.hid (h.parent hpw (by omega) hn2 o (by omega) Ps hPs (fun q hq => by have := (hPm q).1 hq; omega) q hq)
  have hP1 := hPar qa hqa2
  have hP2 := hPar qb hqb2
  have hP3 := fun W (h : Tw w t n (n - p) r d L p nm A c D W) => Lib.hid (h.parentNo ⟨o.toArray⟩ ((n : Int) - (p : Int)) (.inr (by omega)))
  obtain ⟨⟨f1, b1⟩, hf1⟩ : ∃ f, firstUp D Ps = f := ⟨_, rfl⟩
  simp only [hf1] at hP1 hP2
  have HF := fun W => Lib.hid (fail404_any W)
  have HR := fun W => Lib.hid (right404_any W)
  clear ht hpm hpw hr hb2 hPs hPn hPm hLl hD hnp hPar hf1 HM HL HS y0 y1 z0 z1 z2 v0 v1 v2 hvz hz BB HVB HVb HB1 hqa2 hqb2
  rw [hqa]
  refine (hP1 _ HTw.out).out.mono ?_
  rintro e w3 ⟨rfl, t3⟩
  have T3 := Lib.hid t3
  clear t3 HTw hP1
  go_wp2_with fail
  rw [hqb]
  refine (hP2 _ T3.out).out.mono ?_
  rintro e w4 ⟨rfl, t4⟩
  have T4 := Lib.hid t4
  clear t4 T3 hP2
  go_wp2_with fail
  refine (hP3 _ T4.out).out.mono ?_
  rintro e w5 ⟨rfl, t5⟩
  have T5 := Lib.hid t5
  clear t5 T4 hP3
  go_wp2_with fail
  refine (HF _).out.mono ?_
  rintro e w6 ⟨rfl, hb6⟩
  have T6 := Lib.hid (T5.out.below hb6)
  clear hb6 T5
  go_wp2_with fail
  refine (HR _).out.mono ?_
  rintro e w7 ⟨rfl, hb7⟩
  have T7 := Lib.hid (T6.out.below hb7)
  clear hb7 T6
  go_wp2_with fail
  refine (HA _).out.mono ?_
  rintro e w8 ⟨rfl, hb8⟩
  go_wp2_with fail
  go_ret
  exact ⟨rfl, bel_chain hb8 T7.out.b⟩
end Go.Proofs.YtnlamjebgkgbaaaGreatDoor
namespace Go.Proofs.YtnlamjebgkgbaaaGreatDoor
open Go.RowKit Go.Shelf Go.Sort

set_option maxHeartbeats 4000000 in
set_option maxRecDepth 100000 in
theorem sameDark (n p : Int) (A0 : Option Addr) (c0 l : Nat) (x y : Int) (o : ByteArray) (w : World) (b : Bool) (hb : b = true → 200 < o.size)
    (HL : ∀ W, Calls Tryz.prog 5 #[.agg #[.int .i64 n, .int .i64 p, .slice A0 l c0]] W fun e w' => e = .returned (.bool b) ∧ Below W.heap.size W w') :
    Calls Tryz.prog 3 #[.agg #[.int .i64 n, .int .i64 p, .slice A0 l c0, .string o, .int .u8 x, .int .u8 y]] w fun e w' => e = .returned (.bool true) ∧ Below w.heap.size w w' := by
  have HA := fun W => Lib.hid (awake48_any W)
  have HL2 := fun W => Lib.hid (HL W)
  clear HL
  cases b
  · clear hb
    go_enter Tryz.func3, Tryz.ntmps3
    go_wp2_with fail
    have BP := Lib.hid (blk_new (w := w) (o := .cells #[.int .i64 n, .int .i64 p, .slice A0 l c0, .string o, .int .u8 x, .int .u8 y] 26) rfl)
    have q0 := blk_cell (i := 0) BP.out rfl
    have q1 := blk_cell (i := 1) BP.out rfl
    have q2 := blk_cell (i := 2) BP.out rfl
    have q3 := blk_cell (i := 3) BP.out rfl
    have q4 := blk_cell (i := 4) BP.out rfl
    have q5 := blk_cell (i := 5) BP.out rfl
    have HS6 := fun (W' : World) (hb : Below (w.alloc (.cells #[.int .i64 n, .int .i64 p, .slice A0 l c0, .string o, .int .u8 x, .int .u8 y] 26)).heap.size (w.alloc (.cells #[.int .i64 n, .int .i64 p, .slice A0 l c0, .string o, .int .u8 x, .int .u8 y] 26)) W') => Lib.hid (show W'.cell? ⟨w.heap.size, 0, none⟩ = some (.int .i64 n) ∧ W'.cell? ⟨w.heap.size, 1, none⟩ = some (.int .i64 p) ∧ W'.cell? ⟨w.heap.size, 2, none⟩ = some (.slice A0 l c0) ∧ W'.cell? ⟨w.heap.size, 3, none⟩ = some (.string o) ∧ W'.cell? ⟨w.heap.size, 4, none⟩ = some (.int .u8 x) ∧ W'.cell? ⟨w.heap.size, 5, none⟩ = some (.int .u8 y) from ⟨cell_keep hb q0, cell_keep hb q1, cell_keep hb q2, cell_keep hb q3, cell_keep hb q4, cell_keep hb q5⟩)
    go_region_held3 (fun w' => w'.cell? ⟨w.heap.size, 0, none⟩ = some (.int .i64 n) ∧ w'.cell? ⟨w.heap.size, 1, none⟩ = some (.int .i64 p) ∧ w'.cell? ⟨w.heap.size, 2, none⟩ = some (.slice A0 l c0) ∧ w'.cell? ⟨w.heap.size, 3, none⟩ = some (.string o) ∧ w'.cell? ⟨w.heap.size, 4, none⟩ = some (.int .u8 x) ∧ w'.cell? ⟨w.heap.size, 5, none⟩ = some (.int .u8 y))
      (first | exact (HS6 _ (by (repeat (first | exact Below.refl _ _ | refine bel_drewN ?_ _ | refine bel_drew ?_ | refine bel_alloc ?_ _ | refine bel_set ?_ (by simp) _)))).out | fail)
      (fail)
    clear HS6 q0 q1 q2 q3 q4 q5 BP
    obtain ⟨V, hV⟩ : ∃ V, ((w.alloc (.cells #[.int .i64 n, .int .i64 p, .slice A0 l c0, .string o, .int .u8 x, .int .u8 y] 26)).alloc (.cells #[.int .i64 n, .int .i64 p, .slice A0 l c0] 24)).drew = V := ⟨_, rfl⟩
    have HVB : Hid (V.heap[w.heap.size + 1]? = some (.cells #[.int .i64 n, .int .i64 p, .slice A0 l c0] 24 (0, 0))) := by simp only [Hid]; rw [← hV]; exact blk_drew (blk_new (by simp))
    have HVb : Hid (Below w.heap.size w V) := by simp only [Hid]; rw [← hV]; (repeat (first | exact Below.refl _ _ | refine bel_drewN ?_ _ | refine bel_drew ?_ | refine bel_alloc ?_ _ | refine bel_set ?_ (by simp) _))
    rename_i hHeld
    clear hHeld
    rw [hV]
    clear hV
    have v0 := blk_cell (i := 0) HVB.out rfl
    have v1 := blk_cell (i := 1) HVB.out rfl
    have v2 := blk_cell (i := 2) HVB.out rfl
    have hvz := blk_lt HVB.out
    go_wp2_with (go_at_call 5; refine (HL2 _).out.mono ?_; rintro e w1 ⟨rfl, hb1⟩; have HB1 := Lib.hid (bel_chain hb1 HVb.out); clear hb1)
    refine (HA _).out.mono ?_
    rintro e w2 ⟨rfl, hb2⟩
    go_wp2_with fail
    go_ret
    exact ⟨rfl, bel_chain hb2 HB1.out⟩
  · have ho : (200 : Int) < (o.size : Int) := by have := hb rfl; omega
    clear hb
    go_enter Tryz.func3, Tryz.ntmps3
    go_wp2_with fail
    have BP := Lib.hid (blk_new (w := w) (o := .cells #[.int .i64 n, .int .i64 p, .slice A0 l c0, .string o, .int .u8 x, .int .u8 y] 26) rfl)
    have q0 := blk_cell (i := 0) BP.out rfl
    have q1 := blk_cell (i := 1) BP.out rfl
    have q2 := blk_cell (i := 2) BP.out rfl
    have q3 := blk_cell (i := 3) BP.out rfl
    have q4 := blk_cell (i := 4) BP.out rfl
    have q5 := blk_cell (i := 5) BP.out rfl
    have HS6 := fun (W' : World) (hb : Below (w.alloc (.cells #[.int .i64 n, .int .i64 p, .slice A0 l c0, .string o, .int .u8 x, .int .u8 y] 26)).heap.size (w.alloc (.cells #[.int .i64 n, .int .i64 p, .slice A0 l c0, .string o, .int .u8 x, .int .u8 y] 26)) W') => Lib.hid (show W'.cell? ⟨w.heap.size, 0, none⟩ = some (.int .i64 n) ∧ W'.cell? ⟨w.heap.size, 1, none⟩ = some (.int .i64 p) ∧ W'.cell? ⟨w.heap.size, 2, none⟩ = some (.slice A0 l c0) ∧ W'.cell? ⟨w.heap.size, 3, none⟩ = some (.string o) ∧ W'.cell? ⟨w.heap.size, 4, none⟩ = some (.int .u8 x) ∧ W'.cell? ⟨w.heap.size, 5, none⟩ = some (.int .u8 y) from ⟨cell_keep hb q0, cell_keep hb q1, cell_keep hb q2, cell_keep hb q3, cell_keep hb q4, cell_keep hb q5⟩)
    go_region_held3 (fun w' => w'.cell? ⟨w.heap.size, 0, none⟩ = some (.int .i64 n) ∧ w'.cell? ⟨w.heap.size, 1, none⟩ = some (.int .i64 p) ∧ w'.cell? ⟨w.heap.size, 2, none⟩ = some (.slice A0 l c0) ∧ w'.cell? ⟨w.heap.size, 3, none⟩ = some (.string o) ∧ w'.cell? ⟨w.heap.size, 4, none⟩ = some (.int .u8 x) ∧ w'.cell? ⟨w.heap.size, 5, none⟩ = some (.int .u8 y))
      (first | exact (HS6 _ (by (repeat (first | exact Below.refl _ _ | refine bel_drewN ?_ _ | refine bel_drew ?_ | refine bel_alloc ?_ _ | refine bel_set ?_ (by simp) _)))).out | fail)
      (fail)
    clear HS6 q0 q1 q2 q3 q4 q5 BP
    obtain ⟨V, hV⟩ : ∃ V, ((w.alloc (.cells #[.int .i64 n, .int .i64 p, .slice A0 l c0, .string o, .int .u8 x, .int .u8 y] 26)).alloc (.cells #[.int .i64 n, .int .i64 p, .slice A0 l c0] 24)).drew = V := ⟨_, rfl⟩
    have HVB : Hid (V.heap[w.heap.size + 1]? = some (.cells #[.int .i64 n, .int .i64 p, .slice A0 l c0] 24 (0, 0))) := by simp only [Hid]; rw [← hV]; exact blk_drew (blk_new (by simp))
    have HVb : Hid (Below w.heap.size w V) := by simp only [Hid]; rw [← hV]; (repeat (first | exact Below.refl _ _ | refine bel_drewN ?_ _ | refine bel_drew ?_ | refine bel_alloc ?_ _ | refine bel_set ?_ (by simp) _))
    rename_i hHeld
    clear hHeld
    rw [hV]
    clear hV
    have v0 := blk_cell (i := 0) HVB.out rfl
    have v1 := blk_cell (i := 1) HVB.out rfl
    have v2 := blk_cell (i := 2) HVB.out rfl
    have hvz := blk_lt HVB.out
    go_wp2_with (go_at_call 5; refine (HL2 _).out.mono ?_; rintro e w1 ⟨rfl, hb1⟩; have HB1 := Lib.hid (bel_chain hb1 HVb.out); clear hb1)
    refine (HA _).out.mono ?_
    rintro e w2 ⟨rfl, hb2⟩
    go_wp2_with fail
    go_ret
    exact ⟨rfl, bel_chain hb2 HB1.out⟩
set_option maxHeartbeats 4000000 in
set_option maxRecDepth 100000 in
theorem sameNo (n p : Int) (A0 : Option Addr) (c0 l : Nat) (hl : l ≤ 20) (hf : ¬ (1 ≤ n ∧ n ≤ 64 ∧ 0 ≤ p ∧ p < n)) (x y : Int) (o : ByteArray) (ho : o.size ≤ 200) (w : World) :
    Calls Tryz.prog 3 #[.agg #[.int .i64 n, .int .i64 p, .slice A0 l c0, .string o, .int .u8 x, .int .u8 y]] w fun e w' => e = .returned (.bool true) ∧ Below w.heap.size w w' := by
  have HA := fun W => Lib.hid (awake48_any W)
  have HL := fun W => Lib.hid (light_any W n p A0 l c0 (by omega))
  have e1 : lightB n p l = true := by unfold lightB; rw [decide_eq_true hl, decide_eq_false hf]; simp
  simp only [e1] at HL
  have HM := fun W => Lib.hid (made_no W n p (.slice A0 l c0) hf)
  clear hf e1
  go_enter Tryz.func3, Tryz.ntmps3
  go_wp2_with fail
  have BP := Lib.hid (blk_new (w := w) (o := .cells #[.int .i64 n, .int .i64 p, .slice A0 l c0, .string o, .int .u8 x, .int .u8 y] 26) rfl)
  have q0 := blk_cell (i := 0) BP.out rfl
  have q1 := blk_cell (i := 1) BP.out rfl
  have q2 := blk_cell (i := 2) BP.out rfl
  have q3 := blk_cell (i := 3) BP.out rfl
  have q4 := blk_cell (i := 4) BP.out rfl
  have q5 := blk_cell (i := 5) BP.out rfl
  have HS6 := fun (W' : World) (hb : Below (w.alloc (.cells #[.int .i64 n, .int .i64 p, .slice A0 l c0, .string o, .int .u8 x, .int .u8 y] 26)).heap.size (w.alloc (.cells #[.int .i64 n, .int .i64 p, .slice A0 l c0, .string o, .int .u8 x, .int .u8 y] 26)) W') => Lib.hid (show W'.cell? ⟨w.heap.size, 0, none⟩ = some (.int .i64 n) ∧ W'.cell? ⟨w.heap.size, 1, none⟩ = some (.int .i64 p) ∧ W'.cell? ⟨w.heap.size, 2, none⟩ = some (.slice A0 l c0) ∧ W'.cell? ⟨w.heap.size, 3, none⟩ = some (.string o) ∧ W'.cell? ⟨w.heap.size, 4, none⟩ = some (.int .u8 x) ∧ W'.cell? ⟨w.heap.size, 5, none⟩ = some (.int .u8 y) from ⟨cell_keep hb q0, cell_keep hb q1, cell_keep hb q2, cell_keep hb q3, cell_keep hb q4, cell_keep hb q5⟩)
  go_region_held3 (fun w' => w'.cell? ⟨w.heap.size, 0, none⟩ = some (.int .i64 n) ∧ w'.cell? ⟨w.heap.size, 1, none⟩ = some (.int .i64 p) ∧ w'.cell? ⟨w.heap.size, 2, none⟩ = some (.slice A0 l c0) ∧ w'.cell? ⟨w.heap.size, 3, none⟩ = some (.string o) ∧ w'.cell? ⟨w.heap.size, 4, none⟩ = some (.int .u8 x) ∧ w'.cell? ⟨w.heap.size, 5, none⟩ = some (.int .u8 y))
    (first | exact (HS6 _ (by (repeat (first | exact Below.refl _ _ | refine bel_drewN ?_ _ | refine bel_drew ?_ | refine bel_alloc ?_ _ | refine bel_set ?_ (by simp) _)))).out | fail)
    (fail)
  clear HS6 q0 q1 q2 q3 q4 q5 BP
  obtain ⟨V, hV⟩ : ∃ V, ((w.alloc (.cells #[.int .i64 n, .int .i64 p, .slice A0 l c0, .string o, .int .u8 x, .int .u8 y] 26)).alloc (.cells #[.int .i64 n, .int .i64 p, .slice A0 l c0] 24)).drew = V := ⟨_, rfl⟩
  have HVB : Hid (V.heap[w.heap.size + 1]? = some (.cells #[.int .i64 n, .int .i64 p, .slice A0 l c0] 24 (0, 0))) := by simp only [Hid]; rw [← hV]; exact blk_drew (blk_new (by simp))
  have HVb : Hid (Below w.heap.size w V) := by simp only [Hid]; rw [← hV]; (repeat (first | exact Below.refl _ _ | refine bel_drewN ?_ _ | refine bel_drew ?_ | refine bel_alloc ?_ _ | refine bel_set ?_ (by simp) _))
  rename_i hHeld
  clear hHeld
  rw [hV]
  clear hV
  have v0 := blk_cell (i := 0) HVB.out rfl
  have v1 := blk_cell (i := 1) HVB.out rfl
  have v2 := blk_cell (i := 2) HVB.out rfl
  have hvz := blk_lt HVB.out
  go_wp2_with ((first | (go_at_call 5; refine (HL _).out.mono ?_; rintro e w1 ⟨rfl, hb1⟩; have BB := Lib.hid (blk_keep hb1 HVB.out); have z0 := blk_cell (i := 0) BB.out rfl; have z1 := blk_cell (i := 1) BB.out rfl; have z2 := blk_cell (i := 2) BB.out rfl; have hz := blk_lt BB.out; have HB1 := Lib.hid (bel_chain hb1 HVb.out); clear hb1) | (go_at_call 7; refine (HM _).out.mono ?_; rintro e w2 ⟨rfl, hb2⟩; have HB2 := Lib.hid (bel_chain hb2 HB1.out); clear hb2)))
  refine (HA _).out.mono ?_
  rintro e w3 ⟨rfl, hb3⟩
  go_wp2_with fail
  go_ret
  exact ⟨rfl, bel_chain hb3 HB2.out⟩
theorem tierSame_any (n p : Int) (A0 : Option Addr) (c0 : Nat) (os : List (Int × Bool)) (o : ByteArray) (x y : Int) (w : World) (hs : SpG encO 2 w A0 c0 os) (hl : os.length ≤ 9223372036854775807) (hx : 0 ≤ x ∧ x ≤ 255) (hy : 0 ≤ y ∧ y ≤ 255) :
    Calls Tryz.prog 3 #[.agg #[.int .i64 n, .int .i64 p, .slice A0 os.length c0, .string o, .int .u8 x, .int .u8 y]] w fun e w' => e = .returned (.bool true) ∧ Below w.heap.size w w' := by
  by_cases h1 : os.length ≤ 20
  · cases hb : lightB n p os.length with
    | false => exact sameDark n p A0 c0 os.length x y o w false (fun h => by cases h) (fun W => by have := light_any W n p A0 os.length c0 (by omega); rw [hb] at this; exact this)
    | true =>
      by_cases h2 : 200 < o.size
      · exact sameDark n p A0 c0 os.length x y o w true (fun _ => h2) (fun W => by have := light_any W n p A0 os.length c0 (by omega); rw [hb] at this; exact this)
      · by_cases hf : 1 ≤ n ∧ n ≤ 64 ∧ 0 ≤ p ∧ p < n
        · have h8 := (lightB_fits hb hf).2
          obtain ⟨N, rfl⟩ : ∃ N : Nat, n = (N : Int) := ⟨n.toNat, by omega⟩
          obtain ⟨P, rfl⟩ : ∃ P : Nat, p = (P : Int) := ⟨p.toNat, by omega⟩
          obtain ⟨l, rfl, hol⟩ := ba_listL o
          exact sameWalk w N P (by omega) (by omega) (by omega) (by omega) A0 c0 os h1 hs l (by omega) x y hx hy
        · exact sameNo n p A0 c0 os.length h1 hf x y o (by omega) w
  · exact sameDark n p A0 c0 os.length x y o w false (fun h => by cases h) (fun W => light_long W n p A0 os.length c0 (by omega) hl)
end Go.Proofs.YtnlamjebgkgbaaaGreatDoor
