/- The document's Parent of an object. The law's made, at numbers that fit. A tier that stays: its calls one by one; and what shape.Fail tells of 404. The walk of TierDeals: the tier and the document's tier say the same. TierDeals answers true whatever comes in. -/
import Derived.Test.YtnlamjebgkgbaaaDoorJTierDeals26
import Derived.Test.YtnlamjebgkgbaaaDoorJTierDeals6
namespace Go.Proofs.YtnlamjebgkgbaaaDoor
open Go.RowKit Go.Shelf Go.Sort

/-- Who is first of those that are up; -1: nobody. -/
def firstR (up : Nat → Bool) (Qs : List Nat) : Int := match Qs.find? up with
  | some q => (q : Int)
  | none => -1
def RParPost (w : World) (h ch p : Nat) (up : Nat → Bool) (e : Ending) (w' : World) : Prop :=
  ∃ Qs : List Nat, (∀ q, q ∈ Qs ↔ ch ≤ q ∧ q < ch + p) ∧ (Qs.map nmL).Pairwise (selLe h) ∧ e = .returned (.int .i64 (firstR up Qs)) ∧ Below w.heap.size w w'
theorem firstR_at {up : Nat → Bool} {Qs : List Nat} {k : Nat} (hk : k < Qs.length) (h : ∀ q ∈ Qs.take k, up q = false) (hu : up Qs[k] = true) : firstR up Qs = (Qs[k] : Int) := by
  have : Qs.find? up = some Qs[k] := by
    rw [List.find?_eq_some_iff_getElem]
    refine ⟨hu, k, hk, rfl, fun j hj => ?_⟩
    have := h Qs[j] (by rw [List.mem_take_iff_getElem]; exact ⟨j, by omega, rfl⟩)
    simp [this]
  unfold firstR; rw [this]
theorem firstR_no {up : Nat → Bool} {Qs : List Nat} (h : ∀ q ∈ Qs, up q = false) : firstR up Qs = -1 := by
  have : Qs.find? up = none := by rw [List.find?_eq_none]; intro q hq; simp [h q hq]
  unfold firstR; rw [this]
theorem up_next {up : Nat → Bool} {Qs : List Nat} {k : Nat} (hk : k < Qs.length) (h : ∀ q ∈ Qs.take k, up q = false) (hu : up Qs[k] = false) : ∀ q ∈ Qs.take (k + 1), up q = false := by
  intro q hq
  rw [List.take_succ_eq_append_getElem hk, List.mem_append] at hq
  rcases hq with hq | hq
  · exact h q hq
  · simp at hq; rw [hq]; exact hu
theorem names_get {ch p i : Nat} (h : i < p) : (namesL ch p).getD i [] = nmL (ch + i) := by unfold namesL; simp [List.getD, h]
theorem names_len100 {ch p : Nat} (h : ch + p ≤ 100) : ∀ l ∈ namesL ch p, l.length ≤ 100 := by
  intro l hl
  unfold namesL at hl
  obtain ⟨i, hi, rfl⟩ := List.mem_map.1 hl
  exact (nmL_ok (by have := List.mem_range.1 hi; omega)).2.1
/-- The names in the order of the selection, and who bears them. -/
theorem own_names {h ch p : Nat} {I : List Nat} (hI : SelOk h (namesL ch p) I) (hl : I.length = (namesL ch p).length) :
    ∃ Qs : List Nat, (I.map fun i => (namesL ch p).getD i []) = Qs.map nmL ∧ (∀ q, q ∈ Qs ↔ ch ≤ q ∧ q < ch + p) ∧ (Qs.map nmL).Pairwise (selLe h) := by
  obtain ⟨_, h2, h3⟩ := sel_parents hI (by rw [hl, namesL_len])
  refine ⟨I.map fun i => ch + i, ?_, h2, h3⟩
  rw [List.map_map]
  apply List.map_congr_left
  intro i hi
  have := hI.lt i hi
  rw [namesL_len] at this
  exact names_get this
theorem up_get {up : Nat → Bool} {Qs : List Nat} {k q : Nat} (hk : k < Qs.length) (e : Qs[k] = q) (h : ∀ q ∈ Qs.take k, up q = false) :
    (up q = true → firstR up Qs = (q : Int)) ∧ (up q = false → ∀ q ∈ Qs.take (k + 1), up q = false) := by
  subst e
  exact ⟨firstR_at hk h, up_next hk h⟩
set_option maxHeartbeats 4000000 in
set_option maxRecDepth 100000 in
theorem rparent_any {w : World} {X n pn : Nat} {G : List Int} {A : Option Addr} {c : Nat} (h : RTierAt w X n pn G A c) (hn : n ≤ 64) (hp : pn ≤ n) (hG : G.length ≤ 1000) (o : List UInt8) (ho : o.length ≤ 100000) (q : Nat) (hq : q < n - pn) :
    Calls Tryd.prog 11 #[.pointer (some ⟨X, 0, none⟩), .int .i64 (q : Int), .string ⟨o.toArray⟩] w (RParPost w (hashN o) (n - pn) pn (fun q : Nat => upR n (n - pn) G (q : Int))) := by
  have HT := Lib.hid h
  have x0 := blk_cell (i := 0) h.blk rfl
  have x1 := blk_cell (i := 1) h.blk rfl
  have xz := blk_lt h.blk
  have HU := fun W (h : RTierAt W X n pn G A c) q => Lib.hid (up_any h hn hp hG q)
  have HOW := fun W base y (Ns : List (List UInt8)) A c (h : RRing W base y Ns A c) h1 h2 => Lib.hid (owners40_any h o ho h1 h2)
  obtain ⟨ch, hch⟩ : ∃ ch : Nat, n - pn = ch := ⟨_, rfl⟩
  have hc2 : (n : Int) - (pn : Int) = (ch : Int) := by omega
  have hcn : n ≤ ch + pn ∧ ch + pn ≤ n := by omega
  have wch : IntKind.i64.wrap (ch : Int) = (ch : Int) := IntWalk.i64_in _ (by omega)
  rw [hch] at HU hq ⊢
  have j1 : ¬ (q : Int) < 0 := by omega
  have j2 : decide ((ch : Int) ≤ (q : Int)) = false := decide_eq_false (by omega)
  have j3 : decide (ch ≤ q) = false := decide_eq_false (by omega)
  clear h hch
  obtain ⟨up, hup⟩ : ∃ up : Nat → Bool, (fun q : Nat => upR n ch G (q : Int)) = up := ⟨_, rfl⟩
  have HUQ := Lib.hid (show ∀ q : Nat, upR n ch G (q : Int) = up q from fun q => congrFun hup q)
  rw [hup]
  clear hup
  go_enter Tryd.func11, Tryd.ntmps11
  go_wp2_with fail
  go_quiet (fail)
  go_wp2_with fail
  obtain ⟨V, hV⟩ : ∃ V, (w.drewN nq).alloc (.cells #[.int .i64 16, .slice none 0 0] 78) = V := ⟨_, rfl⟩
  have hVR : RRing V w.heap.size w.heap.size [] none 0 := by rw [← hV]; exact ⟨blk_new rfl, OwnG.nil _ _⟩
  have HVb : Hid (Below w.heap.size w V) := by simp only [Hid]; rw [← hV]; (repeat (first | exact Below.refl _ _ | refine bel_drewN ?_ _ | refine bel_drew ?_ | refine bel_alloc ?_ _ | refine bel_set ?_ (by simp) _))
  rw [hV]
  clear hV x0 x1 xz
  have HTV := Lib.hid (HT.out.below HVb.out)
  have x0 := blk_cell (i := 0) HTV.out.blk rfl
  have x1 := blk_cell (i := 1) HTV.out.blk rfl
  have HVR := Lib.hid hVR
  clear hVR
  go_quiet (fail)
  go_wp2_with fail
  go_loopw [8] (fun sp wr => ∃ (k p : Nat) (A : Option Addr) (c : Nat), k ≤ pn ∧ p = ch + k ∧ sp = .int .i64 (p : Int) ∧ RRing wr w.heap.size w.heap.size (namesL ch k) A c ∧ Below w.heap.size w wr) (fun sp _ => n - (intOf sp).toNat)
  case atStart => exact ⟨0, ch, none, 0, Nat.zero_le _, rfl, rfl, ⟨blk_drewN HVR.out.blk, HVR.out.own⟩, bel_drewN HVb.out _⟩
  case round =>
    obtain ⟨k, p, A2, c2, hk, hpk, rfl, hro, hb⟩ := hrel
    have HRO := Lib.hid hro
    have HB := Lib.hid hb
    have HTr := Lib.hid (HT.out.below hb)
    have y0 := blk_cell (i := 0) HTr.out.blk rfl
    have y1 := blk_cell (i := 1) HTr.out.blk rfl
    have yz := blk_lt HTr.out.blk
    clear hro hb
    by_cases hlt : k < pn
    · have hpn : (p : Int) < (n : Int) := by omega
      have HQ : Hid (p + 1 = ch + (k + 1)) := by simp only [Hid]; omega
      have HNS : Hid (namesL ch (k + 1) = namesL ch k ++ [nmL p]) := by simp only [Hid]; rw [hpk]; exact namesL_succ ch k
      have HD := fun W => Lib.hid (digits2_any p (by omega) W)
      have hc1 : ∀ W, (Op.stringOp .add ⟨#[112]⟩ ⟨(Lib.decDigits p).toArray⟩).run Tryd.prog W = .ok (.string ⟨(nmL p).toArray⟩) W := catRun (a := [112]) (b := Lib.decDigits p) (by have := dec_len2 (i := p) (by omega); simp; omega)
      have HA := fun W (h : RRing W w.heap.size w.heap.size (namesL ch k) A2 c2) (hb : Below w.heap.size w W) => Lib.hid (add40_any h (Nat.le_refl _) hb (nmL p) (nmL_ok (by omega)) (by rw [hpk]; exact namesL_new ch k) (by rw [namesL_len]; omega))
      obtain ⟨nl, hnl⟩ : ∃ nl, nmL p = nl := ⟨_, rfl⟩
      rw [hnl] at hc1 HA HNS
      generalize Lib.decDigits p = dg at HD hc1
      clear hpk hnl
      go_wp2_with ((first
        | (go_at_call 23; refine (HD _).out.mono ?_; rintro e w3 ⟨rfl, hb3⟩; have HRO3 := Lib.hid (HRO.out.below hb3); have HB3 := Lib.hid (bel_chain hb3 HB.out); clear hb3)
        | (go_at_call 22; refine (HA _ HRO3.out HB3.out).out.mono ?_; rintro e w4 ⟨rfl, A4, c4, hro4, hb4⟩)))
      go_roundw
      case rel => exact ⟨k + 1, p + 1, A4, c4, by omega, HQ.out, by go_num, by rw [HNS.out]; exact hro4, hb4⟩
      case measure => simp [intOf]; omega
    · have hkp : k = pn := by omega
      subst hkp
      have hpn : ¬ (p : Int) < (n : Int) := by omega
      have HO := fun W h => Lib.hid ((HOW W w.heap.size w.heap.size (namesL ch k) A2 c2 h (names_len100 (by omega)) (by rw [namesL_len]; omega)).out)
      clear HOW
      go_wp2_with fail
      refine (HO _ HRO.out).out.mono ?_
      rintro e w5 ⟨I, A5, c5, rfl, hok, hIl, hsp, hb5⟩
      have HB5 := Lib.hid (bel_chain hb5 HB.out)
      have HT5 := Lib.hid (HT.out.below HB5.out)
      obtain ⟨Qs, hQe, hQm, hQp⟩ := own_names hok hIl
      rw [hQe] at hsp ⊢
      have HQM := Lib.hid hQm
      have HQP := Lib.hid hQp
      have HSP := Lib.hid hsp
      have hQl : (Qs.map nmL).length = Qs.length := List.length_map ..
      rw [hQl]
      have hQl2 : Qs.length ≤ 1000000 := by
        have h1 : (Qs.map nmL).length = k := by rw [← hQe, List.length_map, hIl, namesL_len]
        rw [hQl] at h1; omega
      clear hQe hQm hQp hok hIl hsp hb5 HO HRO HB HTr hQl y0 y1 yz x0 x1 HTV HVR
      go_wp2_with fail
      go_loopw [10, 11, 55] (fun _ _ si wr => ∃ m : Nat, m ≤ Qs.length ∧ si = .int .i64 (m : Int) ∧ (∀ q ∈ Qs.take m, up q = false) ∧ Below w5.heap.size w5 wr) (fun _ _ si _ => Qs.length - (intOf si).toNat)
      case atStart => exact ⟨0, Nat.zero_le _, rfl, by simp, Below.refl _ _⟩
      case round =>
        obtain ⟨m, hm, rfl, hno, hb⟩ := hrel
        have HNO := Lib.hid hno
        have HB := Lib.hid hb
        have HTr := Lib.hid (HT5.out.below hb)
        have y0 := blk_cell (i := 0) HTr.out.blk rfl
        have y1 := blk_cell (i := 1) HTr.out.blk rfl
        have yz := blk_lt HTr.out.blk
        clear hno hb
        obtain ⟨ws, hws⟩ : ∃ ws, ws = wr := ⟨_, rfl⟩
        subst hws
        by_cases hlt2 : m < Qs.length
        · obtain ⟨b, off, e, hbl, hc⟩ := (HSP.out.below HB.out).at' m (by simpa using hlt2)
          rw [List.getElem_map] at hc
          have hq0 := (HQM.out Qs[m]).1 (List.getElem_mem hlt2)
          obtain ⟨q0, hqe⟩ : ∃ q0, Qs[m] = q0 := ⟨_, rfl⟩
          have HG := up_get hlt2 hqe HNO.out
          have HG1 := Lib.hid HG.1
          have HG2 := Lib.hid HG.2
          rw [hqe] at hc hq0
          obtain ⟨hq1, hq2⟩ := hq0
          have c1 : ws.cell? ⟨b, off + m, none⟩ = some (.string ⟨(nmL q0).toArray⟩) := by simpa using hc 0 _ rfl
          clear hc hqe HG HNO
          subst e
          go_wp2_with fail
          go_quiet (fail)
          go_wp2_with fail
          go_loopw [11] (fun sp wi => ∃ (j p : Nat), j ≤ k ∧ p = ch + j ∧ sp = .int .i64 (p : Int) ∧ (p ≤ q0 ∨ up q0 = false) ∧ Below w5.heap.size w5 wi) (fun sp _ => n - (intOf sp).toNat)
          case atStart => exact ⟨0, ch, Nat.zero_le _, rfl, rfl, .inl hq1, bel_drewN HB.out _⟩
          case round =>
            clear HTr y0 y1 yz c1
            obtain ⟨j, p, hj, hpj, rfl, hor, hb⟩ := hrel
            have HBi := Lib.hid hb
            have HTi := Lib.hid (HT5.out.below hb)
            have y0 := blk_cell (i := 0) HTi.out.blk rfl
            have y1 := blk_cell (i := 1) HTi.out.blk rfl
            have yz := blk_lt HTi.out.blk
            clear hb
            by_cases hltj : j < k
            · have hpn : (p : Int) < (n : Int) := by omega
              have HD := fun W => Lib.hid (digits2_any p (by omega) W)
              have hc1 : ∀ W, (Op.stringOp .add ⟨#[112]⟩ ⟨(Lib.decDigits p).toArray⟩).run Tryd.prog W = .ok (.string ⟨(nmL p).toArray⟩) W := catRun (a := [112]) (b := Lib.decDigits p) (by have := dec_len2 (i := p) (by omega); simp; omega)
              have HQ : Hid (p + 1 = ch + (j + 1)) := by simp only [Hid]; omega
              have HUp := fun W h => Lib.hid ((HU W h (p : Int)).out)
              simp only [HUQ.out] at HUp
              clear hpj
              by_cases hqp : q0 = p
              · have heq : (nmL q0 == nmL p) = true := by rw [hqp, beq_iff_eq]
                obtain ⟨n1, hn1⟩ : ∃ x, nmL q0 = x := ⟨_, rfl⟩
                obtain ⟨n2, hn2⟩ : ∃ x, nmL p = x := ⟨_, rfl⟩
                rw [hn1, hn2] at heq
                rw [hn1]
                rw [hn2] at hc1
                generalize Lib.decDigits p = dg at HD hc1
                clear hn1 hn2 hor
                rw [hqp] at HG1 HG2
                cases hu : up p
                · rw [hu] at HUp
                  have HG3 := Lib.hid hu
                  have HG4 : Hid (p + 1 ≤ q0 ∨ up q0 = false) := by simp only [Hid]; right; rw [hqp]; exact hu
                  clear hu hqp
                  go_wp2_with ((first
                    | (go_at_call 23; refine (HD _).out.mono ?_; rintro e w6 ⟨rfl, hb6⟩; have HT6 := Lib.hid (HTi.out.below hb6); have HB6 := Lib.hid (bel_chain hb6 HBi.out); clear hb6)
                    | (go_at_call 25; refine (HUp _ HT6.out).out.mono ?_; rintro e w7 ⟨rfl, hb7⟩; have HB7 := Lib.hid (bel_chain hb7 HB6.out); clear hb7)))
                  go_roundw
                  case rel => exact ⟨j + 1, p + 1, by omega, HQ.out, by go_num, HG4.out, HB7.out⟩
                  case measure => simp [intOf]; omega
                · rw [hu] at HUp
                  have HF := Lib.hid (HG1.out hu)
                  clear hu hqp
                  go_wp2_with ((first
                    | (go_at_call 23; refine (HD _).out.mono ?_; rintro e w6 ⟨rfl, hb6⟩; have HT6 := Lib.hid (HTi.out.below hb6); have HB6 := Lib.hid (bel_chain hb6 HBi.out); clear hb6)
                    | (go_at_call 25; refine (HUp _ HT6.out).out.mono ?_; rintro e w7 ⟨rfl, hb7⟩; have HB7 := Lib.hid (bel_chain hb7 HB6.out); clear hb7)))
                  go_ret
                  exact ⟨Qs, HQM.out, HQP.out, ret_int HF.out.symm, bel_chain HB7.out HB5.out⟩
              · have heq : (nmL q0 == nmL p) = false := by rw [beq_eq_false_iff_ne]; exact fun h => hqp (nmL_inj h)
                have HG4 : Hid (p + 1 ≤ q0 ∨ up q0 = false) := by simp only [Hid]; rcases hor with h | h; exact .inl (by omega); exact .inr h
                obtain ⟨n1, hn1⟩ : ∃ x, nmL q0 = x := ⟨_, rfl⟩
                obtain ⟨n2, hn2⟩ : ∃ x, nmL p = x := ⟨_, rfl⟩
                rw [hn1, hn2] at heq
                rw [hn1]
                rw [hn2] at hc1
                generalize Lib.decDigits p = dg at HD hc1
                clear hn1 hn2 hor hqp
                go_wp2_with (go_at_call 23; refine (HD _).out.mono ?_; rintro e w6 ⟨rfl, hb6⟩; have HB6 := Lib.hid (bel_chain hb6 HBi.out); clear hb6)
                go_roundw
                case rel => exact ⟨j + 1, p + 1, by omega, HQ.out, by go_num, HG4.out, HB6.out⟩
                case measure => simp [intOf]; omega
            · have hu : up q0 = false := by rcases hor with h | h; omega; exact h
              have HF := Lib.hid (HG2.out hu)
              have hpn : ¬ (p : Int) < (n : Int) := by omega
              clear hor hu hpj
              go_wp2_with fail
              go_roundw
              case rel => exact ⟨m + 1, by omega, by go_num, HF.out, HBi.out⟩
              case measure => simp [intOf]; omega
        · have HF : Hid (firstR up Qs = -1) := by simp only [Hid]; exact firstR_no (by have := HNO.out; rw [List.take_of_length_le (by omega)] at this; exact this)
          clear HNO
          go_wp2_with fail
          go_ret
          exact ⟨Qs, HQM.out, HQP.out, ret_int HF.out.symm, bel_chain HB.out HB5.out⟩
theorem rparent_no {w : World} {X n pn : Nat} {G : List Int} {A : Option Addr} {c : Nat} (h : RTierAt w X n pn G A c) (hn : n ≤ 64) (hp : pn ≤ n) (s : ByteArray) (q : Int) (hq : q < 0 ∨ ((n - pn : Nat) : Int) ≤ q) :
    Calls Tryd.prog 11 #[.pointer (some ⟨X, 0, none⟩), .int .i64 q, .string s] w fun e w' => e = .returned (.int .i64 (-1)) ∧ Below w.heap.size w w' := by
  have x0 := blk_cell (i := 0) h.blk rfl
  have x1 := blk_cell (i := 1) h.blk rfl
  have xz := blk_lt h.blk
  obtain ⟨ch, hch⟩ : ∃ ch : Nat, n - pn = ch := ⟨_, rfl⟩
  have hc2 : (n : Int) - (pn : Int) = (ch : Int) := by omega
  have wch : IntKind.i64.wrap (ch : Int) = (ch : Int) := IntWalk.i64_in _ (by omega)
  rw [hch] at hq
  clear h hch
  by_cases h0 : q < 0
  · go_enter Tryd.func11, Tryd.ntmps11
    go_wp2_with fail
    go_quiet (fail)
    go_wp2_with fail
    go_ret
    exact ⟨rfl, by (repeat (first | exact Below.refl _ _ | refine bel_drewN ?_ _ | refine bel_drew ?_ | refine bel_alloc ?_ _ | refine bel_set ?_ (by simp) _))⟩
  · have j1 : decide (q < 0) = false := decide_eq_false h0
    have j2 : (ch : Int) ≤ q := by omega
    clear hq
    go_enter Tryd.func11, Tryd.ntmps11
    go_wp2_with fail
    go_quiet (fail)
    go_wp2_with fail
    go_ret
    exact ⟨rfl, by (repeat (first | exact Below.refl _ _ | refine bel_drewN ?_ _ | refine bel_drew ?_ | refine bel_alloc ?_ _ | refine bel_set ?_ (by simp) _))⟩
end Go.Proofs.YtnlamjebgkgbaaaDoor
namespace Go.Proofs.YtnlamjebgkgbaaaDoor
open Go.RowKit Go.Shelf Go.Sort

def MadePost (w : World) (n p : Nat) (os : List (Int × Bool)) (e : Ending) (w' : World) : Prop :=
  ∃ t r d L nm A c X A' c', e = .returned (.tuple #[.pointer (some ⟨t, 0, none⟩), .pointer (some ⟨X, 0, none⟩), .bool true]) ∧ TierAt w' w.heap.size t n (n - p) r d L p nm A c (foldD n (n - p) [] os) ∧ L.Perm (allPts (n - p) p) ∧ L.Pairwise ptLe ∧ RTierAt w' X n p (foldG n (n - p) [] os) A' c' ∧ Below w.heap.size w w'
theorem foldD_step {n ch k : Nat} {os : List (Int × Bool)} {D : List (Int × Bool)} (h : k < os.length) : foldD n ch D (os.take (k + 1)) = if inR n ch os[k].1 then turnD (foldD n ch D (os.take k)) os[k].1 os[k].2 else foldD n ch D (os.take k) := by
  unfold foldD; rw [List.take_succ_eq_append_getElem h, List.foldl_append]; rfl
theorem foldG_step {n ch k : Nat} {os : List (Int × Bool)} {G : List Int} (h : k < os.length) : foldG n ch G (os.take (k + 1)) = if inR n ch os[k].1 then goneL (foldG n ch G (os.take k)) os[k].1 os[k].2 else foldG n ch G (os.take k) := by
  unfold foldG; rw [List.take_succ_eq_append_getElem h, List.foldl_append]; rfl
/-- A tier beside the reference's, and an operation in its box. -/
structure St (w0 : World) (t n ch r d : Nat) (L : List Pt) (m : Nat) (nm : Option Nat) (A : Option Addr) (c X p b : Nat) (q : Int) (dn : Bool) (D : List (Int × Bool)) (G : List Int) (W : World) : Prop where
  t : TierAt W w0.heap.size t n ch r d L m nm A c D
  r : ∃ A' c', RTierAt W X n p G A' c'
  blk : W.heap[b]? = some (.cells #[.int .i64 q, .bool dn] 63 (0, 0))
  hb : Below w0.heap.size w0 W
  hX : w0.heap.size ≤ X
/-- What both answer. -/
def rcI (n ch : Nat) (q : Int) : Int := if inR n ch q then 0 else 1
section
variable {w0 : World} {t n ch r d : Nat} {L : List Pt} {m : Nat} {nm : Option Nat} {A : Option Addr} {c X p b : Nat} {q : Int} {dn : Bool} {D : List (Int × Bool)} {G : List Int} {W : World}
theorem St.below {W' : World} (h : St w0 t n ch r d L m nm A c X p b q dn D G W) (hb : Below W.heap.size W W') : St w0 t n ch r d L m nm A c X p b q dn D G W' :=
  ⟨h.t.below hb, h.r.imp fun _ ⟨c', h'⟩ => ⟨c', h'.below hb⟩, blk_keep hb h.blk, bel_chain hb h.hb, h.hX⟩
theorem bel_grown {w w1 w2 : World} {X : Nat} (h : Below w.heap.size w w1) (hg : w1.grownBy w2 (some X)) (hX : w.heap.size ≤ X) : Below w.heap.size w w2 :=
  ⟨hg.os.trans h.os, hg.tape.trans h.tape, hg.output.trans h.output, Nat.le_trans h.size hg.size, fun k hk => (hg.block k (Nat.lt_of_lt_of_le hk h.size) (fun e => by injection e with e; omega)).trans (h.block k hk)⟩
theorem St.down (h : St w0 t n ch r d L m nm A c X p b q dn D G W) :
    Calls Tryd.prog 10 #[.pointer (some ⟨t, 0, none⟩), .int .i64 q, .bool dn] W fun e w' => e = .returned (.int .i64 (rcI n ch q)) ∧ St w0 t n ch r d L m nm A c X p b q dn (if inR n ch q then turnD D q dn else D) G w' := by
  refine (down_any h.t q dn).mono fun e w' hp => ?_
  unfold DownPost at hp
  unfold rcI
  by_cases hin : inR n ch q
  · rw [if_pos (show (ch : Int) ≤ q ∧ q < (n : Int) from hin)] at hp
    rw [if_pos hin, if_pos hin]
    obtain ⟨rfl, ⟨o, rfl⟩, ht⟩ := hp
    refine ⟨rfl, ht, ?_, blk_with h.blk (h.t.down.ne_cells h.blk), bel_with h.hb h.t.bd o, h.hX⟩
    obtain ⟨A', c', hr⟩ := h.r
    exact ⟨A', c', hr.withMap h.t.down o⟩
  · rw [if_neg (show ¬ ((ch : Int) ≤ q ∧ q < (n : Int)) from hin)] at hp
    rw [if_neg hin, if_neg hin]
    obtain ⟨rfl, rfl⟩ := hp
    exact ⟨rfl, h⟩
theorem St.rdown (h : St w0 t n ch r d L m nm A c X p b q dn D G W) (hn : n ≤ 64) (hp : p ≤ n) (hch : n - p = ch) (hG : G.length ≤ 1000) :
    Calls Tryd.prog 18 #[.pointer (some ⟨X, 0, none⟩), .int .i64 q, .bool dn] W fun e w' => e = .returned (.int .i64 (rcI n ch q)) ∧ St w0 t n ch r d L m nm A c X p b q dn D (if inR n ch q then goneL G q dn else G) w' := by
  obtain ⟨A0, c0, hr⟩ := h.r
  refine (rdown_any hr hn hp hG q dn).mono fun e w' hp' => ?_
  unfold RDownPost at hp'
  unfold rcI
  have ec : (n : Int) - (p : Int) = (ch : Int) := by omega
  rw [ec] at hp'
  by_cases hin : inR n ch q
  · rw [if_pos (show (ch : Int) ≤ q ∧ q < (n : Int) from hin)] at hp'
    rw [if_pos hin, if_pos hin]
    obtain ⟨rfl, hr2, hg⟩ := hp'
    refine ⟨rfl, h.t.grX hr hg, hr2, blk_grX h.blk hg (fun e => ?_), bel_grown h.hb hg h.hX, h.hX⟩
    have := h.blk; rw [e, hr.blk] at this; injection this with this; injection this with _ h2; exact absurd h2 (by decide)
  · rw [if_neg (show ¬ ((ch : Int) ≤ q ∧ q < (n : Int)) from hin)] at hp'
    rw [if_neg hin, if_neg hin]
    obtain ⟨rfl, hb⟩ := hp'
    exact ⟨rfl, h.below hb⟩
end
set_option maxHeartbeats 4000000 in
theorem made_any (w : World) (n p : Nat) (hn : 1 ≤ n) (hn2 : n ≤ 64) (hp : p < n) (hp8 : p ≤ 8) (A0 : Option Addr) (c0 : Nat) (os : List (Int × Bool)) (hos : os.length ≤ 20) (hs : SpG encO 2 w A0 c0 os) :
    Calls Tryd.prog 7 #[.agg #[.int .i64 n, .int .i64 p, .slice A0 os.length c0]] w (MadePost w n p os) := by
  have HN := fun W => Lib.hid (new_any W n p hn hn2 hp hp8)
  have HF := fun W => Lib.hid (fits_any (n : Int) (p : Int) W)
  simp only [decide_eq_true (by omega : 1 ≤ (n : Int) ∧ (n : Int) ≤ 64 ∧ 0 ≤ (p : Int) ∧ (p : Int) < (n : Int))] at HF
  have HS := Lib.hid hs
  clear hs
  go_enter Tryd.func7, Tryd.ntmps7
  go_wp2_with ((first | (go_at_call 17; refine (HN _).out.mono ?_; rintro e w1 ⟨t, r, d, L, nm, A, c, rfl, ht, hpm, hpw, hb1⟩; have BB := Lib.hid (blk_keep hb1 (blk_new rfl)); have z0 := blk_cell (i := 0) BB.out rfl; have z1 := blk_cell (i := 1) BB.out rfl; have z2 := blk_cell (i := 2) BB.out rfl; have hz := blk_lt BB.out; have HT1 := Lib.hid ht; have HB1 := Lib.hid hb1; have HPM := Lib.hid hpm; have HPW := Lib.hid hpw; clear ht hb1 hpm hpw) | (go_at_call 15; refine (HF _).out.mono ?_; rintro e w2 ⟨rfl, rfl⟩)))
  obtain ⟨X, hX⟩ : ∃ X, w2.heap.size = X := ⟨_, rfl⟩
  have HXX : Hid (w.heap.size ≤ X) := by simp only [Hid]; rw [← hX]; exact (bel_chain HB1.out (bel_alloc (Below.refl _ _) _)).size
  have HX : Hid (RTierAt (w2.alloc (.cells #[.int .i64 (n : Int), .int .i64 (p : Int), .slice none 0 0] 61)) X n p [] none 0) := ⟨blk_new hX.symm, SpG.nil _, by simp [Value.ownBlock]⟩
  obtain ⟨V, hV⟩ : ∃ V, w2.alloc (.cells #[.int .i64 (n : Int), .int .i64 (p : Int), .slice none 0 0] 61) = V := ⟨_, rfl⟩
  have HVb : Hid (Below w.heap.size w V) := by subst hV; exact bel_alloc (bel_chain HB1.out (bel_alloc (Below.refl _ _) _)) _
  have HTV : Hid (TierAt V w.heap.size t n (n - p) r d L (n - (n - p)) nm A c []) := by
    have := HT1.out.below (bel_alloc (Below.refl _ _) (.cells #[.int .i64 (n : Int), .int .i64 (p : Int), .slice none 0 0] 61))
    rw [hV] at this
    exact Lib.hid ⟨this.blk, this.ring, this.down, Nat.le_trans (by simp) this.bd, this.nd⟩
  have HSV : Hid (SpG encO 2 V A0 c0 os) := Lib.hid (HS.out.below HVb.out)
  rw [hV] at HX
  rw [hX, hV]
  clear hX hV BB z0 z1 z2 hz HT1 HB1 HSV HN HF
  go_loopw [9, 45] (fun _ si wr => ∃ (k : Nat) (A' : Option Addr) (c' : Nat), k ≤ os.length ∧ si = .int .i64 k ∧ TierAt wr w.heap.size t n (n - p) r d L (n - (n - p)) nm A c (foldD n (n - p) [] (os.take k)) ∧ RTierAt wr X n p (foldG n (n - p) [] (os.take k)) A' c' ∧ Below w.heap.size w wr) (fun _ si _ => os.length - (intOf si).toNat)
  case atStart => exact ⟨0, none, 0, Nat.zero_le _, rfl, HTV.out, HX.out, HVb.out⟩
  case round =>
    obtain ⟨k, A', c', hk, rfl, ht, hr, hb⟩ := hrel
    have HT := Lib.hid ht
    have HR := Lib.hid hr
    have HB := Lib.hid hb
    clear ht hr hb
    by_cases hlt : k < os.length
    · obtain ⟨b, off, e, hbl, hc⟩ := (HS.out.below HB.out).at' k hlt
      have HD2 := Lib.hid (foldD_step (n := n) (ch := n - p) (D := []) hlt)
      have HG2 := Lib.hid (foldG_step (n := n) (ch := n - p) (G := []) hlt)
      obtain ⟨q, dn, hq⟩ : ∃ q dn, os[k] = (q, dn) := ⟨_, _, rfl⟩
      rw [hq] at hc HD2 HG2
      have c1 : wr.cell? ⟨b, off + k * 2, none⟩ = some (.int .i64 q) := by simpa using hc 0 _ rfl
      have c2 : wr.cell? ⟨b, off + k * 2 + 1, none⟩ = some (.bool dn) := hc 1 _ rfl
      clear hc hq
      subst e
      have hgl : (foldG n (n - p) [] (os.take k)).length ≤ 1000 := by
        have := foldG_len n (n - p) (os.take k) []
        rw [List.length_take] at this; simp at this; omega
      obtain ⟨DD, hDD⟩ : ∃ DD, foldD n (n - p) [] (os.take k) = DD := ⟨_, rfl⟩
      obtain ⟨GG, hGG⟩ : ∃ GG, foldG n (n - p) [] (os.take k) = GG := ⟨_, rfl⟩
      rw [hDD] at HT HD2
      rw [hGG] at HR HG2 hgl
      have hbx := bel_alloc (Below.refl wr.heap.size wr) (.cells #[.int .i64 q, .bool dn] 63)
      have HST : Hid (St w t n (n - p) r d L (n - (n - p)) nm A c X p wr.heap.size q dn DD GG (wr.alloc (.cells #[.int .i64 q, .bool dn] 63))) :=
        ⟨HT.out.below hbx, ⟨A', c', HR.out.below hbx⟩, blk_new rfl, bel_chain hbx HB.out, HXX.out⟩
      obtain ⟨DE, hDE⟩ : ∃ DE, (if inR n (n - p) q then turnD DD q dn else DD) = DE := ⟨_, rfl⟩
      obtain ⟨GE, hGE⟩ : ∃ GE, (if inR n (n - p) q then goneL GG q dn else GG) = GE := ⟨_, rfl⟩
      have HDa := fun W D G (h : St w t n (n - p) r d L (n - (n - p)) nm A c X p wr.heap.size q dn D G W) => Lib.hid h.down
      have HRa := fun W D G (hl : G.length ≤ 1000) (h : St w t n (n - p) r d L (n - (n - p)) nm A c X p wr.heap.size q dn D G W) => Lib.hid (h.rdown hn2 (by omega) rfl hl)
      obtain ⟨z, hz⟩ : ∃ z, rcI n (n - p) q = z := ⟨_, rfl⟩
      simp only [hz] at HDa HRa
      have HD3 := Lib.hid (HD2.out.trans hDE)
      have HG3 := Lib.hid (HG2.out.trans hGE)
      have HDE := Lib.hid hDE
      have HGE := Lib.hid hGE
      have x0 := blk_cell (i := 0) HST.out.blk rfl
      have x1 := blk_cell (i := 1) HST.out.blk rfl
      clear hDD hGG hz hbx hDE hGE HD2 HG2 HT HR
      go_wp2_with fail
      go_region_held3 (fun w' => w'.cell? ⟨wr.heap.size, 0, none⟩ = some (.int .i64 q) ∧ w'.cell? ⟨wr.heap.size, 1, none⟩ = some (.bool dn))
        (first | exact ⟨x0, x1⟩ | exact ⟨y0, y1⟩ | exact ⟨z0, z1⟩ | fail)
        ((first | (go_at_call 10; refine (HDa _ _ _ (by first | exact s6 | exact HST.out | exact s6.below (by (repeat (first | exact Below.refl _ _ | refine bel_drewN ?_ _ | refine bel_drew ?_ | refine bel_alloc ?_ _ | refine bel_set ?_ (by simp) _))) | exact HST.out.below (by (repeat (first | exact Below.refl _ _ | refine bel_drewN ?_ _ | refine bel_drew ?_ | refine bel_alloc ?_ _ | refine bel_set ?_ (by simp) _))))).out.mono ?_; rintro e w5 ⟨rfl, s5⟩; have y0 := blk_cell (i := 0) s5.blk rfl; have y1 := blk_cell (i := 1) s5.blk rfl) | (go_at_call 18; refine (HRa _ _ _ hgl (by first | exact s5 | exact HST.out | exact s5.below (by (repeat (first | exact Below.refl _ _ | refine bel_drewN ?_ _ | refine bel_drew ?_ | refine bel_alloc ?_ _ | refine bel_set ?_ (by simp) _))) | exact HST.out.below (by (repeat (first | exact Below.refl _ _ | refine bel_drewN ?_ _ | refine bel_drew ?_ | refine bel_alloc ?_ _ | refine bel_set ?_ (by simp) _))))).out.mono ?_; rintro e w6 ⟨rfl, s6⟩; have z0 := blk_cell (i := 0) s6.blk rfl; have z1 := blk_cell (i := 1) s6.blk rfl)))
      go_wp2_with fail
      go_roundw
      case rel =>
        obtain ⟨A5, c5, hr5⟩ := s6.r
        refine ⟨k + 1, A5, c5, by omega, by go_num, ?_, ?_, s6.hb⟩
        · rw [HD3.out, ← HDE.out]; exact s6.t
        · rw [HG3.out, ← HGE.out]; exact hr5
      case measure => simp [intOf]; omega
    · have hke : os.take k = os := List.take_of_length_le (by omega)
      rw [hke] at HT HR
      have hnp : n - (n - p) = p := by omega
      rw [hnp] at HT HPM
      clear hke hnp
      go_wp2_with fail
      refine bodyPost_ret (by simp [results, Tryd.results7, go_sem]; try rfl) rfl ?_
      exact ⟨t, r, d, L, nm, A, c, X, A', c', rfl, HT.out, HPM.out, HPW.out, HR.out, HB.out⟩
end Go.Proofs.YtnlamjebgkgbaaaDoor
namespace Go.Proofs.YtnlamjebgkgbaaaDoor
open Go.RowKit Go.Shelf Go.Sort

/-- A tier, and that nothing older has turned. -/
structure Tw (w0 : World) (t n ch r d : Nat) (L : List Pt) (m : Nat) (nm : Option Nat) (A : Option Addr) (c : Nat) (D : List (Int × Bool)) (W : World) : Prop where
  t : TierAt W w0.heap.size t n ch r d L m nm A c D
  b : Below w0.heap.size w0 W
section
variable {w0 : World} {t n ch r d : Nat} {L : List Pt} {m : Nat} {nm : Option Nat} {A : Option Addr} {c : Nat} {D : List (Int × Bool)} {W : World}
theorem Tw.below {W' : World} (h : Tw w0 t n ch r d L m nm A c D W) (hb : Below W.heap.size W W') : Tw w0 t n ch r d L m nm A c D W' := ⟨h.t.below hb, bel_chain hb h.b⟩
theorem Tw.down (h : Tw w0 t n ch r d L m nm A c D W) (g : Nat) (hg : ch ≤ g ∧ g < n) (dn : Bool) :
    Calls Tryd.prog 10 #[.pointer (some ⟨t, 0, none⟩), .int .i64 (g : Int), .bool dn] W fun e w' => e = .returned (.int .i64 0) ∧ Tw w0 t n ch r d L m nm A c (turnD D (g : Int) dn) w' := by
  refine (down_any h.t (g : Int) dn).mono fun e w' hp => ?_
  unfold DownPost at hp
  rw [if_pos (by omega)] at hp
  obtain ⟨rfl, ⟨o, rfl⟩, ht⟩ := hp
  exact ⟨rfl, ht, bel_with h.b h.t.bd o⟩
theorem Tw.parent (h : Tw w0 t n ch r d L m nm A c D W) (hso : L.Pairwise ptLe) (hl : L.length ≤ 10000) (hn : n ≤ 64) (o : List UInt8) (ho : o.length ≤ 1000000) (Ps : List Nat) (hPs : ownersL (min n m) (rotL L (firstK (hashN o) L)) = Ps.map nmL) (hP : ∀ p ∈ Ps, p < 100) (q : Nat) (hq : q < ch) :
    Calls Tryd.prog 9 #[.pointer (some ⟨t, 0, none⟩), .int .i64 (q : Int), .string ⟨o.toArray⟩] W fun e w' => e = .returned (.tuple #[.int .i64 (firstUp D Ps).1, .bool (firstUp D Ps).2]) ∧ Tw w0 t n ch r d L m nm A c D w' :=
  (parent_any h.t hso hl hn o ho Ps hPs hP q hq).mono fun e w' hp => ⟨hp.1, h.below hp.2⟩
theorem Tw.parentNo (h : Tw w0 t n ch r d L m nm A c D W) (s : ByteArray) (q : Int) (hq : q < 0 ∨ (ch : Int) ≤ q) :
    Calls Tryd.prog 9 #[.pointer (some ⟨t, 0, none⟩), .int .i64 q, .string s] W fun e w' => e = .returned (.tuple #[.int .i64 0, .bool false]) ∧ Tw w0 t n ch r d L m nm A c D w' :=
  (parent_no h.t s q hq).mono fun e w' hp => ⟨hp.1, by rw [hp.2]; exact h⟩
end
theorem lightB_yes {n p : Nat} {l : Nat} (hp8 : p ≤ 8) (hl : l ≤ 20) : lightB (n : Int) (p : Int) l = true := by
  unfold lightB
  rw [decide_eq_true hl, decide_eq_true (by omega)]; rfl
theorem lightB_fits {n p : Int} {l : Nat} (h : lightB n p l = true) (hf : 1 ≤ n ∧ n ≤ 64 ∧ 0 ≤ p ∧ p < n) : l ≤ 20 ∧ p ≤ 8 := by
  unfold lightB at h
  rw [decide_eq_true hf] at h
  simpa using h
theorem agree_made (n ch : Nat) (os : List (Int × Bool)) : Agree (foldD n ch [] os) (foldG n ch [] os) :=
  Agree.fold os ⟨List.nodup_nil, fun q => by simp [upB, lookM]⟩
theorem allPts_length (f k : Nat) (L : List Pt) (h : L.Perm (allPts f k)) : L.length = 16 * k := by rw [h.length_eq, allPts_len]
theorem light_long (w : World) (n p : Int) (A : Option Addr) (l c : Nat) (h : 20 < l) (hl : l ≤ 9223372036854775807) :
    Calls Tryd.prog 5 #[.agg #[.int .i64 n, .int .i64 p, .slice A l c]] w fun e w' => e = .returned (.bool false) ∧ Below w.heap.size w w' := by
  have h1 : ¬ (l : Int) ≤ 20 := by omega
  go_enter Tryd.func5, Tryd.ntmps5
  go_wp2_with fail
  go_ret
  exact ⟨by first | rfl | simp, bel_alloc (Below.refl _ _) _⟩
theorem ba_listL (o : ByteArray) : ∃ l : List UInt8, o = ⟨l.toArray⟩ ∧ o.size = l.length := ⟨o.data.toList, by obtain ⟨⟨d⟩⟩ := o; rfl, rfl⟩
end Go.Proofs.YtnlamjebgkgbaaaDoor
namespace Go.Proofs.YtnlamjebgkgbaaaDoor
open Go.RowKit Go.Shelf Go.Sort

theorem firstK_split {h : Nat} : ∀ {L : List Pt}, L.Pairwise ptLe → (∀ x ∈ L.take (firstK h L), x.1 < h) ∧ (∀ x ∈ L.drop (firstK h L), h ≤ x.1)
  | [], _ => by simp
  | y :: r, hs => by
    have ih := firstK_split (h := h) (List.pairwise_cons.1 hs).2
    unfold firstK at ih ⊢
    rw [List.takeWhile_cons]
    by_cases hy : y.1 < h
    · rw [if_pos (decide_eq_true hy), List.length_cons, List.take_succ_cons, List.drop_succ_cons]
      refine ⟨fun x hx => ?_, ih.2⟩
      rcases List.mem_cons.1 hx with rfl | hx
      · exact hy
      · exact ih.1 x hx
    · rw [if_neg (by simp [hy])]
      refine ⟨by simp, fun x hx => ?_⟩
      simp only [List.length_nil, List.drop_zero] at hx
      rcases List.mem_cons.1 hx with rfl | hx
      · omega
      · rcases (List.pairwise_cons.1 hs).1 x hx with h1 | ⟨h1, _⟩ <;> omega
theorem find_congr {f g : Nat → Bool} : ∀ {l : List Nat}, (∀ x ∈ l, f x = g x) → l.find? f = l.find? g
  | [], _ => rfl
  | y :: r, h => by
    rw [List.find?_cons, List.find?_cons, h y (List.mem_cons_self ..), find_congr fun x hx => h x (List.mem_cons_of_mem _ hx)]
/-- What both say of an object. -/
def SameP (pv : Int) (b : Bool) (wv : Int) : Prop := (b = true ∧ wv = pv ∧ 0 ≤ wv) ∨ (b = false ∧ pv = 0 ∧ wv = -1)
theorem same_pair {D : List (Int × Bool)} {up : Nat → Bool} {Ps Qs : List Nat} (h : Ps.find? (upN D) = Qs.find? (upN D)) (hu : ∀ q ∈ Qs, up q = upN D q) : SameP (firstUp D Ps).1 (firstUp D Ps).2 (firstR up Qs) := by
  unfold firstR firstUp
  rw [find_congr hu, h]
  cases Qs.find? (upN D) with
  | none => exact .inr ⟨rfl, rfl, rfl⟩
  | some q => exact .inl ⟨rfl, rfl, Int.natCast_nonneg _⟩
def RV (P : Int → Prop) (w : World) (e : Ending) (w' : World) : Prop := ∃ v : Int, e = .returned (.int .i64 v) ∧ P v ∧ Below w.heap.size w w'
theorem foldG_small (n ch : Nat) (os : List (Int × Bool)) (h : os.length ≤ 20) : (foldG n ch [] os).length ≤ 1000 := by
  have := foldG_len n ch os []
  simp at this
  omega
/-- Both tiers. -/
structure DS (w0 : World) (t n ch r d : Nat) (L : List Pt) (p : Nat) (nm : Option Nat) (A : Option Addr) (c : Nat) (D : List (Int × Bool)) (X : Nat) (G : List Int) (A' : Option Addr) (c' : Nat) (W : World) : Prop where
  t : TierAt W w0.heap.size t n ch r d L p nm A c D
  r : RTierAt W X n p G A' c'
  b : Below w0.heap.size w0 W
theorem DS.below {w0 W W' : World} {t n ch r d p c X c' : Nat} {L : List Pt} {nm : Option Nat} {A A' : Option Addr} {D : List (Int × Bool)} {G : List Int} (h : DS w0 t n ch r d L p nm A c D X G A' c' W) (hb : Below W.heap.size W W') : DS w0 t n ch r d L p nm A c D X G A' c' W' :=
  ⟨h.t.below hb, h.r.below hb, bel_chain hb h.b⟩
set_option maxHeartbeats 4000000 in
set_option maxRecDepth 100000 in
theorem dealsWalk (w : World) (n p : Nat) (hn : 1 ≤ n) (hn2 : n ≤ 64) (hp : p < n) (hp8 : p ≤ 8) (A0 : Option Addr) (c0 : Nat) (os : List (Int × Bool)) (hos : os.length ≤ 20) (hs : SpG encO 2 w A0 c0 os) (node : Int) (o : List UInt8) (ho : o.length ≤ 200) :
    Calls Tryd.prog 4 #[.agg #[.int .i64 n, .int .i64 p, .slice A0 os.length c0], .int .i64 node, .string ⟨o.toArray⟩] w fun e w' => e = .returned (.bool true) ∧ Below w.heap.size w w' := by
  have HL := fun W => Lib.hid (light_any W (n : Int) (p : Int) A0 os.length c0 (by omega))
  simp only [lightB_yes hp8 hos] at HL
  have HM := fun W h => Lib.hid (made_any W n p hn hn2 hp hp8 A0 c0 os hos h)
  have HS := Lib.hid hs
  have hosz : (⟨o.toArray⟩ : ByteArray).size = o.length := List.size_toArray ..
  have HA := fun W => Lib.hid (awake48_any W)
  clear hs
  go_enter Tryd.func4, Tryd.ntmps4
  go_wp2_with ((first | (go_at_call 5; refine (HL _).out.mono ?_; rintro e w1 ⟨rfl, hb1⟩; have BB := Lib.hid (blk_keep hb1 (blk_new rfl)); have z0 := blk_cell (i := 0) BB.out rfl; have z1 := blk_cell (i := 1) BB.out rfl; have z2 := blk_cell (i := 2) BB.out rfl; have hz := blk_lt BB.out; have HB1 := Lib.hid (bel_chain hb1 (bel_alloc (Below.refl _ _) _)); clear hb1) | (go_at_call 7; go_must (refine (HM _ (HS.out.below HB1.out)).out.mono ?_; rintro e w2 ⟨t, r, d, L, nm, A, c, X, A', c', rfl, ht, hpm, hpw, hr, hb2⟩; have BB2 := Lib.hid (blk_keep hb2 BB.out)))))
  have hag := agree_made n (n - p) os
  have hGl := foldG_small n (n - p) os hos
  obtain ⟨D, hD⟩ : ∃ D, foldD n (n - p) [] os = D := ⟨_, rfl⟩
  obtain ⟨G, hG⟩ : ∃ G, foldG n (n - p) [] os = G := ⟨_, rfl⟩
  rw [hD] at ht hag
  rw [hG] at hr hag hGl
  obtain ⟨ch, hch⟩ : ∃ ch, n - p = ch := ⟨_, rfl⟩
  have hnc : n - ch = p := by omega
  have hchp : ch + p = n := by omega
  have hci : (n : Int) - (p : Int) = (ch : Int) := by omega
  have hch64 : ch ≤ 64 := by omega
  have hch1 : 1 ≤ ch := by omega
  rw [hch] at ht hpm
  have HDS : Hid (DS w t n ch r d L p nm A c D X G A' c' w2) := ⟨⟨ht.blk, ht.ring, ht.down, Nat.le_trans HB1.out.size ht.bd, ht.nd⟩, hr, bel_chain hb2 HB1.out⟩
  have hLl := allPts_length _ _ _ hpm
  have key : ∃ (pv : Int) (b : Bool), (∀ W, DS w t n ch r d L p nm A c D X G A' c' W → Calls Tryd.prog 9 #[.pointer (some ⟨t, 0, none⟩), .int .i64 node, .string ⟨o.toArray⟩] W fun e w' => e = .returned (.tuple #[.int .i64 pv, .bool b]) ∧ Below W.heap.size W w') ∧
      (∀ W, DS w t n ch r d L p nm A c D X G A' c' W → Calls Tryd.prog 11 #[.pointer (some ⟨X, 0, none⟩), .int .i64 node, .string ⟨o.toArray⟩] W (RV (SameP pv b) W)) := by
    by_cases hnd : 0 ≤ node ∧ node < (ch : Int)
    · obtain ⟨q, rfl⟩ : ∃ q : Nat, node = (q : Int) := ⟨node.toNat, by omega⟩
      obtain ⟨Ps, hPs, hPn, hPm⟩ := ps_of (m := min n p) hpm (by omega) (firstK (hashN o) L)
      refine ⟨(firstUp D Ps).1, (firstUp D Ps).2, fun W h => parent_any h.t hpw (by omega) hn2 o (by omega) Ps hPs (fun q hq => by have := (hPm q).1 hq; omega) q (by omega), fun W h => ?_⟩
      refine (rparent_any h.r hn2 (by omega) hGl o (by omega) q (by omega)).mono fun e w' hh => ?_
      rw [hch] at hh
      obtain ⟨Qs, hQ1, hQ2, rfl, hb⟩ := hh
      have hsp := firstK_split (h := hashN o) hpw
      have hfind := deals_law (D := D) (hashN_lt o) hpm hpw (m := min n p) (by omega) (fun x hx => by
        have h1 := (hpm.mem_iff.1 hx)
        obtain ⟨_, h2⟩ := allPts_at.1 h1
        obtain ⟨i, _, h3⟩ := ptsOf_mem.1 h2
        rw [h3]; exact hashN_lt _) hsp.1 hsp.2 hPs hPm hQ1 hQ2
      refine ⟨_, rfl, same_pair hfind (fun q hq => ?_), hb⟩
      have := (hQ1 q).1 hq
      unfold upR upN
      rw [hag.up, decide_eq_true (show inR n ch (q : Int) from ⟨by omega, by omega⟩)]
      simp
    · refine ⟨0, false, fun W h => (parent_no h.t ⟨o.toArray⟩ node (by omega)).mono fun e w' hh => ⟨hh.1, by rw [hh.2]; exact Below.refl _ _⟩, fun W h => ?_⟩
      exact (rparent_no h.r hn2 (by omega) ⟨o.toArray⟩ node (by rw [hch]; omega)).mono fun e w' hh => ⟨-1, hh.1, .inr ⟨rfl, rfl, rfl⟩, hh.2⟩
  obtain ⟨pv, b, hP1, hP2⟩ := key
  have HP1 := fun W h => Lib.hid (hP1 W h)
  have HP2 := fun W h => Lib.hid (hP2 W h)
  have hUL : numsL (numF n ch G false) ch p = upL D ch p := by
    rw [upL_nums]
    refine numsL_congr fun q h1 h2 => ?_
    unfold numF upR
    rw [hag.up, decide_eq_true (show inR n ch (q : Int) from ⟨by omega, by omega⟩)]
    simp
  have hON : ∀ a k, numsL (numF n ch G true) a k = numsL (fun _ => true) a k := fun a k => numsL_congr fun q _ _ => by unfold numF; simp
  have hUlen := upL_len D ch p
  have HPa := fun W (h : DS w t n ch r d L p nm A c D X G A' c' W) => Lib.hid (parents_any h.t hn2 (by omega))
  have HOr := fun W (h : DS w t n ch r d L p nm A c D X G A' c' W) => Lib.hid (order_any h.t hn2 (by omega))
  have HN1 := fun W (h : DS w t n ch r d L p nm A c D X G A' c' W) => Lib.hid (numbers_any h.r hn2 (by omega) hGl ch p (by omega) true)
  have HN3 := fun W (h : DS w t n ch r d L p nm A c D X G A' c' W) => Lib.hid (numbers_any h.r hn2 (by omega) hGl ch p (by omega) false)
  have HN2 := fun W (h : DS w t n ch r d L p nm A c D X G A' c' W) => Lib.hid (numbers_any h.r hn2 (by omega) hGl 0 ch (by omega) true)
  simp only [hnc] at HPa HOr
  simp only [hch, hchp, hUL, hON, Nat.zero_add] at HN1 HN2 HN3
  have hn1l := numsL_len (fun _ => true) ch p
  have hn2l : 0 < (numsL (fun _ => true) 0 ch).length ∧ (numsL (fun _ => true) 0 ch).length ≤ 64 := by
    have h1 := numsL_len (fun _ => true) 0 ch
    refine ⟨?_, by omega⟩
    obtain ⟨j, rfl⟩ : ∃ j, ch = j + 1 := ⟨ch - 1, by omega⟩
    unfold numsL; simp
  obtain ⟨U, hU⟩ : ∃ U, upL D ch p = U := ⟨_, rfl⟩
  obtain ⟨N1, hN1⟩ : ∃ U, numsL (fun _ => true) ch p = U := ⟨_, rfl⟩
  obtain ⟨N2, hN2⟩ : ∃ U, numsL (fun _ => true) 0 ch = U := ⟨_, rfl⟩
  rw [hU] at HPa HN3 hUlen
  rw [hN1] at HN1 HOr hn1l
  rw [hN2] at HN2 HOr hn2l
  have HIN := Lib.hid (fun (A : Option Addr) c (L : List Int) A' c' W h h' hl => ints_any A c L A' c' W h h' hl)
  have z0' := blk_cell (i := 0) BB2.out rfl
  have z1' := blk_cell (i := 1) BB2.out rfl
  have hz' := blk_lt BB2.out
  clear ht hr hpm hpw hLl hag hD hG hch hnc hchp hUL hON hU hN1 hN2 hP1 hP2 HM HL HS BB z0 z1 z2 hz HB1 hb2 hGl
  refine (HP1 _ HDS.out).out.mono ?_
  rintro e w3 ⟨rfl, hb3⟩
  have T3 := Lib.hid (HDS.out.below hb3)
  have B3 := Lib.hid (blk_keep hb3 BB2.out)
  clear hb3 HDS BB2 HP1 z0' z1' hz'
  go_wp2_with fail
  refine (HP2 _ T3.out).out.mono ?_
  rintro e w4 ⟨wv, rfl, hsame, hb4⟩
  have T4 := Lib.hid (T3.out.below hb4)
  have B4 := Lib.hid (blk_keep hb4 B3.out)
  clear hb4 T3 B3 HP2
  have z0 := blk_cell (i := 0) B4.out rfl
  have z1 := blk_cell (i := 1) B4.out rfl
  have hz := blk_lt B4.out
  have hla : (N1 ++ N2).length = N1.length + N2.length := List.length_append
  have HIB := Lib.hid (show ∀ A c A' c' W, SpG encI 1 W A c (N1 ++ N2) → SpG encI 1 W A' c' (N1 ++ N2) → Calls Tryd.prog 13 #[.slice A (N1.length + N2.length) c, .slice A' (N1.length + N2.length) c'] W fun e w' => e = .returned (.bool true) ∧ Below W.heap.size W w' from fun A c A' c' W h h' => by
    rw [← hla]; exact HIN.out A c (N1 ++ N2) A' c' W h h' (by rw [List.length_append]; omega))
  clear hla
  rcases hsame with ⟨rfl, h1, h2⟩ | ⟨rfl, rfl, rfl⟩
  · subst h1
    have hne : (wv != wv) = false := by simp
    go_wp2_with fail
    refine (HN1 _ T4.out).out.mono ?_
    rintro e w5 ⟨A5, c5, rfl, ho5, hb5⟩
    have T5 := Lib.hid (T4.out.below hb5)
    have HO5 := Lib.hid ho5
    have HB5 := Lib.hid hb5
    clear ho5 hb5 HN1
    go_wp2_with fail
    refine (HN2 _ T5.out).out.mono ?_
    rintro e w6 ⟨A6, c6, rfl, ho6, hb6⟩
    have HO6 := Lib.hid ho6
    have HO56 := Lib.hid (HO5.out.below hb6)
    have HB6 := Lib.hid (bel_chain hb6 HB5.out)
    clear ho6 hb6 HN2 HO5 HB5 T5
    go_wp2_with (at_builtin; go_must (refine wplG_append (w0 := w4) elemI rfl (.tmp 76) (.tmp 79) rfl A5 c5 N1 rfl HO56.out A6 c6 N2 rfl (HO6.out.spg elemI.len) hn2l.1 (by omega) HB6.out ?_; intro A7 c7 w7 hown7 hbw7 hg7))
    have T7 := Lib.hid (T4.out.below hbw7)
    have z7 := blk_cell (i := 0) (blk_keep hbw7 B4.out) rfl
    have hz7 := blk_lt (blk_keep hbw7 B4.out)
    have S7 := Lib.hid (hown7.spg elemI.len)
    clear hown7 hbw7 hg7 HO6 HO56 HB6 T4 B4 z0 z1 hz
    go_region_held3 (fun w' => w'.cell? ⟨w.heap.size, 0, none⟩ = some (.int .i64 (n : Int)))
      (first | exact z7 | exact s8 | exact s9 | exact s10 | exact s11 | exact s12 | exact s13 | fail)
      (first
        | (go_at_call 8; refine (HPa _ (T7.out.below (by (repeat (first | exact Below.refl _ _ | refine bel_drewN ?_ _ | refine bel_drew ?_ | refine bel_alloc ?_ _ | refine bel_set ?_ (by simp) _))))).out.mono ?_; rintro e w8 ⟨A8, c8, rfl, hs8, hb8⟩; have T8 := Lib.hid (T7.out.below (bel_chain hb8 (by (repeat (first | exact Below.refl _ _ | refine bel_drewN ?_ _ | refine bel_drew ?_ | refine bel_alloc ?_ _ | refine bel_set ?_ (by simp) _))))); have s8 := cell_keep hb8 (show World.cell? _ ⟨w.heap.size, 0, none⟩ = _ from z7); have S8 := Lib.hid (S7.out.below (bel_chain hb8 (by (repeat (first | exact Below.refl _ _ | refine bel_drewN ?_ _ | refine bel_drew ?_ | refine bel_alloc ?_ _ | refine bel_set ?_ (by simp) _))))))
        | (go_at_call 12; refine (HN3 _ T8.out).out.mono ?_; rintro e w9 ⟨A9, c9, rfl, ho9, hb9⟩; have T9 := Lib.hid (T8.out.below hb9); have s9 := cell_keep hb9 s8; have S9 := Lib.hid (S8.out.below hb9))
        | (go_at_call_of 13 (Value.slice A8 U.length c8); refine (HIN.out A8 c8 U A9 c9 w9 (hs8.below hb9) (ho9.spg elemI.len) (by omega)).mono ?_; rintro e w10 ⟨rfl, hb10⟩; have T10 := Lib.hid (T9.out.below hb10); have s10 := cell_keep hb10 s9; have S10 := Lib.hid (S9.out.below hb10))
        | (go_at_call 14; refine (HOr _ T10.out).out.mono ?_; rintro e w11 ⟨A11, c11, rfl, hs11, hb11⟩; have T11 := Lib.hid (T10.out.below hb11); have s11 := cell_keep hb11 s10; have S11 := Lib.hid (S10.out.below hb11))
        | (go_at_call 13; refine (HIB.out A11 c11 A7 c7 w11 hs11 S11.out).mono ?_; rintro e w12 ⟨rfl, hb12⟩; have T12 := Lib.hid (T11.out.below hb12); have s12 := cell_keep hb12 s11)
        | (go_at_call 6; refine (HA _).out.mono ?_; rintro e w13 ⟨rfl, hb13⟩; have T13 := Lib.hid (T12.out.below hb13); have s13 := cell_keep hb13 s12))
    go_wp2_with fail
    go_ret
    exact ⟨rfl, T13.out.b⟩
  · skip
    go_wp2_with fail
    refine (HN1 _ T4.out).out.mono ?_
    rintro e w5 ⟨A5, c5, rfl, ho5, hb5⟩
    have T5 := Lib.hid (T4.out.below hb5)
    have HO5 := Lib.hid ho5
    have HB5 := Lib.hid hb5
    clear ho5 hb5 HN1
    go_wp2_with fail
    refine (HN2 _ T5.out).out.mono ?_
    rintro e w6 ⟨A6, c6, rfl, ho6, hb6⟩
    have HO6 := Lib.hid ho6
    have HO56 := Lib.hid (HO5.out.below hb6)
    have HB6 := Lib.hid (bel_chain hb6 HB5.out)
    clear ho6 hb6 HN2 HO5 HB5 T5
    go_wp2_with (at_builtin; go_must (refine wplG_append (w0 := w4) elemI rfl (.tmp 76) (.tmp 79) rfl A5 c5 N1 rfl HO56.out A6 c6 N2 rfl (HO6.out.spg elemI.len) hn2l.1 (by omega) HB6.out ?_; intro A7 c7 w7 hown7 hbw7 hg7))
    have T7 := Lib.hid (T4.out.below hbw7)
    have z7 := blk_cell (i := 0) (blk_keep hbw7 B4.out) rfl
    have hz7 := blk_lt (blk_keep hbw7 B4.out)
    have S7 := Lib.hid (hown7.spg elemI.len)
    clear hown7 hbw7 hg7 HO6 HO56 HB6 T4 B4 z0 z1 hz
    go_region_held3 (fun w' => w'.cell? ⟨w.heap.size, 0, none⟩ = some (.int .i64 (n : Int)))
      (first | exact z7 | exact s8 | exact s9 | exact s10 | exact s11 | exact s12 | exact s13 | fail)
      (first
        | (go_at_call 8; refine (HPa _ (T7.out.below (by (repeat (first | exact Below.refl _ _ | refine bel_drewN ?_ _ | refine bel_drew ?_ | refine bel_alloc ?_ _ | refine bel_set ?_ (by simp) _))))).out.mono ?_; rintro e w8 ⟨A8, c8, rfl, hs8, hb8⟩; have T8 := Lib.hid (T7.out.below (bel_chain hb8 (by (repeat (first | exact Below.refl _ _ | refine bel_drewN ?_ _ | refine bel_drew ?_ | refine bel_alloc ?_ _ | refine bel_set ?_ (by simp) _))))); have s8 := cell_keep hb8 (show World.cell? _ ⟨w.heap.size, 0, none⟩ = _ from z7); have S8 := Lib.hid (S7.out.below (bel_chain hb8 (by (repeat (first | exact Below.refl _ _ | refine bel_drewN ?_ _ | refine bel_drew ?_ | refine bel_alloc ?_ _ | refine bel_set ?_ (by simp) _))))))
        | (go_at_call 12; refine (HN3 _ T8.out).out.mono ?_; rintro e w9 ⟨A9, c9, rfl, ho9, hb9⟩; have T9 := Lib.hid (T8.out.below hb9); have s9 := cell_keep hb9 s8; have S9 := Lib.hid (S8.out.below hb9))
        | (go_at_call_of 13 (Value.slice A8 U.length c8); refine (HIN.out A8 c8 U A9 c9 w9 (hs8.below hb9) (ho9.spg elemI.len) (by omega)).mono ?_; rintro e w10 ⟨rfl, hb10⟩; have T10 := Lib.hid (T9.out.below hb10); have s10 := cell_keep hb10 s9; have S10 := Lib.hid (S9.out.below hb10))
        | (go_at_call 14; refine (HOr _ T10.out).out.mono ?_; rintro e w11 ⟨A11, c11, rfl, hs11, hb11⟩; have T11 := Lib.hid (T10.out.below hb11); have s11 := cell_keep hb11 s10; have S11 := Lib.hid (S10.out.below hb11))
        | (go_at_call 13; refine (HIB.out A11 c11 A7 c7 w11 hs11 S11.out).mono ?_; rintro e w12 ⟨rfl, hb12⟩; have T12 := Lib.hid (T11.out.below hb12); have s12 := cell_keep hb12 s11)
        | (go_at_call 6; refine (HA _).out.mono ?_; rintro e w13 ⟨rfl, hb13⟩; have T13 := Lib.hid (T12.out.below hb13); have s13 := cell_keep hb13 s12))
    go_wp2_with fail
    go_ret
    exact ⟨rfl, T13.out.b⟩
end Go.Proofs.YtnlamjebgkgbaaaDoor
namespace Go.Proofs.YtnlamjebgkgbaaaDoor
open Go.RowKit Go.Shelf Go.Sort

set_option maxHeartbeats 4000000 in
set_option maxRecDepth 100000 in
theorem dealsDark (n p : Int) (A0 : Option Addr) (c0 l : Nat) (x : Int) (o : ByteArray) (w : World) (b : Bool) (hb : b = true → 200 < o.size)
    (HL : ∀ W, Calls Tryd.prog 5 #[.agg #[.int .i64 n, .int .i64 p, .slice A0 l c0]] W fun e w' => e = .returned (.bool b) ∧ Below W.heap.size W w') :
    Calls Tryd.prog 4 #[.agg #[.int .i64 n, .int .i64 p, .slice A0 l c0], .int .i64 x, .string o] w fun e w' => e = .returned (.bool true) ∧ Below w.heap.size w w' := by
  have HA := fun W => Lib.hid (awake48_any W)
  have HL2 := fun W => Lib.hid (HL W)
  clear HL
  cases b
  · clear hb
    go_enter Tryd.func4, Tryd.ntmps4
    go_wp2_with (go_at_call 5; refine (HL2 _).out.mono ?_; rintro e w1 ⟨rfl, hb1⟩; have HB1 := Lib.hid (bel_chain hb1 (bel_alloc (Below.refl _ _) _)); clear hb1)
    refine (HA _).out.mono ?_
    rintro e w2 ⟨rfl, hb2⟩
    go_wp2_with fail
    go_ret
    exact ⟨rfl, bel_chain hb2 HB1.out⟩
  · have ho : (200 : Int) < (o.size : Int) := by have := hb rfl; omega
    clear hb
    go_enter Tryd.func4, Tryd.ntmps4
    go_wp2_with (go_at_call 5; refine (HL2 _).out.mono ?_; rintro e w1 ⟨rfl, hb1⟩; have HB1 := Lib.hid (bel_chain hb1 (bel_alloc (Below.refl _ _) _)); clear hb1)
    refine (HA _).out.mono ?_
    rintro e w2 ⟨rfl, hb2⟩
    go_wp2_with fail
    go_ret
    exact ⟨rfl, bel_chain hb2 HB1.out⟩
set_option maxHeartbeats 4000000 in
set_option maxRecDepth 100000 in
theorem dealsNo (n p : Int) (A0 : Option Addr) (c0 l : Nat) (hl : l ≤ 20) (hf : ¬ (1 ≤ n ∧ n ≤ 64 ∧ 0 ≤ p ∧ p < n)) (x : Int) (o : ByteArray) (ho : o.size ≤ 200) (w : World) :
    Calls Tryd.prog 4 #[.agg #[.int .i64 n, .int .i64 p, .slice A0 l c0], .int .i64 x, .string o] w fun e w' => e = .returned (.bool true) ∧ Below w.heap.size w w' := by
  have HA := fun W => Lib.hid (awake48_any W)
  have HL := fun W => Lib.hid (light_any W n p A0 l c0 (by omega))
  have e1 : lightB n p l = true := by unfold lightB; rw [decide_eq_true hl, decide_eq_false hf]; simp
  simp only [e1] at HL
  have HM := fun W => Lib.hid (made_no W n p (.slice A0 l c0) hf)
  clear hf e1
  go_enter Tryd.func4, Tryd.ntmps4
  go_wp2_with ((first | (go_at_call 5; refine (HL _).out.mono ?_; rintro e w1 ⟨rfl, hb1⟩; have BB := Lib.hid (blk_keep hb1 (blk_new rfl)); have z0 := blk_cell (i := 0) BB.out rfl; have z1 := blk_cell (i := 1) BB.out rfl; have z2 := blk_cell (i := 2) BB.out rfl; have hz := blk_lt BB.out; have HB1 := Lib.hid (bel_chain hb1 (bel_alloc (Below.refl _ _) _)); clear hb1) | (go_at_call 7; refine (HM _).out.mono ?_; rintro e w2 ⟨rfl, hb2⟩; have HB2 := Lib.hid (bel_chain hb2 HB1.out); clear hb2)))
  refine (HA _).out.mono ?_
  rintro e w3 ⟨rfl, hb3⟩
  go_wp2_with fail
  go_ret
  exact ⟨rfl, bel_chain hb3 HB2.out⟩
theorem tierDeals_any (n p : Int) (A0 : Option Addr) (c0 : Nat) (os : List (Int × Bool)) (x : Int) (o : ByteArray) (w : World) (hs : SpG encO 2 w A0 c0 os) (hl : os.length ≤ 9223372036854775807) (hx : (Lit.int .i64 x).wf = true) :
    Calls Tryd.prog 4 #[.agg #[.int .i64 n, .int .i64 p, .slice A0 os.length c0], .int .i64 x, .string o] w fun e w' => e = .returned (.bool true) ∧ Below w.heap.size w w' := by
  by_cases h1 : os.length ≤ 20
  · cases hb : lightB n p os.length with
    | false => exact dealsDark n p A0 c0 os.length x o w false (fun h => by cases h) (fun W => by have := light_any W n p A0 os.length c0 (by omega); rw [hb] at this; exact this)
    | true =>
      by_cases h2 : 200 < o.size
      · exact dealsDark n p A0 c0 os.length x o w true (fun _ => h2) (fun W => by have := light_any W n p A0 os.length c0 (by omega); rw [hb] at this; exact this)
      · by_cases hf : 1 ≤ n ∧ n ≤ 64 ∧ 0 ≤ p ∧ p < n
        · have h8 := (lightB_fits hb hf).2
          obtain ⟨N, rfl⟩ : ∃ N : Nat, n = (N : Int) := ⟨n.toNat, by omega⟩
          obtain ⟨P, rfl⟩ : ∃ P : Nat, p = (P : Int) := ⟨p.toNat, by omega⟩
          obtain ⟨l, rfl, hol⟩ := ba_listL o
          exact dealsWalk w N P (by omega) (by omega) (by omega) (by omega) A0 c0 os h1 hs x l (by omega)
        · exact dealsNo n p A0 c0 os.length h1 hf x o (by omega) w
  · exact dealsDark n p A0 c0 os.length x o w false (fun h => by cases h) (fun W => light_long W n p A0 os.length c0 (by omega) hl)
end Go.Proofs.YtnlamjebgkgbaaaDoor
