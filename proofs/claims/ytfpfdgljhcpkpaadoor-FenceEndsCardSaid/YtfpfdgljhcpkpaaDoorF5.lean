/- Contracts of the fence laws' small functions: Great, spans, and the texts of decisions. -/
import Derived.Test.YtfpfdgljhcpkpaaDoorF4
import Derived.Test.YtfpfdgljhcpkpaaDoorF1
import Derived.Test.YtfpfdgljhcpkpaaDoorF1B
namespace Go.Proofs.YtfpfdgljhcpkpaaDoor
open Go.RowKit

/-- A decision's text. -/
def textD (d : Int) : ByteArray := if d = 1 then ⟨#[103, 111]⟩ else if d = 2 then ⟨#[119, 97, 105, 116]⟩ else if d = 3 then ⟨#[97, 115, 107]⟩ else if d = 4 then ⟨#[97, 110, 101, 119]⟩ else if d = 5 then ⟨#[99, 117, 116]⟩ else if d = 6 then ⟨#[100, 111, 110, 101]⟩ else ⟨#[]⟩
/-- The table of the texts. -/
structure Names (w : World) : Prop where
  lt : 0 < w.heap.size
  at_ : ∀ i : Nat, i < 7 → w.cell? ⟨0, i, none⟩ = some (.string (textD i))
theorem Names.below {w w' : World} (h : Names w) (hb : Below w.heap.size w w') : Names w' :=
  ⟨Nat.lt_of_lt_of_le h.lt hb.size, fun i hi => (hb.cell (p := ⟨0, i, none⟩) h.lt).trans (h.at_ i hi)⟩
theorem Names.alloc {w : World} (h : Names w) (o : Obj) : Names (w.alloc o) := h.below (bel_alloc (Below.refl _ _) o)
theorem Names.drewN {w : World} (h : Names w) (n : Nat) : Names (w.drewN n) := ⟨h.lt, h.at_⟩
theorem Names.drew {w : World} (h : Names w) : Names w.drew := ⟨h.lt, h.at_⟩

set_option maxHeartbeats 1000000 in
theorem ftext_any (d : Int) (w : World) (h : Names w) :
    Calls Tryd.prog 48 #[.int .i64 d] w fun e w' => e = .returned (.string (textD d)) ∧ Below w.heap.size w w' := by
  have h0 := h.at_ 0 (by omega)
  have h1 := h.at_ 1 (by omega)
  have h2 := h.at_ 2 (by omega)
  have h3 := h.at_ 3 (by omega)
  have h4 := h.at_ 4 (by omega)
  have h5 := h.at_ 5 (by omega)
  have h6 := h.at_ 6 (by omega)
  clear h
  by_cases hlo : d < 0
  · have e : textD d = ⟨#[]⟩ := by
      unfold textD
      rw [if_neg (by omega), if_neg (by omega), if_neg (by omega), if_neg (by omega), if_neg (by omega), if_neg (by omega)]
    rw [e]
    clear h0 h1 h2 h3 h4 h5 h6 e
    go_enter Tryd.func48, Tryd.ntmps48
    go_wp2_with fail
    go_ret
    exact ⟨rfl, Below.refl _ _⟩
  · by_cases hhi : 7 ≤ d
    · have e : textD d = ⟨#[]⟩ := by
        unfold textD
        rw [if_neg (by omega), if_neg (by omega), if_neg (by omega), if_neg (by omega), if_neg (by omega), if_neg (by omega)]
      rw [e]
      clear h0 h1 h2 h3 h4 h5 h6 e
      go_enter Tryd.func48, Tryd.ntmps48
      go_wp2_with fail
      go_ret
      exact ⟨rfl, Below.refl _ _⟩
    · have hd : d = 0 ∨ d = 1 ∨ d = 2 ∨ d = 3 ∨ d = 4 ∨ d = 5 ∨ d = 6 := by omega
      clear hlo hhi
      rcases hd with rfl | rfl | rfl | rfl | rfl | rfl | rfl
      all_goals
        go_enter Tryd.func48, Tryd.ntmps48
        go_wp2_with fail
        go_ret
        exact ⟨rfl, Below.refl _ _⟩

theorem spans37_any (f t : Int) (w : World) :
    Calls Tryd.prog 46 #[.int .i64 f, .int .i64 t] w (RetSl [(f, t)] w) := by
  go_enter Tryd.func46, Tryd.ntmps46
  go_wp2_with fail
  go_ret
  exact ⟨some ⟨w.heap.size, 0, none⟩, 1, rfl, Sp.built w [(f, t)] _, by (repeat (first | exact Below.refl _ _ | refine bel_drewN ?_ _ | refine bel_drew ?_ | refine bel_alloc ?_ _ | refine bel_set ?_ (by simp) _))⟩

/-- Are there more spans than are played? -/
def greatS (R H F : List (Int × Int)) : Bool := decide (12 < R.length) || decide (12 < H.length) || decide (12 < F.length)
set_option maxHeartbeats 1000000 in
theorem rgreat_any (he : Bool) (A1 : Option Addr) (c1 : Nat) (R : List (Int × Int)) (A2 : Option Addr) (c2 : Nat) (H : List (Int × Int)) (A3 : Option Addr) (c3 : Nat) (F : List (Int × Int)) (tu fa : Bool) (ag : Int) (jo : Bool) (w : World)
    (n1 : R.length ≤ 9223372036854775807) (n2 : H.length ≤ 9223372036854775807) (n3 : F.length ≤ 9223372036854775807) :
    Calls Tryd.prog 10 #[.agg #[.bool he, .slice A1 R.length c1, .slice A2 H.length c2, .slice A3 F.length c3, .bool tu, .bool fa, .int .i64 ag, .bool jo]] w fun e w' => e = .returned (.bool (greatS R H F)) ∧ Below w.heap.size w w' := by
  unfold greatS
  by_cases h1 : 12 < R.length
  · have d1 : decide (12 < R.length) = true := by simpa using h1
    go_enter Tryd.func10, Tryd.ntmps10
    go_wp2_with fail
    go_ret
    exact ⟨ret_bool (by simp), by (repeat (first | exact Below.refl _ _ | refine bel_drewN ?_ _ | refine bel_drew ?_ | refine bel_alloc ?_ _ | refine bel_set ?_ (by simp) _))⟩
  · have d1 : decide (12 < R.length) = false := by simpa using h1
    by_cases h2 : 12 < H.length
    · have d2 : decide (12 < H.length) = true := by simpa using h2
      go_enter Tryd.func10, Tryd.ntmps10
      go_wp2_with fail
      go_ret
      exact ⟨ret_bool (by simp), by (repeat (first | exact Below.refl _ _ | refine bel_drewN ?_ _ | refine bel_drew ?_ | refine bel_alloc ?_ _ | refine bel_set ?_ (by simp) _))⟩
    · have d2 : decide (12 < H.length) = false := by simpa using h2
      by_cases h3 : 12 < F.length
      · have d3 : decide (12 < F.length) = true := by simpa using h3
        go_enter Tryd.func10, Tryd.ntmps10
        go_wp2_with fail
        go_ret
        exact ⟨ret_bool (by rw [Bool.eq_iff_iff]; simp; omega), by (repeat (first | exact Below.refl _ _ | refine bel_drewN ?_ _ | refine bel_drew ?_ | refine bel_alloc ?_ _ | refine bel_set ?_ (by simp) _))⟩
      · have d3 : decide (12 < F.length) = false := by simpa using h3
        go_enter Tryd.func10, Tryd.ntmps10
        go_wp2_with fail
        go_ret
        exact ⟨ret_bool (by rw [Bool.eq_iff_iff]; simp; omega), by (repeat (first | exact Below.refl _ _ | refine bel_drewN ?_ _ | refine bel_drew ?_ | refine bel_alloc ?_ _ | refine bel_set ?_ (by simp) _))⟩

/- Contracts whose results are named. -/
theorem own_as (he : Bool) (A1 : Option Addr) (c1 : Nat) (R : List (Int × Int)) (A2 : Option Addr) (c2 : Nat) (H : List (Int × Int)) (A3 : Option Addr) (c3 : Nat) (F : List (Int × Int)) (tu fa : Bool) (ag : Int) (jo : Bool) (R' H' F' : List (Int × Int)) (e1 : cano R = R') (e2 : cano H = H') (e3 : cano F = F') (w : World) (h1 : Sp w A1 c1 R) (h2 : Sp w A2 c2 H) (h3 : Sp w A3 c3 F) (l1 : R.length ≤ 10000) (l2 : H.length ≤ 10000) (l3 : F.length ≤ 10000) :
    Calls Tryd.prog 11 #[.agg #[.bool he, .slice A1 R.length c1, .slice A2 H.length c2, .slice A3 F.length c3, .bool tu, .bool fa, .int .i64 ag, .bool jo]] w (RetSt he R' H' F' tu fa ag jo w) := by
  rw [← e1, ← e2, ← e3]; exact own_any he A1 c1 R A2 c2 H A3 c3 F tu fa ag jo w h1 h2 h3 l1 l2 l3
theorem decide_as (he : Bool) (A1 : Option Addr) (c1 : Nat) (R : List (Int × Int)) (A2 : Option Addr) (c2 : Nat) (H : List (Int × Int)) (A3 : Option Addr) (c3 : Nat) (F : List (Int × Int)) (tu fa : Bool) (ag : Int) (jo : Bool) (v : Int) (e : decideL he tu fa jo ag R H F = v) (w : World) (h1 : Sp w A1 c1 R) (h2 : Sp w A2 c2 H) (h3 : Sp w A3 c3 F) (k1 : Canon R) (k2 : Canon H) (k3 : Canon F) (l1 : R.length ≤ 10000) (l2 : H.length ≤ 10000) (l3 : F.length ≤ 10000) :
    Calls Tryd.prog 15 #[.agg #[.bool he, .slice A1 R.length c1, .slice A2 H.length c2, .slice A3 F.length c3, .bool tu, .bool fa, .int .i64 ag, .bool jo]] w fun e w' => e = .returned (.int .i64 v) ∧ Below w.heap.size w w' := by
  rw [← e]; exact decide_any he A1 c1 R A2 c2 H A3 c3 F tu fa ag jo w h1 h2 h3 k1 k2 k3 l1 l2 l3
theorem lost_as (he : Bool) (A1 : Option Addr) (c1 : Nat) (R : List (Int × Int)) (A2 : Option Addr) (c2 : Nat) (H : List (Int × Int)) (A3 : Option Addr) (c3 : Nat) (F : List (Int × Int)) (tu fa : Bool) (ag : Int) (jo : Bool) (T : List (Int × Int)) (e : lostL tu fa jo R H F = T) (w : World) (h1 : Sp w A1 c1 R) (h2 : Sp w A2 c2 H) (h3 : Sp w A3 c3 F) (k1 : Canon R) (k2 : Canon H) (k3 : Canon F) (l1 : R.length ≤ 10000) (l2 : H.length ≤ 10000) (l3 : F.length ≤ 10000) :
    Calls Tryd.prog 14 #[.agg #[.bool he, .slice A1 R.length c1, .slice A2 H.length c2, .slice A3 F.length c3, .bool tu, .bool fa, .int .i64 ag, .bool jo]] w (RetSet T w) := by
  rw [← e]; exact lost_any he A1 c1 R A2 c2 H A3 c3 F tu fa ag jo w h1 h2 h3 k1 k2 k3 l1 l2 l3
theorem sure_as (he : Bool) (A1 : Option Addr) (c1 : Nat) (R : List (Int × Int)) (A2 : Option Addr) (c2 : Nat) (H : List (Int × Int)) (A3 : Option Addr) (c3 : Nat) (F : List (Int × Int)) (tu fa : Bool) (ag : Int) (jo : Bool) (b : Bool) (e : (wantL R H F).isEmpty = b) (w : World) (h1 : Sp w A1 c1 R) (h2 : Sp w A2 c2 H) (h3 : Sp w A3 c3 F) (k1 : Canon R) (k2 : Canon H) (k3 : Canon F) (l1 : R.length ≤ 10000) (l2 : H.length ≤ 10000) (l3 : F.length ≤ 10000) :
    Calls Tryd.prog 13 #[.agg #[.bool he, .slice A1 R.length c1, .slice A2 H.length c2, .slice A3 F.length c3, .bool tu, .bool fa, .int .i64 ag, .bool jo]] w fun e w' => e = .returned (.bool b) ∧ Below w.heap.size w w' := by
  rw [← e]; exact sure_any he A1 c1 R A2 c2 H A3 c3 F tu fa ag jo w h1 h2 h3 k1 k2 k3 l1 l2 l3
theorem aw_spanText (W : World) : Calls Tryd.prog 83 #[.agg #[.int .i64 5, .int .i64 9]] W fun e w' => e = .returned (.string ⟨(spT ntS (5, 9)).toArray⟩) ∧ Below W.heap.size W w' :=
  spanText_any ntS ntS_len 5 9 (by decide) W (fun W' _ => ntS_fmt 5 (by omega) W') (fun _ W' _ => ntS_fmt 9 (by omega) W')
theorem aw_text (A : Option Addr) (c : Nat) (w : World) (h : Sp w A c [(5, 9)]) : Calls Tryd.prog 47 #[.agg #[.slice A 1 c]] w fun e w' => e = .returned (.string ⟨#[53, 45, 57]⟩) ∧ Below w.heap.size w w' := by
  have := text_any (spT ntS) A c [(5, 9)] w h (by decide) (by decide) (fun x hx => by simp at hx; subst hx; simp [spT, ntS, Lib.decDigits_one]) (fun x hx W _ => by simp at hx; subst hx; exact aw_spanText W)
  have e : joinT (spT ntS) [(5, 9)] = [53, 45, 57] := by simp [joinT, spT, ntS, Lib.decDigits_one]
  rw [e] at this
  exact this
theorem canon59 : Canon [(5, 9)] := Canon.one (by decide)
theorem canon1 {f t : Int} (h : goodS (f, t) = true) : Canon [(f, t)] := Canon.one h
end Go.Proofs.YtfpfdgljhcpkpaaDoor
