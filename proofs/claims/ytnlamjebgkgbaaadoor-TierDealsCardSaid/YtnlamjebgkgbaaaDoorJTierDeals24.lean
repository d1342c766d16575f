/- Contracts of the ring's right, of a parent's name, and of a ring's Add. -/
import Derived.Test.YtnlamjebgkgbaaaDoorJTierDeals23
import Derived.Test.YtnlamjebgkgbaaaDoorJTierDeals15
import Derived.Deep.CutBlock
namespace Go.Proofs.YtnlamjebgkgbaaaDoor
open Go.RowKit Go.Shelf Go.Sort

theorem catRun {a b : List UInt8} (h : a.length + b.length ≤ 1000000) : ∀ W, (Op.stringOp .add ⟨a.toArray⟩ ⟨b.toArray⟩).run Tryd.prog W = .ok (.string ⟨(a ++ b).toArray⟩) W := fun W => by
  have h1 : (⟨a.toArray⟩ : ByteArray).size = a.length := List.size_toArray ..
  have h2 : (⟨b.toArray⟩ : ByteArray).size = b.length := List.size_toArray ..
  rw [run_string_add_sum W _ _ (by omega)]
  congr 2
theorem dec_len2 {i : Nat} (h : i < 100) : (Lib.decDigits i).length ≤ 2 := dec_length_le 1 i (by simpa using h)
theorem itoa_any (i : Nat) (hi : i < 100) (w : World) : Calls Tryd.prog 43 #[.int .i64 i] w fun e w' => e = .returned (.string ⟨(Lib.decDigits i).toArray⟩) ∧ w' = w := by
  have HF := fun W => Lib.hid (Tryd.internal_strconv_FormatInt_10_small i hi W)
  have HI : ∀ W, Hid (Calls Tryd.prog 55 #[.int .i64 i] W fun e w' => e = .returned (.string ⟨(Lib.decDigits i).toArray⟩) ∧ w' = W) := by
    intro W
    simp only [Hid]
    generalize Lib.decDigits i = l at HF ⊢
    go_enter Tryd.func55, Tryd.ntmps55
    go_wp2_with (go_at_call 62; refine (HF _).out.mono ?_; rintro e w' ⟨rfl, rfl⟩)
    go_ret
    exact ⟨rfl, rfl⟩
  generalize Lib.decDigits i = l at HI ⊢
  go_enter Tryd.func43, Tryd.ntmps43
  go_wp2_with (go_at_call 55; refine (HI _).out.mono ?_; rintro e w' ⟨rfl, rfl⟩)
  go_ret
  exact ⟨rfl, rfl⟩
/-- A parent's name. -/
def nmL (p : Nat) : List UInt8 := 112 :: Lib.decDigits p
theorem name_any (p : Nat) (hp : p < 100) (w : World) : Calls Tryd.prog 32 #[.int .i64 p] w fun e w' => e = .returned (.string ⟨(nmL p).toArray⟩) ∧ w' = w := by
  have HI := fun W => Lib.hid (itoa_any p hp W)
  have hl := dec_len2 hp
  have hA := catRun (a := [112]) (b := Lib.decDigits p) (by simp; omega)
  unfold nmL
  generalize Lib.decDigits p = l at HI hA ⊢
  go_enter Tryd.func32, Tryd.ntmps32
  go_wp2_with (go_at_call 43; refine (HI _).out.mono ?_; rintro e w' ⟨rfl, rfl⟩)
  go_ret
  exact ⟨rfl, rfl⟩
/-- A text that may be a name. -/
def NameOk (l : List UInt8) : Prop := 0 < l.length ∧ l.length ≤ 100 ∧ ∀ c ∈ l, 33 ≤ c.toNat ∧ c.toNat ≤ 126
theorem nmL_ok {p : Nat} (hp : p < 100) : NameOk (nmL p) := by
  have hl := dec_len2 hp
  refine ⟨by unfold nmL; simp, by unfold nmL; simp; omega, fun c hc => ?_⟩
  unfold nmL at hc
  rcases List.mem_cons.1 hc with rfl | hc
  · decide
  · have := dec_dig p c hc; omega
theorem rname_any (l : List UInt8) (h : NameOk l) (w : World) : Calls Tryd.prog 42 #[.string ⟨l.toArray⟩] w fun e w' => e = .returned (.bool true) ∧ w' = w := by
  have hsz : (⟨l.toArray⟩ : ByteArray).size = l.length := List.size_toArray ..
  obtain ⟨h1, h2, h3⟩ := h
  have H3 := Lib.hid h3
  clear h3
  have i1 : ¬ (l.length : Int) < 1 := by omega
  have i2 : ¬ (100 : Int) < (l.length : Int) := by omega
  go_enter Tryd.func42, Tryd.ntmps42
  go_wp2_with fail
  go_loopw [3, 14] (fun _ i wr => wr = w ∧ ∃ k : Nat, k ≤ l.length ∧ i = .int .i64 k) (fun _ i _ => l.length - (intOf i).toNat)
  case atStart => exact ⟨rfl, 0, Nat.zero_le _, rfl⟩
  case round =>
    obtain ⟨rfl, k, hk, rfl⟩ := hrel
    by_cases hlt : k < l.length
    · obtain ⟨c, hc⟩ : ∃ c, (⟨l.toArray⟩ : ByteArray)[k]'(by rw [hsz]; exact hlt) = c := ⟨_, rfl⟩
      have hcl : l[k] = c := hc
      have h4 := H3.out l[k] (List.getElem_mem hlt)
      rw [hcl] at h4
      have j1 : ¬ (c.toNat : Int) < 33 := by omega
      have j2 : ¬ (126 : Int) < (c.toNat : Int) := by omega
      go_wp2_with fail
      go_roundw
      case rel => exact ⟨by first | trivial | rfl, k + 1, by omega, by go_num⟩
      case measure => simp [intOf]; omega
    · go_wp2_with fail
      go_ret
      exact ⟨rfl, rfl⟩
end Go.Proofs.YtnlamjebgkgbaaaDoor
