/- The number's text at this program, for every number. -/
import Derived.Test.YtfpfdgljhcpkpaaDoorB11
import Derived.Shelf.Strconv.Itoa3
namespace Go.Proofs
open Go.Shelf
theorem Tryd.laysM246 : Go.Proofs.LaysM.n246 Tryd.prog Tryd.lays246_ren := { Tryd.lays246 with
  i0 := by kernel_rfl
  i2 := by kernel_rfl
  i3 := by kernel_rfl
  i4 := by kernel_rfl
  i5 := by kernel_rfl
  i9 := by kernel_rfl
  i20 := by kernel_rfl
  i37 := by kernel_rfl
  i46 := by kernel_rfl
  i51 := by kernel_rfl
  i53 := by kernel_rfl
  i171 := by kernel_rfl
  i173 := by kernel_rfl
  i212 := by kernel_rfl
  i232 := by kernel_rfl
  i233 := by kernel_rfl
  m17 := by kernel_rfl
  m18 := by kernel_rfl
  m19 := by kernel_rfl }
namespace YtfpfdgljhcpkpaaDoor
open Go.Shelf Go.Sort
open Go.RowKit
theorem tab_below {P : Program} {w w' : World} {name : String} {k : IntKind} {zs : List Int} (h : Lib.TabIs P w name k zs) (hb : Below w.heap.size w w') : Lib.TabIs P w' name k zs := by
  unfold Lib.TabIs World.var? at *
  cases hg : P.globalNamed name with
  | none => rw [hg] at h; simp at h
  | some g =>
    rw [hg] at h
    simp only [Option.bind_some] at h ⊢
    have hlt : g < w.heap.size := by
      rcases Nat.lt_or_ge g w.heap.size with h' | h'
      · exact h'
      · rw [Array.getElem?_eq_none h'] at h; simp at h
    rw [hb.block g hlt]; exact h
theorem below_growQ (W : World) (q : Nat) (os : Array Obj) : Below W.heap.size W (grow (W.drewN q) os) := by
  refine ⟨rfl, rfl, rfl, ?_, fun k hk => ?_⟩
  · simp [grow]
  · rw [heap_grow_old _ _ (by simpa using hk)]; rfl
set_option maxHeartbeats 1000000 in
/-- A number's text, whatever the number. -/
theorem fmt_any (n : Int) (h0 : -9223372036854775808 ≤ n) (h1 : n ≤ 9223372036854775807) (w : World) (htab : Lib.TabIs Tryd.prog w "internal/strconv.uint64pow10" .u64 Lib.pow10Tab) :
    Calls Tryd.prog 77 #[.int .i64 n, .int .i64 10] w fun e w' => e = .returned (.string ⟨(Lib.itoa n).toArray⟩) ∧ Below w.heap.size w w' := by
  have hF := Any.internal_strconv_FormatInt_10 Tryd.laysM246 n h0 h1 w htab
  generalize (⟨(Lib.itoa n).toArray⟩ : ByteArray) = r at hF ⊢
  have HF := Lib.hid hF
  clear hF htab
  go_enter Tryd.func77, Tryd.ntmps77
  go_wp2_with fail
  refine HF.out.mono ?_
  rintro e w1 ⟨rfl, q, os, rfl⟩
  go_wp2_with fail
  go_ret
  exact ⟨rfl, below_growQ w q os⟩
end YtfpfdgljhcpkpaaDoor
end Go.Proofs
