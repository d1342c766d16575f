/- Contracts of the reference's Of, Or, And, Less; of Spans; of great. -/
import Derived.Test.YtfpfdgljhcpkpaaDoorB12
namespace Go.Proofs.YtfpfdgljhcpkpaaDoor
open Go.RowKit

theorem RetSp.of {L : List (Int × Int)} {w : World} {A : Option Addr} {c : Nat} {w' : World} (h : Own w' w.heap.size A c L) (hb : Below w.heap.size w w') : RetSp L w (.returned (.slice A L.length c)) w' := ⟨A, c, rfl, h, hb⟩

set_option maxHeartbeats 400000 in
theorem rOf_any (A : Option Addr) (c : Nat) (L : List (Int × Int)) (w : World) (h : Sp w A c L) (hl : L.length ≤ 100000) :
    Calls Tryd.prog 26 #[.slice A L.length c] w (RetSp (cano L) w) := by
  have hE := Lib.hid (rof_any A c L none 0 [] 1 w h (Sp.nil w) hl (by simp) (.inl rfl))
  clear h
  go_enter Tryd.func26, Tryd.ntmps26
  go_wp2_with fail
  refine hE.out.mono ?_
  rintro e w1 ⟨A1, c1, rfl, ho, hb⟩
  have HO := Lib.hid ho
  have HB := Lib.hid hb
  clear ho hb hE
  go_wp2_with fail
  go_ret
  exact RetSp.of HO.out HB.out

set_option maxHeartbeats 400000 in
theorem rLess_any (A : Option Addr) (c : Nat) (L : List (Int × Int)) (B : Option Addr) (d : Nat) (M : List (Int × Int)) (w : World) (h : Sp w A c L) (h' : Sp w B d M) (hl : L.length ≤ 100000) (hl' : M.length ≤ 100000) :
    Calls Tryd.prog 27 #[.slice A L.length c, .slice B M.length d] w (RetSp (ofOp L M 3) w) := by
  have hE := Lib.hid (rof_any A c L B d M 3 w h h' hl hl' (.inr (.inr rfl)))
  clear h h'
  go_enter Tryd.func27, Tryd.ntmps27
  go_wp2_with fail
  refine hE.out.mono ?_
  rintro e w1 ⟨A1, c1, rfl, ho, hb⟩
  have HO := Lib.hid ho
  have HB := Lib.hid hb
  clear ho hb hE
  go_wp2_with fail
  go_ret
  exact RetSp.of HO.out HB.out

/-- The slices of a list in a row. -/
def RowSl (w : World) (g : Nat) (S : List (Option Addr × Nat × Nat)) : Prop := ∀ i x, S[i]? = some x → w.cell? ⟨g, i, none⟩ = some (.slice x.1 x.2.1 x.2.2)
def greatL (S : List (Option Addr × Nat × Nat)) : Bool := S.any fun x => decide (20 < x.2.1)

end Go.Proofs.YtfpfdgljhcpkpaaDoor
