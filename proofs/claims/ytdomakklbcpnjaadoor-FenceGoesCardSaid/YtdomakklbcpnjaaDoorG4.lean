/- The walk of FenceGoes. -/
import Derived.Test.YtdomakklbcpnjaaDoorG4B
namespace Go.Proofs.YtdomakklbcpnjaaDoor
open Go.RowKit

theorem fenceGoes_any (he : Bool) (A1 : Option Addr) (c1 : Nat) (R : List (Int × Int)) (A2 : Option Addr) (c2 : Nat) (H : List (Int × Int)) (A3 : Option Addr) (c3 : Nat) (F : List (Int × Int)) (tu fa : Bool) (ag : Int) (jo : Bool) (Am : Option Addr) (cm : Nat) (M : List (Int × Int)) (fl : Bool) (w : World) (h1 : Sp w A1 c1 R) (h2 : Sp w A2 c2 H) (h3 : Sp w A3 c3 F) (n1 : R.length ≤ 9223372036854775807) (n2 : H.length ≤ 9223372036854775807) (n3 : F.length ≤ 9223372036854775807) (h4 : Sp w Am cm M) (n4 : M.length ≤ 9223372036854775807) (hn : Names w) :
    Calls Tryd.prog 4 #[.agg #[.bool he, .slice A1 R.length c1, .slice A2 H.length c2, .slice A3 F.length c3, .bool tu, .bool fa, .int .i64 ag, .bool jo], .slice Am M.length cm, .bool fl] w fun e w' => e = .returned (.bool true) ∧ Below w.heap.size w w' := by
  cases fl
  · exact fenceGoes_false he A1 c1 R A2 c2 H A3 c3 F tu fa ag jo Am cm M w h1 h2 h3 n1 n2 n3 h4 n4 hn
  · exact fenceGoes_true he A1 c1 R A2 c2 H A3 c3 F tu fa ag jo Am cm M w h1 h2 h3 n1 n2 n3 h4 n4 hn
end Go.Proofs.YtdomakklbcpnjaaDoor
