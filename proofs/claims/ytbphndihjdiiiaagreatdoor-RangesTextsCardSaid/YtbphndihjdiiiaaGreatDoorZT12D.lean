/- Contracts of the texts of ranges: the program's and the document's. -/
import Derived.Test.YtbphndihjdiiiaaGreatDoorZB11
import Derived.Test.YtbphndihjdiiiaaGreatDoorZT1
import Derived.Test.YtbphndihjdiiiaaGreatDoorZW3
import Derived.Test.YtbphndihjdiiiaaGreatDoorZM1
import Derived.Test.YtbphndihjdiiiaaGreatDoorZV1
import Derived.Test.YtbphndihjdiiiaaGreatDoorZF0
import Derived.MapKept
namespace Go.Proofs.YtbphndihjdiiiaaGreatDoor
open Go.RowKit

theorem digN_one {n : Int} (h0 : 0 ≤ n) (h : n < 10) : digN n = [UInt8.ofNat (48 + n.toNat)] := by
  unfold digN; rw [Lib.decDigits, dif_pos (by omega)]
theorem digN_more {n : Int} (h : ¬ n < 10) : digN n = digN (n / 10) ++ [UInt8.ofNat (48 + (n % 10).toNat)] := by
  unfold digN
  rw [Lib.decDigits, dif_neg (by omega)]
  have e1 : (n / 10).toNat = n.toNat / 10 := by omega
  have e2 : (n % 10).toNat = n.toNat % 10 := by omega
  rw [e1, e2]
theorem itoa_dig {n : Int} (h0 : 0 ≤ n) : Lib.itoa n = digN n := by
  unfold Lib.itoa digN; rw [if_neg (by omega)]
end Go.Proofs.YtbphndihjdiiiaaGreatDoor
/- Contract of spec.Text. -/
namespace Go.Proofs.YtbphndihjdiiiaaGreatDoor
open Go.RowKit

end Go.Proofs.YtbphndihjdiiiaaGreatDoor
/- Contract of the document's Text. -/
namespace Go.Proofs.YtbphndihjdiiiaaGreatDoor
open Go.RowKit

end Go.Proofs.YtbphndihjdiiiaaGreatDoor
/- The walk of SpecTexts. -/
namespace Go.Proofs.YtbphndihjdiiiaaGreatDoor
open Go.RowKit

end Go.Proofs.YtbphndihjdiiiaaGreatDoor
