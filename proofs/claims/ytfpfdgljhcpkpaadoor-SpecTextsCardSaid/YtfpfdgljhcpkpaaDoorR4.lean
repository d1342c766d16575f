/- The table that the numbers' texts read, out of what is laid. -/
import Derived.Test.YtfpfdgljhcpkpaaDoorR3
import Derived.Test.YtfpfdgljhcpkpaaDoorLaidF
import Derived.Lib.LaidTab
import Derived.LaidSub
import Derived.LaidMore
import Derived.Lay
namespace Go.Proofs.YtfpfdgljhcpkpaaDoor
open Go.ChangeShapes Go.WideShapes Go.ChangeAt Go.RowKit
theorem tab_of_laid {W : World} (h : laidMetH Tryd.prog Rows.specTextsRow.laid W) : Lib.TabIs Tryd.prog W "internal/strconv.uint64pow10" .u64 Lib.pow10Tab := by
  rw [MakeChecks.laidMetH_plain _ _ _ (by kernel_rfl)] at h
  have h2 : laidMet Tryd.prog [("internal/strconv.uint64pow10", Rows.laid_internal_strconv_uint64pow10)] W := laidMet.filter (fun x => x.1 == "internal/strconv.uint64pow10") h
  have h3 : laidMet Tryd.prog [("internal/strconv.uint64pow10", Lib.tabData .u64 Lib.pow10Tab)] W := h2
  exact Lib.tabIs_of_head (g := 3) (t := 249) (e := 166) (n := 20) (by kernel_rfl) (by kernel_rfl) Tryd.underlying249 Tryd.underlying166 (by kernel_rfl) (by kernel_rfl) h3
end Go.Proofs.YtfpfdgljhcpkpaaDoor
