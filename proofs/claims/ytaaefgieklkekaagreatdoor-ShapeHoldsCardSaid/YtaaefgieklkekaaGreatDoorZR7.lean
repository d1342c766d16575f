/- What start-up code has laid, as the walks of the Shape laws read it. -/
import Derived.Test.YtaaefgieklkekaaGreatDoorZR3
import Derived.Test.YtaaefgieklkekaaGreatDoorZI19
import Derived.Lib.LaidTab
import Derived.LaidSub
import Derived.LaidMore
import Derived.Lay
namespace Go.Proofs.YtaaefgieklkekaaGreatDoor
open Go.ChangeShapes Go.WideShapes Go.ChangeAt Go.RowKit

def tzTab : List Int := [0, 1, 56, 2, 57, 49, 28, 3, 61, 58, 42, 50, 38, 29, 17, 4, 62, 47, 59, 36, 45, 43, 51, 22, 53, 39, 33, 30, 24, 18, 12, 5, 63, 55, 48, 27, 60, 41, 37, 16, 46, 35, 44, 21, 52, 32, 23, 11, 54, 26, 40, 15, 34, 20, 31, 10, 25, 14, 19, 9, 13, 8, 7, 6]
theorem gTZ : Tryz.prog.globalNamed "math/bits.deBruijn64tab" = some 7 := by kernel_rfl
theorem env_of_parts {W : World} (h1 : laidMet Tryz.prog [("internal/strconv.uint64pow10", Lib.tabData .u64 Lib.pow10Tab)] W) (h2 : laidMet Tryz.prog [("math/bits.deBruijn64tab", Lib.tabData .u8 tzTab)] W) : Env W := by
  have t1 := Lib.tabIs_of_head (g := 1) (t := 201) (e := 97) (n := 20) (by kernel_rfl) (by kernel_rfl) Tryz.underlying201 Tryz.underlying97 (by kernel_rfl) (by kernel_rfl) h1
  have t2 : Lib.TabIs Tryz.prog W "math/bits.deBruijn64tab" .u8 tzTab := Lib.tabIs_of_head (g := 7) (t := 239) (e := 5) (n := 64) (by kernel_rfl) (by kernel_rfl) Tryz.underlying239 Tryz.underlying5 (by kernel_rfl) (by kernel_rfl) h2
  refine ⟨t1, ?_⟩
  have h0 := World.var?_cell gTZ t2 15
  simpa [tzTab] using h0
theorem env_of_shapeTells {W : World} (h : laidMetH Tryz.prog Rows.shapeTellsRow.laid W) : Env W := by
  rw [MakeChecks.laidMetH_plain _ _ _ (by kernel_rfl)] at h
  have h1 : laidMet Tryz.prog [("internal/strconv.uint64pow10", Rows.laid_internal_strconv_uint64pow10)] W := laidMet.filter (fun x => x.1 == "internal/strconv.uint64pow10") h
  have h2 : laidMet Tryz.prog [("math/bits.deBruijn64tab", Rows.laid_math_bits_deBruijn64tab)] W := laidMet.filter (fun x => x.1 == "math/bits.deBruijn64tab") h
  exact env_of_parts h1 h2
theorem env_of_shapeHolds {W : World} (h : laidMetH Tryz.prog Rows.shapeHoldsRow.laid W) : Env W := by
  rw [MakeChecks.laidMetH_plain _ _ _ (by kernel_rfl)] at h
  have h1 : laidMet Tryz.prog [("internal/strconv.uint64pow10", Rows.laid_internal_strconv_uint64pow10)] W := laidMet.filter (fun x => x.1 == "internal/strconv.uint64pow10") h
  have h2 : laidMet Tryz.prog [("math/bits.deBruijn64tab", Rows.laid_math_bits_deBruijn64tab)] W := laidMet.filter (fun x => x.1 == "math/bits.deBruijn64tab") h
  exact env_of_parts h1 h2
theorem env_of_shapeRight {W : World} (h : laidMetH Tryz.prog Rows.shapeRightRow.laid W) : Env W := by
  rw [MakeChecks.laidMetH_plain _ _ _ (by kernel_rfl)] at h
  have h1 : laidMet Tryz.prog [("internal/strconv.uint64pow10", Rows.laid_internal_strconv_uint64pow10)] W := laidMet.filter (fun x => x.1 == "internal/strconv.uint64pow10") h
  have h2 : laidMet Tryz.prog [("math/bits.deBruijn64tab", Rows.laid_math_bits_deBruijn64tab)] W := laidMet.filter (fun x => x.1 == "math/bits.deBruijn64tab") h
  exact env_of_parts h1 h2
end Go.Proofs.YtaaefgieklkekaaGreatDoor
