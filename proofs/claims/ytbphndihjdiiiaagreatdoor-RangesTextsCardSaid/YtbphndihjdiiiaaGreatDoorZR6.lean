/- The table that the numbers' texts read, and strconv's errors, out of what is laid. -/
import Derived.Test.YtbphndihjdiiiaaGreatDoorZR3
import Derived.Test.YtbphndihjdiiiaaGreatDoorZE3
import Derived.Lib.LaidTab
import Derived.LaidSub
import Derived.LaidMore
import Derived.Lay
import Derived.Stop.LaidErr
namespace Go.Proofs.YtbphndihjdiiiaaGreatDoor
open Go.ChangeShapes Go.WideShapes Go.ChangeAt Go.RowKit
theorem tabE_of_laid {W : World} (h : laidMetH Tryz.prog Rows.rangesTextsRow.laid W) : Lib.TabIs Tryz.prog W "internal/strconv.uint64pow10" .u64 Lib.pow10Tab := by
  rw [MakeChecks.laidMetH_plain _ _ _ (by kernel_rfl)] at h
  have h2 : laidMet Tryz.prog [("internal/strconv.uint64pow10", Rows.laid_internal_strconv_uint64pow10)] W := laidMet.filter (fun x => x.1 == "internal/strconv.uint64pow10") h
  have h3 : laidMet Tryz.prog [("internal/strconv.uint64pow10", Lib.tabData .u64 Lib.pow10Tab)] W := h2
  exact Lib.tabIs_of_head (g := 5) (t := 306) (e := 216) (n := 20) (by kernel_rfl) (by kernel_rfl) Tryz.underlying306 Tryz.underlying216 (by kernel_rfl) (by kernel_rfl) h3
theorem gES : Tryz.prog.globalNamed "strconv.ErrSyntax" = some 3 := by kernel_rfl
theorem gESType : (Tryz.prog.globals[3]?).map (·.type) = some 116 := by kernel_rfl
theorem gER : Tryz.prog.globalNamed "strconv.ErrRange" = some 4 := by kernel_rfl
theorem gERType : (Tryz.prog.globals[4]?).map (·.type) = some 116 := by kernel_rfl
theorem cellsES : Tryz.prog.cellsOf 319 = 1 := by kernel_rfl
theorem cellsStr : Tryz.prog.cellsOf 9 = 1 := by kernel_rfl
theorem starES : "*" ++ "errors.errorString" = "*errors.errorString" := by decide
/-- The one row of that name. -/
theorem rowES (u : TypeId) (h : Tryz.prog.typeName? 3 u = some "*errors.errorString") : u = 317 :=
  typeName_ptr_named (nm := "errors.errorString") (by rw [starES]; kernel_rfl) (by kernel_rfl) (by decide) u (by rw [starES]; exact h)
theorem errs_of_laid {W : World} (h : laidMetH Tryz.prog Rows.rangesTextsRow.laid W) : ErrsOk W := by
  rw [MakeChecks.laidMetH_plain _ _ _ (by kernel_rfl)] at h
  have h1 : laidMet Tryz.prog [("strconv.ErrSyntax", Rows.laid_strconv_ErrSyntax)] W := laidMet.filter (fun x => x.1 == "strconv.ErrSyntax") h
  have h2 : laidMet Tryz.prog [("strconv.ErrRange", Rows.laid_strconv_ErrRange)] W := laidMet.filter (fun x => x.1 == "strconv.ErrRange") h
  obtain ⟨a0, s0, hv0, -, -, -⟩ := laid_sentinel h1 gES gESType Tryz.underlying116 rowES Tryz.underlying317 Tryz.underlying319 rfl rfl Tryz.underlying9 cellsES cellsStr
  obtain ⟨a1, s1, hv1, -, -, -⟩ := laid_sentinel h2 gER gERType Tryz.underlying116 rowES Tryz.underlying317 Tryz.underlying319 rfl rfl Tryz.underlying9 cellsES cellsStr
  exact ⟨⟨_, by have h0 := World.var?_cell gES hv0 0; simpa using h0, Or.inr ⟨_, _, rfl⟩⟩, ⟨_, by have h0 := World.var?_cell gER hv1 0; simpa using h0, Or.inr ⟨_, _, rfl⟩⟩⟩
end Go.Proofs.YtbphndihjdiiiaaGreatDoor
