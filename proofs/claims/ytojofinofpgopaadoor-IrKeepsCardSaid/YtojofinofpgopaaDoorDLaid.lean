/- The listed tables, read. -/
import Derived.Test.YtojofinofpgopaaDoorMgDf
import Derived.Test.YtojofinofpgopaaDoorSeat
import Derived.Lay
import Derived.LaidMore
import Derived.MakeChecks
import Derived.Stop.Joined
import Derived.Stop.LaidErr
import Derived.Lib.LaidTab
namespace Go.Proofs.YtojofinofpgopaaDoor
open Go.Joins Go.ChangeShapes Go.WideShapes Go.ChangeAt Go.RowKit Go.Deep
/-- The three listed tables. -/
abbrev tabs : List (String × DataW Unit) := Rows.irPrintsRow.laid
def low64 : List Int := [0, 1, 56, 2, 57, 49, 28, 3, 61, 58, 42, 50, 38, 29, 17, 4, 62, 47, 59, 36, 45, 43, 51, 22, 53, 39, 33, 30, 24, 18, 12, 5, 63, 55, 48, 27, 60, 41, 37, 16, 46, 35, 44, 21, 52, 32, 23, 11, 54, 26, 40, 15, 34, 20, 31, 10, 25, 14, 19, 9, 13, 8, 7, 6]
theorem tb_of {W : World} (h : laidMetH Tryd.prog tabs W) : Tb W := by
  rw [MakeChecks.laidMetH_plain _ _ _ (by kernel_rfl)] at h
  have h1 : laidMet Tryd.prog (("math/bits.deBruijn64tab", Lib.tabData .u8 low64) :: [("internal/strconv.uint64pow10", Rows.laid_internal_strconv_uint64pow10)]) W := h.tail
  have h2 : laidMet Tryd.prog (("internal/strconv.uint64pow10", Lib.tabData .u64 Lib.pow10Tab) :: []) W := h.tail.tail
  have t1 := Lib.tabIs_of_head (g := 2) (t := 150) (by kernel_rfl) (by kernel_rfl) Tryd.underlying150 Tryd.underlying5 (by kernel_rfl) (by kernel_rfl) h1
  have t2 := Lib.tabIs_of_head (g := 0) (t := 140) (by kernel_rfl) (by kernel_rfl) Tryd.underlying140 Tryd.underlying89 (by kernel_rfl) (by kernel_rfl) h2
  exact ⟨t2, t1.cell (by kernel_rfl) 15 (by decide)⟩
theorem tabs_met (os : Os) (args : Array Value) : laidMetH Tryd.prog tabs ((World.laidAll Tryd.prog os tabs).forCall (fun _ _ => 0) ⟨#[], args, []⟩).memory := by
  rw [MakeChecks.laidMetH_plain _ _ _ (by kernel_rfl)]
  exact laidMet_laidAll _ (by kernel_rfl) (by kernel_rfl)
end Go.Proofs.YtojofinofpgopaaDoor
