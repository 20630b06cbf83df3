/- How lists of sets are read. -/
import Derived.Test.YtnbolgdccdnjeaaGreatDoorRA
namespace Go.Proofs.YtnbolgdccdnjeaaGreatDoor
open Go.ChangeShapes Go.WideShapes Go.ChangeAt Go.RowKit Go.Deep
theorem reads_sets : Reads Tryz.prog 68 1 (RSl RSet 4) := reads_slice Tryz.underlying68 (by kernel_rfl) (by decide) (of_decide_eq_true (by kernel_rfl)) reads_set
end Go.Proofs.YtnbolgdccdnjeaaGreatDoor
