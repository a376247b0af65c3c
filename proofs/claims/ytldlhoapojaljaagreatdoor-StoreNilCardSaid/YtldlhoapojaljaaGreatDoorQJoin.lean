/-
  StoreNil: facts of the program that the row asks for.
-/
import Derived.Test.YtldlhoapojaljaaGreatDoorQKnown
import Derived.Test.YtldlhoapojaljaaGreatDoorRows
import Derived.JoinedOf
set_option linter.unusedVariables false
namespace Go.Proofs.YtldlhoapojaljaaGreatDoor
open Go Go.RowKit Go.PB
theorem j1 : Rows.storeNilRow.wf (OpenSpec.ofChange Rows.storeNilSpec) = true := by kernel_rfl
theorem j2 : laidOutB Tryz.prog = true := by kernel_rfl
theorem j3 : mapsRowed Tryz.prog = true := by kernel_rfl
theorem j4 : Tryz.f3.params.all (Tryz.prog.readableRec ·) = true := by kernel_rfl
theorem j5 : namedTie Tryz.prog Rows.storeNilRow.named Rows.storeNilSpec.vars = true := by kernel_rfl
theorem j6 : (Rows.storeNilRow.inPlace == Tryz.prog.inPlace 3) = true := by kernel_rfl
theorem j7 : (Rows.storeNilRow.unfollowed == Tryz.prog.unfollowed 3) = true := by kernel_rfl
theorem j8 : (Rows.storeNilRow.recurses == Tryz.prog.recurses 3) = true := by kernel_rfl
theorem j9 : (Rows.storeNilRow.named == Tryz.prog.varsNamed 3) = true := by kernel_rfl
theorem j10 : Tryz.prog.stopsHeard = true := by kernel_rfl
theorem j11 : Tryz.prog.mayEnter = true := by kernel_rfl
theorem j12 : (Tryz.prog.make == some Rows.storeNilRow.make) = true := by kernel_rfl
theorem j13 : (Rows.storeNilRow.plainKeys == Tryz.prog.plainKeys) = true := by kernel_rfl
end Go.Proofs.YtldlhoapojaljaaGreatDoor

namespace Go.Proofs.YtldlhoapojaljaaGreatDoor
open Go Go.RowKit Go.PB
theorem joined : joinedFacts Tryz.prog 3 Tryz.f3 Rows.storeNilSpec Rows.storeNilRow = true := by
  unfold joinedFacts
  rw [j1, j2, j3, j4, j5, j6, j7, j8, j9, j10, j11, j12, j13]
  kernel_rfl
end Go.Proofs.YtldlhoapojaljaaGreatDoor
