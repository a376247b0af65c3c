/-
  ObjectSame: facts of the program that the row asks for.
-/
import Derived.Test.YtpffibjemegioaaGreatDoorQKnown
import Derived.JoinedOf
set_option linter.unusedVariables false
namespace Go.Proofs.YtpffibjemegioaaGreatDoor
open Go Go.RowKit Go.PB
theorem j1 : Rows.objectSameRow.wf (OpenSpec.ofChange Rows.objectSameSpec) = true := by kernel_rfl
theorem j2 : laidOutB Tryz.prog = true := by kernel_rfl
theorem j3 : mapsRowed Tryz.prog = true := by kernel_rfl
theorem j4 : Tryz.f4.params.all (Tryz.prog.readableRec ·) = true := by kernel_rfl
theorem j5 : namedTie Tryz.prog Rows.objectSameRow.named Rows.objectSameSpec.vars = true := by kernel_rfl
theorem j6 : (Rows.objectSameRow.inPlace == Tryz.prog.inPlace 4) = true := by kernel_rfl
theorem j7 : (Rows.objectSameRow.unfollowed == Tryz.prog.unfollowed 4) = true := by kernel_rfl
theorem j8 : (Rows.objectSameRow.recurses == Tryz.prog.recurses 4) = true := by kernel_rfl
theorem j9 : (Rows.objectSameRow.named == Tryz.prog.varsNamed 4) = true := by kernel_rfl
theorem j10 : Tryz.prog.stopsHeard = true := by kernel_rfl
theorem j11 : Tryz.prog.mayEnter = true := by kernel_rfl
theorem j12 : (Tryz.prog.make == some Rows.objectSameRow.make) = true := by kernel_rfl
theorem j13 : (Rows.objectSameRow.plainKeys == Tryz.prog.plainKeys) = true := by kernel_rfl
end Go.Proofs.YtpffibjemegioaaGreatDoor

namespace Go.Proofs.YtpffibjemegioaaGreatDoor
open Go Go.RowKit Go.PB
theorem joined : joinedFacts Tryz.prog 4 Tryz.f4 Rows.objectSameSpec Rows.objectSameRow = true := by
  unfold joinedFacts
  rw [j1, j2, j3, j4, j5, j6, j7, j8, j9, j10, j11, j12, j13]
  kernel_rfl
end Go.Proofs.YtpffibjemegioaaGreatDoor
