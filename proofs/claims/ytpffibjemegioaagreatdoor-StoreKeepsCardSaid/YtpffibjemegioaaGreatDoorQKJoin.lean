/-
  StoreKeeps: facts of the program that the row asks for.
-/
import Derived.Test.YtpffibjemegioaaGreatDoorQKKnown
import Derived.JoinedOf
set_option linter.unusedVariables false
namespace Go.Proofs.YtpffibjemegioaaGreatDoor
open Go Go.RowKit Go.PB
theorem j1 : Rows.storeKeepsRow.wf (OpenSpec.ofChange Rows.storeKeepsSpec) = true := by kernel_rfl
theorem j2 : laidOutB Tryz.prog = true := by kernel_rfl
theorem j3 : mapsRowed Tryz.prog = true := by kernel_rfl
theorem j4 : Tryz.f6.params.all (Tryz.prog.readableRec ·) = true := by kernel_rfl
theorem j5 : namedTie Tryz.prog Rows.storeKeepsRow.named Rows.storeKeepsSpec.vars = true := by kernel_rfl
theorem j6 : (Rows.storeKeepsRow.inPlace == Tryz.prog.inPlace 6) = true := by kernel_rfl
theorem j7 : (Rows.storeKeepsRow.unfollowed == Tryz.prog.unfollowed 6) = true := by kernel_rfl
theorem j8 : (Rows.storeKeepsRow.recurses == Tryz.prog.recurses 6) = true := by kernel_rfl
theorem j9 : (Rows.storeKeepsRow.named == Tryz.prog.varsNamed 6) = true := by kernel_rfl
theorem j10 : Tryz.prog.stopsHeard = true := by kernel_rfl
theorem j11 : Tryz.prog.mayEnter = true := by kernel_rfl
theorem j12 : (Tryz.prog.make == some Rows.storeKeepsRow.make) = true := by kernel_rfl
theorem j13 : (Rows.storeKeepsRow.plainKeys == Tryz.prog.plainKeys) = true := by kernel_rfl
end Go.Proofs.YtpffibjemegioaaGreatDoor
namespace Go.Proofs.YtpffibjemegioaaGreatDoor
open Go Go.RowKit Go.PB
theorem joined : joinedFacts Tryz.prog 6 Tryz.f6 Rows.storeKeepsSpec Rows.storeKeepsRow = true := by
  unfold joinedFacts
  rw [j1, j2, j3, j4, j5, j6, j7, j8, j9, j10, j11, j12, j13]
  kernel_rfl
end Go.Proofs.YtpffibjemegioaaGreatDoor
