/-
  LabelSets is true of every list of labels, every key and every value (the program as it is pinned, its tables as its text lays them), as the tied card says.
-/
import Derived.Test.YtjbaeojagkkbgaaDoorQM
import Derived.Test.YtjbaeojagkkbgaaDoorQTB
import Derived.Test.YtjbaeojagkkbgaaDoorQC
import Derived.Test.YtjbaeojagkkbgaaDoorTie
import Derived.Test.YtjbaeojagkkbgaaDoorCards
import Derived.Lay
import Derived.WalkKit
import Derived.ProofKit
import Derived.OpenShut
import Derived.ShutString
import Derived.ChangeMaps5
import Derived.SevenTiedAt
set_option linter.unusedVariables false
namespace Go.Proofs.YtjbaeojagkkbgaaDoor
open Go Go.PB Go.ChangeMaps Go.ChangeShapes Go.WideShapes Go.ChangeAt Go.RowKit

theorem labelSets_own : ownKnob Tryd.prog.godebug = none := by kernel_rfl
theorem labelSets_params : Tryd.f5.params.toList = [25, 9, 9] := by kernel_rfl

theorem labelSets_types : TysOk Tryd.prog [.list (.agg (.pair .str (.pair .str .unit))), .str, .str] Tryd.f5.params.toList := by
  rw [labelSets_params]
  exact ⟨hTab 25 _ (by kernel_rfl), hTab 9 _ (by kernel_rfl), hTab 9 _ (by kernel_rfl), trivial⟩

set_option maxRecDepth 100000 in
theorem labelSets_lifted (os : Os) (started : os.Started) (H : Type) (enc : TypeId × Value → H) :
    ReturnsInHanded {} Tryd.checked os 5 .any (fun w args => (Rows.labelSetsSpec.pre enc Tryd.prog Tryd.f5 [] false w args ∧ laidMetH Tryd.prog Rows.labelSetsRow.laid w) ∧ sizedMet enc Tryd.prog Tryd.f5 (OpenSpec.ofChange Rows.labelSetsSpec) false w args)
      (Rows.labelSetsSpec.post enc Tryd.prog Tryd.f5 false true false false) := by
  refine returnsInHanded_of_change_both (C := Tryd.checked) (X := fun w _ => laidMetH Tryd.prog Rows.labelSetsRow.laid w) (fun _ _ _ hh h => h.of_heap hh) labelSets_own started (by kernel_rfl) Tryd.func5
    (ChangeSpec.witness_shaped (enc := enc) (C := Tryd.checked) (os := os) (X := fun w _ => laidMetH Tryd.prog Rows.labelSetsRow.laid w) false (World.laidAll Tryd.prog os Rows.labelSetsRow.laid) #[.slice none 0 0, .string sNil, .string sNil] 8 (World.laidAll_os _ _ _)
      (World.shaped_of_ZipB (by kernel_rfl) (by kernel_rfl)) (by kernel_rfl) (by kernel_rfl) (by kernel_rfl)
      (by rw [MakeChecks.laidMetH_plain _ _ _ (by kernel_rfl)]; exact laidMet_laidAll _ (by kernel_rfl) (by kernel_rfl))) ?_
  intro W base args ds gs before hval hW hsh _
  exact row_contract (ts := [.list (.agg (.pair .str (.pair .str .unit))), .str, .str]) (tb := 4) (f5_all 5000) (fun v _ => f5_true v.1 v.2.1 v.2.2.1) labelSets_types (by kernel_rfl) (by kernel_rfl) (by kernel_rfl) (by kernel_rfl) rfl (by kernel_rfl) Tryd.underlying4
    (fun H ds h => by match ds, h with | [d0, d1, d2], _ => rfl) W base args ds gs before hval hW hsh

theorem labelSets_holds : Rows.LabelSetsSaid :=
  OpenClaim.holds_of_wide 5 Tryd.f5 rfl rfl rfl rfl rfl rfl rfl ⟨rfl, rfl, rfl, rfl, rfl⟩ rfl rfl rfl rfl rfl (by kernel_rfl) Tryd.func5 (by kernel_rfl)
    (of_decide_eq_true (by kernel_rfl)) (by unfold Func.isWrapper; first | (rw [if_pos (by decide +kernel)]; kernel_rfl) | (rw [if_neg (by decide +kernel)]; exact ⟨rfl, rfl⟩))
    (fun os started H enc _ => labelSets_lifted os started H enc)

theorem labelSets_card : Rows.LabelSetsCardSaid :=
  Claim7.holds_tied_plain_at .later [] [.data, .pinned] true Rows.labelSetsCard.stood.harness false labelSets_holds (fun _ h => by cases h) (by kernel_rfl) (fun _ h => by cases h) labelSets_row_tie rfl ⟨rfl, rfl⟩ (by kernel_rfl) rfl
    (fun f fn hf hfn => by
      obtain rfl : f = 5 := Option.some.inj ((show Tryd.prog.funcNamed Rows.labelSetsRow.func = some 5 by kernel_rfl).symm.trans hf) |>.symm
      obtain rfl : fn = Tryd.f5 := (Option.some.inj (Tryd.func5.symm.trans hfn)).symm
      exact ⟨by kernel_rfl, fun j t ht => by
        have hm : t ∈ [25, 9, 9] := by rw [← labelSets_params]; exact Array.mem_toList_iff.2 (Array.mem_of_getElem? ht)
        have hall : ([25, 9, 9].all fun u => !Tryd.prog.wantsStandIn u) = true := by kernel_rfl
        exact (show Tryd.prog.wantsStandIn t = false by simpa using List.all_eq_true.1 hall t hm)⟩)
    (by kernel_rfl)
end Go.Proofs.YtjbaeojagkkbgaaDoor
