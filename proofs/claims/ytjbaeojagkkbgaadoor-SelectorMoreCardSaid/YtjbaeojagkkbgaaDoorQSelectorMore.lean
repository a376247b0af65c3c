/-
  SelectorMore is true of every selector, every requirement and every list of labels (the program as it is pinned, its tables as its text lays them), as the tied card says.
-/
import Derived.Test.YtjbaeojagkkbgaaDoorQS
import Derived.Test.YtjbaeojagkkbgaaDoorQTB
import Derived.Test.YtjbaeojagkkbgaaDoorQC
import Derived.Test.YtjbaeojagkkbgaaDoorTie
import Derived.Test.YtjbaeojagkkbgaaDoorCards
import Derived.Lay
import Derived.WalkKit
import Derived.ProofKit
import Derived.OpenShut
import Derived.ShutString
import Derived.ChangeMaps5
import Derived.SevenTiedAt
set_option linter.unusedVariables false
namespace Go.Proofs.YtjbaeojagkkbgaaDoor
open Go Go.PB Go.ChangeMaps Go.ChangeShapes Go.WideShapes Go.ChangeAt Go.RowKit

theorem selectorMore_own : ownKnob Tryd.prog.godebug = none := by kernel_rfl
theorem selectorMore_params : Tryd.f7.params.toList = [40, 49, 25] := by kernel_rfl

theorem selectorMore_types : TysOk Tryd.prog [.list (.agg (.pair .str (.pair (.int .i64) (.pair (.list .str) .unit)))), (.agg (.pair .str (.pair (.int .i64) (.pair (.list .str) .unit)))), .list (.agg (.pair .str (.pair .str .unit)))] Tryd.f7.params.toList := by
  rw [selectorMore_params]
  exact ⟨hTab 40 _ (by kernel_rfl), hTab 49 _ (by kernel_rfl), hTab 25 _ (by kernel_rfl), trivial⟩

set_option maxRecDepth 100000 in
theorem selectorMore_lifted (os : Os) (started : os.Started) (H : Type) (enc : TypeId × Value → H) :
    ReturnsInHanded {} Tryd.checked os 7 .any (fun w args => (Rows.selectorMoreSpec.pre enc Tryd.prog Tryd.f7 [] false w args ∧ laidMetH Tryd.prog Rows.selectorMoreRow.laid w) ∧ sizedMet enc Tryd.prog Tryd.f7 (OpenSpec.ofChange Rows.selectorMoreSpec) false w args)
      (Rows.selectorMoreSpec.post enc Tryd.prog Tryd.f7 false true false false) := by
  refine returnsInHanded_of_change_both (C := Tryd.checked) (X := fun w _ => laidMetH Tryd.prog Rows.selectorMoreRow.laid w) (fun _ _ _ hh h => h.of_heap hh) selectorMore_own started (by kernel_rfl) Tryd.func7
    (ChangeSpec.witness_shaped (enc := enc) (C := Tryd.checked) (os := os) (X := fun w _ => laidMetH Tryd.prog Rows.selectorMoreRow.laid w) false (World.laidAll Tryd.prog os Rows.selectorMoreRow.laid) #[.slice none 0 0, .agg #[.string sNil, .int .i64 0, .slice none 0 0], .slice none 0 0] 8 (World.laidAll_os _ _ _)
      (World.shaped_of_ZipB (by kernel_rfl) (by kernel_rfl)) (by kernel_rfl) (by kernel_rfl) (by kernel_rfl)
      (by rw [MakeChecks.laidMetH_plain _ _ _ (by kernel_rfl)]; exact laidMet_laidAll _ (by kernel_rfl) (by kernel_rfl))) ?_
  intro W base args ds gs before hval hW hsh _
  exact row_contract (ts := [.list (.agg (.pair .str (.pair (.int .i64) (.pair (.list .str) .unit)))), (.agg (.pair .str (.pair (.int .i64) (.pair (.list .str) .unit)))), .list (.agg (.pair .str (.pair .str .unit)))]) (tb := 4) (f7_all 5000) (fun v _ => f7_true v.1 v.2.1 v.2.2.1) selectorMore_types (by kernel_rfl) (by kernel_rfl) (by kernel_rfl) (by kernel_rfl) rfl (by kernel_rfl) Tryd.underlying4
    (fun H ds h => by match ds, h with | [d0, d1, d2], _ => rfl) W base args ds gs before hval hW hsh

theorem selectorMore_holds : Rows.SelectorMoreSaid :=
  OpenClaim.holds_of_wide 7 Tryd.f7 rfl rfl rfl rfl rfl rfl rfl ⟨rfl, rfl, rfl, rfl, rfl⟩ rfl rfl rfl rfl rfl (by kernel_rfl) Tryd.func7 (by kernel_rfl)
    (of_decide_eq_true (by kernel_rfl)) (by unfold Func.isWrapper; first | (rw [if_pos (by decide +kernel)]; kernel_rfl) | (rw [if_neg (by decide +kernel)]; exact ⟨rfl, rfl⟩))
    (fun os started H enc _ => selectorMore_lifted os started H enc)

theorem selectorMore_card : Rows.SelectorMoreCardSaid :=
  Claim7.holds_tied_plain_at .later [] [.data, .pinned] true Rows.selectorMoreCard.stood.harness false selectorMore_holds (fun _ h => by cases h) (by kernel_rfl) (fun _ h => by cases h) selectorMore_row_tie rfl ⟨rfl, rfl⟩ (by kernel_rfl) rfl
    (fun f fn hf hfn => by
      obtain rfl : f = 7 := Option.some.inj ((show Tryd.prog.funcNamed Rows.selectorMoreRow.func = some 7 by kernel_rfl).symm.trans hf) |>.symm
      obtain rfl : fn = Tryd.f7 := (Option.some.inj (Tryd.func7.symm.trans hfn)).symm
      exact ⟨by kernel_rfl, fun j t ht => by
        have hm : t ∈ [40, 49, 25] := by rw [← selectorMore_params]; exact Array.mem_toList_iff.2 (Array.mem_of_getElem? ht)
        have hall : ([40, 49, 25].all fun u => !Tryd.prog.wantsStandIn u) = true := by kernel_rfl
        exact (show Tryd.prog.wantsStandIn t = false by simpa using List.all_eq_true.1 hall t hm)⟩)
    (by kernel_rfl)
end Go.Proofs.YtjbaeojagkkbgaaDoor
