/-
  What may not change in a store does not (the program as it is pinned, its tables as its text lays them), as the tied card says.
-/
import Derived.Test.YtpffibjemegioaaGreatDoorQKStore
import Derived.Test.YtpffibjemegioaaGreatDoorQKAll
import Derived.Test.YtpffibjemegioaaGreatDoorQKKnown
import Derived.Test.YtpffibjemegioaaGreatDoorQKJoin
import Derived.Test.YtpffibjemegioaaGreatDoorQKD
import Derived.Test.YtpffibjemegioaaGreatDoorTie
import Derived.Test.YtpffibjemegioaaGreatDoorCards
import Derived.Lay
import Derived.WalkKit
import Derived.ProofKit
import Derived.OpenShut
import Derived.ShutString
import Derived.ChangeMaps5
import Derived.SevenTiedAt
set_option linter.unusedVariables false
namespace Go.Proofs.YtpffibjemegioaaGreatDoor
open Go Go.PB Go.ChangeMaps Go.ChangeShapes Go.WideShapes Go.ChangeAt Go.RowKit
theorem storeKeeps_own : ownKnob Tryz.prog.godebug = none := by kernel_rfl
theorem storeKeeps_params : Tryz.f6.params.toList = [33] := by kernel_rfl
theorem storeKeeps_types : TysOk Tryz.prog [(.list (.agg (.pair (.int .i64) (.pair (.agg (.pair (.int .i64) (.pair .str (.pair (.int .i64) (.pair (.int .i64) (.pair .bool (.pair (.list .str) (.pair (.list (.agg (.pair .str (.pair .str .unit)))) (.pair (.list .str) (.pair .str (.pair (.int .i64) (.pair (.int .i64) (.pair (.list (.int .i64)) (.pair (.list .str) (.pair .str (.pair .str (.pair (.int .i64) (.pair .str (.pair .str (.pair .str .unit)))))))))))))))))))) (.pair .str (.pair (.list .str) (.pair (.int .i64) (.pair .bool (.pair .bool .unit)))))))))] Tryz.f6.params.toList := by
  rw [storeKeeps_params]
  exact ⟨hTab.ty 33 _ (by kernel_rfl), trivial⟩
set_option maxRecDepth 100000 in
theorem storeKeeps_lifted (os : Os) (started : os.Started) (H : Type) (enc : TypeId × Value → H) :
    ReturnsInHanded {} Tryz.checked os 6 .any (fun w args => (Rows.storeKeepsSpec.pre enc Tryz.prog Tryz.f6 [] false w args ∧ laidMetH Tryz.prog Rows.storeKeepsRow.laid w) ∧ sizedMet enc Tryz.prog Tryz.f6 (OpenSpec.ofChange Rows.storeKeepsSpec) false w args)
      (Rows.storeKeepsSpec.post enc Tryz.prog Tryz.f6 false true false false) := by
  refine returnsInHanded_of_change_both (C := Tryz.checked) (X := fun w _ => laidMetH Tryz.prog Rows.storeKeepsRow.laid w) (fun _ _ _ hh h => h.of_heap hh) storeKeeps_own started (by kernel_rfl) Tryz.func6
    (ChangeSpec.witness_shaped (enc := enc) (C := Tryz.checked) (os := os) (X := fun w _ => laidMetH Tryz.prog Rows.storeKeepsRow.laid w) false (World.laidAll Tryz.prog os Rows.storeKeepsRow.laid) #[.slice none 0 0] 8 (World.laidAll_os _ _ _)
      (World.shaped_of_ZipB (by kernel_rfl) (by kernel_rfl)) (by kernel_rfl) (by kernel_rfl) (by kernel_rfl)
      (by rw [MakeChecks.laidMetH_plain _ _ _ (by kernel_rfl)]; exact laidMet_laidAll _ (by kernel_rfl) (by kernel_rfl))) ?_
  intro W base args ds gs before hval hW hsh hX
  have hL : laidMet Tryz.prog Rows.storeKeepsRow.laid W := by
    rw [MakeChecks.laidMetH_plain _ _ _ (by kernel_rfl)] at hX
    exact hX
  have hK : Kz W := kz_of_laid hsh hL
  exact row_contract (G := gvAt W) (ts := [(.list (.agg (.pair (.int .i64) (.pair (.agg (.pair (.int .i64) (.pair .str (.pair (.int .i64) (.pair (.int .i64) (.pair .bool (.pair (.list .str) (.pair (.list (.agg (.pair .str (.pair .str .unit)))) (.pair (.list .str) (.pair .str (.pair (.int .i64) (.pair (.int .i64) (.pair (.list (.int .i64)) (.pair (.list .str) (.pair .str (.pair .str (.pair (.int .i64) (.pair .str (.pair .str (.pair .str .unit)))))))))))))))))))) (.pair .str (.pair (.list .str) (.pair (.int .i64) (.pair .bool (.pair .bool .unit)))))))))]) (tb := 4) (f6_all (fun w h => kz_below (gvAt_below h) hK) (lasting_at W) 300000) (fun v _ => Keeps.f6_true (by omega) awake_true v.1) storeKeeps_types (by kernel_rfl) (by kernel_rfl) (by kernel_rfl) (by kernel_rfl) rfl (by kernel_rfl) Tryz.underlying4
    (fun H ds h => by match ds, h with | [d0], _ => rfl) W base args ds gs before hval hW (gvAt_self W)
theorem storeKeeps_holds : Rows.StoreKeepsSaid :=
  OpenClaim.holds_of_wide 6 Tryz.f6 rfl rfl rfl rfl rfl rfl rfl ⟨rfl, rfl, rfl, rfl, rfl⟩ rfl rfl rfl rfl rfl (by kernel_rfl) Tryz.func6 joined
    (of_decide_eq_true (by kernel_rfl)) (by unfold Func.isWrapper; first | (rw [if_pos (by decide +kernel)]; kernel_rfl) | (rw [if_neg (by decide +kernel)]; exact ⟨rfl, rfl⟩))
    (fun os started H enc _ => storeKeeps_lifted os started H enc)
theorem storeKeeps_card : Rows.StoreKeepsCardSaid :=
  Claim7.holds_tied_plain_at .later [] [.data, .data, .data, .data, .sentinel, .sentinel, .pinned] true Rows.storeKeepsCard.stood.harness true storeKeeps_holds (fun _ h => by cases h) (by kernel_rfl) (fun _ h => by cases h) storeKeeps_row_tie rfl ⟨rfl, rfl⟩ (by kernel_rfl) rfl
    (fun f fn hf hfn => by
      obtain rfl : f = 6 := Option.some.inj ((show Tryz.prog.funcNamed Rows.storeKeepsRow.func = some 6 by kernel_rfl).symm.trans hf) |>.symm
      obtain rfl : fn = Tryz.f6 := (Option.some.inj (Tryz.func6.symm.trans hfn)).symm
      exact ⟨by kernel_rfl, fun j t ht => by
        have hm : t ∈ [33] := by rw [← storeKeeps_params]; exact Array.mem_toList_iff.2 (Array.mem_of_getElem? ht)
        have hall : ([33].all fun u => !Tryz.prog.wantsStandIn u) = true := by kernel_rfl
        exact (show Tryz.prog.wantsStandIn t = false by simpa using List.all_eq_true.1 hall t hm)⟩)
    (by kernel_rfl)
end Go.Proofs.YtpffibjemegioaaGreatDoor
