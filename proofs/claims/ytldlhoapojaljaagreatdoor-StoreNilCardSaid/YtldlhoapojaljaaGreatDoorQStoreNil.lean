/-
  A store that is not there has nothing, whatever is asked of it (the program as it is pinned, its tables as its text lays them), as the tied card says.
-/
import Derived.Test.YtldlhoapojaljaaGreatDoorQLaw
import Derived.Test.YtldlhoapojaljaaGreatDoorQAll
import Derived.Test.YtldlhoapojaljaaGreatDoorQKnown
import Derived.Test.YtldlhoapojaljaaGreatDoorQJoin
import Derived.Test.YtldlhoapojaljaaGreatDoorQD
import Derived.Test.YtldlhoapojaljaaGreatDoorTie
import Derived.Test.YtldlhoapojaljaaGreatDoorCards
import Derived.Lay
import Derived.WalkKit
import Derived.ProofKit
import Derived.OpenShut
import Derived.ShutString
import Derived.ChangeMaps5
import Derived.SevenTiedAt
set_option linter.unusedVariables false
namespace Go.Proofs.YtldlhoapojaljaaGreatDoor
open Go Go.PB Go.ChangeMaps Go.ChangeShapes Go.WideShapes Go.ChangeAt Go.RowKit

theorem storeNil_own : ownKnob Tryz.prog.godebug = none := by kernel_rfl
theorem storeNil_params : Tryz.f3.params.toList = [26, 3] := by kernel_rfl

theorem storeNil_types : TysOk Tryz.prog [(.agg (.pair (.int .i64) (.pair .str (.pair (.int .i64) (.pair (.int .i64) (.pair .bool (.pair (.list .str) (.pair (.list (.agg (.pair .str (.pair .str .unit)))) (.pair (.list .str) (.pair .str (.pair (.int .i64) (.pair (.int .i64) (.pair (.list (.int .i64)) (.pair (.list .str) (.pair .str (.pair .str (.pair (.int .i64) (.pair .str (.pair .str (.pair .str .unit)))))))))))))))))))), (.int .i64)] Tryz.f3.params.toList := by
  rw [storeNil_params]
  exact ⟨hTab.ty 26 _ (by kernel_rfl), hTab.ty 3 _ (by kernel_rfl), trivial⟩

set_option maxRecDepth 100000 in
theorem storeNil_lifted (os : Os) (started : os.Started) (H : Type) (enc : TypeId × Value → H) :
    ReturnsInHanded {} Tryz.checked os 3 .any (fun w args => (Rows.storeNilSpec.pre enc Tryz.prog Tryz.f3 [] false w args ∧ laidMetH Tryz.prog Rows.storeNilRow.laid w) ∧ sizedMet enc Tryz.prog Tryz.f3 (OpenSpec.ofChange Rows.storeNilSpec) false w args)
      (Rows.storeNilSpec.post enc Tryz.prog Tryz.f3 false true false false) := by
  refine returnsInHanded_of_change_both (C := Tryz.checked) (X := fun w _ => laidMetH Tryz.prog Rows.storeNilRow.laid w) (fun _ _ _ hh h => h.of_heap hh) storeNil_own started (by kernel_rfl) Tryz.func3
    (ChangeSpec.witness_shaped (enc := enc) (C := Tryz.checked) (os := os) (X := fun w _ => laidMetH Tryz.prog Rows.storeNilRow.laid w) false (World.laidAll Tryz.prog os Rows.storeNilRow.laid) #[.agg #[.int .i64 0, .string sNil, .int .i64 0, .int .i64 0, .bool false, .slice none 0 0, .slice none 0 0, .slice none 0 0, .string sNil, .int .i64 0, .int .i64 0, .slice none 0 0, .slice none 0 0, .string sNil, .string sNil, .int .i64 0, .string sNil, .string sNil, .string sNil], .int .i64 0] 8 (World.laidAll_os _ _ _)
      (World.shaped_of_ZipB (by kernel_rfl) (by kernel_rfl)) (by kernel_rfl) (by kernel_rfl) (by kernel_rfl)
      (by rw [MakeChecks.laidMetH_plain _ _ _ (by kernel_rfl)]; exact laidMet_laidAll _ (by kernel_rfl) (by kernel_rfl))) ?_
  intro W base args ds gs before hval hW hsh hX
  have hK : Kz W := ⟨hsh⟩
  exact row_contract (G := gvAt W) (ts := [(.agg (.pair (.int .i64) (.pair .str (.pair (.int .i64) (.pair (.int .i64) (.pair .bool (.pair (.list .str) (.pair (.list (.agg (.pair .str (.pair .str .unit)))) (.pair (.list .str) (.pair .str (.pair (.int .i64) (.pair (.int .i64) (.pair (.list (.int .i64)) (.pair (.list .str) (.pair .str (.pair .str (.pair (.int .i64) (.pair .str (.pair .str (.pair .str .unit)))))))))))))))))))), (.int .i64)]) (tb := 4) (f3_all (fun w h => kz_below (gvAt_below h) hK) (lasting_at W) 60) (fun v _ => f3_true (by omega) (by omega) awake_true v.1 v.2.1) storeNil_types (by kernel_rfl) (by kernel_rfl) (by kernel_rfl) (by kernel_rfl) rfl (by kernel_rfl) Tryz.underlying4
    (fun H ds h => by match ds, h with | [d0, d1], _ => rfl) W base args ds gs before hval hW (gvAt_self W)

theorem storeNil_holds : Rows.StoreNilSaid :=
  OpenClaim.holds_of_wide 3 Tryz.f3 rfl rfl rfl rfl rfl rfl rfl ⟨rfl, rfl, rfl, rfl, rfl⟩ rfl rfl rfl rfl rfl (by kernel_rfl) Tryz.func3 joined
    (of_decide_eq_true (by kernel_rfl)) (by unfold Func.isWrapper; first | (rw [if_pos (by decide +kernel)]; kernel_rfl) | (rw [if_neg (by decide +kernel)]; exact ⟨rfl, rfl⟩))
    (fun os started H enc _ => storeNil_lifted os started H enc)

theorem storeNil_card : Rows.StoreNilCardSaid :=
  Claim7.holds_tied_plain_at .later [] [.data, .data, .data, .data, .sentinel, .sentinel, .pinned] true Rows.storeNilCard.stood.harness true storeNil_holds (fun _ h => by cases h) (by kernel_rfl) (fun _ h => by cases h) storeNil_row_tie rfl ⟨rfl, rfl⟩ (by kernel_rfl) rfl
    (fun f fn hf hfn => by
      obtain rfl : f = 3 := Option.some.inj ((show Tryz.prog.funcNamed Rows.storeNilRow.func = some 3 by kernel_rfl).symm.trans hf) |>.symm
      obtain rfl : fn = Tryz.f3 := (Option.some.inj (Tryz.func3.symm.trans hfn)).symm
      exact ⟨by kernel_rfl, fun j t ht => by
        have hm : t ∈ [26, 3] := by rw [← storeNil_params]; exact Array.mem_toList_iff.2 (Array.mem_of_getElem? ht)
        have hall : ([26, 3].all fun u => !Tryz.prog.wantsStandIn u) = true := by kernel_rfl
        exact (show Tryz.prog.wantsStandIn t = false by simpa using List.all_eq_true.1 hall t hm)⟩)
    (by kernel_rfl)
end Go.Proofs.YtldlhoapojaljaaGreatDoor
