/-
  The code of the program does what the plain functions say.
-/
import Derived.Test.YtpffibjemegioaaGreatDoorQKPlain
import Derived.Test.YtpffibjemegioaaGreatDoorQKTab
set_option linter.unusedVariables false
namespace Go.Proofs.YtpffibjemegioaaGreatDoor
open Go Go.RowKit Go.PB
variable {G : Gv}
def f312_env (k : Nat) : Env := envOf []
theorem f312_x (k : Nat) : XX (lookT tab) (f312_env k) [] Tryz.f312 (f312_e k) := by intro v; kernel_rfl
theorem f312_ok (k : Nat) (hL : Lasting G) : EO G (f312_e k) := by
  have hE : ES G (f312_env k) := envOf_sound (ents_nil)
  exact ent_ok (subs := []) hTab hE (envOf_nat _) hMix hL (subs_nil _ _ _) (f312_e k) Tryz.func312 (by kernel_rfl) (by kernel_rfl) (f312_x k)
def f79_env (k : Nat) : Env := envOf []
theorem f79_x (k : Nat) : XX (lookT tab) (f79_env k) [] Tryz.f79 (f79_e k) := by intro v; kernel_rfl
theorem f79_ok (k : Nat) (hL : Lasting G) : EO G (f79_e k) := by
  have hE : ES G (f79_env k) := envOf_sound (ents_nil)
  exact ent_ok (subs := []) hTab hE (envOf_nat _) hMix hL (subs_nil _ _ _) (f79_e k) Tryz.func79 (by kernel_rfl) (by kernel_rfl) (f79_x k)
def f58_env (k : Nat) : Env := envOf []
theorem f58_x (k : Nat) : XX (lookT tab) (f58_env k) [] Tryz.f58 (f58_e k) := by intro v; kernel_rfl
theorem f58_ok (k : Nat) (hL : Lasting G) : EO G (f58_e k) := by
  have hE : ES G (f58_env k) := envOf_sound (ents_nil)
  exact ent_ok (subs := []) hTab hE (envOf_nat _) hMix hL (subs_nil _ _ _) (f58_e k) Tryz.func58 (by kernel_rfl) (by kernel_rfl) (f58_x k)
def f59_env (k : Nat) : Env := envOf []
def f59_b8 (k : Nat) : Sub := { key := 8, inp := ⟨(.data (.list .str) :: (.data (.list .str) :: (dd 10 (.data (.int .i64) :: (.data (.int .i64) :: (dd 12 [])))))), [], [], []⟩, ways := [⟨.ret, ⟨(dd 4 (.data .bool :: (dd 21 []))), [], [], []⟩⟩, ⟨.x 0, ⟨(dd 26 []), [], [], []⟩⟩], run := fun v => iter (f59_s8_u k) k v }
theorem f59_b8_x (k : Nat) : LX (lookT tab) (f59_env k) [] (bodyOf Tryz.f59) (f59_b8 k) (f59_s8_u k) := by intro v; kernel_rfl
theorem f59_b8_ok (k : Nat) (hL : Lasting G) (hE : ES G (f59_env k)) : SO G (f59_b8 k) (.loop (loopAt 8 (bodyOf Tryz.f59))) :=
  sub_loop (subs := []) hTab hE (envOf_nat _) hMix hL (subs_nil _ _ _) (f59_s8_u k) k (fun _ => rfl) (fun v o h => (f59_b8_x k v).trans h) (by kernel_rfl)
theorem f59_x (k : Nat) : XX (lookT tab) (f59_env k) [f59_b8 k] Tryz.f59 (f59_e k) := by intro v; kernel_rfl
theorem f59_ok (k : Nat) (hL : Lasting G) : EO G (f59_e k) := by
  have hE : ES G (f59_env k) := envOf_sound (ents_nil)
  exact ent_ok (subs := [f59_b8 k]) hTab hE (envOf_nat _) hMix hL (subs_cons (by kernel_rfl) (f59_b8_ok k hL hE) (subs_nil _ _ _)) (f59_e k) Tryz.func59 (by kernel_rfl) (by kernel_rfl) (f59_x k)
def f15_env (k : Nat) : Env := envOf [f58_e k, f59_e k, f60_e k, f61_e k]
theorem f15_x (k : Nat) : XX (lookT tab) (f15_env k) [] Tryz.f15 (f15_e k) := by intro v; kernel_rfl
theorem f15_ok (k : Nat) (hL : Lasting G) (h0 : EO G (f58_e k)) (h1 : EO G (f59_e k)) (h2 : EO G (f60_e k)) (h3 : EO G (f61_e k)) : EO G (f15_e k) := by
  have hE : ES G (f15_env k) := envOf_sound (ents_cons h0 (ents_cons h1 (ents_cons h2 (ents_cons h3 (ents_nil)))))
  exact ent_ok (subs := []) hTab hE (envOf_nat _) hMix hL (subs_nil _ _ _) (f15_e k) Tryz.func15 (by kernel_rfl) (by kernel_rfl) (f15_x k)
def f95_env (k : Nat) : Env := envOf []
theorem f95_x (k : Nat) : XX (lookT tab) (f95_env k) [] Tryz.f95 (f95_e k) := by intro v; kernel_rfl
theorem f95_ok (k : Nat) (hL : Lasting G) : EO G (f95_e k) := by
  have hE : ES G (f95_env k) := envOf_sound (ents_nil)
  exact ent_ok (subs := []) hTab hE (envOf_nat _) hMix hL (subs_nil _ _ _) (f95_e k) Tryz.func95 (by kernel_rfl) (by kernel_rfl) (f95_x k)
def f94_env (k : Nat) : Env := envOf [f135_e k]
theorem f94_x (k : Nat) : XX (lookT tab) (f94_env k) [] Tryz.f94 (f94_e k) := by intro v; kernel_rfl
theorem f94_ok (k : Nat) (hL : Lasting G) (h0 : EO G (f135_e k)) : EO G (f94_e k) := by
  have hE : ES G (f94_env k) := envOf_sound (ents_cons h0 (ents_nil))
  exact ent_ok (subs := []) hTab hE (envOf_nat _) hMix hL (subs_nil _ _ _) (f94_e k) Tryz.func94 (by kernel_rfl) (by kernel_rfl) (f94_x k)
def f97_env (k : Nat) : Env := envOf []
theorem f97_x (k : Nat) : XX (lookT tab) (f97_env k) [] Tryz.f97 (f97_e k) := by intro v; kernel_rfl
theorem f97_ok (k : Nat) (hL : Lasting G) : EO G (f97_e k) := by
  have hE : ES G (f97_env k) := envOf_sound (ents_nil)
  exact ent_ok (subs := []) hTab hE (envOf_nat _) hMix hL (subs_nil _ _ _) (f97_e k) Tryz.func97 (by kernel_rfl) (by kernel_rfl) (f97_x k)
def f96_env (k : Nat) : Env := envOf [f97_e k, f136_e k]
def f96_b8 (k : Nat) : Sub := { key := 8, inp := ⟨(.data .str :: (.fn 97 :: (.data .str :: (dd 11 (.iter 0 :: (dd 26 [])))))), [.iter], [], []⟩, ways := [⟨.ret, ⟨(dd 6 (.data .bool :: (dd 34 []))), [], [], []⟩⟩, ⟨.x 0, ⟨(dd 41 []), [], [], []⟩⟩], run := fun v => iter (f96_s8_u k) k v }
theorem f96_b8_x (k : Nat) : LX (lookT tab) (f96_env k) [] (bodyOf Tryz.f96) (f96_b8 k) (f96_s8_u k) := by intro v; kernel_rfl
theorem f96_b8_ok (k : Nat) (hL : Lasting G) (hE : ES G (f96_env k)) : SO G (f96_b8 k) (.loop (loopAt 8 (bodyOf Tryz.f96))) :=
  sub_loop (subs := []) hTab hE (envOf_nat _) hMix hL (subs_nil _ _ _) (f96_s8_u k) k (fun _ => rfl) (fun v o h => (f96_b8_x k v).trans h) (by kernel_rfl)
theorem f96_x (k : Nat) : XX (lookT tab) (f96_env k) [f96_b8 k] Tryz.f96 (f96_e k) := by intro v; kernel_rfl
theorem f96_ok (k : Nat) (hL : Lasting G) (h0 : EO G (f97_e k)) (h1 : EO G (f136_e k)) : EO G (f96_e k) := by
  have hE : ES G (f96_env k) := envOf_sound (ents_cons h0 (ents_cons h1 (ents_nil)))
  exact ent_ok (subs := [f96_b8 k]) hTab hE (envOf_nat _) hMix hL (subs_cons (by kernel_rfl) (f96_b8_ok k hL hE) (subs_nil _ _ _)) (f96_e k) Tryz.func96 (by kernel_rfl) (by kernel_rfl) (f96_x k)
def f99_env (k : Nat) : Env := envOf [f96a_e k]
theorem f99_x (k : Nat) : XX (lookT tab) (f99_env k) [] Tryz.f99 (f99_e k) := by intro v; kernel_rfl
theorem f99_ok (k : Nat) (hL : Lasting G) (h0 : EO G (f96a_e k)) : EO G (f99_e k) := by
  have hE : ES G (f99_env k) := envOf_sound (ents_cons h0 (ents_nil))
  exact ent_ok (subs := []) hTab hE (envOf_nat _) hMix hL (subs_nil _ _ _) (f99_e k) Tryz.func99 (by kernel_rfl) (by kernel_rfl) (f99_x k)
def f48_env (k : Nat) : Env := envOf [f46_e k]
def f48_b4 (k : Nat) : Sub := { key := 4, inp := ⟨(.data (.list .str) :: (dd 4 (.data (.list .str) :: (.data (.int .i64) :: (.data (.int .i64) :: (dd 21 [])))))), [], [], []⟩, ways := [⟨.ret, ⟨(.dead :: (.dead :: (.data .bool :: (dd 26 [])))), [], [], []⟩⟩, ⟨.x 0, ⟨(dd 29 []), [], [], []⟩⟩], run := fun v => iter (f48_s4_u k) k v }
theorem f48_b4_x (k : Nat) : LX (lookT tab) (f48_env k) [] (bodyOf Tryz.f48) (f48_b4 k) (f48_s4_u k) := by intro v; kernel_rfl
theorem f48_b4_ok (k : Nat) (hL : Lasting G) (hE : ES G (f48_env k)) : SO G (f48_b4 k) (.loop (loopAt 4 (bodyOf Tryz.f48))) :=
  sub_loop (subs := []) hTab hE (envOf_nat _) hMix hL (subs_nil _ _ _) (f48_s4_u k) k (fun _ => rfl) (fun v o h => (f48_b4_x k v).trans h) (by kernel_rfl)
theorem f48_x (k : Nat) : XX (lookT tab) (f48_env k) [f48_b4 k] Tryz.f48 (f48_e k) := by intro v; kernel_rfl
theorem f48_ok (k : Nat) (hL : Lasting G) (h0 : EO G (f46_e k)) : EO G (f48_e k) := by
  have hE : ES G (f48_env k) := envOf_sound (ents_cons h0 (ents_nil))
  exact ent_ok (subs := [f48_b4 k]) hTab hE (envOf_nat _) hMix hL (subs_cons (by kernel_rfl) (f48_b4_ok k hL hE) (subs_nil _ _ _)) (f48_e k) Tryz.func48 (by kernel_rfl) (by kernel_rfl) (f48_x k)
def f187_env (k : Nat) : Env := envOf [f247_e k]
theorem f187_x (k : Nat) : XX (lookT tab) (f187_env k) [] Tryz.f187 (f187_e k) := by intro v; kernel_rfl
theorem f187_ok (k : Nat) (hL : Lasting G) (h0 : EO G (f247_e k)) : EO G (f187_e k) := by
  have hE : ES G (f187_env k) := envOf_sound (ents_cons h0 (ents_nil))
  exact ent_ok (subs := []) hTab hE (envOf_nat _) hMix hL (subs_nil _ _ _) (f187_e k) Tryz.func187 (by kernel_rfl) (by kernel_rfl) (f187_x k)
def f254_env (k : Nat) : Env := envOf []
theorem f254_x (k : Nat) : XX (lookT tab) (f254_env k) [] Tryz.f254 (f254_e k) := by intro v; kernel_rfl
theorem f254_ok (k : Nat) (hL : Lasting G) : EO G (f254_e k) := by
  have hE : ES G (f254_env k) := envOf_sound (ents_nil)
  exact ent_ok (subs := []) hTab hE (envOf_nat _) hMix hL (subs_nil _ _ _) (f254_e k) Tryz.func254 (by kernel_rfl) (by kernel_rfl) (f254_x k)
def f249_m : List (Nat × TT) := [(129, (.data (.agg (.pair .bool (.pair (.agg (.pair (.int .u64) (.pair (.int .u64) .unit))) .unit)))))]
theorem f249_t : TTOk Tryz.prog (lookTM tab f249_m []) := lookTM_ok hTabB (by kernel_rfl)
def f249_env (k : Nat) : Env := envOf [f251_e k, f247_e k, f250_e k]
theorem f249_x (k : Nat) : XX (lookTM tab f249_m []) (f249_env k) [] Tryz.f249 (f249_e k) := by intro v; kernel_rfl
theorem f249_ok (k : Nat) (hL : Lasting G) (h0 : EO G (f251_e k)) (h1 : EO G (f247_e k)) (h2 : EO G (f250_e k)) : EO G (f249_e k) := by
  have hE : ES G (f249_env k) := envOf_sound (ents_cons h0 (ents_cons h1 (ents_cons h2 (ents_nil))))
  exact ent_ok (subs := []) f249_t hE (envOf_nat _) hMix hL (subs_nil _ _ _) (f249_e k) Tryz.func249 (by kernel_rfl) (by kernel_rfl) (f249_x k)
def f252_env (k : Nat) : Env := envOf [f234_e k]
theorem f252_x (k : Nat) : XX (lookT tab) (f252_env k) [] Tryz.f252 (f252_e k) := by intro v; kernel_rfl
theorem f252_ok (k : Nat) (hL : Lasting G) (h0 : EO G (f234_e k)) : EO G (f252_e k) := by
  have hE : ES G (f252_env k) := envOf_sound (ents_cons h0 (ents_nil))
  exact ent_ok (subs := []) hTab hE (envOf_nat _) hMix hL (subs_nil _ _ _) (f252_e k) Tryz.func252 (by kernel_rfl) (by kernel_rfl) (f252_x k)
def f242_env (k : Nat) : Env := envOf []
theorem f242_x (k : Nat) : XX (lookT tab) (f242_env k) [] Tryz.f242 (f242_e k) := by intro v; kernel_rfl
theorem f242_ok (k : Nat) (hL : Lasting G) : EO G (f242_e k) := by
  have hE : ES G (f242_env k) := envOf_sound (ents_nil)
  exact ent_ok (subs := []) hTab hE (envOf_nat _) hMix hL (subs_nil _ _ _) (f242_e k) Tryz.func242 (by kernel_rfl) (by kernel_rfl) (f242_x k)
def f311_env (k : Nat) : Env := envOf []
theorem f311_x (k : Nat) : XX (lookT tab) (f311_env k) [] Tryz.f311 (f311_e k) := by intro v; kernel_rfl
theorem f311_ok (k : Nat) (hL : Lasting G) : EO G (f311_e k) := by
  have hE : ES G (f311_env k) := envOf_sound (ents_nil)
  exact ent_ok (subs := []) hTab hE (envOf_nat _) hMix hL (subs_nil _ _ _) (f311_e k) Tryz.func311 (by kernel_rfl) (by kernel_rfl) (f311_x k)
def f244_env (k : Nat) : Env := envOf [f242_e k, f287_e k]
theorem f244_x (k : Nat) : XX (lookT tab) (f244_env k) [] Tryz.f244 (f244_e k) := by intro v; kernel_rfl
theorem f244_ok (k : Nat) (hL : Lasting G) (h0 : EO G (f242_e k)) (h1 : EO G (f287_e k)) : EO G (f244_e k) := by
  have hE : ES G (f244_env k) := envOf_sound (ents_cons h0 (ents_cons h1 (ents_nil)))
  exact ent_ok (subs := []) hTab hE (envOf_nat _) hMix hL (subs_nil _ _ _) (f244_e k) Tryz.func244 (by kernel_rfl) (by kernel_rfl) (f244_x k)
def f184_env (k : Nat) : Env := envOf [f190_e k, f242_e k, f244_e k, f243_e k]
theorem f184_x (k : Nat) : XX (lookT tab) (f184_env k) [] Tryz.f184 (f184_e k) := by intro v; kernel_rfl
theorem f184_ok (k : Nat) (hL : Lasting G) (h0 : EO G (f190_e k)) (h1 : EO G (f242_e k)) (h2 : EO G (f244_e k)) (h3 : EO G (f243_e k)) : EO G (f184_e k) := by
  have hE : ES G (f184_env k) := envOf_sound (ents_cons h0 (ents_cons h1 (ents_cons h2 (ents_cons h3 (ents_nil)))))
  exact ent_ok (subs := []) hTab hE (envOf_nat _) hMix hL (subs_nil _ _ _) (f184_e k) Tryz.func184 (by kernel_rfl) (by kernel_rfl) (f184_x k)
def f191_env (k : Nat) : Env := envOf [f253_e k, f183_e k, f199_e k]
def f191_b6 (k : Nat) : Sub := { key := 6, inp := ⟨(dd 3 (.osl 1 :: (dd 4 (.data (.list (.int .u8)) :: (.data (.int .i64) :: (.data (.int .i64) :: (dd 12 []))))))), [.none, .row .str], [(3, .str)], []⟩, ways := [⟨.x 0, ⟨(dd 3 (.osl 1 :: (dd 19 []))), [.none, .row .str], [], []⟩⟩], run := fun v => iter (f191_s6_u k) k v }
theorem f191_b6_x (k : Nat) : LX (lookT tab) (f191_env k) [] (bodyOf Tryz.f191) (f191_b6 k) (f191_s6_u k) := by intro v; kernel_rfl
theorem f191_b6_ok (k : Nat) (hL : Lasting G) (hE : ES G (f191_env k)) : SO G (f191_b6 k) (.loop (loopAt 6 (bodyOf Tryz.f191))) :=
  sub_loop (subs := []) hTab hE (envOf_nat _) hMix hL (subs_nil _ _ _) (f191_s6_u k) k (fun _ => rfl) (fun v o h => (f191_b6_x k v).trans h) (by kernel_rfl)
theorem f191_x (k : Nat) : XX (lookT tab) (f191_env k) [f191_b6 k] Tryz.f191 (f191_e k) := by intro v; kernel_rfl
theorem f191_ok (k : Nat) (hL : Lasting G) (h0 : EO G (f253_e k)) (h1 : EO G (f183_e k)) (h2 : EO G (f199_e k)) : EO G (f191_e k) := by
  have hE : ES G (f191_env k) := envOf_sound (ents_cons h0 (ents_cons h1 (ents_cons h2 (ents_nil))))
  exact ent_ok (subs := [f191_b6 k]) hTab hE (envOf_nat _) hMix hL (subs_cons (by kernel_rfl) (f191_b6_ok k hL hE) (subs_nil _ _ _)) (f191_e k) Tryz.func191 (by kernel_rfl) (by kernel_rfl) (f191_x k)
def f320_env (k : Nat) : Env := envOf []
theorem f320_x (k : Nat) : XX (lookT tab) (f320_env k) [] Tryz.f320 (f320_e k) := by intro v; kernel_rfl
theorem f320_ok (k : Nat) (hL : Lasting G) : EO G (f320_e k) := by
  have hE : ES G (f320_env k) := envOf_sound (ents_nil)
  exact ent_ok (subs := []) hTab hE (envOf_nat _) hMix hL (subs_nil _ _ _) (f320_e k) Tryz.func320 (by kernel_rfl) (by kernel_rfl) (f320_x k)
def f322_env (k : Nat) : Env := envOf []
theorem f322_x (k : Nat) : XX (lookT tab) (f322_env k) [] Tryz.f322 (f322_e k) := by intro v; kernel_rfl
theorem f322_ok (k : Nat) (hL : Lasting G) : EO G (f322_e k) := by
  have hE : ES G (f322_env k) := envOf_sound (ents_nil)
  exact ent_ok (subs := []) hTab hE (envOf_nat _) hMix hL (subs_nil _ _ _) (f322_e k) Tryz.func322 (by kernel_rfl) (by kernel_rfl) (f322_x k)
def f310_env (k : Nat) : Env := envOf [f322_e k, f323_e k]
def f310_b22 (k : Nat) : Sub := { key := 22, inp := ⟨(.data (.list (.int .u8)) :: (.data (.int .u64) :: (.dead :: (.data .bool :: (.data .bool :: (dd 5 (.nils :: (.data .str :: (.ptr 0 [] :: (.data (.int .i64) :: (.data (.int .u64) :: (.data (.int .u64) :: (.data (.int .u64) :: (dd 85 [])))))))))))))), [.box (.arr 65 (.int .u8))], [], []⟩, ways := [⟨.x 0, ⟨(.data (.list (.int .u8)) :: (.data (.int .u64) :: (.dead :: (.data .bool :: (.data .bool :: (dd 5 (.nils :: (.data .str :: (.ptr 0 [] :: (.data (.int .i64) :: (dd 88 []))))))))))), [.box (.arr 65 (.int .u8))], [], []⟩⟩], run := fun v => iter (f310_s22_u k) k v }
def f310_b36 (k : Nat) : Sub := { key := 36, inp := ⟨(.data (.list (.int .u8)) :: (.data (.int .u64) :: (.dead :: (.data .bool :: (.data .bool :: (dd 5 (.nils :: (.data .str :: (.ptr 0 [] :: (.data (.int .i64) :: (dd 3 (.data (.int .u64) :: (dd 84 []))))))))))))), [.box (.arr 65 (.int .u8))], [], []⟩, ways := [⟨.x 2, ⟨(.data (.list (.int .u8)) :: (.data (.int .u64) :: (.dead :: (.data .bool :: (.data .bool :: (dd 5 (.nils :: (.data .str :: (.ptr 0 [] :: (.data (.int .i64) :: (dd 88 []))))))))))), [.box (.arr 65 (.int .u8))], [], []⟩⟩], run := fun v => iter (f310_s36_u k) k v }
theorem f310_b22_x (k : Nat) : LX (lookT tab) (f310_env k) [] (bodyOf Tryz.f310) (f310_b22 k) (f310_s22_u k) := by intro v; kernel_rfl
theorem f310_b22_ok (k : Nat) (hL : Lasting G) (hE : ES G (f310_env k)) : SO G (f310_b22 k) (.loop (loopAt 22 (bodyOf Tryz.f310))) :=
  sub_loop (subs := []) hTab hE (envOf_nat _) hMix hL (subs_nil _ _ _) (f310_s22_u k) k (fun _ => rfl) (fun v o h => (f310_b22_x k v).trans h) (by kernel_rfl)
theorem f310_b36_x (k : Nat) : LX (lookT tab) (f310_env k) [] (bodyOf Tryz.f310) (f310_b36 k) (f310_s36_u k) := by intro v; kernel_rfl
theorem f310_b36_ok (k : Nat) (hL : Lasting G) (hE : ES G (f310_env k)) : SO G (f310_b36 k) (.loop (loopAt 36 (bodyOf Tryz.f310))) :=
  sub_loop (subs := []) hTab hE (envOf_nat _) hMix hL (subs_nil _ _ _) (f310_s36_u k) k (fun _ => rfl) (fun v o h => (f310_b36_x k v).trans h) (by kernel_rfl)
theorem f310_x (k : Nat) : XX (lookT tab) (f310_env k) [f310_b36 k, f310_b22 k] Tryz.f310 (f310_e k) := by intro v; kernel_rfl
theorem f310_ok (k : Nat) (hL : Lasting G) (h0 : EO G (f322_e k)) (h1 : EO G (f323_e k)) : EO G (f310_e k) := by
  have hE : ES G (f310_env k) := envOf_sound (ents_cons h0 (ents_cons h1 (ents_nil)))
  exact ent_ok (subs := [f310_b36 k, f310_b22 k]) hTab hE (envOf_nat _) hMix hL (subs_cons (by kernel_rfl) (f310_b36_ok k hL hE) (subs_cons (by kernel_rfl) (f310_b22_ok k hL hE) (subs_nil _ _ _))) (f310_e k) Tryz.func310 (by kernel_rfl) (by kernel_rfl) (f310_x k)
def f132_env (k : Nat) : Env := envOf [f177_e k]
theorem f132_x (k : Nat) : XX (lookT tab) (f132_env k) [] Tryz.f132 (f132_e k) := by intro v; kernel_rfl
theorem f132_ok (k : Nat) (hL : Lasting G) (h0 : EO G (f177_e k)) : EO G (f132_e k) := by
  have hE : ES G (f132_env k) := envOf_sound (ents_cons h0 (ents_nil))
  exact ent_ok (subs := []) hTab hE (envOf_nat _) hMix hL (subs_nil _ _ _) (f132_e k) Tryz.func132 (by kernel_rfl) (by kernel_rfl) (f132_x k)
def f145_env (k : Nat) : Env := envOf [f132_e k, f198_e k, f199_e k]
def f145_b10 (k : Nat) : Sub := { key := 10, inp := ⟨(dd 4 (.osl 0 :: (dd 5 (.data (.list (.agg (.pair .str (.pair (.int .i64) (.pair (.list .str) .unit))))) :: (.data (.int .i64) :: (.data (.int .i64) :: (dd 11 []))))))), [.row .str], [(4, .str)], []⟩, ways := [⟨.x 0, ⟨(dd 4 (.osl 0 :: (dd 19 []))), [.row .str], [], []⟩⟩], run := fun v => iter (f145_s10_u k) k v }
theorem f145_b10_x (k : Nat) : LX (lookT tab) (f145_env k) [] (bodyOf Tryz.f145) (f145_b10 k) (f145_s10_u k) := by intro v; kernel_rfl
theorem f145_b10_ok (k : Nat) (hL : Lasting G) (hE : ES G (f145_env k)) : SO G (f145_b10 k) (.loop (loopAt 10 (bodyOf Tryz.f145))) :=
  sub_loop (subs := []) hTab hE (envOf_nat _) hMix hL (subs_nil _ _ _) (f145_s10_u k) k (fun _ => rfl) (fun v o h => (f145_b10_x k v).trans h) (by kernel_rfl)
theorem f145_x (k : Nat) : XX (lookT tab) (f145_env k) [f145_b10 k] Tryz.f145 (f145_e k) := by intro v; kernel_rfl
theorem f145_ok (k : Nat) (hL : Lasting G) (h0 : EO G (f132_e k)) (h1 : EO G (f198_e k)) (h2 : EO G (f199_e k)) : EO G (f145_e k) := by
  have hE : ES G (f145_env k) := envOf_sound (ents_cons h0 (ents_cons h1 (ents_cons h2 (ents_nil))))
  exact ent_ok (subs := [f145_b10 k]) hTab hE (envOf_nat _) hMix hL (subs_cons (by kernel_rfl) (f145_b10_ok k hL hE) (subs_nil _ _ _)) (f145_e k) Tryz.func145 (by kernel_rfl) (by kernel_rfl) (f145_x k)
def f147_env (k : Nat) : Env := envOf []
theorem f147_x (k : Nat) : XX (lookT tab) (f147_env k) [] Tryz.f147 (f147_e k) := by intro v; kernel_rfl
theorem f147_ok (k : Nat) (hL : Lasting G) : EO G (f147_e k) := by
  have hE : ES G (f147_env k) := envOf_sound (ents_nil)
  exact ent_ok (subs := []) hTab hE (envOf_nat _) hMix hL (subs_nil _ _ _) (f147_e k) Tryz.func147 (by kernel_rfl) (by kernel_rfl) (f147_x k)
def f13_env (k : Nat) : Env := envOf [f11_e k, f46_e k, f47_e k, f48_e k, f49_e k, f50_e k, f51_e k]
theorem f13_x (k : Nat) : XX (lookT tab) (f13_env k) [] Tryz.f13 (f13_e k) := by intro v; kernel_rfl
theorem f13_ok (k : Nat) (hL : Lasting G) (h0 : EO G (f11_e k)) (h1 : EO G (f46_e k)) (h2 : EO G (f47_e k)) (h3 : EO G (f48_e k)) (h4 : EO G (f49_e k)) (h5 : EO G (f50_e k)) (h6 : EO G (f51_e k)) : EO G (f13_e k) := by
  have hE : ES G (f13_env k) := envOf_sound (ents_cons h0 (ents_cons h1 (ents_cons h2 (ents_cons h3 (ents_cons h4 (ents_cons h5 (ents_cons h6 (ents_nil))))))))
  exact ent_ok (subs := []) hTab hE (envOf_nat _) hMix hL (subs_nil _ _ _) (f13_e k) Tryz.func13 (by kernel_rfl) (by kernel_rfl) (f13_x k)
def f67_m : List (Nat × TT) := [(36, (.opt tS)), (94, (.map tK tO)), (96, tS)]
theorem f67_t : TTOk Tryz.prog (lookTM tab f67_m [96]) := lookTM_ok hTabB (by kernel_rfl)
def f67_env (k : Nat) : Env := envOf [f79_e k, f13_e k, f113_e k]
theorem f67_x (k : Nat) : XX (lookTM tab f67_m [96]) (f67_env k) [] Tryz.f67 (f67_e k) := by intro v; kernel_rfl
theorem f67_ok (k : Nat) (hL : Lasting G) (h0 : EO G (f79_e k)) (h1 : EO G (f13_e k)) (h2 : EO G (f113_e k)) : EO G (f67_e k) := by
  have hE : ES G (f67_env k) := envOf_sound (ents_cons h0 (ents_cons h1 (ents_cons h2 (ents_nil))))
  exact ent_ok (subs := []) f67_t hE (envOf_nat _) hMix hL (subs_nil _ _ _) (f67_e k) Tryz.func67 (by kernel_rfl) (by kernel_rfl) (f67_x k)
def f156_env (k : Nat) : Env := envOf [f210_e k]
theorem f156_x (k : Nat) : XX (lookT tab) (f156_env k) [] Tryz.f156 (f156_e k) := by intro v; kernel_rfl
theorem f156_ok (k : Nat) (hL : Lasting G) (h0 : EO G (f210_e k)) : EO G (f156_e k) := by
  have hE : ES G (f156_env k) := envOf_sound (ents_cons h0 (ents_nil))
  exact ent_ok (subs := []) hTab hE (envOf_nat _) hMix hL (subs_nil _ _ _) (f156_e k) Tryz.func156 (by kernel_rfl) (by kernel_rfl) (f156_x k)
def f117_env (k : Nat) : Env := envOf [f17_e k]
theorem f117_x (k : Nat) : XX (lookT tab) (f117_env k) [] Tryz.f117 (f117_e k) := by intro v; kernel_rfl
theorem f117_ok (k : Nat) (hL : Lasting G) (h0 : EO G (f17_e k)) : EO G (f117_e k) := by
  have hE : ES G (f117_env k) := envOf_sound (ents_cons h0 (ents_nil))
  exact ent_ok (subs := []) hTab hE (envOf_nat _) hMix hL (subs_nil _ _ _) (f117_e k) Tryz.func117 (by kernel_rfl) (by kernel_rfl) (f117_x k)
def f68_m : List (Nat × TT) := [(36, (.opt tS)), (94, (.map tK tO)), (96, tS)]
theorem f68_t : TTOk Tryz.prog (lookTM tab f68_m [96]) := lookTM_ok hTabB (by kernel_rfl)
def f68_env (k : Nat) : Env := envOf [f79_e k, f114_e k, f13_e k, f115_e k, f116_e k, f117_e k, f113_e k]
theorem f68_x (k : Nat) : XX (lookTM tab f68_m [96]) (f68_env k) [] Tryz.f68 (f68_e k) := by intro v; kernel_rfl
theorem f68_ok (k : Nat) (hL : Lasting G) (h0 : EO G (f79_e k)) (h1 : EO G (f114_e k)) (h2 : EO G (f13_e k)) (h3 : EO G (f115_e k)) (h4 : EO G (f116_e k)) (h5 : EO G (f117_e k)) (h6 : EO G (f113_e k)) : EO G (f68_e k) := by
  have hE : ES G (f68_env k) := envOf_sound (ents_cons h0 (ents_cons h1 (ents_cons h2 (ents_cons h3 (ents_cons h4 (ents_cons h5 (ents_cons h6 (ents_nil))))))))
  exact ent_ok (subs := []) f68_t hE (envOf_nat _) hMix hL (subs_nil _ _ _) (f68_e k) Tryz.func68 (by kernel_rfl) (by kernel_rfl) (f68_x k)
def f6_m : List (Nat × TT) := [(36, (.opt tS)), (94, (.map tK tO)), (96, tS)]
theorem f6_t : TTOk Tryz.prog (lookTM tab f6_m [96]) := lookTM_ok hTabB (by kernel_rfl)
def f6_env (k : Nat) : Env := envOf [f18_e k, f19_e k, f20_e k, f25_e k, f22_e k, f23_e k, f13_e k, f26_e k]
def f6_b40 (k : Nat) : Sub := { key := 40, inp := ⟨(.data (.list (.agg (.pair (.int .i64) (.pair tO (.pair .str (.pair (.list .str) (.pair (.int .i64) (.pair .bool (.pair .bool .unit))))))))) :: (.dead :: (.dead :: (.tv 0 [] :: (.data (.int .i64) :: (.dead :: (.ptr 2 [] :: (dd 3 (.ptr 4 [] :: (.dead :: (.data (.int .i64) :: (dd 165 [])))))))))))), [.vt (.own tS), .none, .box tO, .none, .box tO], [], []⟩, ways := [⟨.ret, ⟨(.dead :: (.dead :: (.data .bool :: (dd 175 [])))), [], [], []⟩⟩, ⟨.x 2, ⟨(.data (.list (.agg (.pair (.int .i64) (.pair tO (.pair .str (.pair (.list .str) (.pair (.int .i64) (.pair .bool (.pair .bool .unit))))))))) :: (.dead :: (.dead :: (.tv 0 [] :: (.data (.int .i64) :: (.dead :: (.ptr 2 [] :: (dd 3 (.ptr 4 [] :: (dd 167 [])))))))))), [.vt (.own tS), .none, .box tO, .none, .box tO], [], []⟩⟩], run := fun v => iter (f6_s40_u k) k v }
def f6_b50 (k : Nat) : Sub := { key := 50, inp := ⟨(.data (.list (.agg (.pair (.int .i64) (.pair tO (.pair .str (.pair (.list .str) (.pair (.int .i64) (.pair .bool (.pair .bool .unit))))))))) :: (.dead :: (.dead :: (.tv 0 [] :: (.data (.int .i64) :: (.dead :: (.ptr 2 [] :: (dd 3 (.ptr 4 [] :: (.dead :: (.dead :: (.data (.int .i64) :: (dd 164 []))))))))))))), [.vt (.own tS), .none, .box tO, .none, .box tO], [], []⟩, ways := [⟨.ret, ⟨(.dead :: (.dead :: (.data .bool :: (dd 175 [])))), [], [], []⟩⟩, ⟨.x 4, ⟨(.data (.list (.agg (.pair (.int .i64) (.pair tO (.pair .str (.pair (.list .str) (.pair (.int .i64) (.pair .bool (.pair .bool .unit))))))))) :: (.dead :: (.dead :: (.tv 0 [] :: (.data (.int .i64) :: (dd 173 [])))))), [.vt (.own tS)], [], []⟩⟩], run := fun v => iter (f6_s50_u k) k v }
def f6_b10 (k : Nat) : Sub := { key := 10, inp := ⟨(.data (.list (.agg (.pair (.int .i64) (.pair tO (.pair .str (.pair (.list .str) (.pair (.int .i64) (.pair .bool (.pair .bool .unit))))))))) :: (.dead :: (.dead :: (.tv 0 [] :: (.data (.int .i64) :: (dd 173 [])))))), [.vt (.own tS)], [], []⟩, ways := [⟨.ret, ⟨(.dead :: (.dead :: (.data .bool :: (dd 175 [])))), [], [], []⟩⟩, ⟨.x 0, ⟨(dd 178 []), [], [], []⟩⟩], run := fun v => iter (f6_s10_u k) k v }
theorem f6_b40_x (k : Nat) : LX (lookTM tab f6_m [96]) (f6_env k) [] (bodyOf Tryz.f6) (f6_b40 k) (f6_s40_u k) := by intro v; kernel_rfl
theorem f6_b40_ok (k : Nat) (hL : Lasting G) (hE : ES G (f6_env k)) : SO G (f6_b40 k) (.loop (loopAt 40 (bodyOf Tryz.f6))) :=
  sub_loop (subs := []) f6_t hE (envOf_nat _) hMix hL (subs_nil _ _ _) (f6_s40_u k) k (fun _ => rfl) (fun v o h => (f6_b40_x k v).trans h) (by kernel_rfl)
theorem f6_b50_x (k : Nat) : LX (lookTM tab f6_m [96]) (f6_env k) [] (bodyOf Tryz.f6) (f6_b50 k) (f6_s50_u k) := by intro v; kernel_rfl
theorem f6_b50_ok (k : Nat) (hL : Lasting G) (hE : ES G (f6_env k)) : SO G (f6_b50 k) (.loop (loopAt 50 (bodyOf Tryz.f6))) :=
  sub_loop (subs := []) f6_t hE (envOf_nat _) hMix hL (subs_nil _ _ _) (f6_s50_u k) k (fun _ => rfl) (fun v o h => (f6_b50_x k v).trans h) (by kernel_rfl)
theorem f6_b10_x (k : Nat) : LX (lookTM tab f6_m [96]) (f6_env k) [f6_b50 k, f6_b40 k] (bodyOf Tryz.f6) (f6_b10 k) (f6_s10_u k) := by intro v; kernel_rfl
theorem f6_b10_ok (k : Nat) (hL : Lasting G) (hE : ES G (f6_env k)) : SO G (f6_b10 k) (.loop (loopAt 10 (bodyOf Tryz.f6))) :=
  sub_loop (subs := [f6_b50 k, f6_b40 k]) f6_t hE (envOf_nat _) hMix hL (subs_cons (by kernel_rfl) (f6_b50_ok k hL hE) (subs_cons (by kernel_rfl) (f6_b40_ok k hL hE) (subs_nil _ _ _))) (f6_s10_u k) k (fun _ => rfl) (fun v o h => (f6_b10_x k v).trans h) (by kernel_rfl)
theorem f6_x (k : Nat) : XX (lookTM tab f6_m [96]) (f6_env k) [f6_b10 k, f6_b50 k, f6_b40 k] Tryz.f6 (f6_e k) := by intro v; kernel_rfl
theorem f6_ok (k : Nat) (hL : Lasting G) (h0 : EO G (f18_e k)) (h1 : EO G (f19_e k)) (h2 : EO G (f20_e k)) (h3 : EO G (f25_e k)) (h4 : EO G (f22_e k)) (h5 : EO G (f23_e k)) (h6 : EO G (f13_e k)) (h7 : EO G (f26_e k)) : EO G (f6_e k) := by
  have hE : ES G (f6_env k) := envOf_sound (ents_cons h0 (ents_cons h1 (ents_cons h2 (ents_cons h3 (ents_cons h4 (ents_cons h5 (ents_cons h6 (ents_cons h7 (ents_nil)))))))))
  exact ent_ok (subs := [f6_b10 k, f6_b50 k, f6_b40 k]) f6_t hE (envOf_nat _) hMix hL (subs_cons (by kernel_rfl) (f6_b10_ok k hL hE) (subs_cons (by kernel_rfl) (f6_b50_ok k hL hE) (subs_cons (by kernel_rfl) (f6_b40_ok k hL hE) (subs_nil _ _ _)))) (f6_e k) Tryz.func6 (by kernel_rfl) (by kernel_rfl) (f6_x k)
end Go.Proofs.YtpffibjemegioaaGreatDoor
namespace Go.Proofs.YtpffibjemegioaaGreatDoor
open Go Go.RowKit Go.PB
variable {G : Gv}
def f288_env (k : Nat) : Env := envOf [f312_e k]
def f288_b72 (k : Nat) : Sub := { key := 72, inp := ⟨(.dead :: (.data (.int .i64) :: (dd 6 (.data .bool :: (.data .str :: (.data (.int .u64) :: (.data (.int .u64) :: (.data .bool :: (.data (.int .u64) :: (dd 85 (.data (.list (.int .u8)) :: (.data (.int .i64) :: (.data (.int .i64) :: (dd 70 [])))))))))))))), [], [], []⟩, ways := [⟨.ret, ⟨(dd 6 (.data (.int .u64) :: (.data .err :: (dd 164 [])))), [], [], []⟩⟩, ⟨.x 3, ⟨(dd 9 (.data .str :: (.dead :: (.dead :: (.data .bool :: (.data (.int .u64) :: (dd 158 []))))))), [], [], []⟩⟩], run := fun v => iter (f288_s72_u k) k v }
theorem f288_b72_x (k : Nat) : LX (lookT tab) (f288_env k) [] (bodyOf Tryz.f288) (f288_b72 k) (f288_s72_u k) := by intro v; kernel_rfl
theorem f288_b72_ok (k : Nat) (hL : Lasting G) (hE : ES G (f288_env k)) : SO G (f288_b72 k) (.loop (loopAt 72 (bodyOf Tryz.f288))) :=
  sub_loop (subs := []) hTab hE (envOf_nat _) hMix hL (subs_nil _ _ _) (f288_s72_u k) k (fun _ => rfl) (fun v o h => (f288_b72_x k v).trans h) (by kernel_rfl)
theorem f288_x (k : Nat) (v : argsC (f288_e k).inp) (r) (h : (f288_e k).run v = some r) : fexec (lookT tab) (f288_env k) [f288_b72 k] Tryz.f288 (bodyOf Tryz.f288) (mkArgs (f288_e k).inp v) (fun rs => getRes (f288_e k).out rs some) = some r := by
  obtain ⟨s, a, b, u⟩ := v
  have h2 : f288 k s a b = some r := h
  unfold f288 at h2
  split at h2
  · rename_i hc
    obtain ⟨rfl, rfl⟩ := hc
    refine Eq.trans ?_ h2
    kernel_rfl
  · cases h2
theorem f288_ok (k : Nat) (hL : Lasting G) (h0 : EO G (f312_e k)) : EO G (f288_e k) := by
  have hE : ES G (f288_env k) := envOf_sound (ents_cons h0 (ents_nil))
  exact ent_ok_at (subs := [f288_b72 k]) hTab hE (envOf_nat _) hMix hL (subs_cons (by kernel_rfl) (f288_b72_ok k hL hE) (subs_nil _ _ _)) (f288_e k) Tryz.func288 (by kernel_rfl) (by kernel_rfl) (f288_x k)
def f11_env (k : Nat) : Env := envOf [f39_e k, f15_e k, f40_e k, f41_e k, f42_e k]
def f11_b8 (k : Nat) : Sub := { key := 8, inp := ⟨(.dead :: (.ptr 0 [] :: (dd 28 (.osl 1 :: (.data (.int .i64) :: (.data (.int .i64) :: (dd 62 []))))))), [.box tO, .row (.int .i64)], [], []⟩, ways := [⟨.ret, ⟨(.dead :: (.dead :: (.data .bool :: (dd 92 [])))), [], [], []⟩⟩, ⟨.x 0, ⟨(.dead :: (.ptr 0 [] :: (dd 93 []))), [.box tO], [], []⟩⟩], run := fun v => iter (f11_s8_u k) k v }
theorem f11_b8_x (k : Nat) : LX (lookT tab) (f11_env k) [] (bodyOf Tryz.f11) (f11_b8 k) (f11_s8_u k) := by intro v; kernel_rfl
theorem f11_b8_ok (k : Nat) (hL : Lasting G) (hE : ES G (f11_env k)) : SO G (f11_b8 k) (.loop (loopAt 8 (bodyOf Tryz.f11))) :=
  sub_loop (subs := []) hTab hE (envOf_nat _) hMix hL (subs_nil _ _ _) (f11_s8_u k) k (fun _ => rfl) (fun v o h => (f11_b8_x k v).trans h) (by kernel_rfl)
theorem f11_x (k : Nat) : XX (lookT tab) (f11_env k) [f11_b8 k] Tryz.f11 (f11_e k) := by intro v; kernel_rfl
theorem f11_ok (k : Nat) (hL : Lasting G) (h0 : EO G (f39_e k)) (h1 : EO G (f15_e k)) (h2 : EO G (f40_e k)) (h3 : EO G (f41_e k)) (h4 : EO G (f42_e k)) : EO G (f11_e k) := by
  have hE : ES G (f11_env k) := envOf_sound (ents_cons h0 (ents_cons h1 (ents_cons h2 (ents_cons h3 (ents_cons h4 (ents_nil))))))
  exact ent_ok (subs := [f11_b8 k]) hTab hE (envOf_nat _) hMix hL (subs_cons (by kernel_rfl) (f11_b8_ok k hL hE) (subs_nil _ _ _)) (f11_e k) Tryz.func11 (by kernel_rfl) (by kernel_rfl) (f11_x k)
def f247_env (k : Nat) : Env := envOf []
theorem f247_x (k : Nat) : XX (lookT tab) (f247_env k) [] Tryz.f247 (f247_e k) := by intro v; kernel_rfl
theorem f247_ok (k : Nat) (hL : Lasting G) : EO G (f247_e k) := by
  have hE : ES G (f247_env k) := envOf_sound (ents_nil)
  exact ent_ok (subs := []) hTab hE (envOf_nat _) hMix hL (subs_nil _ _ _) (f247_e k) Tryz.func247 (by kernel_rfl) (by kernel_rfl) (f247_x k)
def f188_env (k : Nat) : Env := envOf [f143_e k, f185_e k, f186_e k, f248_e k, f246_e k]
def f188_b28 (k : Nat) : Sub := { key := 28, inp := ⟨(.dead :: (.data .bool :: (dd 4 (.osl 0 :: (.data (.list .str) :: (.dead :: (.data .str :: (dd 9 (.data (.list .str) :: (.data (.int .i64) :: (.data (.int .i64) :: (dd 39 (.data (.int .i64) :: (.data (.int .i64) :: (dd 20 []))))))))))))))), [.row (.int .u16)], [], []⟩, ways := [⟨.ret, ⟨(dd 4 (.data (.list (.int .u16)) :: (.data .bool :: (dd 77 [])))), [], [], [(4, (.int .u16))]⟩⟩, ⟨.x 2, ⟨(.dead :: (.data .bool :: (dd 4 (.osl 0 :: (.data (.list .str) :: (.dead :: (.data .str :: (dd 9 (.data (.list .str) :: (.data (.int .i64) :: (.data (.int .i64) :: (dd 61 [])))))))))))), [.row (.int .u16)], [(6, (.int .u16))], []⟩⟩], run := fun v => iter (f188_s28_u k) k v }
def f188_b12 (k : Nat) : Sub := { key := 12, inp := ⟨(.dead :: (.data .bool :: (dd 4 (.osl 0 :: (.data (.list .str) :: (dd 11 (.data (.list .str) :: (.data (.int .i64) :: (.data (.int .i64) :: (dd 61 [])))))))))), [.row (.int .u16)], [(6, (.int .u16))], []⟩, ways := [⟨.ret, ⟨(dd 4 (.data (.list (.int .u16)) :: (.data .bool :: (dd 77 [])))), [], [], [(4, (.int .u16))]⟩⟩, ⟨.x 0, ⟨(dd 6 (.osl 0 :: (dd 76 []))), [.row (.int .u16)], [], []⟩⟩], run := fun v => iter (f188_s12_u k) k v }
theorem f188_b28_x (k : Nat) : LX (lookT tab) (f188_env k) [] (bodyOf Tryz.f188) (f188_b28 k) (f188_s28_u k) := by intro v; kernel_rfl
theorem f188_b28_ok (k : Nat) (hL : Lasting G) (hE : ES G (f188_env k)) : SO G (f188_b28 k) (.loop (loopAt 28 (bodyOf Tryz.f188))) :=
  sub_loop (subs := []) hTab hE (envOf_nat _) hMix hL (subs_nil _ _ _) (f188_s28_u k) k (fun _ => rfl) (fun v o h => (f188_b28_x k v).trans h) (by kernel_rfl)
theorem f188_b12_x (k : Nat) : LX (lookT tab) (f188_env k) [f188_b28 k] (bodyOf Tryz.f188) (f188_b12 k) (f188_s12_u k) := by intro v; kernel_rfl
theorem f188_b12_ok (k : Nat) (hL : Lasting G) (hE : ES G (f188_env k)) : SO G (f188_b12 k) (.loop (loopAt 12 (bodyOf Tryz.f188))) :=
  sub_loop (subs := [f188_b28 k]) hTab hE (envOf_nat _) hMix hL (subs_cons (by kernel_rfl) (f188_b28_ok k hL hE) (subs_nil _ _ _)) (f188_s12_u k) k (fun _ => rfl) (fun v o h => (f188_b12_x k v).trans h) (by kernel_rfl)
theorem f188_x (k : Nat) : XX (lookT tab) (f188_env k) [f188_b12 k, f188_b28 k] Tryz.f188 (f188_e k) := by intro v; kernel_rfl
theorem f188_ok (k : Nat) (hL : Lasting G) (h0 : EO G (f143_e k)) (h1 : EO G (f185_e k)) (h2 : EO G (f186_e k)) (h3 : EO G (f248_e k)) (h4 : EO G (f246_e k)) : EO G (f188_e k) := by
  have hE : ES G (f188_env k) := envOf_sound (ents_cons h0 (ents_cons h1 (ents_cons h2 (ents_cons h3 (ents_cons h4 (ents_nil))))))
  exact ent_ok (subs := [f188_b12 k, f188_b28 k]) hTab hE (envOf_nat _) hMix hL (subs_cons (by kernel_rfl) (f188_b12_ok k hL hE) (subs_cons (by kernel_rfl) (f188_b28_ok k hL hE) (subs_nil _ _ _))) (f188_e k) Tryz.func188 (by kernel_rfl) (by kernel_rfl) (f188_x k)
def f253_env (k : Nat) : Env := envOf [f190_e k, f242_e k, f254_e k]
def f253_b10 (k : Nat) : Sub := { key := 10, inp := ⟨(.dead :: (.ptr 0 [] :: (.dead :: (.osl 1 :: (.data (.int .i64) :: (dd 21 [])))))), [.box (.agg (.pair .bool (.pair (.agg (.pair (.int .u64) (.pair (.int .u64) .unit))) .unit))), .row (.int .u8)], [(3, (.int .u8))], []⟩, ways := [⟨.x 0, ⟨(dd 3 (.osl 1 :: (dd 22 []))), [.none, .row (.int .u8)], [], []⟩⟩], run := fun v => iter (f253_s10_u k) k v }
theorem f253_b10_x (k : Nat) : LX (lookT tab) (f253_env k) [] (bodyOf Tryz.f253) (f253_b10 k) (f253_s10_u k) := by intro v; kernel_rfl
theorem f253_b10_ok (k : Nat) (hL : Lasting G) (hE : ES G (f253_env k)) : SO G (f253_b10 k) (.loop (loopAt 10 (bodyOf Tryz.f253))) :=
  sub_loop (subs := []) hTab hE (envOf_nat _) hMix hL (subs_nil _ _ _) (f253_s10_u k) k (fun _ => rfl) (fun v o h => (f253_b10_x k v).trans h) (by kernel_rfl)
theorem f253_x (k : Nat) : XX (lookT tab) (f253_env k) [f253_b10 k] Tryz.f253 (f253_e k) := by intro v; kernel_rfl
theorem f253_ok (k : Nat) (hL : Lasting G) (h0 : EO G (f190_e k)) (h1 : EO G (f242_e k)) (h2 : EO G (f254_e k)) : EO G (f253_e k) := by
  have hE : ES G (f253_env k) := envOf_sound (ents_cons h0 (ents_cons h1 (ents_cons h2 (ents_nil))))
  exact ent_ok (subs := [f253_b10 k]) hTab hE (envOf_nat _) hMix hL (subs_cons (by kernel_rfl) (f253_b10_ok k hL hE) (subs_nil _ _ _)) (f253_e k) Tryz.func253 (by kernel_rfl) (by kernel_rfl) (f253_x k)
def f307_env (k : Nat) : Env := envOf []
theorem f307_x (k : Nat) : XX (lookT tab) (f307_env k) [] Tryz.f307 (f307_e k) := by intro v; kernel_rfl
theorem f307_ok (k : Nat) (hL : Lasting G) : EO G (f307_e k) := by
  have hE : ES G (f307_env k) := envOf_sound (ents_nil)
  exact ent_ok (subs := []) hTab hE (envOf_nat _) hMix hL (subs_nil _ _ _) (f307_e k) Tryz.func307 (by kernel_rfl) (by kernel_rfl) (f307_x k)
def f194_env (k : Nat) : Env := envOf [f255_e k, f199_e k]
def f194_b6 (k : Nat) : Sub := { key := 6, inp := ⟨(dd 3 (.osl 0 :: (.dead :: (.dead :: (.data (.list (.int .u16)) :: (.data (.int .i64) :: (.data (.int .i64) :: (dd 12 [])))))))), [.row .str], [(3, .str)], []⟩, ways := [⟨.x 0, ⟨(dd 3 (.osl 0 :: (dd 17 []))), [.row .str], [], []⟩⟩], run := fun v => iter (f194_s6_u k) k v }
theorem f194_b6_x (k : Nat) : LX (lookT tab) (f194_env k) [] (bodyOf Tryz.f194) (f194_b6 k) (f194_s6_u k) := by intro v; kernel_rfl
theorem f194_b6_ok (k : Nat) (hL : Lasting G) (hE : ES G (f194_env k)) : SO G (f194_b6 k) (.loop (loopAt 6 (bodyOf Tryz.f194))) :=
  sub_loop (subs := []) hTab hE (envOf_nat _) hMix hL (subs_nil _ _ _) (f194_s6_u k) k (fun _ => rfl) (fun v o h => (f194_b6_x k v).trans h) (by kernel_rfl)
theorem f194_x (k : Nat) : XX (lookT tab) (f194_env k) [f194_b6 k] Tryz.f194 (f194_e k) := by intro v; kernel_rfl
theorem f194_ok (k : Nat) (hL : Lasting G) (h0 : EO G (f255_e k)) (h1 : EO G (f199_e k)) : EO G (f194_e k) := by
  have hE : ES G (f194_env k) := envOf_sound (ents_cons h0 (ents_cons h1 (ents_nil)))
  exact ent_ok (subs := [f194_b6 k]) hTab hE (envOf_nat _) hMix hL (subs_cons (by kernel_rfl) (f194_b6_ok k hL hE) (subs_nil _ _ _)) (f194_e k) Tryz.func194 (by kernel_rfl) (by kernel_rfl) (f194_x k)
def f101_env (k : Nat) : Env := envOf []
theorem f101_x (k : Nat) : XX (lookT tab) (f101_env k) [] Tryz.f101 (f101_e k) := by intro v; kernel_rfl
theorem f101_ok (k : Nat) (hL : Lasting G) : EO G (f101_e k) := by
  have hE : ES G (f101_env k) := envOf_sound (ents_nil)
  exact ent_ok (subs := []) hTab hE (envOf_nat _) hMix hL (subs_nil _ _ _) (f101_e k) Tryz.func101 (by kernel_rfl) (by kernel_rfl) (f101_x k)
def f140_env (k : Nat) : Env := envOf []
def f140_b4 (k : Nat) : Sub := { key := 4, inp := ⟨(.data (.list (.int .i64)) :: (.data (.int .i64) :: (dd 5 (.data (.int .i64) :: (.data (.int .i64) :: (dd 10 [])))))), [], [], []⟩, ways := [⟨.ret, ⟨(dd 4 (.data (.int .i64) :: (dd 14 []))), [], [], []⟩⟩, ⟨.x 0, ⟨(dd 19 []), [], [], []⟩⟩], run := fun v => iter (f140_s4_u k) k v }
theorem f140_b4_x (k : Nat) : LX (lookT tab) (f140_env k) [] (bodyOf Tryz.f140) (f140_b4 k) (f140_s4_u k) := by intro v; kernel_rfl
theorem f140_b4_ok (k : Nat) (hL : Lasting G) (hE : ES G (f140_env k)) : SO G (f140_b4 k) (.loop (loopAt 4 (bodyOf Tryz.f140))) :=
  sub_loop (subs := []) hTab hE (envOf_nat _) hMix hL (subs_nil _ _ _) (f140_s4_u k) k (fun _ => rfl) (fun v o h => (f140_b4_x k v).trans h) (by kernel_rfl)
theorem f140_x (k : Nat) : XX (lookT tab) (f140_env k) [f140_b4 k] Tryz.f140 (f140_e k) := by intro v; kernel_rfl
theorem f140_ok (k : Nat) (hL : Lasting G) : EO G (f140_e k) := by
  have hE : ES G (f140_env k) := envOf_sound (ents_nil)
  exact ent_ok (subs := [f140_b4 k]) hTab hE (envOf_nat _) hMix hL (subs_cons (by kernel_rfl) (f140_b4_ok k hL hE) (subs_nil _ _ _)) (f140_e k) Tryz.func140 (by kernel_rfl) (by kernel_rfl) (f140_x k)
def f293_env (k : Nat) : Env := envOf []
theorem f293_x (k : Nat) : XX (lookT tab) (f293_env k) [] Tryz.f293 (f293_e k) := by intro v; kernel_rfl
theorem f293_ok (k : Nat) (hL : Lasting G) : EO G (f293_e k) := by
  have hE : ES G (f293_env k) := envOf_sound (ents_nil)
  exact ent_ok (subs := []) hTab hE (envOf_nat _) hMix hL (subs_nil _ _ _) (f293_e k) Tryz.func293 (by kernel_rfl) (by kernel_rfl) (f293_x k)
def f258_env (k : Nat) : Env := envOf [f293_e k]
theorem f258_x (k : Nat) : XX (lookT tab) (f258_env k) [] Tryz.f258 (f258_e k) := by intro v; kernel_rfl
theorem f258_ok (k : Nat) (hL : Lasting G) (h0 : EO G (f293_e k)) : EO G (f258_e k) := by
  have hE : ES G (f258_env k) := envOf_sound (ents_cons h0 (ents_nil))
  exact ent_ok (subs := []) hTab hE (envOf_nat _) hMix hL (subs_nil _ _ _) (f258_e k) Tryz.func258 (by kernel_rfl) (by kernel_rfl) (f258_x k)
def f196_env (k : Nat) : Env := envOf [f258_e k]
theorem f196_x (k : Nat) : XX (lookT tab) (f196_env k) [] Tryz.f196 (f196_e k) := by intro v; kernel_rfl
theorem f196_ok (k : Nat) (hL : Lasting G) (h0 : EO G (f258_e k)) : EO G (f196_e k) := by
  have hE : ES G (f196_env k) := envOf_sound (ents_cons h0 (ents_nil))
  exact ent_ok (subs := []) hTab hE (envOf_nat _) hMix hL (subs_nil _ _ _) (f196_e k) Tryz.func196 (by kernel_rfl) (by kernel_rfl) (f196_x k)
def f144_env (k : Nat) : Env := envOf [f196_e k, f181_e k, f197_e k, f143_e k]
theorem f144_x (k : Nat) : XX (lookT tab) (f144_env k) [] Tryz.f144 (f144_e k) := by intro v; kernel_rfl
theorem f144_ok (k : Nat) (hL : Lasting G) (h0 : EO G (f196_e k)) (h1 : EO G (f181_e k)) (h2 : EO G (f197_e k)) (h3 : EO G (f143_e k)) : EO G (f144_e k) := by
  have hE : ES G (f144_env k) := envOf_sound (ents_cons h0 (ents_cons h1 (ents_cons h2 (ents_cons h3 (ents_nil)))))
  exact ent_ok (subs := []) hTab hE (envOf_nat _) hMix hL (subs_nil _ _ _) (f144_e k) Tryz.func144 (by kernel_rfl) (by kernel_rfl) (f144_x k)
def f179_env (k : Nat) : Env := envOf [f98_e k, f236_e k, f237_e k]
theorem f179_x (k : Nat) : XX (lookT tab) (f179_env k) [] Tryz.f179 (f179_e k) := by intro v; kernel_rfl
theorem f179_ok (k : Nat) (hL : Lasting G) (h0 : EO G (f98_e k)) (h1 : EO G (f236_e k)) (h2 : EO G (f237_e k)) : EO G (f179_e k) := by
  have hE : ES G (f179_env k) := envOf_sound (ents_cons h0 (ents_cons h1 (ents_cons h2 (ents_nil))))
  exact ent_ok (subs := []) hTab hE (envOf_nat _) hMix hL (subs_nil _ _ _) (f179_e k) Tryz.func179 (by kernel_rfl) (by kernel_rfl) (f179_x k)
def f178_env (k : Nat) : Env := envOf [f179_e k]
theorem f178_x (k : Nat) : XX (lookT tab) (f178_env k) [] Tryz.f178 (f178_e k) := by intro v; kernel_rfl
theorem f178_ok (k : Nat) (hL : Lasting G) (h0 : EO G (f179_e k)) : EO G (f178_e k) := by
  have hE : ES G (f178_env k) := envOf_sound (ents_cons h0 (ents_nil))
  exact ent_ok (subs := []) hTab hE (envOf_nat _) hMix hL (subs_nil _ _ _) (f178_e k) Tryz.func178 (by kernel_rfl) (by kernel_rfl) (f178_x k)
def f235_env (k : Nat) : Env := envOf [f178_e k]
def f235_b4 (k : Nat) : Sub := { key := 4, inp := ⟨(.data (.list (.agg (.pair .str (.pair (.int .i64) (.pair (.list .str) .unit))))) :: (.fn 178 :: (dd 5 (.data (.int .i64) :: (.data (.int .i64) :: (dd 10 [])))))), [], [], []⟩, ways := [⟨.ret, ⟨(dd 4 (.data (.int .i64) :: (dd 14 []))), [], [], []⟩⟩, ⟨.x 0, ⟨(dd 19 []), [], [], []⟩⟩], run := fun v => iter (f235_s4_u k) k v }
theorem f235_b4_x (k : Nat) : LX (lookT tab) (f235_env k) [] (bodyOf Tryz.f235) (f235_b4 k) (f235_s4_u k) := by intro v; kernel_rfl
theorem f235_b4_ok (k : Nat) (hL : Lasting G) (hE : ES G (f235_env k)) : SO G (f235_b4 k) (.loop (loopAt 4 (bodyOf Tryz.f235))) :=
  sub_loop (subs := []) hTab hE (envOf_nat _) hMix hL (subs_nil _ _ _) (f235_s4_u k) k (fun _ => rfl) (fun v o h => (f235_b4_x k v).trans h) (by kernel_rfl)
theorem f235_x (k : Nat) : XX (lookT tab) (f235_env k) [f235_b4 k] Tryz.f235 (f235_e k) := by intro v; kernel_rfl
theorem f235_ok (k : Nat) (hL : Lasting G) (h0 : EO G (f178_e k)) : EO G (f235_e k) := by
  have hE : ES G (f235_env k) := envOf_sound (ents_cons h0 (ents_nil))
  exact ent_ok (subs := [f235_b4 k]) hTab hE (envOf_nat _) hMix hL (subs_cons (by kernel_rfl) (f235_b4_ok k hL hE) (subs_nil _ _ _)) (f235_e k) Tryz.func235 (by kernel_rfl) (by kernel_rfl) (f235_x k)
def f104_env (k : Nat) : Env := envOf [f143_e k, f144_e k, f145_e k]
def f104_b10 (k : Nat) : Sub := { key := 10, inp := ⟨(.data .str :: (dd 3 (.osl 0 :: (dd 7 (.data (.list .str) :: (.data (.int .i64) :: (.data (.int .i64) :: (dd 25 [])))))))), [.row (.agg (.pair .str (.pair (.int .i64) (.pair (.list .str) .unit))))], [(4, (.agg (.pair .str (.pair (.int .i64) (.pair (.list .str) .unit)))))], []⟩, ways := [⟨.ret, ⟨(.dead :: (.dead :: (.data (.list (.agg (.pair .str (.pair (.int .i64) (.pair (.list .str) .unit))))) :: (.data (.int .i64) :: (dd 36 []))))), [], [], [(2, (.agg (.pair .str (.pair (.int .i64) (.pair (.list .str) .unit)))))]⟩⟩, ⟨.x 0, ⟨(.data .str :: (dd 3 (.osl 0 :: (dd 35 [])))), [.row (.agg (.pair .str (.pair (.int .i64) (.pair (.list .str) .unit))))], [], []⟩⟩], run := fun v => iter (f104_s10_u k) k v }
theorem f104_b10_x (k : Nat) : LX (lookT tab) (f104_env k) [] (bodyOf Tryz.f104) (f104_b10 k) (f104_s10_u k) := by intro v; kernel_rfl
theorem f104_b10_ok (k : Nat) (hL : Lasting G) (hE : ES G (f104_env k)) : SO G (f104_b10 k) (.loop (loopAt 10 (bodyOf Tryz.f104))) :=
  sub_loop (subs := []) hTab hE (envOf_nat _) hMix hL (subs_nil _ _ _) (f104_s10_u k) k (fun _ => rfl) (fun v o h => (f104_b10_x k v).trans h) (by kernel_rfl)
theorem f104_x (k : Nat) : XX (lookT tab) (f104_env k) [f104_b10 k] Tryz.f104 (f104_e k) := by intro v; kernel_rfl
theorem f104_ok (k : Nat) (hL : Lasting G) (h0 : EO G (f143_e k)) (h1 : EO G (f144_e k)) (h2 : EO G (f145_e k)) : EO G (f104_e k) := by
  have hE : ES G (f104_env k) := envOf_sound (ents_cons h0 (ents_cons h1 (ents_cons h2 (ents_nil))))
  exact ent_ok (subs := [f104_b10 k]) hTab hE (envOf_nat _) hMix hL (subs_cons (by kernel_rfl) (f104_b10_ok k hL hE) (subs_nil _ _ _)) (f104_e k) Tryz.func104 (by kernel_rfl) (by kernel_rfl) (f104_x k)
def f17_env (k : Nat) : Env := envOf [f64_e k, f65_e k, f66_e k]
theorem f17_x (k : Nat) : XX (lookT tab) (f17_env k) [] Tryz.f17 (f17_e k) := by intro v; kernel_rfl
theorem f17_ok (k : Nat) (hL : Lasting G) (h0 : EO G (f64_e k)) (h1 : EO G (f65_e k)) (h2 : EO G (f66_e k)) : EO G (f17_e k) := by
  have hE : ES G (f17_env k) := envOf_sound (ents_cons h0 (ents_cons h1 (ents_cons h2 (ents_nil))))
  exact ent_ok (subs := []) hTab hE (envOf_nat _) hMix hL (subs_nil _ _ _) (f17_e k) Tryz.func17 (by kernel_rfl) (by kernel_rfl) (f17_x k)
def f78_env (k : Nat) : Env := envOf [f17_e k]
theorem f78_x (k : Nat) : XX (lookT tab) (f78_env k) [] Tryz.f78 (f78_e k) := by intro v; kernel_rfl
theorem f78_ok (k : Nat) (hL : Lasting G) (h0 : EO G (f17_e k)) : EO G (f78_e k) := by
  have hE : ES G (f78_env k) := envOf_sound (ents_cons h0 (ents_nil))
  exact ent_ok (subs := []) hTab hE (envOf_nat _) hMix hL (subs_nil _ _ _) (f78_e k) Tryz.func78 (by kernel_rfl) (by kernel_rfl) (f78_x k)
def f23_m : List (Nat × TT) := [(36, (.opt tS)), (94, (.map tK tO)), (96, tS)]
theorem f23_t : TTOk Tryz.prog (lookTM tab f23_m [96]) := lookTM_ok hTabB (by kernel_rfl)
def f23_env (k : Nat) : Env := envOf [f77_e k, f78_e k, f79_e k]
theorem f23_x (k : Nat) : XX (lookTM tab f23_m [96]) (f23_env k) [] Tryz.f23 (f23_e k) := by intro v; kernel_rfl
theorem f23_ok (k : Nat) (hL : Lasting G) (h0 : EO G (f77_e k)) (h1 : EO G (f78_e k)) (h2 : EO G (f79_e k)) : EO G (f23_e k) := by
  have hE : ES G (f23_env k) := envOf_sound (ents_cons h0 (ents_cons h1 (ents_cons h2 (ents_nil))))
  exact ent_ok (subs := []) f23_t hE (envOf_nat _) hMix hL (subs_nil _ _ _) (f23_e k) Tryz.func23 (by kernel_rfl) (by kernel_rfl) (f23_x k)
def f18_m : List (Nat × TT) := [(36, (.opt tS)), (94, (.map tK tO)), (96, tS)]
theorem f18_t : TTOk Tryz.prog (lookTM tab f18_m [96]) := lookTM_ok hTabB (by kernel_rfl)
def f18_env (k : Nat) : Env := envOf [f19_e k, f67_e k, f23_e k, f68_e k, f24_e k]
theorem f18_x (k : Nat) : XX (lookTM tab f18_m [96]) (f18_env k) [] Tryz.f18 (f18_e k) := by intro v; kernel_rfl
theorem f18_ok (k : Nat) (hL : Lasting G) (h0 : EO G (f19_e k)) (h1 : EO G (f67_e k)) (h2 : EO G (f23_e k)) (h3 : EO G (f68_e k)) (h4 : EO G (f24_e k)) : EO G (f18_e k) := by
  have hE : ES G (f18_env k) := envOf_sound (ents_cons h0 (ents_cons h1 (ents_cons h2 (ents_cons h3 (ents_cons h4 (ents_nil))))))
  exact ent_ok (subs := []) f18_t hE (envOf_nat _) hMix hL (subs_nil _ _ _) (f18_e k) Tryz.func18 (by kernel_rfl) (by kernel_rfl) (f18_x k)
def f10_env (k : Nat) : Env := envOf [f37_e k, f38_e k]
theorem f10_x (k : Nat) : XX (lookT tab) (f10_env k) [] Tryz.f10 (f10_e k) := by intro v; kernel_rfl
theorem f10_ok (k : Nat) (hL : Lasting G) (h0 : EO G (f37_e k)) (h1 : EO G (f38_e k)) : EO G (f10_e k) := by
  have hE : ES G (f10_env k) := envOf_sound (ents_cons h0 (ents_cons h1 (ents_nil)))
  exact ent_ok (subs := []) hTab hE (envOf_nat _) hMix hL (subs_nil _ _ _) (f10_e k) Tryz.func10 (by kernel_rfl) (by kernel_rfl) (f10_x k)
def f72_m : List (Nat × TT) := [(36, (.opt tS)), (94, (.map tK tO)), (96, tS)]
theorem f72_t : TTOk Tryz.prog (lookTM tab f72_m [96]) := lookTM_ok hTabB (by kernel_rfl)
def f72_env (k : Nat) : Env := envOf [f114_e k, f117_e k, f113_e k]
theorem f72_x (k : Nat) : XX (lookTM tab f72_m [96]) (f72_env k) [] Tryz.f72 (f72_e k) := by intro v; kernel_rfl
theorem f72_ok (k : Nat) (hL : Lasting G) (h0 : EO G (f114_e k)) (h1 : EO G (f117_e k)) (h2 : EO G (f113_e k)) : EO G (f72_e k) := by
  have hE : ES G (f72_env k) := envOf_sound (ents_cons h0 (ents_cons h1 (ents_cons h2 (ents_nil))))
  exact ent_ok (subs := []) f72_t hE (envOf_nat _) hMix hL (subs_nil _ _ _) (f72_e k) Tryz.func72 (by kernel_rfl) (by kernel_rfl) (f72_x k)
end Go.Proofs.YtpffibjemegioaaGreatDoor
