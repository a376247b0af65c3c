/- The code of the program does what the plain functions say. -/
import Derived.Test.YtjbaeojagkkbgaaDoorQTA
import Derived.Test.YtjbaeojagkkbgaaDoorQShelf
import Derived.Test.YtjbaeojagkkbgaaDoorQI
import Derived.Shelf.Strings.SlTrimAscii
set_option linter.unusedVariables false
namespace Go.Proofs.YtjbaeojagkkbgaaDoor
open Go Go.RowKit Go.PB
def tab : List (Nat × Ty) := [(2, (.int .i64)), (3, (.int .i64)), (4, .bool), (5, (.int .u8)), (6, (.int .u8)), (7, (.agg (.pair (.int .i64) (.pair (.int .i64) (.pair .bool (.pair (.int .u8) .unit)))))), (8, (.agg (.pair (.int .i64) (.pair (.int .i64) (.pair .bool (.pair (.int .u8) .unit)))))), (9, .str), (10, .str), (11, .str), (12, (.int .u64)), (21, (.int .i32)), (25, (.list (.agg (.pair .str (.pair .str .unit))))), (27, (.int .i64)), (40, (.list (.agg (.pair .str (.pair (.int .i64) (.pair (.list .str) .unit)))))), (47, (.list .str)), (48, (.agg (.pair .str (.pair (.int .i64) (.pair (.list .str) .unit))))), (49, (.agg (.pair .str (.pair (.int .i64) (.pair (.list .str) .unit))))), (57, (.agg (.pair .str (.pair .str .unit)))), (58, (.agg (.pair .str (.pair .str .unit)))), (76, (.list (.int .u8))), (90, (.list (.list (.agg (.pair .str (.pair .str .unit)))))), (100, (.int .u64)), (117, (.int .u32)), (122, (.agg (.pair (.int .u8) (.pair (.int .u8) .unit)))), (123, (.agg (.pair (.int .u8) (.pair (.int .u8) .unit)))), (131, (.int .u8)), (132, (.int .u8)), (134, (.int .i32)), (135, (.int .i32))]
theorem hTab : TTOk Tryd.prog (lookT tab) := lookT_ok (by kernel_rfl)
theorem hMix : Tryd.prog.follows .mixedOrders = true := by kernel_rfl
theorem f48_y : (Tryd.f48.body.isSome = true) := by kernel_rfl
theorem f48_z : (Tryd.f48.name == "runtime.NumGoroutine") = false := by kernel_rfl
theorem f48_all (k : Nat) : EntOk Tryd.prog (fun w => w.ShapedOpen Tryd.prog) (f48_e k) := split_ok ⟨_, Tryd.func48, f48_y, f48_z⟩ Tryd.strings_Split_shaped
theorem f49_y : (Tryd.f49.body.isSome = true) := by kernel_rfl
theorem f49_z : (Tryd.f49.name == "runtime.NumGoroutine") = false := by kernel_rfl
theorem f49_all (k : Nat) : EntOk Tryd.prog (fun w => w.ShapedOpen Tryd.prog) (f49_e k) := cut_ok ⟨_, Tryd.func49, f49_y, f49_z⟩ Tryd.strings_Cut_shaped
theorem f47_y : (Tryd.f47.body.isSome = true) := by kernel_rfl
theorem f47_z : (Tryd.f47.name == "runtime.NumGoroutine") = false := by kernel_rfl
theorem f47_all (k : Nat) : EntOk Tryd.prog (fun w => w.ShapedOpen Tryd.prog) (f47_e k) := join_ok ⟨_, Tryd.func47, f47_y, f47_z⟩ Tryd.strings_Join_none Tryd.strings_Join
theorem f76_y : (Tryd.f76.body.isSome = true) := by kernel_rfl
theorem f76_z : (Tryd.f76.name == "runtime.NumGoroutine") = false := by kernel_rfl
theorem f76_all (k : Nat) : EntOk Tryd.prog (fun w => w.ShapedOpen Tryd.prog) (f76_e k) := trim_ok ⟨_, Tryd.func76, f76_y, f76_z⟩ (Any.strings_Trim_laid Tryd.lays160 (by kernel_rfl))
theorem f71_y : (Tryd.f71.body.isSome = true) := by kernel_rfl
theorem f71_z : (Tryd.f71.name == "runtime.NumGoroutine") = false := by kernel_rfl
theorem f71_all (k : Nat) : EntOk Tryd.prog (fun w => w.ShapedOpen Tryd.prog) (f71_e k) := compare_ok ⟨_, Tryd.func71, f71_y, f71_z⟩ Tryd.strings_Compare
theorem f50_y : (Tryd.f50.body.isSome = true) := by kernel_rfl
theorem f50_z : (Tryd.f50.name == "runtime.NumGoroutine") = false := by kernel_rfl
theorem f50_all (k : Nat) : EntOk Tryd.prog (fun w => w.ShapedOpen Tryd.prog) (f50_e k) := f50_ok ⟨_, Tryd.func50, f50_y, f50_z⟩
theorem f52_y : (Tryd.f52.body.isSome = true) := by kernel_rfl
theorem f52_z : (Tryd.f52.name == "runtime.NumGoroutine") = false := by kernel_rfl
theorem f52_all (k : Nat) : EntOk Tryd.prog (fun w => w.ShapedOpen Tryd.prog) (f52_e k) := f52_ok ⟨_, Tryd.func52, f52_y, f52_z⟩
theorem f74_y : (Tryd.f74.body.isSome = true) := by kernel_rfl
theorem f74_z : (Tryd.f74.name == "runtime.NumGoroutine") = false := by kernel_rfl
theorem f74_all (k : Nat) : EntOk Tryd.prog (fun w => w.ShapedOpen Tryd.prog) (f74_e k) := f74_ok ⟨_, Tryd.func74, f74_y, f74_z⟩
variable {G : World → Prop}
def f43_env (k : Nat) : Env := envOf []
theorem f43_x (k : Nat) (v : argsC (f43_e k).inp) : fexec (lookT tab) (f43_env k) [] Tryd.f43 (bodyOf Tryd.f43) (mkArgs (f43_e k).inp v) (fun rs => getRes (f43_e k).out rs some) = (f43_e k).run v := by kernel_rfl
theorem f43_y : Tryd.f43.body = some (bodyOf Tryd.f43) := by kernel_rfl
theorem f43_z : (Tryd.f43.name == "runtime.NumGoroutine") = false := by kernel_rfl
theorem f43_ok (k : Nat) (hT : TTOk Tryd.prog (lookT tab)) (hL : Lasting G) : EntOk Tryd.prog G (f43_e k) := by
  have hE : EnvSound Tryd.prog G (f43_env k) := envOf_sound (ents_nil)
  exact ent_ok (subs := []) hT hE (envOf_nat _) hMix hL (subs_nil _ _ _) (f43_e k) Tryd.func43 f43_y f43_z (f43_x k)
theorem f43_all (k : Nat) : EntOk Tryd.prog (fun w => w.ShapedOpen Tryd.prog) (f43_e k) := f43_ok k hTab (lasting_shaped _)

def f45_env (k : Nat) : Env := envOf [f43_e k]
theorem f45_x (k : Nat) (v : argsC (f45_e k).inp) : fexec (lookT tab) (f45_env k) [] Tryd.f45 (bodyOf Tryd.f45) (mkArgs (f45_e k).inp v) (fun rs => getRes (f45_e k).out rs some) = (f45_e k).run v := by kernel_rfl
theorem f45_y : Tryd.f45.body = some (bodyOf Tryd.f45) := by kernel_rfl
theorem f45_z : (Tryd.f45.name == "runtime.NumGoroutine") = false := by kernel_rfl
theorem f45_ok (k : Nat) (hT : TTOk Tryd.prog (lookT tab)) (hL : Lasting G) (h0 : EntOk Tryd.prog G (f43_e k)) : EntOk Tryd.prog G (f45_e k) := by
  have hE : EnvSound Tryd.prog G (f45_env k) := envOf_sound (ents_cons h0 (ents_nil))
  exact ent_ok (subs := []) hT hE (envOf_nat _) hMix hL (subs_nil _ _ _) (f45_e k) Tryd.func45 f45_y f45_z (f45_x k)
theorem f45_all (k : Nat) : EntOk Tryd.prog (fun w => w.ShapedOpen Tryd.prog) (f45_e k) := f45_ok k hTab (lasting_shaped _) (f43_all k)

def f44_env (k : Nat) : Env := envOf []
theorem f44_x (k : Nat) (v : argsC (f44_e k).inp) : fexec (lookT tab) (f44_env k) [] Tryd.f44 (bodyOf Tryd.f44) (mkArgs (f44_e k).inp v) (fun rs => getRes (f44_e k).out rs some) = (f44_e k).run v := by kernel_rfl
theorem f44_y : Tryd.f44.body = some (bodyOf Tryd.f44) := by kernel_rfl
theorem f44_z : (Tryd.f44.name == "runtime.NumGoroutine") = false := by kernel_rfl
theorem f44_ok (k : Nat) (hT : TTOk Tryd.prog (lookT tab)) (hL : Lasting G) : EntOk Tryd.prog G (f44_e k) := by
  have hE : EnvSound Tryd.prog G (f44_env k) := envOf_sound (ents_nil)
  exact ent_ok (subs := []) hT hE (envOf_nat _) hMix hL (subs_nil _ _ _) (f44_e k) Tryd.func44 f44_y f44_z (f44_x k)
theorem f44_all (k : Nat) : EntOk Tryd.prog (fun w => w.ShapedOpen Tryd.prog) (f44_e k) := f44_ok k hTab (lasting_shaped _)

def f46_env (k : Nat) : Env := envOf [f44_e k]
theorem f46_x (k : Nat) (v : argsC (f46_e k).inp) : fexec (lookT tab) (f46_env k) [] Tryd.f46 (bodyOf Tryd.f46) (mkArgs (f46_e k).inp v) (fun rs => getRes (f46_e k).out rs some) = (f46_e k).run v := by kernel_rfl
theorem f46_y : Tryd.f46.body = some (bodyOf Tryd.f46) := by kernel_rfl
theorem f46_z : (Tryd.f46.name == "runtime.NumGoroutine") = false := by kernel_rfl
theorem f46_ok (k : Nat) (hT : TTOk Tryd.prog (lookT tab)) (hL : Lasting G) (h0 : EntOk Tryd.prog G (f44_e k)) : EntOk Tryd.prog G (f46_e k) := by
  have hE : EnvSound Tryd.prog G (f46_env k) := envOf_sound (ents_cons h0 (ents_nil))
  exact ent_ok (subs := []) hT hE (envOf_nat _) hMix hL (subs_nil _ _ _) (f46_e k) Tryd.func46 f46_y f46_z (f46_x k)
theorem f46_all (k : Nat) : EntOk Tryd.prog (fun w => w.ShapedOpen Tryd.prog) (f46_e k) := f46_ok k hTab (lasting_shaped _) (f44_all k)

def f63_env (k : Nat) : Env := envOf []
def f63_b4 (k : Nat) : Sub := { key := 4, inp := ⟨[.dead, .data (.int .i32), .dead, .dead, .dead, .dead, .dead, .dead, .iter 0, .dead, .dead, .dead, .dead, .dead, .dead], [.iter], [], []⟩, ways := [⟨.ret, ⟨[.dead, .dead, .dead, .dead, .data .bool, .dead, .dead, .dead, .dead, .dead, .dead, .dead, .dead, .dead, .dead], [], [], []⟩⟩, ⟨.x 0, ⟨[.dead, .dead, .dead, .dead, .dead, .dead, .dead, .dead, .dead, .dead, .dead, .dead, .dead, .dead, .dead], [], [], []⟩⟩], run := fun v => iter (f63_s4_u k) k v }
theorem f63_b4_x (k : Nat) (v : (Int × ByteArray × Nat × Unit)) : exec (lookT tab) (f63_env k) [] (loopAt 4 (bodyOf Tryd.f63)) (mkSt (f63_b4 k).inp v) (loopKs (f63_b4 k).inp (f63_b4 k).ways) = f63_s4_u k v := by kernel_rfl
theorem f63_b4_ok (k : Nat) (hT : TTOk Tryd.prog (lookT tab)) (hL : Lasting G) (hE : EnvSound Tryd.prog G (f63_env k)) : SubSound Tryd.prog G (f63_b4 k) (.loop (loopAt 4 (bodyOf Tryd.f63))) :=
  sub_loop (subs := []) hT hE (envOf_nat _) hMix hL (subs_nil _ _ _) (f63_s4_u k) k (fun _ => rfl) (fun v o h => (f63_b4_x k v).trans h)
theorem f63_x (k : Nat) (v : argsC (f63_e k).inp) : fexec (lookT tab) (f63_env k) [f63_b4 k] Tryd.f63 (bodyOf Tryd.f63) (mkArgs (f63_e k).inp v) (fun rs => getRes (f63_e k).out rs some) = (f63_e k).run v := by kernel_rfl
theorem f63_y : Tryd.f63.body = some (bodyOf Tryd.f63) := by kernel_rfl
theorem f63_z : (Tryd.f63.name == "runtime.NumGoroutine") = false := by kernel_rfl
theorem f63_n2 (k : Nat) : nodesAt (f63_b4 k).key (bodyOf Tryd.f63) = [(.loop (loopAt 4 (bodyOf Tryd.f63)))] := by kernel_rfl
theorem f63_ok (k : Nat) (hT : TTOk Tryd.prog (lookT tab)) (hL : Lasting G) : EntOk Tryd.prog G (f63_e k) := by
  have hE : EnvSound Tryd.prog G (f63_env k) := envOf_sound (ents_nil)
  exact ent_ok (subs := [f63_b4 k]) hT hE (envOf_nat _) hMix hL (subs_cons (f63_n2 k) (f63_b4_ok k hT hL hE) (subs_nil _ _ _)) (f63_e k) Tryd.func63 f63_y f63_z (f63_x k)
theorem f63_all (k : Nat) : EntOk Tryd.prog (fun w => w.ShapedOpen Tryd.prog) (f63_e k) := f63_ok k hTab (lasting_shaped _)

def f42s_env (k : Nat) : Env := envOf [f43_e k, f63_e k]
def f42s_b8 (k : Nat) : Sub := { key := 8, inp := ⟨[.data .str, .fn 43, .data .str, .dead, .dead, .dead, .dead, .dead, .dead, .dead, .dead, .dead, .dead, .dead, .iter 0, .dead, .dead, .dead, .dead, .dead, .dead, .dead, .dead, .dead, .dead, .dead, .dead, .dead, .dead, .dead, .dead, .dead, .dead, .dead, .dead, .dead, .dead, .dead, .dead, .dead, .dead], [.iter], [], []⟩, ways := [⟨.ret, ⟨[.dead, .dead, .dead, .dead, .dead, .dead, .data .bool, .dead, .dead, .dead, .dead, .dead, .dead, .dead, .dead, .dead, .dead, .dead, .dead, .dead, .dead, .dead, .dead, .dead, .dead, .dead, .dead, .dead, .dead, .dead, .dead, .dead, .dead, .dead, .dead, .dead, .dead, .dead, .dead, .dead, .dead], [], [], []⟩⟩, ⟨.x 0, ⟨[.dead, .dead, .dead, .dead, .dead, .dead, .dead, .dead, .dead, .dead, .dead, .dead, .dead, .dead, .dead, .dead, .dead, .dead, .dead, .dead, .dead, .dead, .dead, .dead, .dead, .dead, .dead, .dead, .dead, .dead, .dead, .dead, .dead, .dead, .dead, .dead, .dead, .dead, .dead, .dead, .dead], [], [], []⟩⟩], run := fun v => iter (f42s_s8_u k) k v }
theorem f42s_b8_x (k : Nat) (v : (ByteArray × ByteArray × ByteArray × Nat × Unit)) : exec (lookT tab) (f42s_env k) [] (loopAt 8 (bodyOf Tryd.f42)) (mkSt (f42s_b8 k).inp v) (loopKs (f42s_b8 k).inp (f42s_b8 k).ways) = f42s_s8_u k v := by kernel_rfl
theorem f42s_b8_ok (k : Nat) (hT : TTOk Tryd.prog (lookT tab)) (hL : Lasting G) (hE : EnvSound Tryd.prog G (f42s_env k)) : SubSound Tryd.prog G (f42s_b8 k) (.loop (loopAt 8 (bodyOf Tryd.f42))) :=
  sub_loop (subs := []) hT hE (envOf_nat _) hMix hL (subs_nil _ _ _) (f42s_s8_u k) k (fun _ => rfl) (fun v o h => (f42s_b8_x k v).trans h)
theorem f42s_x (k : Nat) (v : argsC (f42s_e k).inp) : fexec (lookT tab) (f42s_env k) [f42s_b8 k] Tryd.f42 (bodyOf Tryd.f42) (mkArgs (f42s_e k).inp v) (fun rs => getRes (f42s_e k).out rs some) = (f42s_e k).run v := by kernel_rfl
theorem f42s_y : Tryd.f42.body = some (bodyOf Tryd.f42) := by kernel_rfl
theorem f42s_z : (Tryd.f42.name == "runtime.NumGoroutine") = false := by kernel_rfl
theorem f42s_n9 (k : Nat) : nodesAt (f42s_b8 k).key (bodyOf Tryd.f42) = [(.loop (loopAt 8 (bodyOf Tryd.f42)))] := by kernel_rfl
theorem f42s_ok (k : Nat) (hT : TTOk Tryd.prog (lookT tab)) (hL : Lasting G) (h0 : EntOk Tryd.prog G (f43_e k)) (h1 : EntOk Tryd.prog G (f63_e k)) : EntOk Tryd.prog G (f42s_e k) := by
  have hE : EnvSound Tryd.prog G (f42s_env k) := envOf_sound (ents_cons h0 (ents_cons h1 (ents_nil)))
  exact ent_ok (subs := [f42s_b8 k]) hT hE (envOf_nat _) hMix hL (subs_cons (f42s_n9 k) (f42s_b8_ok k hT hL hE) (subs_nil _ _ _)) (f42s_e k) Tryd.func42 f42s_y f42s_z (f42s_x k)
theorem f42s_all (k : Nat) : EntOk Tryd.prog (fun w => w.ShapedOpen Tryd.prog) (f42s_e k) := f42s_ok k hTab (lasting_shaped _) (f43_all k) (f63_all k)

def f42p_env (k : Nat) : Env := envOf [f45_e k, f63_e k]
def f42p_b8 (k : Nat) : Sub := { key := 8, inp := ⟨[.data .str, .fn 45, .data .str, .dead, .dead, .dead, .dead, .dead, .dead, .dead, .dead, .dead, .dead, .dead, .iter 0, .dead, .dead, .dead, .dead, .dead, .dead, .dead, .dead, .dead, .dead, .dead, .dead, .dead, .dead, .dead, .dead, .dead, .dead, .dead, .dead, .dead, .dead, .dead, .dead, .dead, .dead], [.iter], [], []⟩, ways := [⟨.ret, ⟨[.dead, .dead, .dead, .dead, .dead, .dead, .data .bool, .dead, .dead, .dead, .dead, .dead, .dead, .dead, .dead, .dead, .dead, .dead, .dead, .dead, .dead, .dead, .dead, .dead, .dead, .dead, .dead, .dead, .dead, .dead, .dead, .dead, .dead, .dead, .dead, .dead, .dead, .dead, .dead, .dead, .dead], [], [], []⟩⟩, ⟨.x 0, ⟨[.dead, .dead, .dead, .dead, .dead, .dead, .dead, .dead, .dead, .dead, .dead, .dead, .dead, .dead, .dead, .dead, .dead, .dead, .dead, .dead, .dead, .dead, .dead, .dead, .dead, .dead, .dead, .dead, .dead, .dead, .dead, .dead, .dead, .dead, .dead, .dead, .dead, .dead, .dead, .dead, .dead], [], [], []⟩⟩], run := fun v => iter (f42p_s8_u k) k v }
theorem f42p_b8_x (k : Nat) (v : (ByteArray × ByteArray × ByteArray × Nat × Unit)) : exec (lookT tab) (f42p_env k) [] (loopAt 8 (bodyOf Tryd.f42)) (mkSt (f42p_b8 k).inp v) (loopKs (f42p_b8 k).inp (f42p_b8 k).ways) = f42p_s8_u k v := by kernel_rfl
theorem f42p_b8_ok (k : Nat) (hT : TTOk Tryd.prog (lookT tab)) (hL : Lasting G) (hE : EnvSound Tryd.prog G (f42p_env k)) : SubSound Tryd.prog G (f42p_b8 k) (.loop (loopAt 8 (bodyOf Tryd.f42))) :=
  sub_loop (subs := []) hT hE (envOf_nat _) hMix hL (subs_nil _ _ _) (f42p_s8_u k) k (fun _ => rfl) (fun v o h => (f42p_b8_x k v).trans h)
theorem f42p_x (k : Nat) (v : argsC (f42p_e k).inp) : fexec (lookT tab) (f42p_env k) [f42p_b8 k] Tryd.f42 (bodyOf Tryd.f42) (mkArgs (f42p_e k).inp v) (fun rs => getRes (f42p_e k).out rs some) = (f42p_e k).run v := by kernel_rfl
theorem f42p_y : Tryd.f42.body = some (bodyOf Tryd.f42) := by kernel_rfl
theorem f42p_z : (Tryd.f42.name == "runtime.NumGoroutine") = false := by kernel_rfl
theorem f42p_n9 (k : Nat) : nodesAt (f42p_b8 k).key (bodyOf Tryd.f42) = [(.loop (loopAt 8 (bodyOf Tryd.f42)))] := by kernel_rfl
theorem f42p_ok (k : Nat) (hT : TTOk Tryd.prog (lookT tab)) (hL : Lasting G) (h0 : EntOk Tryd.prog G (f45_e k)) (h1 : EntOk Tryd.prog G (f63_e k)) : EntOk Tryd.prog G (f42p_e k) := by
  have hE : EnvSound Tryd.prog G (f42p_env k) := envOf_sound (ents_cons h0 (ents_cons h1 (ents_nil)))
  exact ent_ok (subs := [f42p_b8 k]) hT hE (envOf_nat _) hMix hL (subs_cons (f42p_n9 k) (f42p_b8_ok k hT hL hE) (subs_nil _ _ _)) (f42p_e k) Tryd.func42 f42p_y f42p_z (f42p_x k)
theorem f42p_all (k : Nat) : EntOk Tryd.prog (fun w => w.ShapedOpen Tryd.prog) (f42p_e k) := f42p_ok k hTab (lasting_shaped _) (f45_all k) (f63_all k)

def f10_env (k : Nat) : Env := envOf [f42s_e k]
theorem f10_x (k : Nat) (v : argsC (f10_e k).inp) : fexec (lookT tab) (f10_env k) [] Tryd.f10 (bodyOf Tryd.f10) (mkArgs (f10_e k).inp v) (fun rs => getRes (f10_e k).out rs some) = (f10_e k).run v := by kernel_rfl
theorem f10_y : Tryd.f10.body = some (bodyOf Tryd.f10) := by kernel_rfl
theorem f10_z : (Tryd.f10.name == "runtime.NumGoroutine") = false := by kernel_rfl
theorem f10_ok (k : Nat) (hT : TTOk Tryd.prog (lookT tab)) (hL : Lasting G) (h0 : EntOk Tryd.prog G (f42s_e k)) : EntOk Tryd.prog G (f10_e k) := by
  have hE : EnvSound Tryd.prog G (f10_env k) := envOf_sound (ents_cons h0 (ents_nil))
  exact ent_ok (subs := []) hT hE (envOf_nat _) hMix hL (subs_nil _ _ _) (f10_e k) Tryd.func10 f10_y f10_z (f10_x k)
theorem f10_all (k : Nat) : EntOk Tryd.prog (fun w => w.ShapedOpen Tryd.prog) (f10_e k) := f10_ok k hTab (lasting_shaped _) (f42s_all k)

def f12_env (k : Nat) : Env := envOf [f42p_e k]
theorem f12_x (k : Nat) (v : argsC (f12_e k).inp) : fexec (lookT tab) (f12_env k) [] Tryd.f12 (bodyOf Tryd.f12) (mkArgs (f12_e k).inp v) (fun rs => getRes (f12_e k).out rs some) = (f12_e k).run v := by kernel_rfl
theorem f12_y : Tryd.f12.body = some (bodyOf Tryd.f12) := by kernel_rfl
theorem f12_z : (Tryd.f12.name == "runtime.NumGoroutine") = false := by kernel_rfl
theorem f12_ok (k : Nat) (hT : TTOk Tryd.prog (lookT tab)) (hL : Lasting G) (h0 : EntOk Tryd.prog G (f42p_e k)) : EntOk Tryd.prog G (f12_e k) := by
  have hE : EnvSound Tryd.prog G (f12_env k) := envOf_sound (ents_cons h0 (ents_nil))
  exact ent_ok (subs := []) hT hE (envOf_nat _) hMix hL (subs_nil _ _ _) (f12_e k) Tryd.func12 f12_y f12_z (f12_x k)
theorem f12_all (k : Nat) : EntOk Tryd.prog (fun w => w.ShapedOpen Tryd.prog) (f12_e k) := f12_ok k hTab (lasting_shaped _) (f42p_all k)

def f14_env (k : Nat) : Env := envOf [f42p_e k]
theorem f14_x (k : Nat) (v : argsC (f14_e k).inp) : fexec (lookT tab) (f14_env k) [] Tryd.f14 (bodyOf Tryd.f14) (mkArgs (f14_e k).inp v) (fun rs => getRes (f14_e k).out rs some) = (f14_e k).run v := by kernel_rfl
theorem f14_y : Tryd.f14.body = some (bodyOf Tryd.f14) := by kernel_rfl
theorem f14_z : (Tryd.f14.name == "runtime.NumGoroutine") = false := by kernel_rfl
theorem f14_ok (k : Nat) (hT : TTOk Tryd.prog (lookT tab)) (hL : Lasting G) (h0 : EntOk Tryd.prog G (f42p_e k)) : EntOk Tryd.prog G (f14_e k) := by
  have hE : EnvSound Tryd.prog G (f14_env k) := envOf_sound (ents_cons h0 (ents_nil))
  exact ent_ok (subs := []) hT hE (envOf_nat _) hMix hL (subs_nil _ _ _) (f14_e k) Tryd.func14 f14_y f14_z (f14_x k)
theorem f14_all (k : Nat) : EntOk Tryd.prog (fun w => w.ShapedOpen Tryd.prog) (f14_e k) := f14_ok k hTab (lasting_shaped _) (f42p_all k)

def f11_env (k : Nat) : Env := envOf [f44_e k]
def f11_b8 (k : Nat) : Sub := { key := 8, inp := ⟨[.data .str, .dead, .dead, .data (.int .i64), .dead, .dead, .dead, .dead, .dead, .dead, .dead, .dead, .dead, .dead, .dead, .dead, .dead, .dead, .dead, .dead, .dead, .dead, .dead, .dead, .dead, .dead, .dead, .dead, .dead, .dead, .dead, .dead, .dead, .dead, .dead, .dead, .dead, .dead, .dead, .dead, .dead, .dead], [], [], []⟩, ways := [⟨.ret, ⟨[.dead, .dead, .data .bool, .dead, .dead, .dead, .dead, .dead, .dead, .dead, .dead, .dead, .dead, .dead, .dead, .dead, .dead, .dead, .dead, .dead, .dead, .dead, .dead, .dead, .dead, .dead, .dead, .dead, .dead, .dead, .dead, .dead, .dead, .dead, .dead, .dead, .dead, .dead, .dead, .dead, .dead, .dead], [], [], []⟩⟩, ⟨.x 0, ⟨[.dead, .dead, .dead, .dead, .dead, .dead, .dead, .dead, .dead, .dead, .dead, .dead, .dead, .dead, .dead, .dead, .dead, .dead, .dead, .dead, .dead, .dead, .dead, .dead, .dead, .dead, .dead, .dead, .dead, .dead, .dead, .dead, .dead, .dead, .dead, .dead, .dead, .dead, .dead, .dead, .dead, .dead], [], [], []⟩⟩], run := fun v => iter (f11_s8_u k) k v }
theorem f11_b8_x (k : Nat) (v : (ByteArray × Int × Unit)) : exec (lookT tab) (f11_env k) [] (loopAt 8 (bodyOf Tryd.f11)) (mkSt (f11_b8 k).inp v) (loopKs (f11_b8 k).inp (f11_b8 k).ways) = f11_s8_u k v := by kernel_rfl
theorem f11_b8_ok (k : Nat) (hT : TTOk Tryd.prog (lookT tab)) (hL : Lasting G) (hE : EnvSound Tryd.prog G (f11_env k)) : SubSound Tryd.prog G (f11_b8 k) (.loop (loopAt 8 (bodyOf Tryd.f11))) :=
  sub_loop (subs := []) hT hE (envOf_nat _) hMix hL (subs_nil _ _ _) (f11_s8_u k) k (fun _ => rfl) (fun v o h => (f11_b8_x k v).trans h)
theorem f11_x (k : Nat) (v : argsC (f11_e k).inp) : fexec (lookT tab) (f11_env k) [f11_b8 k] Tryd.f11 (bodyOf Tryd.f11) (mkArgs (f11_e k).inp v) (fun rs => getRes (f11_e k).out rs some) = (f11_e k).run v := by kernel_rfl
theorem f11_y : Tryd.f11.body = some (bodyOf Tryd.f11) := by kernel_rfl
theorem f11_z : (Tryd.f11.name == "runtime.NumGoroutine") = false := by kernel_rfl
theorem f11_n5 (k : Nat) : nodesAt (f11_b8 k).key (bodyOf Tryd.f11) = [(.loop (loopAt 8 (bodyOf Tryd.f11)))] := by kernel_rfl
theorem f11_ok (k : Nat) (hT : TTOk Tryd.prog (lookT tab)) (hL : Lasting G) (h0 : EntOk Tryd.prog G (f44_e k)) : EntOk Tryd.prog G (f11_e k) := by
  have hE : EnvSound Tryd.prog G (f11_env k) := envOf_sound (ents_cons h0 (ents_nil))
  exact ent_ok (subs := [f11_b8 k]) hT hE (envOf_nat _) hMix hL (subs_cons (f11_n5 k) (f11_b8_ok k hT hL hE) (subs_nil _ _ _)) (f11_e k) Tryd.func11 f11_y f11_z (f11_x k)
theorem f11_all (k : Nat) : EntOk Tryd.prog (fun w => w.ShapedOpen Tryd.prog) (f11_e k) := f11_ok k hTab (lasting_shaped _) (f44_all k)

def f15_env (k : Nat) : Env := envOf [f46_e k]
def f15_b8 (k : Nat) : Sub := { key := 8, inp := ⟨[.data .str, .data .bool, .dead, .dead, .dead, .data (.int .i64), .dead, .dead, .dead, .dead, .dead, .dead, .dead, .dead, .dead, .dead, .dead, .dead, .dead, .dead, .dead, .dead, .dead, .dead, .dead, .dead, .dead, .dead, .dead, .dead, .dead, .dead, .dead, .dead, .dead, .dead, .dead, .dead, .dead, .dead, .dead, .dead, .dead, .dead, .dead, .dead, .dead, .dead, .dead, .dead], [], [], []⟩, ways := [⟨.ret, ⟨[.dead, .dead, .dead, .dead, .data .bool, .dead, .dead, .dead, .dead, .dead, .dead, .dead, .dead, .dead, .dead, .dead, .dead, .dead, .dead, .dead, .dead, .dead, .dead, .dead, .dead, .dead, .dead, .dead, .dead, .dead, .dead, .dead, .dead, .dead, .dead, .dead, .dead, .dead, .dead, .dead, .dead, .dead, .dead, .dead, .dead, .dead, .dead, .dead, .dead, .dead], [], [], []⟩⟩, ⟨.x 0, ⟨[.dead, .dead, .dead, .dead, .dead, .dead, .dead, .dead, .dead, .dead, .dead, .dead, .dead, .dead, .dead, .dead, .dead, .dead, .dead, .dead, .dead, .dead, .dead, .dead, .dead, .dead, .dead, .dead, .dead, .dead, .dead, .dead, .dead, .dead, .dead, .dead, .dead, .dead, .dead, .dead, .dead, .dead, .dead, .dead, .dead, .dead, .dead, .dead, .dead, .dead], [], [], []⟩⟩], run := fun v => iter (f15_s8_u k) k v }
theorem f15_b8_x (k : Nat) (v : (ByteArray × Bool × Int × Unit)) : exec (lookT tab) (f15_env k) [] (loopAt 8 (bodyOf Tryd.f15)) (mkSt (f15_b8 k).inp v) (loopKs (f15_b8 k).inp (f15_b8 k).ways) = f15_s8_u k v := by kernel_rfl
theorem f15_b8_ok (k : Nat) (hT : TTOk Tryd.prog (lookT tab)) (hL : Lasting G) (hE : EnvSound Tryd.prog G (f15_env k)) : SubSound Tryd.prog G (f15_b8 k) (.loop (loopAt 8 (bodyOf Tryd.f15))) :=
  sub_loop (subs := []) hT hE (envOf_nat _) hMix hL (subs_nil _ _ _) (f15_s8_u k) k (fun _ => rfl) (fun v o h => (f15_b8_x k v).trans h)
theorem f15_x (k : Nat) (v : argsC (f15_e k).inp) : fexec (lookT tab) (f15_env k) [f15_b8 k] Tryd.f15 (bodyOf Tryd.f15) (mkArgs (f15_e k).inp v) (fun rs => getRes (f15_e k).out rs some) = (f15_e k).run v := by kernel_rfl
theorem f15_y : Tryd.f15.body = some (bodyOf Tryd.f15) := by kernel_rfl
theorem f15_z : (Tryd.f15.name == "runtime.NumGoroutine") = false := by kernel_rfl
theorem f15_n5 (k : Nat) : nodesAt (f15_b8 k).key (bodyOf Tryd.f15) = [(.loop (loopAt 8 (bodyOf Tryd.f15)))] := by kernel_rfl
theorem f15_ok (k : Nat) (hT : TTOk Tryd.prog (lookT tab)) (hL : Lasting G) (h0 : EntOk Tryd.prog G (f46_e k)) : EntOk Tryd.prog G (f15_e k) := by
  have hE : EnvSound Tryd.prog G (f15_env k) := envOf_sound (ents_cons h0 (ents_nil))
  exact ent_ok (subs := [f15_b8 k]) hT hE (envOf_nat _) hMix hL (subs_cons (f15_n5 k) (f15_b8_ok k hT hL hE) (subs_nil _ _ _)) (f15_e k) Tryd.func15 f15_y f15_z (f15_x k)
theorem f15_all (k : Nat) : EntOk Tryd.prog (fun w => w.ShapedOpen Tryd.prog) (f15_e k) := f15_ok k hTab (lasting_shaped _) (f46_all k)

def f13_env (k : Nat) : Env := envOf [f15_e k]
theorem f13_x (k : Nat) (v : argsC (f13_e k).inp) : fexec (lookT tab) (f13_env k) [] Tryd.f13 (bodyOf Tryd.f13) (mkArgs (f13_e k).inp v) (fun rs => getRes (f13_e k).out rs some) = (f13_e k).run v := by kernel_rfl
theorem f13_y : Tryd.f13.body = some (bodyOf Tryd.f13) := by kernel_rfl
theorem f13_z : (Tryd.f13.name == "runtime.NumGoroutine") = false := by kernel_rfl
theorem f13_ok (k : Nat) (hT : TTOk Tryd.prog (lookT tab)) (hL : Lasting G) (h0 : EntOk Tryd.prog G (f15_e k)) : EntOk Tryd.prog G (f13_e k) := by
  have hE : EnvSound Tryd.prog G (f13_env k) := envOf_sound (ents_cons h0 (ents_nil))
  exact ent_ok (subs := []) hT hE (envOf_nat _) hMix hL (subs_nil _ _ _) (f13_e k) Tryd.func13 f13_y f13_z (f13_x k)
theorem f13_all (k : Nat) : EntOk Tryd.prog (fun w => w.ShapedOpen Tryd.prog) (f13_e k) := f13_ok k hTab (lasting_shaped _) (f15_all k)

def f53_env (k : Nat) : Env := envOf []
def f53_b4 (k : Nat) : Sub := { key := 4, inp := ⟨[.data .str, .data .str, .dead, .dead, .dead, .data (.int .i64), .dead, .dead, .dead, .dead, .dead, .dead, .dead, .dead, .dead, .dead, .dead, .dead, .dead, .dead, .dead, .dead, .dead, .dead, .dead, .dead, .dead, .dead, .dead, .dead, .dead, .dead, .dead, .dead, .dead, .dead, .dead], [], [], []⟩, ways := [⟨.ret, ⟨[.dead, .dead, .dead, .dead, .data .bool, .dead, .dead, .dead, .dead, .dead, .dead, .dead, .dead, .dead, .dead, .dead, .dead, .dead, .dead, .dead, .dead, .dead, .dead, .dead, .dead, .dead, .dead, .dead, .dead, .dead, .dead, .dead, .dead, .dead, .dead, .dead, .dead], [], [], []⟩⟩, ⟨.x 0, ⟨[.data .str, .data .str, .dead, .dead, .dead, .dead, .dead, .dead, .dead, .dead, .dead, .dead, .dead, .dead, .dead, .dead, .dead, .dead, .dead, .dead, .dead, .dead, .dead, .dead, .dead, .dead, .dead, .dead, .dead, .dead, .dead, .dead, .dead, .dead, .dead, .dead, .dead], [], [], []⟩⟩], run := fun v => iter (f53_s4_u k) k v }
theorem f53_b4_x (k : Nat) (v : (ByteArray × ByteArray × Int × Unit)) : exec (lookT tab) (f53_env k) [] (loopAt 4 (bodyOf Tryd.f53)) (mkSt (f53_b4 k).inp v) (loopKs (f53_b4 k).inp (f53_b4 k).ways) = f53_s4_u k v := by kernel_rfl
theorem f53_b4_ok (k : Nat) (hT : TTOk Tryd.prog (lookT tab)) (hL : Lasting G) (hE : EnvSound Tryd.prog G (f53_env k)) : SubSound Tryd.prog G (f53_b4 k) (.loop (loopAt 4 (bodyOf Tryd.f53))) :=
  sub_loop (subs := []) hT hE (envOf_nat _) hMix hL (subs_nil _ _ _) (f53_s4_u k) k (fun _ => rfl) (fun v o h => (f53_b4_x k v).trans h)
theorem f53_x (k : Nat) (v : argsC (f53_e k).inp) : fexec (lookT tab) (f53_env k) [f53_b4 k] Tryd.f53 (bodyOf Tryd.f53) (mkArgs (f53_e k).inp v) (fun rs => getRes (f53_e k).out rs some) = (f53_e k).run v := by kernel_rfl
theorem f53_y : Tryd.f53.body = some (bodyOf Tryd.f53) := by kernel_rfl
theorem f53_z : (Tryd.f53.name == "runtime.NumGoroutine") = false := by kernel_rfl
theorem f53_n2 (k : Nat) : nodesAt (f53_b4 k).key (bodyOf Tryd.f53) = [(.loop (loopAt 4 (bodyOf Tryd.f53)))] := by kernel_rfl
theorem f53_ok (k : Nat) (hT : TTOk Tryd.prog (lookT tab)) (hL : Lasting G) : EntOk Tryd.prog G (f53_e k) := by
  have hE : EnvSound Tryd.prog G (f53_env k) := envOf_sound (ents_nil)
  exact ent_ok (subs := [f53_b4 k]) hT hE (envOf_nat _) hMix hL (subs_cons (f53_n2 k) (f53_b4_ok k hT hL hE) (subs_nil _ _ _)) (f53_e k) Tryd.func53 f53_y f53_z (f53_x k)
theorem f53_all (k : Nat) : EntOk Tryd.prog (fun w => w.ShapedOpen Tryd.prog) (f53_e k) := f53_ok k hTab (lasting_shaped _)

def f24_env (k : Nat) : Env := envOf []
def f24_b4 (k : Nat) : Sub := { key := 4, inp := ⟨[.dead, .data .str, .dead, .dead, .dead, .dead, .dead, .dead, .data (.list (.agg (.pair .str (.pair .str .unit)))), .data (.int .i64), .data (.int .i64), .dead, .dead, .dead, .dead, .dead, .dead, .dead, .dead, .dead, .dead], [], [], []⟩, ways := [⟨.ret, ⟨[.dead, .dead, .dead, .dead, .data .str, .data .bool, .dead, .dead, .dead, .dead, .dead, .dead, .dead, .dead, .dead, .dead, .dead, .dead, .dead, .dead, .dead], [], [], []⟩⟩, ⟨.x 0, ⟨[.dead, .dead, .dead, .dead, .dead, .dead, .dead, .dead, .dead, .dead, .dead, .dead, .dead, .dead, .dead, .dead, .dead, .dead, .dead, .dead, .dead], [], [], []⟩⟩], run := fun v => iter (f24_s4_u k) k v }
theorem f24_b4_x (k : Nat) (v : (ByteArray × (List (ByteArray × ByteArray × Unit)) × Int × Int × Unit)) : exec (lookT tab) (f24_env k) [] (loopAt 4 (bodyOf Tryd.f24)) (mkSt (f24_b4 k).inp v) (loopKs (f24_b4 k).inp (f24_b4 k).ways) = f24_s4_u k v := by kernel_rfl
theorem f24_b4_ok (k : Nat) (hT : TTOk Tryd.prog (lookT tab)) (hL : Lasting G) (hE : EnvSound Tryd.prog G (f24_env k)) : SubSound Tryd.prog G (f24_b4 k) (.loop (loopAt 4 (bodyOf Tryd.f24))) :=
  sub_loop (subs := []) hT hE (envOf_nat _) hMix hL (subs_nil _ _ _) (f24_s4_u k) k (fun _ => rfl) (fun v o h => (f24_b4_x k v).trans h)
theorem f24_x (k : Nat) (v : argsC (f24_e k).inp) : fexec (lookT tab) (f24_env k) [f24_b4 k] Tryd.f24 (bodyOf Tryd.f24) (mkArgs (f24_e k).inp v) (fun rs => getRes (f24_e k).out rs some) = (f24_e k).run v := by kernel_rfl
theorem f24_y : Tryd.f24.body = some (bodyOf Tryd.f24) := by kernel_rfl
theorem f24_z : (Tryd.f24.name == "runtime.NumGoroutine") = false := by kernel_rfl
theorem f24_n2 (k : Nat) : nodesAt (f24_b4 k).key (bodyOf Tryd.f24) = [(.loop (loopAt 4 (bodyOf Tryd.f24)))] := by kernel_rfl
theorem f24_ok (k : Nat) (hT : TTOk Tryd.prog (lookT tab)) (hL : Lasting G) : EntOk Tryd.prog G (f24_e k) := by
  have hE : EnvSound Tryd.prog G (f24_env k) := envOf_sound (ents_nil)
  exact ent_ok (subs := [f24_b4 k]) hT hE (envOf_nat _) hMix hL (subs_cons (f24_n2 k) (f24_b4_ok k hT hL hE) (subs_nil _ _ _)) (f24_e k) Tryd.func24 f24_y f24_z (f24_x k)
theorem f24_all (k : Nat) : EntOk Tryd.prog (fun w => w.ShapedOpen Tryd.prog) (f24_e k) := f24_ok k hTab (lasting_shaped _)

def f25_env (k : Nat) : Env := envOf []
def f25_b4 (k : Nat) : Sub := { key := 4, inp := ⟨[.data (.list (.agg (.pair .str (.pair .str .unit)))), .data .str, .dead, .dead, .dead, .dead, .data (.int .i64), .dead, .dead, .dead, .dead, .dead, .dead, .dead, .dead, .dead, .dead, .dead, .dead, .dead, .dead, .dead, .dead, .dead, .dead], [], [], []⟩, ways := [⟨.ret, ⟨[.dead, .dead, .dead, .dead, .data .str, .data .bool, .dead, .dead, .dead, .dead, .dead, .dead, .dead, .dead, .dead, .dead, .dead, .dead, .dead, .dead, .dead, .dead, .dead, .dead, .dead], [], [], []⟩⟩, ⟨.x 0, ⟨[.dead, .dead, .dead, .dead, .dead, .dead, .dead, .dead, .dead, .dead, .dead, .dead, .dead, .dead, .dead, .dead, .dead, .dead, .dead, .dead, .dead, .dead, .dead, .dead, .dead], [], [], []⟩⟩], run := fun v => iter (f25_s4_u k) k v }
theorem f25_b4_x (k : Nat) (v : ((List (ByteArray × ByteArray × Unit)) × ByteArray × Int × Unit)) : exec (lookT tab) (f25_env k) [] (loopAt 4 (bodyOf Tryd.f25)) (mkSt (f25_b4 k).inp v) (loopKs (f25_b4 k).inp (f25_b4 k).ways) = f25_s4_u k v := by kernel_rfl
theorem f25_b4_ok (k : Nat) (hT : TTOk Tryd.prog (lookT tab)) (hL : Lasting G) (hE : EnvSound Tryd.prog G (f25_env k)) : SubSound Tryd.prog G (f25_b4 k) (.loop (loopAt 4 (bodyOf Tryd.f25))) :=
  sub_loop (subs := []) hT hE (envOf_nat _) hMix hL (subs_nil _ _ _) (f25_s4_u k) k (fun _ => rfl) (fun v o h => (f25_b4_x k v).trans h)
theorem f25_x (k : Nat) (v : argsC (f25_e k).inp) : fexec (lookT tab) (f25_env k) [f25_b4 k] Tryd.f25 (bodyOf Tryd.f25) (mkArgs (f25_e k).inp v) (fun rs => getRes (f25_e k).out rs some) = (f25_e k).run v := by kernel_rfl
theorem f25_y : Tryd.f25.body = some (bodyOf Tryd.f25) := by kernel_rfl
theorem f25_z : (Tryd.f25.name == "runtime.NumGoroutine") = false := by kernel_rfl
theorem f25_n2 (k : Nat) : nodesAt (f25_b4 k).key (bodyOf Tryd.f25) = [(.loop (loopAt 4 (bodyOf Tryd.f25)))] := by kernel_rfl
theorem f25_ok (k : Nat) (hT : TTOk Tryd.prog (lookT tab)) (hL : Lasting G) : EntOk Tryd.prog G (f25_e k) := by
  have hE : EnvSound Tryd.prog G (f25_env k) := envOf_sound (ents_nil)
  exact ent_ok (subs := [f25_b4 k]) hT hE (envOf_nat _) hMix hL (subs_cons (f25_n2 k) (f25_b4_ok k hT hL hE) (subs_nil _ _ _)) (f25_e k) Tryd.func25 f25_y f25_z (f25_x k)
theorem f25_all (k : Nat) : EntOk Tryd.prog (fun w => w.ShapedOpen Tryd.prog) (f25_e k) := f25_ok k hTab (lasting_shaped _)

def f26_env (k : Nat) : Env := envOf [f12_e k, f14_e k]
def f26_b4 (k : Nat) : Sub := { key := 4, inp := ⟨[.data (.list (.agg (.pair .str (.pair .str .unit)))), .dead, .dead, .dead, .dead, .data (.list (.agg (.pair .str (.pair .str .unit)))), .data (.int .i64), .data (.int .i64), .dead, .dead, .dead, .dead, .dead, .dead, .dead, .dead, .dead, .dead, .dead, .dead, .dead, .dead, .dead, .dead, .dead, .dead, .dead, .dead, .dead, .dead, .dead, .dead, .dead, .dead, .dead, .dead, .dead, .dead, .dead, .dead, .dead], [], [], []⟩, ways := [⟨.ret, ⟨[.dead, .dead, .data .bool, .dead, .dead, .dead, .dead, .dead, .dead, .dead, .dead, .dead, .dead, .dead, .dead, .dead, .dead, .dead, .dead, .dead, .dead, .dead, .dead, .dead, .dead, .dead, .dead, .dead, .dead, .dead, .dead, .dead, .dead, .dead, .dead, .dead, .dead, .dead, .dead, .dead, .dead], [], [], []⟩⟩, ⟨.x 0, ⟨[.data (.list (.agg (.pair .str (.pair .str .unit)))), .dead, .dead, .dead, .dead, .dead, .dead, .dead, .dead, .dead, .dead, .dead, .dead, .dead, .dead, .dead, .dead, .dead, .dead, .dead, .dead, .dead, .dead, .dead, .dead, .dead, .dead, .dead, .dead, .dead, .dead, .dead, .dead, .dead, .dead, .dead, .dead, .dead, .dead, .dead, .dead], [], [], []⟩⟩], run := fun v => iter (f26_s4_u k) k v }
theorem f26_b4_x (k : Nat) (v : ((List (ByteArray × ByteArray × Unit)) × (List (ByteArray × ByteArray × Unit)) × Int × Int × Unit)) : exec (lookT tab) (f26_env k) [] (loopAt 4 (bodyOf Tryd.f26)) (mkSt (f26_b4 k).inp v) (loopKs (f26_b4 k).inp (f26_b4 k).ways) = f26_s4_u k v := by kernel_rfl
theorem f26_b4_ok (k : Nat) (hT : TTOk Tryd.prog (lookT tab)) (hL : Lasting G) (hE : EnvSound Tryd.prog G (f26_env k)) : SubSound Tryd.prog G (f26_b4 k) (.loop (loopAt 4 (bodyOf Tryd.f26))) :=
  sub_loop (subs := []) hT hE (envOf_nat _) hMix hL (subs_nil _ _ _) (f26_s4_u k) k (fun _ => rfl) (fun v o h => (f26_b4_x k v).trans h)
theorem f26_x (k : Nat) (v : argsC (f26_e k).inp) : fexec (lookT tab) (f26_env k) [f26_b4 k] Tryd.f26 (bodyOf Tryd.f26) (mkArgs (f26_e k).inp v) (fun rs => getRes (f26_e k).out rs some) = (f26_e k).run v := by kernel_rfl
theorem f26_y : Tryd.f26.body = some (bodyOf Tryd.f26) := by kernel_rfl
theorem f26_z : (Tryd.f26.name == "runtime.NumGoroutine") = false := by kernel_rfl
theorem f26_n7 (k : Nat) : nodesAt (f26_b4 k).key (bodyOf Tryd.f26) = [(.loop (loopAt 4 (bodyOf Tryd.f26)))] := by kernel_rfl
theorem f26_ok (k : Nat) (hT : TTOk Tryd.prog (lookT tab)) (hL : Lasting G) (h0 : EntOk Tryd.prog G (f12_e k)) (h1 : EntOk Tryd.prog G (f14_e k)) : EntOk Tryd.prog G (f26_e k) := by
  have hE : EnvSound Tryd.prog G (f26_env k) := envOf_sound (ents_cons h0 (ents_cons h1 (ents_nil)))
  exact ent_ok (subs := [f26_b4 k]) hT hE (envOf_nat _) hMix hL (subs_cons (f26_n7 k) (f26_b4_ok k hT hL hE) (subs_nil _ _ _)) (f26_e k) Tryd.func26 f26_y f26_z (f26_x k)
theorem f26_all (k : Nat) : EntOk Tryd.prog (fun w => w.ShapedOpen Tryd.prog) (f26_e k) := f26_ok k hTab (lasting_shaped _) (f12_all k) (f14_all k)

def f27_env (k : Nat) : Env := envOf [f13_e k, f15_e k, f53_e k]
def f27_b8 (k : Nat) : Sub := { key := 8, inp := ⟨[.data (.list (.agg (.pair .str (.pair .str .unit)))), .dead, .dead, .data (.int .i64), .dead, .dead, .dead, .dead, .dead, .dead, .dead, .dead, .dead, .dead, .dead, .dead, .dead, .dead, .dead, .dead, .dead, .dead, .dead, .dead, .dead, .dead, .dead, .dead, .dead, .dead, .dead, .dead, .dead, .dead, .dead, .dead, .dead, .dead, .dead, .dead, .dead, .dead, .dead, .dead, .dead, .dead, .dead, .dead], [], [], []⟩, ways := [⟨.ret, ⟨[.dead, .dead, .data .bool, .dead, .dead, .dead, .dead, .dead, .dead, .dead, .dead, .dead, .dead, .dead, .dead, .dead, .dead, .dead, .dead, .dead, .dead, .dead, .dead, .dead, .dead, .dead, .dead, .dead, .dead, .dead, .dead, .dead, .dead, .dead, .dead, .dead, .dead, .dead, .dead, .dead, .dead, .dead, .dead, .dead, .dead, .dead, .dead, .dead], [], [], []⟩⟩, ⟨.x 0, ⟨[.dead, .dead, .dead, .dead, .dead, .dead, .dead, .dead, .dead, .dead, .dead, .dead, .dead, .dead, .dead, .dead, .dead, .dead, .dead, .dead, .dead, .dead, .dead, .dead, .dead, .dead, .dead, .dead, .dead, .dead, .dead, .dead, .dead, .dead, .dead, .dead, .dead, .dead, .dead, .dead, .dead, .dead, .dead, .dead, .dead, .dead, .dead, .dead], [], [], []⟩⟩], run := fun v => iter (f27_s8_u k) k v }
theorem f27_b8_x (k : Nat) (v : ((List (ByteArray × ByteArray × Unit)) × Int × Unit)) : exec (lookT tab) (f27_env k) [] (loopAt 8 (bodyOf Tryd.f27)) (mkSt (f27_b8 k).inp v) (loopKs (f27_b8 k).inp (f27_b8 k).ways) = f27_s8_u k v := by kernel_rfl
theorem f27_b8_ok (k : Nat) (hT : TTOk Tryd.prog (lookT tab)) (hL : Lasting G) (hE : EnvSound Tryd.prog G (f27_env k)) : SubSound Tryd.prog G (f27_b8 k) (.loop (loopAt 8 (bodyOf Tryd.f27))) :=
  sub_loop (subs := []) hT hE (envOf_nat _) hMix hL (subs_nil _ _ _) (f27_s8_u k) k (fun _ => rfl) (fun v o h => (f27_b8_x k v).trans h)
theorem f27_x (k : Nat) (v : argsC (f27_e k).inp) : fexec (lookT tab) (f27_env k) [f27_b8 k] Tryd.f27 (bodyOf Tryd.f27) (mkArgs (f27_e k).inp v) (fun rs => getRes (f27_e k).out rs some) = (f27_e k).run v := by kernel_rfl
theorem f27_y : Tryd.f27.body = some (bodyOf Tryd.f27) := by kernel_rfl
theorem f27_z : (Tryd.f27.name == "runtime.NumGoroutine") = false := by kernel_rfl
theorem f27_n9 (k : Nat) : nodesAt (f27_b8 k).key (bodyOf Tryd.f27) = [(.loop (loopAt 8 (bodyOf Tryd.f27)))] := by kernel_rfl
theorem f27_ok (k : Nat) (hT : TTOk Tryd.prog (lookT tab)) (hL : Lasting G) (h0 : EntOk Tryd.prog G (f13_e k)) (h1 : EntOk Tryd.prog G (f15_e k)) (h2 : EntOk Tryd.prog G (f53_e k)) : EntOk Tryd.prog G (f27_e k) := by
  have hE : EnvSound Tryd.prog G (f27_env k) := envOf_sound (ents_cons h0 (ents_cons h1 (ents_cons h2 (ents_nil))))
  exact ent_ok (subs := [f27_b8 k]) hT hE (envOf_nat _) hMix hL (subs_cons (f27_n9 k) (f27_b8_ok k hT hL hE) (subs_nil _ _ _)) (f27_e k) Tryd.func27 f27_y f27_z (f27_x k)
theorem f27_all (k : Nat) : EntOk Tryd.prog (fun w => w.ShapedOpen Tryd.prog) (f27_e k) := f27_ok k hTab (lasting_shaped _) (f13_all k) (f15_all k) (f53_all k)

def f16_env (k : Nat) : Env := envOf []
def f16_b8 (k : Nat) : Sub := { key := 8, inp := ⟨[.data (.list (.agg (.pair .str (.pair .str .unit)))), .dead, .dead, .data (.int .i64), .dead, .dead, .dead, .dead, .dead, .dead, .dead, .dead, .dead, .dead, .dead, .dead, .dead, .dead, .dead, .dead, .dead, .dead, .dead, .dead, .dead, .dead, .dead, .dead, .dead], [], [], []⟩, ways := [⟨.ret, ⟨[.dead, .dead, .data .bool, .dead, .dead, .dead, .dead, .dead, .dead, .dead, .dead, .dead, .dead, .dead, .dead, .dead, .dead, .dead, .dead, .dead, .dead, .dead, .dead, .dead, .dead, .dead, .dead, .dead, .dead], [], [], []⟩⟩, ⟨.x 0, ⟨[.dead, .dead, .dead, .dead, .dead, .dead, .dead, .dead, .dead, .dead, .dead, .dead, .dead, .dead, .dead, .dead, .dead, .dead, .dead, .dead, .dead, .dead, .dead, .dead, .dead, .dead, .dead, .dead, .dead], [], [], []⟩⟩], run := fun v => iter (f16_s8_u k) k v }
theorem f16_b8_x (k : Nat) (v : ((List (ByteArray × ByteArray × Unit)) × Int × Unit)) : exec (lookT tab) (f16_env k) [] (loopAt 8 (bodyOf Tryd.f16)) (mkSt (f16_b8 k).inp v) (loopKs (f16_b8 k).inp (f16_b8 k).ways) = f16_s8_u k v := by kernel_rfl
theorem f16_b8_ok (k : Nat) (hT : TTOk Tryd.prog (lookT tab)) (hL : Lasting G) (hE : EnvSound Tryd.prog G (f16_env k)) : SubSound Tryd.prog G (f16_b8 k) (.loop (loopAt 8 (bodyOf Tryd.f16))) :=
  sub_loop (subs := []) hT hE (envOf_nat _) hMix hL (subs_nil _ _ _) (f16_s8_u k) k (fun _ => rfl) (fun v o h => (f16_b8_x k v).trans h)
theorem f16_x (k : Nat) (v : argsC (f16_e k).inp) : fexec (lookT tab) (f16_env k) [f16_b8 k] Tryd.f16 (bodyOf Tryd.f16) (mkArgs (f16_e k).inp v) (fun rs => getRes (f16_e k).out rs some) = (f16_e k).run v := by kernel_rfl
theorem f16_y : Tryd.f16.body = some (bodyOf Tryd.f16) := by kernel_rfl
theorem f16_z : (Tryd.f16.name == "runtime.NumGoroutine") = false := by kernel_rfl
theorem f16_n2 (k : Nat) : nodesAt (f16_b8 k).key (bodyOf Tryd.f16) = [(.loop (loopAt 8 (bodyOf Tryd.f16)))] := by kernel_rfl
theorem f16_ok (k : Nat) (hT : TTOk Tryd.prog (lookT tab)) (hL : Lasting G) : EntOk Tryd.prog G (f16_e k) := by
  have hE : EnvSound Tryd.prog G (f16_env k) := envOf_sound (ents_nil)
  exact ent_ok (subs := [f16_b8 k]) hT hE (envOf_nat _) hMix hL (subs_cons (f16_n2 k) (f16_b8_ok k hT hL hE) (subs_nil _ _ _)) (f16_e k) Tryd.func16 f16_y f16_z (f16_x k)
theorem f16_all (k : Nat) : EntOk Tryd.prog (fun w => w.ShapedOpen Tryd.prog) (f16_e k) := f16_ok k hTab (lasting_shaped _)

def f28_env (k : Nat) : Env := envOf []
def f28_b6 (k : Nat) : Sub := { key := 6, inp := ⟨[.data (.list (.agg (.pair .str (.pair .str .unit)))), .data .str, .dead, .dead, .dead, .osl 0, .data (.int .i64), .dead, .dead, .dead, .dead, .dead, .dead, .dead, .dead, .dead, .dead, .dead, .dead, .dead, .dead, .dead, .dead, .dead, .dead, .dead, .dead, .dead, .dead], [.row (.agg (.pair .str (.pair .str .unit)))], [], []⟩, ways := [⟨.x 0, ⟨[.dead, .dead, .dead, .dead, .dead, .osl 0, .dead, .dead, .dead, .dead, .dead, .dead, .dead, .dead, .dead, .dead, .dead, .dead, .dead, .dead, .dead, .dead, .dead, .dead, .dead, .dead, .dead, .dead, .dead], [.row (.agg (.pair .str (.pair .str .unit)))], [], []⟩⟩], run := fun v => iter (f28_s6_u k) k v }
theorem f28_b6_x (k : Nat) (v : ((List (ByteArray × ByteArray × Unit)) × ByteArray × Int × (List (ByteArray × ByteArray × Unit)) × Unit)) : exec (lookT tab) (f28_env k) [] (loopAt 6 (bodyOf Tryd.f28)) (mkSt (f28_b6 k).inp v) (loopKs (f28_b6 k).inp (f28_b6 k).ways) = f28_s6_u k v := by kernel_rfl
theorem f28_b6_ok (k : Nat) (hT : TTOk Tryd.prog (lookT tab)) (hL : Lasting G) (hE : EnvSound Tryd.prog G (f28_env k)) : SubSound Tryd.prog G (f28_b6 k) (.loop (loopAt 6 (bodyOf Tryd.f28))) :=
  sub_loop (subs := []) hT hE (envOf_nat _) hMix hL (subs_nil _ _ _) (f28_s6_u k) k (fun _ => rfl) (fun v o h => (f28_b6_x k v).trans h)
theorem f28_x (k : Nat) (v : argsC (f28_e k).inp) : fexec (lookT tab) (f28_env k) [f28_b6 k] Tryd.f28 (bodyOf Tryd.f28) (mkArgs (f28_e k).inp v) (fun rs => getRes (f28_e k).out rs some) = (f28_e k).run v := by kernel_rfl
theorem f28_y : Tryd.f28.body = some (bodyOf Tryd.f28) := by kernel_rfl
theorem f28_z : (Tryd.f28.name == "runtime.NumGoroutine") = false := by kernel_rfl
theorem f28_n2 (k : Nat) : nodesAt (f28_b6 k).key (bodyOf Tryd.f28) = [(.loop (loopAt 6 (bodyOf Tryd.f28)))] := by kernel_rfl
theorem f28_ok (k : Nat) (hT : TTOk Tryd.prog (lookT tab)) (hL : Lasting G) : EntOk Tryd.prog G (f28_e k) := by
  have hE : EnvSound Tryd.prog G (f28_env k) := envOf_sound (ents_nil)
  exact ent_ok (subs := [f28_b6 k]) hT hE (envOf_nat _) hMix hL (subs_cons (f28_n2 k) (f28_b6_ok k hT hL hE) (subs_nil _ _ _)) (f28_e k) Tryd.func28 f28_y f28_z (f28_x k)
theorem f28_all (k : Nat) : EntOk Tryd.prog (fun w => w.ShapedOpen Tryd.prog) (f28_e k) := f28_ok k hTab (lasting_shaped _)

def f22_env (k : Nat) : Env := envOf [f27_e k, f13_e k, f15_e k, f28_e k, f53_e k]
def f22_b16 (k : Nat) : Sub := { key := 16, inp := ⟨[.dead, .data .str, .data .str, .dead, .dead, .dead, .dead, .dead, .data (.list (.agg (.pair .str (.pair .str .unit)))), .osl 0, .data (.int .i64), .dead, .dead, .dead, .dead, .dead, .dead, .dead, .dead, .dead, .dead, .dead, .dead, .dead, .dead, .dead, .dead, .dead, .dead, .dead, .dead, .dead, .dead, .dead, .dead, .dead, .dead, .dead, .dead, .dead, .dead, .dead, .dead, .dead, .dead, .dead, .dead, .dead, .dead, .dead, .dead, .dead, .dead, .dead, .dead, .dead, .dead, .dead, .dead, .dead, .dead, .dead, .dead, .dead], [.row (.agg (.pair .str (.pair .str .unit)))], [], []⟩, ways := [⟨.x 0, ⟨[.dead, .data .str, .data .str, .dead, .dead, .dead, .dead, .dead, .data (.list (.agg (.pair .str (.pair .str .unit)))), .osl 0, .data (.int .i64), .dead, .dead, .dead, .dead, .dead, .dead, .dead, .dead, .dead, .dead, .dead, .dead, .dead, .dead, .dead, .dead, .dead, .dead, .dead, .dead, .dead, .dead, .dead, .dead, .dead, .dead, .dead, .dead, .dead, .dead, .dead, .dead, .dead, .dead, .dead, .dead, .dead, .dead, .dead, .dead, .dead, .dead, .dead, .dead, .dead, .dead, .dead, .dead, .dead, .dead, .dead, .dead, .dead], [.row (.agg (.pair .str (.pair .str .unit)))], [], []⟩⟩], run := fun v => iter (f22_s16_u k) k v }
theorem f22_b16_x (k : Nat) (v : (ByteArray × ByteArray × (List (ByteArray × ByteArray × Unit)) × Int × (List (ByteArray × ByteArray × Unit)) × Unit)) : exec (lookT tab) (f22_env k) [] (loopAt 16 (bodyOf Tryd.f22)) (mkSt (f22_b16 k).inp v) (loopKs (f22_b16 k).inp (f22_b16 k).ways) = f22_s16_u k v := by kernel_rfl
theorem f22_b16_ok (k : Nat) (hT : TTOk Tryd.prog (lookT tab)) (hL : Lasting G) (hE : EnvSound Tryd.prog G (f22_env k)) : SubSound Tryd.prog G (f22_b16 k) (.loop (loopAt 16 (bodyOf Tryd.f22))) :=
  sub_loop (subs := []) hT hE (envOf_nat _) hMix hL (subs_nil _ _ _) (f22_s16_u k) k (fun _ => rfl) (fun v o h => (f22_b16_x k v).trans h)
theorem f22_x (k : Nat) (v : argsC (f22_e k).inp) : fexec (lookT tab) (f22_env k) [f22_b16 k] Tryd.f22 (bodyOf Tryd.f22) (mkArgs (f22_e k).inp v) (fun rs => getRes (f22_e k).out rs some) = (f22_e k).run v := by kernel_rfl
theorem f22_y : Tryd.f22.body = some (bodyOf Tryd.f22) := by kernel_rfl
theorem f22_z : (Tryd.f22.name == "runtime.NumGoroutine") = false := by kernel_rfl
theorem f22_n8 (k : Nat) : nodesAt (f22_b16 k).key (bodyOf Tryd.f22) = [(.loop (loopAt 16 (bodyOf Tryd.f22)))] := by kernel_rfl
theorem f22_ok (k : Nat) (hT : TTOk Tryd.prog (lookT tab)) (hL : Lasting G) (h0 : EntOk Tryd.prog G (f27_e k)) (h1 : EntOk Tryd.prog G (f13_e k)) (h2 : EntOk Tryd.prog G (f15_e k)) (h3 : EntOk Tryd.prog G (f28_e k)) (h4 : EntOk Tryd.prog G (f53_e k)) : EntOk Tryd.prog G (f22_e k) := by
  have hE : EnvSound Tryd.prog G (f22_env k) := envOf_sound (ents_cons h0 (ents_cons h1 (ents_cons h2 (ents_cons h3 (ents_cons h4 (ents_nil))))))
  exact ent_ok (subs := [f22_b16 k]) hT hE (envOf_nat _) hMix hL (subs_cons (f22_n8 k) (f22_b16_ok k hT hL hE) (subs_nil _ _ _)) (f22_e k) Tryd.func22 f22_y f22_z (f22_x k)
theorem f22_all (k : Nat) : EntOk Tryd.prog (fun w => w.ShapedOpen Tryd.prog) (f22_e k) := f22_ok k hTab (lasting_shaped _) (f27_all k) (f13_all k) (f15_all k) (f28_all k) (f53_all k)

def f18_env (k : Nat) : Env := envOf [f27_e k]
def f18_b10 (k : Nat) : Sub := { key := 10, inp := ⟨[.data (.list (.agg (.pair .str (.pair .str .unit)))), .dead, .dead, .dead, .data .str, .data (.int .i64), .dead, .dead, .dead, .dead, .dead, .dead, .dead, .dead, .dead, .dead, .dead, .dead, .dead, .dead, .dead, .dead, .dead, .dead, .dead, .dead, .dead, .dead, .dead, .dead, .dead, .dead, .dead, .dead], [], [], []⟩, ways := [⟨.x 0, ⟨[.dead, .dead, .dead, .dead, .data .str, .dead, .dead, .dead, .dead, .dead, .dead, .dead, .dead, .dead, .dead, .dead, .dead, .dead, .dead, .dead, .dead, .dead, .dead, .dead, .dead, .dead, .dead, .dead, .dead, .dead, .dead, .dead, .dead, .dead], [], [], []⟩⟩], run := fun v => iter (f18_s10_u k) k v }
theorem f18_b10_x (k : Nat) (v : ((List (ByteArray × ByteArray × Unit)) × ByteArray × Int × Unit)) : exec (lookT tab) (f18_env k) [] (loopAt 10 (bodyOf Tryd.f18)) (mkSt (f18_b10 k).inp v) (loopKs (f18_b10 k).inp (f18_b10 k).ways) = f18_s10_u k v := by kernel_rfl
theorem f18_b10_ok (k : Nat) (hT : TTOk Tryd.prog (lookT tab)) (hL : Lasting G) (hE : EnvSound Tryd.prog G (f18_env k)) : SubSound Tryd.prog G (f18_b10 k) (.loop (loopAt 10 (bodyOf Tryd.f18))) :=
  sub_loop (subs := []) hT hE (envOf_nat _) hMix hL (subs_nil _ _ _) (f18_s10_u k) k (fun _ => rfl) (fun v o h => (f18_b10_x k v).trans h)
theorem f18_x (k : Nat) (v : argsC (f18_e k).inp) : fexec (lookT tab) (f18_env k) [f18_b10 k] Tryd.f18 (bodyOf Tryd.f18) (mkArgs (f18_e k).inp v) (fun rs => getRes (f18_e k).out rs some) = (f18_e k).run v := by kernel_rfl
theorem f18_y : Tryd.f18.body = some (bodyOf Tryd.f18) := by kernel_rfl
theorem f18_z : (Tryd.f18.name == "runtime.NumGoroutine") = false := by kernel_rfl
theorem f18_n3 (k : Nat) : nodesAt (f18_b10 k).key (bodyOf Tryd.f18) = [(.loop (loopAt 10 (bodyOf Tryd.f18)))] := by kernel_rfl
theorem f18_ok (k : Nat) (hT : TTOk Tryd.prog (lookT tab)) (hL : Lasting G) (h0 : EntOk Tryd.prog G (f27_e k)) : EntOk Tryd.prog G (f18_e k) := by
  have hE : EnvSound Tryd.prog G (f18_env k) := envOf_sound (ents_cons h0 (ents_nil))
  exact ent_ok (subs := [f18_b10 k]) hT hE (envOf_nat _) hMix hL (subs_cons (f18_n3 k) (f18_b10_ok k hT hL hE) (subs_nil _ _ _)) (f18_e k) Tryd.func18 f18_y f18_z (f18_x k)
theorem f18_all (k : Nat) : EntOk Tryd.prog (fun w => w.ShapedOpen Tryd.prog) (f18_e k) := f18_ok k hTab (lasting_shaped _) (f27_all k)

def f19_env (k : Nat) : Env := envOf [f48_e k, f49_e k, f26_e k]
def f19_b10 (k : Nat) : Sub := { key := 10, inp := ⟨[.dead, .dead, .dead, .dead, .osl 0, .dead, .dead, .dead, .dead, .dead, .dead, .dead, .dead, .data (.list .str), .data (.int .i64), .data (.int .i64), .dead, .dead, .dead, .dead, .dead, .dead, .dead, .dead, .dead, .dead, .dead, .dead, .dead, .dead, .dead, .dead, .dead, .dead, .dead, .dead, .dead, .dead, .dead, .dead, .dead, .dead, .dead], [.row (.agg (.pair .str (.pair .str .unit)))], [(4, (.agg (.pair .str (.pair .str .unit))))], []⟩, ways := [⟨.ret, ⟨[.dead, .dead, .data (.list (.agg (.pair .str (.pair .str .unit)))), .data (.int .i64), .dead, .dead, .dead, .dead, .dead, .dead, .dead, .dead, .dead, .dead, .dead, .dead, .dead, .dead, .dead, .dead, .dead, .dead, .dead, .dead, .dead, .dead, .dead, .dead, .dead, .dead, .dead, .dead, .dead, .dead, .dead, .dead, .dead, .dead, .dead, .dead, .dead, .dead, .dead], [], [], [(2, (.agg (.pair .str (.pair .str .unit))))]⟩⟩, ⟨.x 0, ⟨[.dead, .dead, .dead, .dead, .osl 0, .dead, .dead, .dead, .dead, .dead, .dead, .dead, .dead, .dead, .dead, .dead, .dead, .dead, .dead, .dead, .dead, .dead, .dead, .dead, .dead, .dead, .dead, .dead, .dead, .dead, .dead, .dead, .dead, .dead, .dead, .dead, .dead, .dead, .dead, .dead, .dead, .dead, .dead], [.row (.agg (.pair .str (.pair .str .unit)))], [], []⟩⟩], run := fun v => iter (f19_s10_u k) k v }
theorem f19_b10_x (k : Nat) (v : ((List ByteArray) × Int × Int × (List (ByteArray × ByteArray × Unit)) × Unit)) : exec (lookT tab) (f19_env k) [] (loopAt 10 (bodyOf Tryd.f19)) (mkSt (f19_b10 k).inp v) (loopKs (f19_b10 k).inp (f19_b10 k).ways) = f19_s10_u k v := by kernel_rfl
theorem f19_b10_ok (k : Nat) (hT : TTOk Tryd.prog (lookT tab)) (hL : Lasting G) (hE : EnvSound Tryd.prog G (f19_env k)) : SubSound Tryd.prog G (f19_b10 k) (.loop (loopAt 10 (bodyOf Tryd.f19))) :=
  sub_loop (subs := []) hT hE (envOf_nat _) hMix hL (subs_nil _ _ _) (f19_s10_u k) k (fun _ => rfl) (fun v o h => (f19_b10_x k v).trans h)
theorem f19_x (k : Nat) (v : argsC (f19_e k).inp) : fexec (lookT tab) (f19_env k) [f19_b10 k] Tryd.f19 (bodyOf Tryd.f19) (mkArgs (f19_e k).inp v) (fun rs => getRes (f19_e k).out rs some) = (f19_e k).run v := by kernel_rfl
theorem f19_y : Tryd.f19.body = some (bodyOf Tryd.f19) := by kernel_rfl
theorem f19_z : (Tryd.f19.name == "runtime.NumGoroutine") = false := by kernel_rfl
theorem f19_n8 (k : Nat) : nodesAt (f19_b10 k).key (bodyOf Tryd.f19) = [(.loop (loopAt 10 (bodyOf Tryd.f19)))] := by kernel_rfl
theorem f19_ok (k : Nat) (hT : TTOk Tryd.prog (lookT tab)) (hL : Lasting G) (h0 : EntOk Tryd.prog G (f48_e k)) (h1 : EntOk Tryd.prog G (f49_e k)) (h2 : EntOk Tryd.prog G (f26_e k)) : EntOk Tryd.prog G (f19_e k) := by
  have hE : EnvSound Tryd.prog G (f19_env k) := envOf_sound (ents_cons h0 (ents_cons h1 (ents_cons h2 (ents_nil))))
  exact ent_ok (subs := [f19_b10 k]) hT hE (envOf_nat _) hMix hL (subs_cons (f19_n8 k) (f19_b10_ok k hT hL hE) (subs_nil _ _ _)) (f19_e k) Tryd.func19 f19_y f19_z (f19_x k)
theorem f19_all (k : Nat) : EntOk Tryd.prog (fun w => w.ShapedOpen Tryd.prog) (f19_e k) := f19_ok k hTab (lasting_shaped _) (f48_all k) (f49_all k) (f26_all k)

def f9_env (k : Nat) : Env := envOf [f19_e k, f24_e k]
theorem f9_x (k : Nat) (v : argsC (f9_e k).inp) : fexec (lookT tab) (f9_env k) [] Tryd.f9 (bodyOf Tryd.f9) (mkArgs (f9_e k).inp v) (fun rs => getRes (f9_e k).out rs some) = (f9_e k).run v := by kernel_rfl
theorem f9_y : Tryd.f9.body = some (bodyOf Tryd.f9) := by kernel_rfl
theorem f9_z : (Tryd.f9.name == "runtime.NumGoroutine") = false := by kernel_rfl
theorem f9_ok (k : Nat) (hT : TTOk Tryd.prog (lookT tab)) (hL : Lasting G) (h0 : EntOk Tryd.prog G (f19_e k)) (h1 : EntOk Tryd.prog G (f24_e k)) : EntOk Tryd.prog G (f9_e k) := by
  have hE : EnvSound Tryd.prog G (f9_env k) := envOf_sound (ents_cons h0 (ents_cons h1 (ents_nil)))
  exact ent_ok (subs := []) hT hE (envOf_nat _) hMix hL (subs_nil _ _ _) (f9_e k) Tryd.func9 f9_y f9_z (f9_x k)
theorem f9_all (k : Nat) : EntOk Tryd.prog (fun w => w.ShapedOpen Tryd.prog) (f9_e k) := f9_ok k hTab (lasting_shaped _) (f19_all k) (f24_all k)

def f3_env (k : Nat) : Env := envOf [f9_e k, f10_e k, f11_e k, f12_e k, f13_e k, f14_e k, f15_e k]
theorem f3_x (k : Nat) (v : argsC (f3_e k).inp) : fexec (lookT tab) (f3_env k) [] Tryd.f3 (bodyOf Tryd.f3) (mkArgs (f3_e k).inp v) (fun rs => getRes (f3_e k).out rs some) = (f3_e k).run v := by kernel_rfl
theorem f3_y : Tryd.f3.body = some (bodyOf Tryd.f3) := by kernel_rfl
theorem f3_z : (Tryd.f3.name == "runtime.NumGoroutine") = false := by kernel_rfl
theorem f3_ok (k : Nat) (hT : TTOk Tryd.prog (lookT tab)) (hL : Lasting G) (h0 : EntOk Tryd.prog G (f9_e k)) (h1 : EntOk Tryd.prog G (f10_e k)) (h2 : EntOk Tryd.prog G (f11_e k)) (h3 : EntOk Tryd.prog G (f12_e k)) (h4 : EntOk Tryd.prog G (f13_e k)) (h5 : EntOk Tryd.prog G (f14_e k)) (h6 : EntOk Tryd.prog G (f15_e k)) : EntOk Tryd.prog G (f3_e k) := by
  have hE : EnvSound Tryd.prog G (f3_env k) := envOf_sound (ents_cons h0 (ents_cons h1 (ents_cons h2 (ents_cons h3 (ents_cons h4 (ents_cons h5 (ents_cons h6 (ents_nil))))))))
  exact ent_ok (subs := []) hT hE (envOf_nat _) hMix hL (subs_nil _ _ _) (f3_e k) Tryd.func3 f3_y f3_z (f3_x k)
theorem f3_all (k : Nat) : EntOk Tryd.prog (fun w => w.ShapedOpen Tryd.prog) (f3_e k) := f3_ok k hTab (lasting_shaped _) (f9_all k) (f10_all k) (f11_all k) (f12_all k) (f13_all k) (f14_all k) (f15_all k)

def f20_env (k : Nat) : Env := envOf []
def f20_b8 (k : Nat) : Sub := { key := 8, inp := ⟨[.data (.list (.agg (.pair .str (.pair .str .unit)))), .data (.list (.agg (.pair .str (.pair .str .unit)))), .dead, .dead, .dead, .data (.int .i64), .dead, .dead, .dead, .dead, .dead, .dead, .dead, .dead, .dead, .dead, .dead, .dead, .dead, .dead, .dead, .dead, .dead, .dead, .dead, .dead], [], [], []⟩, ways := [⟨.ret, ⟨[.dead, .dead, .dead, .dead, .data .bool, .dead, .dead, .dead, .dead, .dead, .dead, .dead, .dead, .dead, .dead, .dead, .dead, .dead, .dead, .dead, .dead, .dead, .dead, .dead, .dead, .dead], [], [], []⟩⟩, ⟨.x 0, ⟨[.dead, .dead, .dead, .dead, .dead, .dead, .dead, .dead, .dead, .dead, .dead, .dead, .dead, .dead, .dead, .dead, .dead, .dead, .dead, .dead, .dead, .dead, .dead, .dead, .dead, .dead], [], [], []⟩⟩], run := fun v => iter (f20_s8_u k) k v }
theorem f20_b8_x (k : Nat) (v : ((List (ByteArray × ByteArray × Unit)) × (List (ByteArray × ByteArray × Unit)) × Int × Unit)) : exec (lookT tab) (f20_env k) [] (loopAt 8 (bodyOf Tryd.f20)) (mkSt (f20_b8 k).inp v) (loopKs (f20_b8 k).inp (f20_b8 k).ways) = f20_s8_u k v := by kernel_rfl
theorem f20_b8_ok (k : Nat) (hT : TTOk Tryd.prog (lookT tab)) (hL : Lasting G) (hE : EnvSound Tryd.prog G (f20_env k)) : SubSound Tryd.prog G (f20_b8 k) (.loop (loopAt 8 (bodyOf Tryd.f20))) :=
  sub_loop (subs := []) hT hE (envOf_nat _) hMix hL (subs_nil _ _ _) (f20_s8_u k) k (fun _ => rfl) (fun v o h => (f20_b8_x k v).trans h)
theorem f20_x (k : Nat) (v : argsC (f20_e k).inp) : fexec (lookT tab) (f20_env k) [f20_b8 k] Tryd.f20 (bodyOf Tryd.f20) (mkArgs (f20_e k).inp v) (fun rs => getRes (f20_e k).out rs some) = (f20_e k).run v := by kernel_rfl
theorem f20_y : Tryd.f20.body = some (bodyOf Tryd.f20) := by kernel_rfl
theorem f20_z : (Tryd.f20.name == "runtime.NumGoroutine") = false := by kernel_rfl
theorem f20_n2 (k : Nat) : nodesAt (f20_b8 k).key (bodyOf Tryd.f20) = [(.loop (loopAt 8 (bodyOf Tryd.f20)))] := by kernel_rfl
theorem f20_ok (k : Nat) (hT : TTOk Tryd.prog (lookT tab)) (hL : Lasting G) : EntOk Tryd.prog G (f20_e k) := by
  have hE : EnvSound Tryd.prog G (f20_env k) := envOf_sound (ents_nil)
  exact ent_ok (subs := [f20_b8 k]) hT hE (envOf_nat _) hMix hL (subs_cons (f20_n2 k) (f20_b8_ok k hT hL hE) (subs_nil _ _ _)) (f20_e k) Tryd.func20 f20_y f20_z (f20_x k)
theorem f20_all (k : Nat) : EntOk Tryd.prog (fun w => w.ShapedOpen Tryd.prog) (f20_e k) := f20_ok k hTab (lasting_shaped _)

def f17_env (k : Nat) : Env := envOf [f26_e k, f47_e k]
def f17_b10 (k : Nat) : Sub := { key := 10, inp := ⟨[.dead, .dead, .dead, .dead, .osl 0, .dead, .dead, .dead, .dead, .dead, .data (.list (.agg (.pair .str (.pair .str .unit)))), .data (.int .i64), .data (.int .i64), .dead, .dead, .dead, .dead, .dead, .dead, .dead, .dead, .dead, .dead, .dead, .dead, .dead, .dead, .dead], [.row .str], [(4, .str)], []⟩, ways := [⟨.x 0, ⟨[.dead, .dead, .dead, .dead, .osl 0, .dead, .dead, .dead, .dead, .dead, .dead, .dead, .dead, .dead, .dead, .dead, .dead, .dead, .dead, .dead, .dead, .dead, .dead, .dead, .dead, .dead, .dead, .dead], [.row .str], [], []⟩⟩], run := fun v => iter (f17_s10_u k) k v }
theorem f17_b10_x (k : Nat) (v : ((List (ByteArray × ByteArray × Unit)) × Int × Int × (List ByteArray) × Unit)) : exec (lookT tab) (f17_env k) [] (loopAt 10 (bodyOf Tryd.f17)) (mkSt (f17_b10 k).inp v) (loopKs (f17_b10 k).inp (f17_b10 k).ways) = f17_s10_u k v := by kernel_rfl
theorem f17_b10_ok (k : Nat) (hT : TTOk Tryd.prog (lookT tab)) (hL : Lasting G) (hE : EnvSound Tryd.prog G (f17_env k)) : SubSound Tryd.prog G (f17_b10 k) (.loop (loopAt 10 (bodyOf Tryd.f17))) :=
  sub_loop (subs := []) hT hE (envOf_nat _) hMix hL (subs_nil _ _ _) (f17_s10_u k) k (fun _ => rfl) (fun v o h => (f17_b10_x k v).trans h)
theorem f17_x (k : Nat) (v : argsC (f17_e k).inp) : fexec (lookT tab) (f17_env k) [f17_b10 k] Tryd.f17 (bodyOf Tryd.f17) (mkArgs (f17_e k).inp v) (fun rs => getRes (f17_e k).out rs some) = (f17_e k).run v := by kernel_rfl
theorem f17_y : Tryd.f17.body = some (bodyOf Tryd.f17) := by kernel_rfl
theorem f17_z : (Tryd.f17.name == "runtime.NumGoroutine") = false := by kernel_rfl
theorem f17_n4 (k : Nat) : nodesAt (f17_b10 k).key (bodyOf Tryd.f17) = [(.loop (loopAt 10 (bodyOf Tryd.f17)))] := by kernel_rfl
theorem f17_ok (k : Nat) (hT : TTOk Tryd.prog (lookT tab)) (hL : Lasting G) (h0 : EntOk Tryd.prog G (f26_e k)) (h1 : EntOk Tryd.prog G (f47_e k)) : EntOk Tryd.prog G (f17_e k) := by
  have hE : EnvSound Tryd.prog G (f17_env k) := envOf_sound (ents_cons h0 (ents_cons h1 (ents_nil)))
  exact ent_ok (subs := [f17_b10 k]) hT hE (envOf_nat _) hMix hL (subs_cons (f17_n4 k) (f17_b10_ok k hT hL hE) (subs_nil _ _ _)) (f17_e k) Tryd.func17 f17_y f17_z (f17_x k)
theorem f17_all (k : Nat) : EntOk Tryd.prog (fun w => w.ShapedOpen Tryd.prog) (f17_e k) := f17_ok k hTab (lasting_shaped _) (f26_all k) (f47_all k)

def f4_env (k : Nat) : Env := envOf [f9_e k, f16_e k, f17_e k, f18_e k, f19_e k, f20_e k]
theorem f4_x (k : Nat) (v : argsC (f4_e k).inp) : fexec (lookT tab) (f4_env k) [] Tryd.f4 (bodyOf Tryd.f4) (mkArgs (f4_e k).inp v) (fun rs => getRes (f4_e k).out rs some) = (f4_e k).run v := by kernel_rfl
theorem f4_y : Tryd.f4.body = some (bodyOf Tryd.f4) := by kernel_rfl
theorem f4_z : (Tryd.f4.name == "runtime.NumGoroutine") = false := by kernel_rfl
theorem f4_ok (k : Nat) (hT : TTOk Tryd.prog (lookT tab)) (hL : Lasting G) (h0 : EntOk Tryd.prog G (f9_e k)) (h1 : EntOk Tryd.prog G (f16_e k)) (h2 : EntOk Tryd.prog G (f17_e k)) (h3 : EntOk Tryd.prog G (f18_e k)) (h4 : EntOk Tryd.prog G (f19_e k)) (h5 : EntOk Tryd.prog G (f20_e k)) : EntOk Tryd.prog G (f4_e k) := by
  have hE : EnvSound Tryd.prog G (f4_env k) := envOf_sound (ents_cons h0 (ents_cons h1 (ents_cons h2 (ents_cons h3 (ents_cons h4 (ents_cons h5 (ents_nil)))))))
  exact ent_ok (subs := []) hT hE (envOf_nat _) hMix hL (subs_nil _ _ _) (f4_e k) Tryd.func4 f4_y f4_z (f4_x k)
theorem f4_all (k : Nat) : EntOk Tryd.prog (fun w => w.ShapedOpen Tryd.prog) (f4_e k) := f4_ok k hTab (lasting_shaped _) (f9_all k) (f16_all k) (f17_all k) (f18_all k) (f19_all k) (f20_all k)

def f78_env (k : Nat) : Env := envOf []
theorem f78_x (k : Nat) (v : argsC (f78_e k).inp) : fexec (lookT tab) (f78_env k) [] Tryd.f78 (bodyOf Tryd.f78) (mkArgs (f78_e k).inp v) (fun rs => getRes (f78_e k).out rs some) = (f78_e k).run v := by kernel_rfl
theorem f78_y : Tryd.f78.body = some (bodyOf Tryd.f78) := by kernel_rfl
theorem f78_z : (Tryd.f78.name == "runtime.NumGoroutine") = false := by kernel_rfl
theorem f78_ok (k : Nat) (hT : TTOk Tryd.prog (lookT tab)) (hL : Lasting G) : EntOk Tryd.prog G (f78_e k) := by
  have hE : EnvSound Tryd.prog G (f78_env k) := envOf_sound (ents_nil)
  exact ent_ok (subs := []) hT hE (envOf_nat _) hMix hL (subs_nil _ _ _) (f78_e k) Tryd.func78 f78_y f78_z (f78_x k)
theorem f78_all (k : Nat) : EntOk Tryd.prog (fun w => w.ShapedOpen Tryd.prog) (f78_e k) := f78_ok k hTab (lasting_shaped _)

def f79_env (k : Nat) : Env := envOf [f14_e k]
def f79_b4 (k : Nat) : Sub := { key := 4, inp := ⟨[.data (.list .str), .dead, .dead, .dead, .dead, .data (.list .str), .data (.int .i64), .data (.int .i64), .dead, .dead, .dead, .dead, .dead, .dead, .dead, .dead, .dead, .dead, .dead, .dead, .dead, .dead, .dead, .dead, .dead, .dead, .dead, .dead, .dead, .dead, .dead, .dead, .dead, .dead, .dead, .dead, .dead], [], [], []⟩, ways := [⟨.ret, ⟨[.dead, .dead, .data .bool, .dead, .dead, .dead, .dead, .dead, .dead, .dead, .dead, .dead, .dead, .dead, .dead, .dead, .dead, .dead, .dead, .dead, .dead, .dead, .dead, .dead, .dead, .dead, .dead, .dead, .dead, .dead, .dead, .dead, .dead, .dead, .dead, .dead, .dead], [], [], []⟩⟩, ⟨.x 0, ⟨[.data (.list .str), .dead, .dead, .dead, .dead, .dead, .dead, .dead, .dead, .dead, .dead, .dead, .dead, .dead, .dead, .dead, .dead, .dead, .dead, .dead, .dead, .dead, .dead, .dead, .dead, .dead, .dead, .dead, .dead, .dead, .dead, .dead, .dead, .dead, .dead, .dead, .dead], [], [], []⟩⟩], run := fun v => iter (f79_s4_u k) k v }
theorem f79_b4_x (k : Nat) (v : ((List ByteArray) × (List ByteArray) × Int × Int × Unit)) : exec (lookT tab) (f79_env k) [] (loopAt 4 (bodyOf Tryd.f79)) (mkSt (f79_b4 k).inp v) (loopKs (f79_b4 k).inp (f79_b4 k).ways) = f79_s4_u k v := by kernel_rfl
theorem f79_b4_ok (k : Nat) (hT : TTOk Tryd.prog (lookT tab)) (hL : Lasting G) (hE : EnvSound Tryd.prog G (f79_env k)) : SubSound Tryd.prog G (f79_b4 k) (.loop (loopAt 4 (bodyOf Tryd.f79))) :=
  sub_loop (subs := []) hT hE (envOf_nat _) hMix hL (subs_nil _ _ _) (f79_s4_u k) k (fun _ => rfl) (fun v o h => (f79_b4_x k v).trans h)
theorem f79_x (k : Nat) (v : argsC (f79_e k).inp) : fexec (lookT tab) (f79_env k) [f79_b4 k] Tryd.f79 (bodyOf Tryd.f79) (mkArgs (f79_e k).inp v) (fun rs => getRes (f79_e k).out rs some) = (f79_e k).run v := by kernel_rfl
theorem f79_y : Tryd.f79.body = some (bodyOf Tryd.f79) := by kernel_rfl
theorem f79_z : (Tryd.f79.name == "runtime.NumGoroutine") = false := by kernel_rfl
theorem f79_n5 (k : Nat) : nodesAt (f79_b4 k).key (bodyOf Tryd.f79) = [(.loop (loopAt 4 (bodyOf Tryd.f79)))] := by kernel_rfl
theorem f79_ok (k : Nat) (hT : TTOk Tryd.prog (lookT tab)) (hL : Lasting G) (h0 : EntOk Tryd.prog G (f14_e k)) : EntOk Tryd.prog G (f79_e k) := by
  have hE : EnvSound Tryd.prog G (f79_env k) := envOf_sound (ents_cons h0 (ents_nil))
  exact ent_ok (subs := [f79_b4 k]) hT hE (envOf_nat _) hMix hL (subs_cons (f79_n5 k) (f79_b4_ok k hT hL hE) (subs_nil _ _ _)) (f79_e k) Tryd.func79 f79_y f79_z (f79_x k)
theorem f79_all (k : Nat) : EntOk Tryd.prog (fun w => w.ShapedOpen Tryd.prog) (f79_e k) := f79_ok k hTab (lasting_shaped _) (f14_all k)

def f59_env (k : Nat) : Env := envOf [f12_e k, f78_e k, f79_e k]
theorem f59_x (k : Nat) (v : argsC (f59_e k).inp) : fexec (lookT tab) (f59_env k) [] Tryd.f59 (bodyOf Tryd.f59) (mkArgs (f59_e k).inp v) (fun rs => getRes (f59_e k).out rs some) = (f59_e k).run v := by kernel_rfl
theorem f59_y : Tryd.f59.body = some (bodyOf Tryd.f59) := by kernel_rfl
theorem f59_z : (Tryd.f59.name == "runtime.NumGoroutine") = false := by kernel_rfl
theorem f59_ok (k : Nat) (hT : TTOk Tryd.prog (lookT tab)) (hL : Lasting G) (h0 : EntOk Tryd.prog G (f12_e k)) (h1 : EntOk Tryd.prog G (f78_e k)) (h2 : EntOk Tryd.prog G (f79_e k)) : EntOk Tryd.prog G (f59_e k) := by
  have hE : EnvSound Tryd.prog G (f59_env k) := envOf_sound (ents_cons h0 (ents_cons h1 (ents_cons h2 (ents_nil))))
  exact ent_ok (subs := []) hT hE (envOf_nat _) hMix hL (subs_nil _ _ _) (f59_e k) Tryd.func59 f59_y f59_z (f59_x k)
theorem f59_all (k : Nat) : EntOk Tryd.prog (fun w => w.ShapedOpen Tryd.prog) (f59_e k) := f59_ok k hTab (lasting_shaped _) (f12_all k) (f78_all k) (f79_all k)

def f58_env (k : Nat) : Env := envOf [f59_e k]
theorem f58_x (k : Nat) (v : argsC (f58_e k).inp) : fexec (lookT tab) (f58_env k) [] Tryd.f58 (bodyOf Tryd.f58) (mkArgs (f58_e k).inp v) (fun rs => getRes (f58_e k).out rs some) = (f58_e k).run v := by kernel_rfl
theorem f58_y : Tryd.f58.body = some (bodyOf Tryd.f58) := by kernel_rfl
theorem f58_z : (Tryd.f58.name == "runtime.NumGoroutine") = false := by kernel_rfl
theorem f58_ok (k : Nat) (hT : TTOk Tryd.prog (lookT tab)) (hL : Lasting G) (h0 : EntOk Tryd.prog G (f59_e k)) : EntOk Tryd.prog G (f58_e k) := by
  have hE : EnvSound Tryd.prog G (f58_env k) := envOf_sound (ents_cons h0 (ents_nil))
  exact ent_ok (subs := []) hT hE (envOf_nat _) hMix hL (subs_nil _ _ _) (f58_e k) Tryd.func58 f58_y f58_z (f58_x k)
theorem f58_all (k : Nat) : EntOk Tryd.prog (fun w => w.ShapedOpen Tryd.prog) (f58_e k) := f58_ok k hTab (lasting_shaped _) (f59_all k)

def f80_env (k : Nat) : Env := envOf []
def f80_b4 (k : Nat) : Sub := { key := 4, inp := ⟨[.data (.list .str), .data .str, .dead, .dead, .dead, .dead, .dead, .data (.int .i64), .data (.int .i64), .dead, .dead, .dead, .dead, .dead, .dead, .dead, .dead, .dead, .dead], [], [], []⟩, ways := [⟨.ret, ⟨[.dead, .dead, .dead, .dead, .data (.int .i64), .dead, .dead, .dead, .dead, .dead, .dead, .dead, .dead, .dead, .dead, .dead, .dead, .dead, .dead], [], [], []⟩⟩, ⟨.x 0, ⟨[.dead, .dead, .dead, .dead, .dead, .dead, .dead, .dead, .dead, .dead, .dead, .dead, .dead, .dead, .dead, .dead, .dead, .dead, .dead], [], [], []⟩⟩], run := fun v => iter (f80_s4_u k) k v }
theorem f80_b4_x (k : Nat) (v : ((List ByteArray) × ByteArray × Int × Int × Unit)) : exec (lookT tab) (f80_env k) [] (loopAt 4 (bodyOf Tryd.f80)) (mkSt (f80_b4 k).inp v) (loopKs (f80_b4 k).inp (f80_b4 k).ways) = f80_s4_u k v := by kernel_rfl
theorem f80_b4_ok (k : Nat) (hT : TTOk Tryd.prog (lookT tab)) (hL : Lasting G) (hE : EnvSound Tryd.prog G (f80_env k)) : SubSound Tryd.prog G (f80_b4 k) (.loop (loopAt 4 (bodyOf Tryd.f80))) :=
  sub_loop (subs := []) hT hE (envOf_nat _) hMix hL (subs_nil _ _ _) (f80_s4_u k) k (fun _ => rfl) (fun v o h => (f80_b4_x k v).trans h)
theorem f80_x (k : Nat) (v : argsC (f80_e k).inp) : fexec (lookT tab) (f80_env k) [f80_b4 k] Tryd.f80 (bodyOf Tryd.f80) (mkArgs (f80_e k).inp v) (fun rs => getRes (f80_e k).out rs some) = (f80_e k).run v := by kernel_rfl
theorem f80_y : Tryd.f80.body = some (bodyOf Tryd.f80) := by kernel_rfl
theorem f80_z : (Tryd.f80.name == "runtime.NumGoroutine") = false := by kernel_rfl
theorem f80_n2 (k : Nat) : nodesAt (f80_b4 k).key (bodyOf Tryd.f80) = [(.loop (loopAt 4 (bodyOf Tryd.f80)))] := by kernel_rfl
theorem f80_ok (k : Nat) (hT : TTOk Tryd.prog (lookT tab)) (hL : Lasting G) : EntOk Tryd.prog G (f80_e k) := by
  have hE : EnvSound Tryd.prog G (f80_env k) := envOf_sound (ents_nil)
  exact ent_ok (subs := [f80_b4 k]) hT hE (envOf_nat _) hMix hL (subs_cons (f80_n2 k) (f80_b4_ok k hT hL hE) (subs_nil _ _ _)) (f80_e k) Tryd.func80 f80_y f80_z (f80_x k)
theorem f80_all (k : Nat) : EntOk Tryd.prog (fun w => w.ShapedOpen Tryd.prog) (f80_e k) := f80_ok k hTab (lasting_shaped _)

def f61_env (k : Nat) : Env := envOf [f80_e k]
theorem f61_x (k : Nat) (v : argsC (f61_e k).inp) : fexec (lookT tab) (f61_env k) [] Tryd.f61 (bodyOf Tryd.f61) (mkArgs (f61_e k).inp v) (fun rs => getRes (f61_e k).out rs some) = (f61_e k).run v := by kernel_rfl
theorem f61_y : Tryd.f61.body = some (bodyOf Tryd.f61) := by kernel_rfl
theorem f61_z : (Tryd.f61.name == "runtime.NumGoroutine") = false := by kernel_rfl
theorem f61_ok (k : Nat) (hT : TTOk Tryd.prog (lookT tab)) (hL : Lasting G) (h0 : EntOk Tryd.prog G (f80_e k)) : EntOk Tryd.prog G (f61_e k) := by
  have hE : EnvSound Tryd.prog G (f61_env k) := envOf_sound (ents_cons h0 (ents_nil))
  exact ent_ok (subs := []) hT hE (envOf_nat _) hMix hL (subs_nil _ _ _) (f61_e k) Tryd.func61 f61_y f61_z (f61_x k)
theorem f61_all (k : Nat) : EntOk Tryd.prog (fun w => w.ShapedOpen Tryd.prog) (f61_e k) := f61_ok k hTab (lasting_shaped _) (f80_all k)

def f37_env (k : Nat) : Env := envOf [f59_e k, f24_e k, f61_e k]
theorem f37_x (k : Nat) (v : argsC (f37_e k).inp) : fexec (lookT tab) (f37_env k) [] Tryd.f37 (bodyOf Tryd.f37) (mkArgs (f37_e k).inp v) (fun rs => getRes (f37_e k).out rs some) = (f37_e k).run v := by kernel_rfl
theorem f37_y : Tryd.f37.body = some (bodyOf Tryd.f37) := by kernel_rfl
theorem f37_z : (Tryd.f37.name == "runtime.NumGoroutine") = false := by kernel_rfl
theorem f37_ok (k : Nat) (hT : TTOk Tryd.prog (lookT tab)) (hL : Lasting G) (h0 : EntOk Tryd.prog G (f59_e k)) (h1 : EntOk Tryd.prog G (f24_e k)) (h2 : EntOk Tryd.prog G (f61_e k)) : EntOk Tryd.prog G (f37_e k) := by
  have hE : EnvSound Tryd.prog G (f37_env k) := envOf_sound (ents_cons h0 (ents_cons h1 (ents_cons h2 (ents_nil))))
  exact ent_ok (subs := []) hT hE (envOf_nat _) hMix hL (subs_nil _ _ _) (f37_e k) Tryd.func37 f37_y f37_z (f37_x k)
theorem f37_all (k : Nat) : EntOk Tryd.prog (fun w => w.ShapedOpen Tryd.prog) (f37_e k) := f37_ok k hTab (lasting_shaped _) (f59_all k) (f24_all k) (f61_all k)

def f77r_env (k : Nat) : Env := envOf [f58_e k]
def f77r_b4 (k : Nat) : Sub := { key := 4, inp := ⟨[.data (.list (.agg (.pair .str (.pair (.int .i64) (.pair (.list .str) .unit))))), .fn 58, .dead, .dead, .dead, .dead, .dead, .data (.int .i64), .data (.int .i64), .dead, .dead, .dead, .dead, .dead, .dead, .dead, .dead, .dead, .dead], [], [], []⟩, ways := [⟨.ret, ⟨[.dead, .dead, .dead, .dead, .data (.int .i64), .dead, .dead, .dead, .dead, .dead, .dead, .dead, .dead, .dead, .dead, .dead, .dead, .dead, .dead], [], [], []⟩⟩, ⟨.x 0, ⟨[.dead, .dead, .dead, .dead, .dead, .dead, .dead, .dead, .dead, .dead, .dead, .dead, .dead, .dead, .dead, .dead, .dead, .dead, .dead], [], [], []⟩⟩], run := fun v => iter (f77r_s4_u k) k v }
theorem f77r_b4_x (k : Nat) (v : ((List (ByteArray × Int × (List ByteArray) × Unit)) × Int × Int × Unit)) : exec (lookT tab) (f77r_env k) [] (loopAt 4 (bodyOf Tryd.f77)) (mkSt (f77r_b4 k).inp v) (loopKs (f77r_b4 k).inp (f77r_b4 k).ways) = f77r_s4_u k v := by kernel_rfl
theorem f77r_b4_ok (k : Nat) (hT : TTOk Tryd.prog (lookT tab)) (hL : Lasting G) (hE : EnvSound Tryd.prog G (f77r_env k)) : SubSound Tryd.prog G (f77r_b4 k) (.loop (loopAt 4 (bodyOf Tryd.f77))) :=
  sub_loop (subs := []) hT hE (envOf_nat _) hMix hL (subs_nil _ _ _) (f77r_s4_u k) k (fun _ => rfl) (fun v o h => (f77r_b4_x k v).trans h)
theorem f77r_x (k : Nat) (v : argsC (f77r_e k).inp) : fexec (lookT tab) (f77r_env k) [f77r_b4 k] Tryd.f77 (bodyOf Tryd.f77) (mkArgs (f77r_e k).inp v) (fun rs => getRes (f77r_e k).out rs some) = (f77r_e k).run v := by kernel_rfl
theorem f77r_y : Tryd.f77.body = some (bodyOf Tryd.f77) := by kernel_rfl
theorem f77r_z : (Tryd.f77.name == "runtime.NumGoroutine") = false := by kernel_rfl
theorem f77r_n5 (k : Nat) : nodesAt (f77r_b4 k).key (bodyOf Tryd.f77) = [(.loop (loopAt 4 (bodyOf Tryd.f77)))] := by kernel_rfl
theorem f77r_ok (k : Nat) (hT : TTOk Tryd.prog (lookT tab)) (hL : Lasting G) (h0 : EntOk Tryd.prog G (f58_e k)) : EntOk Tryd.prog G (f77r_e k) := by
  have hE : EnvSound Tryd.prog G (f77r_env k) := envOf_sound (ents_cons h0 (ents_nil))
  exact ent_ok (subs := [f77r_b4 k]) hT hE (envOf_nat _) hMix hL (subs_cons (f77r_n5 k) (f77r_b4_ok k hT hL hE) (subs_nil _ _ _)) (f77r_e k) Tryd.func77 f77r_y f77r_z (f77r_x k)
theorem f77r_all (k : Nat) : EntOk Tryd.prog (fun w => w.ShapedOpen Tryd.prog) (f77r_e k) := f77r_ok k hTab (lasting_shaped _) (f58_all k)

def f57r_env (k : Nat) : Env := envOf [f77r_e k]
theorem f57r_x (k : Nat) (v : argsC (f57r_e k).inp) : fexec (lookT tab) (f57r_env k) [] Tryd.f57 (bodyOf Tryd.f57) (mkArgs (f57r_e k).inp v) (fun rs => getRes (f57r_e k).out rs some) = (f57r_e k).run v := by kernel_rfl
theorem f57r_y : Tryd.f57.body = some (bodyOf Tryd.f57) := by kernel_rfl
theorem f57r_z : (Tryd.f57.name == "runtime.NumGoroutine") = false := by kernel_rfl
theorem f57r_ok (k : Nat) (hT : TTOk Tryd.prog (lookT tab)) (hL : Lasting G) (h0 : EntOk Tryd.prog G (f77r_e k)) : EntOk Tryd.prog G (f57r_e k) := by
  have hE : EnvSound Tryd.prog G (f57r_env k) := envOf_sound (ents_cons h0 (ents_nil))
  exact ent_ok (subs := []) hT hE (envOf_nat _) hMix hL (subs_nil _ _ _) (f57r_e k) Tryd.func57 f57r_y f57r_z (f57r_x k)
theorem f57r_all (k : Nat) : EntOk Tryd.prog (fun w => w.ShapedOpen Tryd.prog) (f57r_e k) := f57r_ok k hTab (lasting_shaped _) (f77r_all k)

def f35_env (k : Nat) : Env := envOf [f57r_e k]
theorem f35_x (k : Nat) (v : argsC (f35_e k).inp) : fexec (lookT tab) (f35_env k) [] Tryd.f35 (bodyOf Tryd.f35) (mkArgs (f35_e k).inp v) (fun rs => getRes (f35_e k).out rs some) = (f35_e k).run v := by kernel_rfl
theorem f35_y : Tryd.f35.body = some (bodyOf Tryd.f35) := by kernel_rfl
theorem f35_z : (Tryd.f35.name == "runtime.NumGoroutine") = false := by kernel_rfl
theorem f35_ok (k : Nat) (hT : TTOk Tryd.prog (lookT tab)) (hL : Lasting G) (h0 : EntOk Tryd.prog G (f57r_e k)) : EntOk Tryd.prog G (f35_e k) := by
  have hE : EnvSound Tryd.prog G (f35_env k) := envOf_sound (ents_cons h0 (ents_nil))
  exact ent_ok (subs := []) hT hE (envOf_nat _) hMix hL (subs_nil _ _ _) (f35_e k) Tryd.func35 f35_y f35_z (f35_x k)
theorem f35_all (k : Nat) : EntOk Tryd.prog (fun w => w.ShapedOpen Tryd.prog) (f35_e k) := f35_ok k hTab (lasting_shaped _) (f57r_all k)

def f41_env (k : Nat) : Env := envOf [f35_e k]
theorem f41_x (k : Nat) (v : argsC (f41_e k).inp) : fexec (lookT tab) (f41_env k) [] Tryd.f41 (bodyOf Tryd.f41) (mkArgs (f41_e k).inp v) (fun rs => getRes (f41_e k).out rs some) = (f41_e k).run v := by kernel_rfl
theorem f41_y : Tryd.f41.body = some (bodyOf Tryd.f41) := by kernel_rfl
theorem f41_z : (Tryd.f41.name == "runtime.NumGoroutine") = false := by kernel_rfl
theorem f41_ok (k : Nat) (hT : TTOk Tryd.prog (lookT tab)) (hL : Lasting G) (h0 : EntOk Tryd.prog G (f35_e k)) : EntOk Tryd.prog G (f41_e k) := by
  have hE : EnvSound Tryd.prog G (f41_env k) := envOf_sound (ents_cons h0 (ents_nil))
  exact ent_ok (subs := []) hT hE (envOf_nat _) hMix hL (subs_nil _ _ _) (f41_e k) Tryd.func41 f41_y f41_z (f41_x k)
theorem f41_all (k : Nat) : EntOk Tryd.prog (fun w => w.ShapedOpen Tryd.prog) (f41_e k) := f41_ok k hTab (lasting_shaped _) (f35_all k)

def f60_env (k : Nat) : Env := envOf [f37_e k]
theorem f60_x (k : Nat) (v : argsC (f60_e k).inp) : fexec (lookT tab) (f60_env k) [] Tryd.f60 (bodyOf Tryd.f60) (mkArgs (f60_e k).inp v) (fun rs => getRes (f60_e k).out rs some) = (f60_e k).run v := by kernel_rfl
theorem f60_y : Tryd.f60.body = some (bodyOf Tryd.f60) := by kernel_rfl
theorem f60_z : (Tryd.f60.name == "runtime.NumGoroutine") = false := by kernel_rfl
theorem f60_ok (k : Nat) (hT : TTOk Tryd.prog (lookT tab)) (hL : Lasting G) (h0 : EntOk Tryd.prog G (f37_e k)) : EntOk Tryd.prog G (f60_e k) := by
  have hE : EnvSound Tryd.prog G (f60_env k) := envOf_sound (ents_cons h0 (ents_nil))
  exact ent_ok (subs := []) hT hE (envOf_nat _) hMix hL (subs_nil _ _ _) (f60_e k) Tryd.func60 f60_y f60_z (f60_x k)
theorem f60_all (k : Nat) : EntOk Tryd.prog (fun w => w.ShapedOpen Tryd.prog) (f60_e k) := f60_ok k hTab (lasting_shaped _) (f37_all k)

def f77f_env (k : Nat) : Env := envOf [f60_e k]
def f77f_b4 (k : Nat) : Sub := { key := 4, inp := ⟨[.data (.list (.agg (.pair .str (.pair (.int .i64) (.pair (.list .str) .unit))))), .fnc 60 [(.list (.agg (.pair .str (.pair .str .unit))))], .dead, .dead, .dead, .dead, .dead, .data (.int .i64), .data (.int .i64), .dead, .dead, .dead, .dead, .dead, .dead, .dead, .dead, .dead, .dead], [], [], []⟩, ways := [⟨.ret, ⟨[.dead, .dead, .dead, .dead, .data (.int .i64), .dead, .dead, .dead, .dead, .dead, .dead, .dead, .dead, .dead, .dead, .dead, .dead, .dead, .dead], [], [], []⟩⟩, ⟨.x 0, ⟨[.dead, .dead, .dead, .dead, .dead, .dead, .dead, .dead, .dead, .dead, .dead, .dead, .dead, .dead, .dead, .dead, .dead, .dead, .dead], [], [], []⟩⟩], run := fun v => iter (f77f_s4_u k) k v }
theorem f77f_b4_x (k : Nat) (v : ((List (ByteArray × Int × (List ByteArray) × Unit)) × ((List (ByteArray × ByteArray × Unit)) × Unit) × Int × Int × Unit)) : exec (lookT tab) (f77f_env k) [] (loopAt 4 (bodyOf Tryd.f77)) (mkSt (f77f_b4 k).inp v) (loopKs (f77f_b4 k).inp (f77f_b4 k).ways) = f77f_s4_u k v := by kernel_rfl
theorem f77f_b4_ok (k : Nat) (hT : TTOk Tryd.prog (lookT tab)) (hL : Lasting G) (hE : EnvSound Tryd.prog G (f77f_env k)) : SubSound Tryd.prog G (f77f_b4 k) (.loop (loopAt 4 (bodyOf Tryd.f77))) :=
  sub_loop (subs := []) hT hE (envOf_nat _) hMix hL (subs_nil _ _ _) (f77f_s4_u k) k (fun _ => rfl) (fun v o h => (f77f_b4_x k v).trans h)
theorem f77f_x (k : Nat) (v : argsC (f77f_e k).inp) : fexec (lookT tab) (f77f_env k) [f77f_b4 k] Tryd.f77 (bodyOf Tryd.f77) (mkArgs (f77f_e k).inp v) (fun rs => getRes (f77f_e k).out rs some) = (f77f_e k).run v := by kernel_rfl
theorem f77f_y : Tryd.f77.body = some (bodyOf Tryd.f77) := by kernel_rfl
theorem f77f_z : (Tryd.f77.name == "runtime.NumGoroutine") = false := by kernel_rfl
theorem f77f_n5 (k : Nat) : nodesAt (f77f_b4 k).key (bodyOf Tryd.f77) = [(.loop (loopAt 4 (bodyOf Tryd.f77)))] := by kernel_rfl
theorem f77f_ok (k : Nat) (hT : TTOk Tryd.prog (lookT tab)) (hL : Lasting G) (h0 : EntOk Tryd.prog G (f60_e k)) : EntOk Tryd.prog G (f77f_e k) := by
  have hE : EnvSound Tryd.prog G (f77f_env k) := envOf_sound (ents_cons h0 (ents_nil))
  exact ent_ok (subs := [f77f_b4 k]) hT hE (envOf_nat _) hMix hL (subs_cons (f77f_n5 k) (f77f_b4_ok k hT hL hE) (subs_nil _ _ _)) (f77f_e k) Tryd.func77 f77f_y f77f_z (f77f_x k)
theorem f77f_all (k : Nat) : EntOk Tryd.prog (fun w => w.ShapedOpen Tryd.prog) (f77f_e k) := f77f_ok k hTab (lasting_shaped _) (f60_all k)

def f57f_env (k : Nat) : Env := envOf [f77f_e k]
theorem f57f_x (k : Nat) (v : argsC (f57f_e k).inp) : fexec (lookT tab) (f57f_env k) [] Tryd.f57 (bodyOf Tryd.f57) (mkArgs (f57f_e k).inp v) (fun rs => getRes (f57f_e k).out rs some) = (f57f_e k).run v := by kernel_rfl
theorem f57f_y : Tryd.f57.body = some (bodyOf Tryd.f57) := by kernel_rfl
theorem f57f_z : (Tryd.f57.name == "runtime.NumGoroutine") = false := by kernel_rfl
theorem f57f_ok (k : Nat) (hT : TTOk Tryd.prog (lookT tab)) (hL : Lasting G) (h0 : EntOk Tryd.prog G (f77f_e k)) : EntOk Tryd.prog G (f57f_e k) := by
  have hE : EnvSound Tryd.prog G (f57f_env k) := envOf_sound (ents_cons h0 (ents_nil))
  exact ent_ok (subs := []) hT hE (envOf_nat _) hMix hL (subs_nil _ _ _) (f57f_e k) Tryd.func57 f57f_y f57f_z (f57f_x k)
theorem f57f_all (k : Nat) : EntOk Tryd.prog (fun w => w.ShapedOpen Tryd.prog) (f57f_e k) := f57f_ok k hTab (lasting_shaped _) (f77f_all k)

def f36_env (k : Nat) : Env := envOf [f35_e k, f57f_e k]
theorem f36_x (k : Nat) (v : argsC (f36_e k).inp) : fexec (lookT tab) (f36_env k) [] Tryd.f36 (bodyOf Tryd.f36) (mkArgs (f36_e k).inp v) (fun rs => getRes (f36_e k).out rs some) = (f36_e k).run v := by kernel_rfl
theorem f36_y : Tryd.f36.body = some (bodyOf Tryd.f36) := by kernel_rfl
theorem f36_z : (Tryd.f36.name == "runtime.NumGoroutine") = false := by kernel_rfl
theorem f36_ok (k : Nat) (hT : TTOk Tryd.prog (lookT tab)) (hL : Lasting G) (h0 : EntOk Tryd.prog G (f35_e k)) (h1 : EntOk Tryd.prog G (f57f_e k)) : EntOk Tryd.prog G (f36_e k) := by
  have hE : EnvSound Tryd.prog G (f36_env k) := envOf_sound (ents_cons h0 (ents_cons h1 (ents_nil)))
  exact ent_ok (subs := []) hT hE (envOf_nat _) hMix hL (subs_nil _ _ _) (f36_e k) Tryd.func36 f36_y f36_z (f36_x k)
theorem f36_all (k : Nat) : EntOk Tryd.prog (fun w => w.ShapedOpen Tryd.prog) (f36_e k) := f36_ok k hTab (lasting_shaped _) (f35_all k) (f57f_all k)

def f62_env (k : Nat) : Env := envOf [f13_e k, f15_e k, f53_e k]
def f62_b16 (k : Nat) : Sub := { key := 16, inp := ⟨[.dead, .ptr 0 [], .dead, .data (.int .i64), .dead, .dead, .dead, .dead, .dead, .dead, .dead, .dead, .dead, .dead, .dead, .dead, .dead, .dead, .dead, .dead, .dead, .dead, .dead, .dead, .dead, .dead, .dead, .dead, .dead, .dead, .dead, .dead, .dead, .dead, .dead, .dead, .dead, .dead, .dead, .dead, .dead, .dead, .dead, .dead, .dead, .dead, .dead, .dead, .dead, .dead, .dead, .dead, .dead, .dead, .dead, .dead, .dead, .dead, .dead, .dead, .dead, .dead, .dead, .dead, .dead, .dead, .dead, .dead], [.box (.agg (.pair .str (.pair (.int .i64) (.pair (.list .str) .unit))))], [], []⟩, ways := [⟨.ret, ⟨[.dead, .dead, .data .bool, .dead, .dead, .dead, .dead, .dead, .dead, .dead, .dead, .dead, .dead, .dead, .dead, .dead, .dead, .dead, .dead, .dead, .dead, .dead, .dead, .dead, .dead, .dead, .dead, .dead, .dead, .dead, .dead, .dead, .dead, .dead, .dead, .dead, .dead, .dead, .dead, .dead, .dead, .dead, .dead, .dead, .dead, .dead, .dead, .dead, .dead, .dead, .dead, .dead, .dead, .dead, .dead, .dead, .dead, .dead, .dead, .dead, .dead, .dead, .dead, .dead, .dead, .dead, .dead, .dead], [], [], []⟩⟩, ⟨.x 0, ⟨[.dead, .dead, .dead, .dead, .dead, .dead, .dead, .dead, .dead, .dead, .dead, .dead, .dead, .dead, .dead, .dead, .dead, .dead, .dead, .dead, .dead, .dead, .dead, .dead, .dead, .dead, .dead, .dead, .dead, .dead, .dead, .dead, .dead, .dead, .dead, .dead, .dead, .dead, .dead, .dead, .dead, .dead, .dead, .dead, .dead, .dead, .dead, .dead, .dead, .dead, .dead, .dead, .dead, .dead, .dead, .dead, .dead, .dead, .dead, .dead, .dead, .dead, .dead, .dead, .dead, .dead, .dead, .dead], [], [], []⟩⟩], run := fun v => iter (f62_s16_u k) k v }
theorem f62_b16_x (k : Nat) (v : (Int × (ByteArray × Int × (List ByteArray) × Unit) × Unit)) : exec (lookT tab) (f62_env k) [] (loopAt 16 (bodyOf Tryd.f62)) (mkSt (f62_b16 k).inp v) (loopKs (f62_b16 k).inp (f62_b16 k).ways) = f62_s16_u k v := by kernel_rfl
theorem f62_b16_ok (k : Nat) (hT : TTOk Tryd.prog (lookT tab)) (hL : Lasting G) (hE : EnvSound Tryd.prog G (f62_env k)) : SubSound Tryd.prog G (f62_b16 k) (.loop (loopAt 16 (bodyOf Tryd.f62))) :=
  sub_loop (subs := []) hT hE (envOf_nat _) hMix hL (subs_nil _ _ _) (f62_s16_u k) k (fun _ => rfl) (fun v o h => (f62_b16_x k v).trans h)
theorem f62_x (k : Nat) (v : argsC (f62_e k).inp) : fexec (lookT tab) (f62_env k) [f62_b16 k] Tryd.f62 (bodyOf Tryd.f62) (mkArgs (f62_e k).inp v) (fun rs => getRes (f62_e k).out rs some) = (f62_e k).run v := by kernel_rfl
theorem f62_y : Tryd.f62.body = some (bodyOf Tryd.f62) := by kernel_rfl
theorem f62_z : (Tryd.f62.name == "runtime.NumGoroutine") = false := by kernel_rfl
theorem f62_n8 (k : Nat) : nodesAt (f62_b16 k).key (bodyOf Tryd.f62) = [(.loop (loopAt 16 (bodyOf Tryd.f62)))] := by kernel_rfl
theorem f62_ok (k : Nat) (hT : TTOk Tryd.prog (lookT tab)) (hL : Lasting G) (h0 : EntOk Tryd.prog G (f13_e k)) (h1 : EntOk Tryd.prog G (f15_e k)) (h2 : EntOk Tryd.prog G (f53_e k)) : EntOk Tryd.prog G (f62_e k) := by
  have hE : EnvSound Tryd.prog G (f62_env k) := envOf_sound (ents_cons h0 (ents_cons h1 (ents_cons h2 (ents_nil))))
  exact ent_ok (subs := [f62_b16 k]) hT hE (envOf_nat _) hMix hL (subs_cons (f62_n8 k) (f62_b16_ok k hT hL hE) (subs_nil _ _ _)) (f62_e k) Tryd.func62 f62_y f62_z (f62_x k)
theorem f62_all (k : Nat) : EntOk Tryd.prog (fun w => w.ShapedOpen Tryd.prog) (f62_e k) := f62_ok k hTab (lasting_shaped _) (f13_all k) (f15_all k) (f53_all k)

def f38_env (k : Nat) : Env := envOf [f62_e k]
def f38_b4 (k : Nat) : Sub := { key := 4, inp := ⟨[.data (.list (.agg (.pair .str (.pair (.int .i64) (.pair (.list .str) .unit))))), .dead, .dead, .data (.int .i64), .dead, .dead, .dead, .dead, .dead, .dead, .dead, .dead, .dead, .dead, .dead, .dead, .dead, .dead, .dead, .dead], [], [], []⟩, ways := [⟨.ret, ⟨[.dead, .dead, .data .bool, .dead, .dead, .dead, .dead, .dead, .dead, .dead, .dead, .dead, .dead, .dead, .dead, .dead, .dead, .dead, .dead, .dead], [], [], []⟩⟩, ⟨.x 0, ⟨[.dead, .dead, .dead, .dead, .dead, .dead, .dead, .dead, .dead, .dead, .dead, .dead, .dead, .dead, .dead, .dead, .dead, .dead, .dead, .dead], [], [], []⟩⟩], run := fun v => iter (f38_s4_u k) k v }
theorem f38_b4_x (k : Nat) (v : ((List (ByteArray × Int × (List ByteArray) × Unit)) × Int × Unit)) : exec (lookT tab) (f38_env k) [] (loopAt 4 (bodyOf Tryd.f38)) (mkSt (f38_b4 k).inp v) (loopKs (f38_b4 k).inp (f38_b4 k).ways) = f38_s4_u k v := by kernel_rfl
theorem f38_b4_ok (k : Nat) (hT : TTOk Tryd.prog (lookT tab)) (hL : Lasting G) (hE : EnvSound Tryd.prog G (f38_env k)) : SubSound Tryd.prog G (f38_b4 k) (.loop (loopAt 4 (bodyOf Tryd.f38))) :=
  sub_loop (subs := []) hT hE (envOf_nat _) hMix hL (subs_nil _ _ _) (f38_s4_u k) k (fun _ => rfl) (fun v o h => (f38_b4_x k v).trans h)
theorem f38_x (k : Nat) (v : argsC (f38_e k).inp) : fexec (lookT tab) (f38_env k) [f38_b4 k] Tryd.f38 (bodyOf Tryd.f38) (mkArgs (f38_e k).inp v) (fun rs => getRes (f38_e k).out rs some) = (f38_e k).run v := by kernel_rfl
theorem f38_y : Tryd.f38.body = some (bodyOf Tryd.f38) := by kernel_rfl
theorem f38_z : (Tryd.f38.name == "runtime.NumGoroutine") = false := by kernel_rfl
theorem f38_n4 (k : Nat) : nodesAt (f38_b4 k).key (bodyOf Tryd.f38) = [(.loop (loopAt 4 (bodyOf Tryd.f38)))] := by kernel_rfl
theorem f38_ok (k : Nat) (hT : TTOk Tryd.prog (lookT tab)) (hL : Lasting G) (h0 : EntOk Tryd.prog G (f62_e k)) : EntOk Tryd.prog G (f38_e k) := by
  have hE : EnvSound Tryd.prog G (f38_env k) := envOf_sound (ents_cons h0 (ents_nil))
  exact ent_ok (subs := [f38_b4 k]) hT hE (envOf_nat _) hMix hL (subs_cons (f38_n4 k) (f38_b4_ok k hT hL hE) (subs_nil _ _ _)) (f38_e k) Tryd.func38 f38_y f38_z (f38_x k)
theorem f38_all (k : Nat) : EntOk Tryd.prog (fun w => w.ShapedOpen Tryd.prog) (f38_e k) := f38_ok k hTab (lasting_shaped _) (f62_all k)

def f40_env (k : Nat) : Env := envOf [f62_e k, f25_e k]
def f40_b12 (k : Nat) : Sub := { key := 12, inp := ⟨[.dead, .dead, .ptr 0 [], .dead, .dead, .data .str, .data .bool, .data .bool, .data (.int .i64), .dead, .dead, .dead, .dead, .dead, .dead, .dead, .dead, .dead, .dead, .dead, .dead, .dead, .dead, .dead, .dead, .dead, .dead, .dead, .dead, .dead, .dead, .dead, .dead, .dead, .dead, .dead, .dead, .dead, .dead, .dead, .dead, .dead, .dead, .dead, .dead, .dead, .dead, .dead, .dead, .dead, .dead, .dead, .dead, .dead, .dead, .dead], [.box (.agg (.pair .str (.pair (.int .i64) (.pair (.list .str) .unit))))], [], []⟩, ways := [⟨.x 0, ⟨[.dead, .dead, .ptr 0 [], .dead, .dead, .dead, .data .bool, .data .bool, .dead, .dead, .dead, .dead, .dead, .dead, .dead, .dead, .dead, .dead, .dead, .dead, .dead, .dead, .dead, .dead, .dead, .dead, .dead, .dead, .dead, .dead, .dead, .dead, .dead, .dead, .dead, .dead, .dead, .dead, .dead, .dead, .dead, .dead, .dead, .dead, .dead, .dead, .dead, .dead, .dead, .dead, .dead, .dead, .dead, .dead, .dead, .dead], [.box (.agg (.pair .str (.pair (.int .i64) (.pair (.list .str) .unit))))], [], []⟩⟩], run := fun v => iter (f40_s12_u k) k v }
theorem f40_b12_x (k : Nat) (v : (ByteArray × Bool × Bool × Int × (ByteArray × Int × (List ByteArray) × Unit) × Unit)) : exec (lookT tab) (f40_env k) [] (loopAt 12 (bodyOf Tryd.f40)) (mkSt (f40_b12 k).inp v) (loopKs (f40_b12 k).inp (f40_b12 k).ways) = f40_s12_u k v := by kernel_rfl
theorem f40_b12_ok (k : Nat) (hT : TTOk Tryd.prog (lookT tab)) (hL : Lasting G) (hE : EnvSound Tryd.prog G (f40_env k)) : SubSound Tryd.prog G (f40_b12 k) (.loop (loopAt 12 (bodyOf Tryd.f40))) :=
  sub_loop (subs := []) hT hE (envOf_nat _) hMix hL (subs_nil _ _ _) (f40_s12_u k) k (fun _ => rfl) (fun v o h => (f40_b12_x k v).trans h)
theorem f40_x (k : Nat) (v : argsC (f40_e k).inp) : fexec (lookT tab) (f40_env k) [f40_b12 k] Tryd.f40 (bodyOf Tryd.f40) (mkArgs (f40_e k).inp v) (fun rs => getRes (f40_e k).out rs some) = (f40_e k).run v := by kernel_rfl
theorem f40_y : Tryd.f40.body = some (bodyOf Tryd.f40) := by kernel_rfl
theorem f40_z : (Tryd.f40.name == "runtime.NumGoroutine") = false := by kernel_rfl
theorem f40_n4 (k : Nat) : nodesAt (f40_b12 k).key (bodyOf Tryd.f40) = [(.loop (loopAt 12 (bodyOf Tryd.f40)))] := by kernel_rfl
theorem f40_ok (k : Nat) (hT : TTOk Tryd.prog (lookT tab)) (hL : Lasting G) (h0 : EntOk Tryd.prog G (f62_e k)) (h1 : EntOk Tryd.prog G (f25_e k)) : EntOk Tryd.prog G (f40_e k) := by
  have hE : EnvSound Tryd.prog G (f40_env k) := envOf_sound (ents_cons h0 (ents_cons h1 (ents_nil)))
  exact ent_ok (subs := [f40_b12 k]) hT hE (envOf_nat _) hMix hL (subs_cons (f40_n4 k) (f40_b12_ok k hT hL hE) (subs_nil _ _ _)) (f40_e k) Tryd.func40 f40_y f40_z (f40_x k)
theorem f40_all (k : Nat) : EntOk Tryd.prog (fun w => w.ShapedOpen Tryd.prog) (f40_e k) := f40_ok k hTab (lasting_shaped _) (f62_all k) (f25_all k)

def f39_env (k : Nat) : Env := envOf [f38_e k, f40_e k]
def f39_b8 (k : Nat) : Sub := { key := 8, inp := ⟨[.data (.list (.agg (.pair .str (.pair (.int .i64) (.pair (.list .str) .unit))))), .data (.list (.agg (.pair .str (.pair .str .unit)))), .dead, .dead, .dead, .data (.int .i64), .dead, .dead, .dead, .dead, .dead, .dead, .dead, .dead, .dead, .dead, .dead, .dead, .dead, .dead, .dead, .dead], [], [], []⟩, ways := [⟨.ret, ⟨[.dead, .dead, .dead, .dead, .data .bool, .dead, .dead, .dead, .dead, .dead, .dead, .dead, .dead, .dead, .dead, .dead, .dead, .dead, .dead, .dead, .dead, .dead], [], [], []⟩⟩, ⟨.x 0, ⟨[.dead, .dead, .dead, .dead, .dead, .dead, .dead, .dead, .dead, .dead, .dead, .dead, .dead, .dead, .dead, .dead, .dead, .dead, .dead, .dead, .dead, .dead], [], [], []⟩⟩], run := fun v => iter (f39_s8_u k) k v }
theorem f39_b8_x (k : Nat) (v : ((List (ByteArray × Int × (List ByteArray) × Unit)) × (List (ByteArray × ByteArray × Unit)) × Int × Unit)) : exec (lookT tab) (f39_env k) [] (loopAt 8 (bodyOf Tryd.f39)) (mkSt (f39_b8 k).inp v) (loopKs (f39_b8 k).inp (f39_b8 k).ways) = f39_s8_u k v := by kernel_rfl
theorem f39_b8_ok (k : Nat) (hT : TTOk Tryd.prog (lookT tab)) (hL : Lasting G) (hE : EnvSound Tryd.prog G (f39_env k)) : SubSound Tryd.prog G (f39_b8 k) (.loop (loopAt 8 (bodyOf Tryd.f39))) :=
  sub_loop (subs := []) hT hE (envOf_nat _) hMix hL (subs_nil _ _ _) (f39_s8_u k) k (fun _ => rfl) (fun v o h => (f39_b8_x k v).trans h)
theorem f39_x (k : Nat) (v : argsC (f39_e k).inp) : fexec (lookT tab) (f39_env k) [f39_b8 k] Tryd.f39 (bodyOf Tryd.f39) (mkArgs (f39_e k).inp v) (fun rs => getRes (f39_e k).out rs some) = (f39_e k).run v := by kernel_rfl
theorem f39_y : Tryd.f39.body = some (bodyOf Tryd.f39) := by kernel_rfl
theorem f39_z : (Tryd.f39.name == "runtime.NumGoroutine") = false := by kernel_rfl
theorem f39_n6 (k : Nat) : nodesAt (f39_b8 k).key (bodyOf Tryd.f39) = [(.loop (loopAt 8 (bodyOf Tryd.f39)))] := by kernel_rfl
theorem f39_ok (k : Nat) (hT : TTOk Tryd.prog (lookT tab)) (hL : Lasting G) (h0 : EntOk Tryd.prog G (f38_e k)) (h1 : EntOk Tryd.prog G (f40_e k)) : EntOk Tryd.prog G (f39_e k) := by
  have hE : EnvSound Tryd.prog G (f39_env k) := envOf_sound (ents_cons h0 (ents_cons h1 (ents_nil)))
  exact ent_ok (subs := [f39_b8 k]) hT hE (envOf_nat _) hMix hL (subs_cons (f39_n6 k) (f39_b8_ok k hT hL hE) (subs_nil _ _ _)) (f39_e k) Tryd.func39 f39_y f39_z (f39_x k)
theorem f39_all (k : Nat) : EntOk Tryd.prog (fun w => w.ShapedOpen Tryd.prog) (f39_e k) := f39_ok k hTab (lasting_shaped _) (f38_all k) (f40_all k)

def f30_env (k : Nat) : Env := envOf []
def f30_b18 (k : Nat) : Sub := { key := 18, inp := ⟨[.data (.list (.agg (.pair .str (.pair (.int .i64) (.pair (.list .str) .unit))))), .dead, .dead, .data (.int .i64), .data (.int .i64), .dead, .dead, .dead, .dead, .dead, .dead, .dead, .dead, .dead, .dead, .dead, .dead, .dead, .dead, .dead, .dead, .dead, .dead, .dead, .dead, .dead, .dead, .dead, .dead, .dead, .dead, .dead, .dead, .dead, .dead, .dead, .dead, .dead, .dead, .dead, .dead, .dead, .dead, .dead, .dead, .dead, .dead, .dead, .dead, .dead], [], [], []⟩, ways := [⟨.ret, ⟨[.dead, .dead, .data .bool, .dead, .dead, .dead, .dead, .dead, .dead, .dead, .dead, .dead, .dead, .dead, .dead, .dead, .dead, .dead, .dead, .dead, .dead, .dead, .dead, .dead, .dead, .dead, .dead, .dead, .dead, .dead, .dead, .dead, .dead, .dead, .dead, .dead, .dead, .dead, .dead, .dead, .dead, .dead, .dead, .dead, .dead, .dead, .dead, .dead, .dead, .dead], [], [], []⟩⟩, ⟨.x 2, ⟨[.data (.list (.agg (.pair .str (.pair (.int .i64) (.pair (.list .str) .unit))))), .dead, .dead, .data (.int .i64), .dead, .dead, .dead, .dead, .dead, .dead, .dead, .dead, .dead, .dead, .dead, .dead, .dead, .dead, .dead, .dead, .dead, .dead, .dead, .dead, .dead, .dead, .dead, .dead, .dead, .dead, .dead, .dead, .dead, .dead, .dead, .dead, .dead, .dead, .dead, .dead, .dead, .dead, .dead, .dead, .dead, .dead, .dead, .dead, .dead, .dead], [], [], []⟩⟩], run := fun v => iter (f30_s18_u k) k v }
def f30_b8 (k : Nat) : Sub := { key := 8, inp := ⟨[.data (.list (.agg (.pair .str (.pair (.int .i64) (.pair (.list .str) .unit))))), .dead, .dead, .data (.int .i64), .dead, .dead, .dead, .dead, .dead, .dead, .dead, .dead, .dead, .dead, .dead, .dead, .dead, .dead, .dead, .dead, .dead, .dead, .dead, .dead, .dead, .dead, .dead, .dead, .dead, .dead, .dead, .dead, .dead, .dead, .dead, .dead, .dead, .dead, .dead, .dead, .dead, .dead, .dead, .dead, .dead, .dead, .dead, .dead, .dead, .dead], [], [], []⟩, ways := [⟨.ret, ⟨[.dead, .dead, .data .bool, .dead, .dead, .dead, .dead, .dead, .dead, .dead, .dead, .dead, .dead, .dead, .dead, .dead, .dead, .dead, .dead, .dead, .dead, .dead, .dead, .dead, .dead, .dead, .dead, .dead, .dead, .dead, .dead, .dead, .dead, .dead, .dead, .dead, .dead, .dead, .dead, .dead, .dead, .dead, .dead, .dead, .dead, .dead, .dead, .dead, .dead, .dead], [], [], []⟩⟩, ⟨.x 0, ⟨[.dead, .dead, .dead, .dead, .dead, .dead, .dead, .dead, .dead, .dead, .dead, .dead, .dead, .dead, .dead, .dead, .dead, .dead, .dead, .dead, .dead, .dead, .dead, .dead, .dead, .dead, .dead, .dead, .dead, .dead, .dead, .dead, .dead, .dead, .dead, .dead, .dead, .dead, .dead, .dead, .dead, .dead, .dead, .dead, .dead, .dead, .dead, .dead, .dead, .dead], [], [], []⟩⟩], run := fun v => iter (f30_s8_u k) k v }
theorem f30_b18_x (k : Nat) (v : ((List (ByteArray × Int × (List ByteArray) × Unit)) × Int × Int × Unit)) : exec (lookT tab) (f30_env k) [] (loopAt 18 (bodyOf Tryd.f30)) (mkSt (f30_b18 k).inp v) (loopKs (f30_b18 k).inp (f30_b18 k).ways) = f30_s18_u k v := by kernel_rfl
theorem f30_b18_ok (k : Nat) (hT : TTOk Tryd.prog (lookT tab)) (hL : Lasting G) (hE : EnvSound Tryd.prog G (f30_env k)) : SubSound Tryd.prog G (f30_b18 k) (.loop (loopAt 18 (bodyOf Tryd.f30))) :=
  sub_loop (subs := []) hT hE (envOf_nat _) hMix hL (subs_nil _ _ _) (f30_s18_u k) k (fun _ => rfl) (fun v o h => (f30_b18_x k v).trans h)
theorem f30_b8_x (k : Nat) (v : ((List (ByteArray × Int × (List ByteArray) × Unit)) × Int × Unit)) : exec (lookT tab) (f30_env k) [f30_b18 k] (loopAt 8 (bodyOf Tryd.f30)) (mkSt (f30_b8 k).inp v) (loopKs (f30_b8 k).inp (f30_b8 k).ways) = f30_s8_u k v := by kernel_rfl
theorem f30_n4 (k : Nat) : nodesAt (f30_b18 k).key (loopAt 8 (bodyOf Tryd.f30)) = [(.loop (loopAt 18 (bodyOf Tryd.f30)))] := by kernel_rfl
theorem f30_b8_ok (k : Nat) (hT : TTOk Tryd.prog (lookT tab)) (hL : Lasting G) (hE : EnvSound Tryd.prog G (f30_env k)) : SubSound Tryd.prog G (f30_b8 k) (.loop (loopAt 8 (bodyOf Tryd.f30))) :=
  sub_loop (subs := [f30_b18 k]) hT hE (envOf_nat _) hMix hL (subs_cons (f30_n4 k) (f30_b18_ok k hT hL hE) (subs_nil _ _ _)) (f30_s8_u k) k (fun _ => rfl) (fun v o h => (f30_b8_x k v).trans h)
theorem f30_x (k : Nat) (v : argsC (f30_e k).inp) : fexec (lookT tab) (f30_env k) [f30_b8 k, f30_b18 k] Tryd.f30 (bodyOf Tryd.f30) (mkArgs (f30_e k).inp v) (fun rs => getRes (f30_e k).out rs some) = (f30_e k).run v := by kernel_rfl
theorem f30_y : Tryd.f30.body = some (bodyOf Tryd.f30) := by kernel_rfl
theorem f30_z : (Tryd.f30.name == "runtime.NumGoroutine") = false := by kernel_rfl
theorem f30_n5 (k : Nat) : nodesAt (f30_b8 k).key (bodyOf Tryd.f30) = [(.loop (loopAt 8 (bodyOf Tryd.f30)))] := by kernel_rfl
theorem f30_n6 (k : Nat) : nodesAt (f30_b18 k).key (bodyOf Tryd.f30) = [(.loop (loopAt 18 (bodyOf Tryd.f30)))] := by kernel_rfl
theorem f30_ok (k : Nat) (hT : TTOk Tryd.prog (lookT tab)) (hL : Lasting G) : EntOk Tryd.prog G (f30_e k) := by
  have hE : EnvSound Tryd.prog G (f30_env k) := envOf_sound (ents_nil)
  exact ent_ok (subs := [f30_b8 k, f30_b18 k]) hT hE (envOf_nat _) hMix hL (subs_cons (f30_n5 k) (f30_b8_ok k hT hL hE) (subs_cons (f30_n6 k) (f30_b18_ok k hT hL hE) (subs_nil _ _ _))) (f30_e k) Tryd.func30 f30_y f30_z (f30_x k)
theorem f30_all (k : Nat) : EntOk Tryd.prog (fun w => w.ShapedOpen Tryd.prog) (f30_e k) := f30_ok k hTab (lasting_shaped _)

def f108_env (k : Nat) : Env := envOf []
theorem f108_x (k : Nat) (v : argsC (f108_e k).inp) : fexec (lookT tab) (f108_env k) [] Tryd.f108 (bodyOf Tryd.f108) (mkArgs (f108_e k).inp v) (fun rs => getRes (f108_e k).out rs some) = (f108_e k).run v := by kernel_rfl
theorem f108_y : Tryd.f108.body = some (bodyOf Tryd.f108) := by kernel_rfl
theorem f108_z : (Tryd.f108.name == "runtime.NumGoroutine") = false := by kernel_rfl
theorem f108_ok (k : Nat) (hT : TTOk Tryd.prog (lookT tab)) (hL : Lasting G) : EntOk Tryd.prog G (f108_e k) := by
  have hE : EnvSound Tryd.prog G (f108_env k) := envOf_sound (ents_nil)
  exact ent_ok (subs := []) hT hE (envOf_nat _) hMix hL (subs_nil _ _ _) (f108_e k) Tryd.func108 f108_y f108_z (f108_x k)
theorem f108_all (k : Nat) : EntOk Tryd.prog (fun w => w.ShapedOpen Tryd.prog) (f108_e k) := f108_ok k hTab (lasting_shaped _)

def f89_env (k : Nat) : Env := envOf [f108_e k]
theorem f89_x (k : Nat) (v : argsC (f89_e k).inp) : fexec (lookT tab) (f89_env k) [] Tryd.f89 (bodyOf Tryd.f89) (mkArgs (f89_e k).inp v) (fun rs => getRes (f89_e k).out rs some) = (f89_e k).run v := by kernel_rfl
theorem f89_y : Tryd.f89.body = some (bodyOf Tryd.f89) := by kernel_rfl
theorem f89_z : (Tryd.f89.name == "runtime.NumGoroutine") = false := by kernel_rfl
theorem f89_ok (k : Nat) (hT : TTOk Tryd.prog (lookT tab)) (hL : Lasting G) (h0 : EntOk Tryd.prog G (f108_e k)) : EntOk Tryd.prog G (f89_e k) := by
  have hE : EnvSound Tryd.prog G (f89_env k) := envOf_sound (ents_cons h0 (ents_nil))
  exact ent_ok (subs := []) hT hE (envOf_nat _) hMix hL (subs_nil _ _ _) (f89_e k) Tryd.func89 f89_y f89_z (f89_x k)
theorem f89_all (k : Nat) : EntOk Tryd.prog (fun w => w.ShapedOpen Tryd.prog) (f89_e k) := f89_ok k hTab (lasting_shaped _) (f108_all k)

def f75_env (k : Nat) : Env := envOf [f89_e k]
theorem f75_x (k : Nat) (v : argsC (f75_e k).inp) : fexec (lookT tab) (f75_env k) [] Tryd.f75 (bodyOf Tryd.f75) (mkArgs (f75_e k).inp v) (fun rs => getRes (f75_e k).out rs some) = (f75_e k).run v := by kernel_rfl
theorem f75_y : Tryd.f75.body = some (bodyOf Tryd.f75) := by kernel_rfl
theorem f75_z : (Tryd.f75.name == "runtime.NumGoroutine") = false := by kernel_rfl
theorem f75_ok (k : Nat) (hT : TTOk Tryd.prog (lookT tab)) (hL : Lasting G) (h0 : EntOk Tryd.prog G (f89_e k)) : EntOk Tryd.prog G (f75_e k) := by
  have hE : EnvSound Tryd.prog G (f75_env k) := envOf_sound (ents_cons h0 (ents_nil))
  exact ent_ok (subs := []) hT hE (envOf_nat _) hMix hL (subs_nil _ _ _) (f75_e k) Tryd.func75 f75_y f75_z (f75_x k)
theorem f75_all (k : Nat) : EntOk Tryd.prog (fun w => w.ShapedOpen Tryd.prog) (f75_e k) := f75_ok k hTab (lasting_shaped _) (f89_all k)

def f56_env (k : Nat) : Env := envOf [f75_e k, f49_e k, f76_e k, f48_e k]
theorem f56_x (k : Nat) (v : argsC (f56_e k).inp) : fexec (lookT tab) (f56_env k) [] Tryd.f56 (bodyOf Tryd.f56) (mkArgs (f56_e k).inp v) (fun rs => getRes (f56_e k).out rs some) = (f56_e k).run v := by kernel_rfl
theorem f56_y : Tryd.f56.body = some (bodyOf Tryd.f56) := by kernel_rfl
theorem f56_z : (Tryd.f56.name == "runtime.NumGoroutine") = false := by kernel_rfl
theorem f56_ok (k : Nat) (hT : TTOk Tryd.prog (lookT tab)) (hL : Lasting G) (h0 : EntOk Tryd.prog G (f75_e k)) (h1 : EntOk Tryd.prog G (f49_e k)) (h2 : EntOk Tryd.prog G (f76_e k)) (h3 : EntOk Tryd.prog G (f48_e k)) : EntOk Tryd.prog G (f56_e k) := by
  have hE : EnvSound Tryd.prog G (f56_env k) := envOf_sound (ents_cons h0 (ents_cons h1 (ents_cons h2 (ents_cons h3 (ents_nil)))))
  exact ent_ok (subs := []) hT hE (envOf_nat _) hMix hL (subs_nil _ _ _) (f56_e k) Tryd.func56 f56_y f56_z (f56_x k)
theorem f56_all (k : Nat) : EntOk Tryd.prog (fun w => w.ShapedOpen Tryd.prog) (f56_e k) := f56_ok k hTab (lasting_shaped _) (f75_all k) (f49_all k) (f76_all k) (f48_all k)

def f55_env (k : Nat) : Env := envOf [f47_e k]
theorem f55_x (k : Nat) (v : argsC (f55_e k).inp) : fexec (lookT tab) (f55_env k) [] Tryd.f55 (bodyOf Tryd.f55) (mkArgs (f55_e k).inp v) (fun rs => getRes (f55_e k).out rs some) = (f55_e k).run v := by kernel_rfl
theorem f55_y : Tryd.f55.body = some (bodyOf Tryd.f55) := by kernel_rfl
theorem f55_z : (Tryd.f55.name == "runtime.NumGoroutine") = false := by kernel_rfl
theorem f55_ok (k : Nat) (hT : TTOk Tryd.prog (lookT tab)) (hL : Lasting G) (h0 : EntOk Tryd.prog G (f47_e k)) : EntOk Tryd.prog G (f55_e k) := by
  have hE : EnvSound Tryd.prog G (f55_env k) := envOf_sound (ents_cons h0 (ents_nil))
  exact ent_ok (subs := []) hT hE (envOf_nat _) hMix hL (subs_nil _ _ _) (f55_e k) Tryd.func55 f55_y f55_z (f55_x k)
theorem f55_all (k : Nat) : EntOk Tryd.prog (fun w => w.ShapedOpen Tryd.prog) (f55_e k) := f55_ok k hTab (lasting_shaped _) (f47_all k)

def f31_env (k : Nat) : Env := envOf [f35_e k, f55_e k, f47_e k]
def f31_b10 (k : Nat) : Sub := { key := 10, inp := ⟨[.dead, .dead, .dead, .dead, .osl 0, .dead, .dead, .dead, .dead, .dead, .data (.list (.agg (.pair .str (.pair (.int .i64) (.pair (.list .str) .unit))))), .data (.int .i64), .data (.int .i64), .dead, .dead, .dead, .dead, .dead, .dead, .dead, .dead, .dead, .dead, .dead], [.row .str], [(4, .str)], []⟩, ways := [⟨.x 0, ⟨[.dead, .dead, .dead, .dead, .osl 0, .dead, .dead, .dead, .dead, .dead, .dead, .dead, .dead, .dead, .dead, .dead, .dead, .dead, .dead, .dead, .dead, .dead, .dead, .dead], [.row .str], [], []⟩⟩], run := fun v => iter (f31_s10_u k) k v }
theorem f31_b10_x (k : Nat) (v : ((List (ByteArray × Int × (List ByteArray) × Unit)) × Int × Int × (List ByteArray) × Unit)) : exec (lookT tab) (f31_env k) [] (loopAt 10 (bodyOf Tryd.f31)) (mkSt (f31_b10 k).inp v) (loopKs (f31_b10 k).inp (f31_b10 k).ways) = f31_s10_u k v := by kernel_rfl
theorem f31_b10_ok (k : Nat) (hT : TTOk Tryd.prog (lookT tab)) (hL : Lasting G) (hE : EnvSound Tryd.prog G (f31_env k)) : SubSound Tryd.prog G (f31_b10 k) (.loop (loopAt 10 (bodyOf Tryd.f31))) :=
  sub_loop (subs := []) hT hE (envOf_nat _) hMix hL (subs_nil _ _ _) (f31_s10_u k) k (fun _ => rfl) (fun v o h => (f31_b10_x k v).trans h)
theorem f31_x (k : Nat) (v : argsC (f31_e k).inp) : fexec (lookT tab) (f31_env k) [f31_b10 k] Tryd.f31 (bodyOf Tryd.f31) (mkArgs (f31_e k).inp v) (fun rs => getRes (f31_e k).out rs some) = (f31_e k).run v := by kernel_rfl
theorem f31_y : Tryd.f31.body = some (bodyOf Tryd.f31) := by kernel_rfl
theorem f31_z : (Tryd.f31.name == "runtime.NumGoroutine") = false := by kernel_rfl
theorem f31_n7 (k : Nat) : nodesAt (f31_b10 k).key (bodyOf Tryd.f31) = [(.loop (loopAt 10 (bodyOf Tryd.f31)))] := by kernel_rfl
theorem f31_ok (k : Nat) (hT : TTOk Tryd.prog (lookT tab)) (hL : Lasting G) (h0 : EntOk Tryd.prog G (f35_e k)) (h1 : EntOk Tryd.prog G (f55_e k)) (h2 : EntOk Tryd.prog G (f47_e k)) : EntOk Tryd.prog G (f31_e k) := by
  have hE : EnvSound Tryd.prog G (f31_env k) := envOf_sound (ents_cons h0 (ents_cons h1 (ents_cons h2 (ents_nil))))
  exact ent_ok (subs := [f31_b10 k]) hT hE (envOf_nat _) hMix hL (subs_cons (f31_n7 k) (f31_b10_ok k hT hL hE) (subs_nil _ _ _)) (f31_e k) Tryd.func31 f31_y f31_z (f31_x k)
theorem f31_all (k : Nat) : EntOk Tryd.prog (fun w => w.ShapedOpen Tryd.prog) (f31_e k) := f31_ok k hTab (lasting_shaped _) (f35_all k) (f55_all k) (f47_all k)

def f33_env (k : Nat) : Env := envOf [f48_e k, f56_e k, f31_e k]
def f33_b10 (k : Nat) : Sub := { key := 10, inp := ⟨[.data .str, .dead, .dead, .dead, .osl 0, .dead, .dead, .dead, .dead, .dead, .dead, .dead, .data (.list .str), .data (.int .i64), .data (.int .i64), .dead, .dead, .dead, .dead, .dead, .dead, .dead, .dead, .dead, .dead, .dead, .dead, .dead, .dead, .dead, .dead, .dead, .dead, .dead, .dead, .dead, .dead, .dead, .dead, .dead], [.row (.agg (.pair .str (.pair (.int .i64) (.pair (.list .str) .unit))))], [(4, (.agg (.pair .str (.pair (.int .i64) (.pair (.list .str) .unit)))))], []⟩, ways := [⟨.ret, ⟨[.dead, .dead, .data (.list (.agg (.pair .str (.pair (.int .i64) (.pair (.list .str) .unit))))), .data (.int .i64), .dead, .dead, .dead, .dead, .dead, .dead, .dead, .dead, .dead, .dead, .dead, .dead, .dead, .dead, .dead, .dead, .dead, .dead, .dead, .dead, .dead, .dead, .dead, .dead, .dead, .dead, .dead, .dead, .dead, .dead, .dead, .dead, .dead, .dead, .dead, .dead], [], [], [(2, (.agg (.pair .str (.pair (.int .i64) (.pair (.list .str) .unit)))))]⟩⟩, ⟨.x 0, ⟨[.data .str, .dead, .dead, .dead, .osl 0, .dead, .dead, .dead, .dead, .dead, .dead, .dead, .dead, .dead, .dead, .dead, .dead, .dead, .dead, .dead, .dead, .dead, .dead, .dead, .dead, .dead, .dead, .dead, .dead, .dead, .dead, .dead, .dead, .dead, .dead, .dead, .dead, .dead, .dead, .dead], [.row (.agg (.pair .str (.pair (.int .i64) (.pair (.list .str) .unit))))], [], []⟩⟩], run := fun v => iter (f33_s10_u k) k v }
theorem f33_b10_x (k : Nat) (v : (ByteArray × (List ByteArray) × Int × Int × (List (ByteArray × Int × (List ByteArray) × Unit)) × Unit)) : exec (lookT tab) (f33_env k) [] (loopAt 10 (bodyOf Tryd.f33)) (mkSt (f33_b10 k).inp v) (loopKs (f33_b10 k).inp (f33_b10 k).ways) = f33_s10_u k v := by kernel_rfl
theorem f33_b10_ok (k : Nat) (hT : TTOk Tryd.prog (lookT tab)) (hL : Lasting G) (hE : EnvSound Tryd.prog G (f33_env k)) : SubSound Tryd.prog G (f33_b10 k) (.loop (loopAt 10 (bodyOf Tryd.f33))) :=
  sub_loop (subs := []) hT hE (envOf_nat _) hMix hL (subs_nil _ _ _) (f33_s10_u k) k (fun _ => rfl) (fun v o h => (f33_b10_x k v).trans h)
theorem f33_x (k : Nat) (v : argsC (f33_e k).inp) : fexec (lookT tab) (f33_env k) [f33_b10 k] Tryd.f33 (bodyOf Tryd.f33) (mkArgs (f33_e k).inp v) (fun rs => getRes (f33_e k).out rs some) = (f33_e k).run v := by kernel_rfl
theorem f33_y : Tryd.f33.body = some (bodyOf Tryd.f33) := by kernel_rfl
theorem f33_z : (Tryd.f33.name == "runtime.NumGoroutine") = false := by kernel_rfl
theorem f33_n7 (k : Nat) : nodesAt (f33_b10 k).key (bodyOf Tryd.f33) = [(.loop (loopAt 10 (bodyOf Tryd.f33)))] := by kernel_rfl
theorem f33_ok (k : Nat) (hT : TTOk Tryd.prog (lookT tab)) (hL : Lasting G) (h0 : EntOk Tryd.prog G (f48_e k)) (h1 : EntOk Tryd.prog G (f56_e k)) (h2 : EntOk Tryd.prog G (f31_e k)) : EntOk Tryd.prog G (f33_e k) := by
  have hE : EnvSound Tryd.prog G (f33_env k) := envOf_sound (ents_cons h0 (ents_cons h1 (ents_cons h2 (ents_nil))))
  exact ent_ok (subs := [f33_b10 k]) hT hE (envOf_nat _) hMix hL (subs_cons (f33_n7 k) (f33_b10_ok k hT hL hE) (subs_nil _ _ _)) (f33_e k) Tryd.func33 f33_y f33_z (f33_x k)
theorem f33_all (k : Nat) : EntOk Tryd.prog (fun w => w.ShapedOpen Tryd.prog) (f33_e k) := f33_ok k hTab (lasting_shaped _) (f48_all k) (f56_all k) (f31_all k)

def f29_env (k : Nat) : Env := envOf [f33_e k, f36_e k]
theorem f29_x (k : Nat) (v : argsC (f29_e k).inp) : fexec (lookT tab) (f29_env k) [] Tryd.f29 (bodyOf Tryd.f29) (mkArgs (f29_e k).inp v) (fun rs => getRes (f29_e k).out rs some) = (f29_e k).run v := by kernel_rfl
theorem f29_y : Tryd.f29.body = some (bodyOf Tryd.f29) := by kernel_rfl
theorem f29_z : (Tryd.f29.name == "runtime.NumGoroutine") = false := by kernel_rfl
theorem f29_ok (k : Nat) (hT : TTOk Tryd.prog (lookT tab)) (hL : Lasting G) (h0 : EntOk Tryd.prog G (f33_e k)) (h1 : EntOk Tryd.prog G (f36_e k)) : EntOk Tryd.prog G (f29_e k) := by
  have hE : EnvSound Tryd.prog G (f29_env k) := envOf_sound (ents_cons h0 (ents_cons h1 (ents_nil)))
  exact ent_ok (subs := []) hT hE (envOf_nat _) hMix hL (subs_nil _ _ _) (f29_e k) Tryd.func29 f29_y f29_z (f29_x k)
theorem f29_all (k : Nat) : EntOk Tryd.prog (fun w => w.ShapedOpen Tryd.prog) (f29_e k) := f29_ok k hTab (lasting_shaped _) (f33_all k) (f36_all k)

def f8_env (k : Nat) : Env := envOf [f29_e k, f30_e k, f16_e k, f38_e k, f35_e k, f36_e k, f39_e k, f37_e k, f40_e k, f41_e k]
theorem f8_x (k : Nat) (v : argsC (f8_e k).inp) : fexec (lookT tab) (f8_env k) [] Tryd.f8 (bodyOf Tryd.f8) (mkArgs (f8_e k).inp v) (fun rs => getRes (f8_e k).out rs some) = (f8_e k).run v := by kernel_rfl
theorem f8_y : Tryd.f8.body = some (bodyOf Tryd.f8) := by kernel_rfl
theorem f8_z : (Tryd.f8.name == "runtime.NumGoroutine") = false := by kernel_rfl
theorem f8_ok (k : Nat) (hT : TTOk Tryd.prog (lookT tab)) (hL : Lasting G) (h0 : EntOk Tryd.prog G (f29_e k)) (h1 : EntOk Tryd.prog G (f30_e k)) (h2 : EntOk Tryd.prog G (f16_e k)) (h3 : EntOk Tryd.prog G (f38_e k)) (h4 : EntOk Tryd.prog G (f35_e k)) (h5 : EntOk Tryd.prog G (f36_e k)) (h6 : EntOk Tryd.prog G (f39_e k)) (h7 : EntOk Tryd.prog G (f37_e k)) (h8 : EntOk Tryd.prog G (f40_e k)) (h9 : EntOk Tryd.prog G (f41_e k)) : EntOk Tryd.prog G (f8_e k) := by
  have hE : EnvSound Tryd.prog G (f8_env k) := envOf_sound (ents_cons h0 (ents_cons h1 (ents_cons h2 (ents_cons h3 (ents_cons h4 (ents_cons h5 (ents_cons h6 (ents_cons h7 (ents_cons h8 (ents_cons h9 (ents_nil)))))))))))
  exact ent_ok (subs := []) hT hE (envOf_nat _) hMix hL (subs_nil _ _ _) (f8_e k) Tryd.func8 f8_y f8_z (f8_x k)
theorem f8_all (k : Nat) : EntOk Tryd.prog (fun w => w.ShapedOpen Tryd.prog) (f8_e k) := f8_ok k hTab (lasting_shaped _) (f29_all k) (f30_all k) (f16_all k) (f38_all k) (f35_all k) (f36_all k) (f39_all k) (f37_all k) (f40_all k) (f41_all k)

def f7_env (k : Nat) : Env := envOf [f29_e k, f30_e k, f16_e k, f35_e k, f36_e k, f37_e k]
theorem f7_x (k : Nat) (v : argsC (f7_e k).inp) : fexec (lookT tab) (f7_env k) [] Tryd.f7 (bodyOf Tryd.f7) (mkArgs (f7_e k).inp v) (fun rs => getRes (f7_e k).out rs some) = (f7_e k).run v := by kernel_rfl
theorem f7_y : Tryd.f7.body = some (bodyOf Tryd.f7) := by kernel_rfl
theorem f7_z : (Tryd.f7.name == "runtime.NumGoroutine") = false := by kernel_rfl
theorem f7_ok (k : Nat) (hT : TTOk Tryd.prog (lookT tab)) (hL : Lasting G) (h0 : EntOk Tryd.prog G (f29_e k)) (h1 : EntOk Tryd.prog G (f30_e k)) (h2 : EntOk Tryd.prog G (f16_e k)) (h3 : EntOk Tryd.prog G (f35_e k)) (h4 : EntOk Tryd.prog G (f36_e k)) (h5 : EntOk Tryd.prog G (f37_e k)) : EntOk Tryd.prog G (f7_e k) := by
  have hE : EnvSound Tryd.prog G (f7_env k) := envOf_sound (ents_cons h0 (ents_cons h1 (ents_cons h2 (ents_cons h3 (ents_cons h4 (ents_cons h5 (ents_nil)))))))
  exact ent_ok (subs := []) hT hE (envOf_nat _) hMix hL (subs_nil _ _ _) (f7_e k) Tryd.func7 f7_y f7_z (f7_x k)
theorem f7_all (k : Nat) : EntOk Tryd.prog (fun w => w.ShapedOpen Tryd.prog) (f7_e k) := f7_ok k hTab (lasting_shaped _) (f29_all k) (f30_all k) (f16_all k) (f35_all k) (f36_all k) (f37_all k)

def f34_env (k : Nat) : Env := envOf []
def f34_b18 (k : Nat) : Sub := { key := 18, inp := ⟨[.data (.list (.agg (.pair .str (.pair (.int .i64) (.pair (.list .str) .unit))))), .data (.list (.agg (.pair .str (.pair (.int .i64) (.pair (.list .str) .unit))))), .dead, .dead, .dead, .data (.int .i64), .data (.int .i64), .dead, .dead, .dead, .dead, .dead, .dead, .dead, .dead, .dead, .dead, .dead, .dead, .dead, .dead, .dead, .dead, .dead, .dead, .dead, .dead, .dead, .dead, .dead, .dead, .dead, .dead, .dead, .dead, .dead, .dead, .dead, .dead, .dead, .dead, .dead, .dead, .dead, .dead, .dead, .dead, .dead, .dead, .dead, .dead, .dead, .dead, .dead, .dead, .dead, .dead, .dead, .dead, .dead, .dead, .dead, .dead, .dead, .dead, .dead, .dead, .dead, .dead, .dead, .dead, .dead, .dead, .dead, .dead, .dead, .dead, .dead, .dead, .dead, .dead, .dead, .dead, .dead], [], [], []⟩, ways := [⟨.ret, ⟨[.dead, .dead, .dead, .dead, .data .bool, .dead, .dead, .dead, .dead, .dead, .dead, .dead, .dead, .dead, .dead, .dead, .dead, .dead, .dead, .dead, .dead, .dead, .dead, .dead, .dead, .dead, .dead, .dead, .dead, .dead, .dead, .dead, .dead, .dead, .dead, .dead, .dead, .dead, .dead, .dead, .dead, .dead, .dead, .dead, .dead, .dead, .dead, .dead, .dead, .dead, .dead, .dead, .dead, .dead, .dead, .dead, .dead, .dead, .dead, .dead, .dead, .dead, .dead, .dead, .dead, .dead, .dead, .dead, .dead, .dead, .dead, .dead, .dead, .dead, .dead, .dead, .dead, .dead, .dead, .dead, .dead, .dead, .dead, .dead], [], [], []⟩⟩, ⟨.x 2, ⟨[.data (.list (.agg (.pair .str (.pair (.int .i64) (.pair (.list .str) .unit))))), .data (.list (.agg (.pair .str (.pair (.int .i64) (.pair (.list .str) .unit))))), .dead, .dead, .dead, .data (.int .i64), .dead, .dead, .dead, .dead, .dead, .dead, .dead, .dead, .dead, .dead, .dead, .dead, .dead, .dead, .dead, .dead, .dead, .dead, .dead, .dead, .dead, .dead, .dead, .dead, .dead, .dead, .dead, .dead, .dead, .dead, .dead, .dead, .dead, .dead, .dead, .dead, .dead, .dead, .dead, .dead, .dead, .dead, .dead, .dead, .dead, .dead, .dead, .dead, .dead, .dead, .dead, .dead, .dead, .dead, .dead, .dead, .dead, .dead, .dead, .dead, .dead, .dead, .dead, .dead, .dead, .dead, .dead, .dead, .dead, .dead, .dead, .dead, .dead, .dead, .dead, .dead, .dead, .dead], [], [], []⟩⟩], run := fun v => iter (f34_s18_u k) k v }
def f34_b8 (k : Nat) : Sub := { key := 8, inp := ⟨[.data (.list (.agg (.pair .str (.pair (.int .i64) (.pair (.list .str) .unit))))), .data (.list (.agg (.pair .str (.pair (.int .i64) (.pair (.list .str) .unit))))), .dead, .dead, .dead, .data (.int .i64), .dead, .dead, .dead, .dead, .dead, .dead, .dead, .dead, .dead, .dead, .dead, .dead, .dead, .dead, .dead, .dead, .dead, .dead, .dead, .dead, .dead, .dead, .dead, .dead, .dead, .dead, .dead, .dead, .dead, .dead, .dead, .dead, .dead, .dead, .dead, .dead, .dead, .dead, .dead, .dead, .dead, .dead, .dead, .dead, .dead, .dead, .dead, .dead, .dead, .dead, .dead, .dead, .dead, .dead, .dead, .dead, .dead, .dead, .dead, .dead, .dead, .dead, .dead, .dead, .dead, .dead, .dead, .dead, .dead, .dead, .dead, .dead, .dead, .dead, .dead, .dead, .dead, .dead], [], [], []⟩, ways := [⟨.ret, ⟨[.dead, .dead, .dead, .dead, .data .bool, .dead, .dead, .dead, .dead, .dead, .dead, .dead, .dead, .dead, .dead, .dead, .dead, .dead, .dead, .dead, .dead, .dead, .dead, .dead, .dead, .dead, .dead, .dead, .dead, .dead, .dead, .dead, .dead, .dead, .dead, .dead, .dead, .dead, .dead, .dead, .dead, .dead, .dead, .dead, .dead, .dead, .dead, .dead, .dead, .dead, .dead, .dead, .dead, .dead, .dead, .dead, .dead, .dead, .dead, .dead, .dead, .dead, .dead, .dead, .dead, .dead, .dead, .dead, .dead, .dead, .dead, .dead, .dead, .dead, .dead, .dead, .dead, .dead, .dead, .dead, .dead, .dead, .dead, .dead], [], [], []⟩⟩, ⟨.x 0, ⟨[.dead, .dead, .dead, .dead, .dead, .dead, .dead, .dead, .dead, .dead, .dead, .dead, .dead, .dead, .dead, .dead, .dead, .dead, .dead, .dead, .dead, .dead, .dead, .dead, .dead, .dead, .dead, .dead, .dead, .dead, .dead, .dead, .dead, .dead, .dead, .dead, .dead, .dead, .dead, .dead, .dead, .dead, .dead, .dead, .dead, .dead, .dead, .dead, .dead, .dead, .dead, .dead, .dead, .dead, .dead, .dead, .dead, .dead, .dead, .dead, .dead, .dead, .dead, .dead, .dead, .dead, .dead, .dead, .dead, .dead, .dead, .dead, .dead, .dead, .dead, .dead, .dead, .dead, .dead, .dead, .dead, .dead, .dead, .dead], [], [], []⟩⟩], run := fun v => iter (f34_s8_u k) k v }
theorem f34_b18_x (k : Nat) (v : ((List (ByteArray × Int × (List ByteArray) × Unit)) × (List (ByteArray × Int × (List ByteArray) × Unit)) × Int × Int × Unit)) : exec (lookT tab) (f34_env k) [] (loopAt 18 (bodyOf Tryd.f34)) (mkSt (f34_b18 k).inp v) (loopKs (f34_b18 k).inp (f34_b18 k).ways) = f34_s18_u k v := by kernel_rfl
theorem f34_b18_ok (k : Nat) (hT : TTOk Tryd.prog (lookT tab)) (hL : Lasting G) (hE : EnvSound Tryd.prog G (f34_env k)) : SubSound Tryd.prog G (f34_b18 k) (.loop (loopAt 18 (bodyOf Tryd.f34))) :=
  sub_loop (subs := []) hT hE (envOf_nat _) hMix hL (subs_nil _ _ _) (f34_s18_u k) k (fun _ => rfl) (fun v o h => (f34_b18_x k v).trans h)
theorem f34_b8_x (k : Nat) (v : ((List (ByteArray × Int × (List ByteArray) × Unit)) × (List (ByteArray × Int × (List ByteArray) × Unit)) × Int × Unit)) : exec (lookT tab) (f34_env k) [f34_b18 k] (loopAt 8 (bodyOf Tryd.f34)) (mkSt (f34_b8 k).inp v) (loopKs (f34_b8 k).inp (f34_b8 k).ways) = f34_s8_u k v := by kernel_rfl
theorem f34_n4 (k : Nat) : nodesAt (f34_b18 k).key (loopAt 8 (bodyOf Tryd.f34)) = [(.loop (loopAt 18 (bodyOf Tryd.f34)))] := by kernel_rfl
theorem f34_b8_ok (k : Nat) (hT : TTOk Tryd.prog (lookT tab)) (hL : Lasting G) (hE : EnvSound Tryd.prog G (f34_env k)) : SubSound Tryd.prog G (f34_b8 k) (.loop (loopAt 8 (bodyOf Tryd.f34))) :=
  sub_loop (subs := [f34_b18 k]) hT hE (envOf_nat _) hMix hL (subs_cons (f34_n4 k) (f34_b18_ok k hT hL hE) (subs_nil _ _ _)) (f34_s8_u k) k (fun _ => rfl) (fun v o h => (f34_b8_x k v).trans h)
theorem f34_x (k : Nat) (v : argsC (f34_e k).inp) : fexec (lookT tab) (f34_env k) [f34_b8 k, f34_b18 k] Tryd.f34 (bodyOf Tryd.f34) (mkArgs (f34_e k).inp v) (fun rs => getRes (f34_e k).out rs some) = (f34_e k).run v := by kernel_rfl
theorem f34_y : Tryd.f34.body = some (bodyOf Tryd.f34) := by kernel_rfl
theorem f34_z : (Tryd.f34.name == "runtime.NumGoroutine") = false := by kernel_rfl
theorem f34_n5 (k : Nat) : nodesAt (f34_b8 k).key (bodyOf Tryd.f34) = [(.loop (loopAt 8 (bodyOf Tryd.f34)))] := by kernel_rfl
theorem f34_n6 (k : Nat) : nodesAt (f34_b18 k).key (bodyOf Tryd.f34) = [(.loop (loopAt 18 (bodyOf Tryd.f34)))] := by kernel_rfl
theorem f34_ok (k : Nat) (hT : TTOk Tryd.prog (lookT tab)) (hL : Lasting G) : EntOk Tryd.prog G (f34_e k) := by
  have hE : EnvSound Tryd.prog G (f34_env k) := envOf_sound (ents_nil)
  exact ent_ok (subs := [f34_b8 k, f34_b18 k]) hT hE (envOf_nat _) hMix hL (subs_cons (f34_n5 k) (f34_b8_ok k hT hL hE) (subs_cons (f34_n6 k) (f34_b18_ok k hT hL hE) (subs_nil _ _ _))) (f34_e k) Tryd.func34 f34_y f34_z (f34_x k)
theorem f34_all (k : Nat) : EntOk Tryd.prog (fun w => w.ShapedOpen Tryd.prog) (f34_e k) := f34_ok k hTab (lasting_shaped _)

def f32_env (k : Nat) : Env := envOf [f38_e k]
def f32_b34 (k : Nat) : Sub := { key := 34, inp := ⟨[.data (.list (.agg (.pair .str (.pair (.int .i64) (.pair (.list .str) .unit))))), .dead, .dead, .dead, .data .str, .data (.int .i64), .data (.int .i64), .dead, .dead, .dead, .dead, .dead, .dead, .dead, .dead, .dead, .dead, .dead, .dead, .dead, .dead, .dead, .dead, .dead, .dead, .dead, .dead, .dead, .dead, .dead, .dead, .dead, .dead, .dead, .dead, .dead, .dead, .dead, .dead, .dead, .dead, .dead, .dead, .dead, .dead, .dead, .dead, .dead, .dead, .dead, .dead, .dead, .dead, .dead, .dead, .dead, .dead, .dead, .dead, .dead, .dead, .dead, .dead, .dead, .dead, .dead, .dead, .dead, .dead, .dead, .dead, .dead, .dead, .dead, .dead, .dead, .dead, .dead], [], [], []⟩, ways := [⟨.x 2, ⟨[.data (.list (.agg (.pair .str (.pair (.int .i64) (.pair (.list .str) .unit))))), .dead, .dead, .dead, .data .str, .data (.int .i64), .dead, .dead, .dead, .dead, .dead, .dead, .dead, .dead, .dead, .dead, .dead, .dead, .dead, .dead, .dead, .dead, .dead, .dead, .dead, .dead, .dead, .dead, .dead, .dead, .dead, .dead, .dead, .dead, .dead, .dead, .dead, .dead, .dead, .dead, .dead, .dead, .dead, .dead, .dead, .dead, .dead, .dead, .dead, .dead, .dead, .dead, .dead, .dead, .dead, .dead, .dead, .dead, .dead, .dead, .dead, .dead, .dead, .dead, .dead, .dead, .dead, .dead, .dead, .dead, .dead, .dead, .dead, .dead, .dead, .dead, .dead, .dead], [], [], []⟩⟩], run := fun v => iter (f32_s34_u k) k v }
def f32_b10 (k : Nat) : Sub := { key := 10, inp := ⟨[.data (.list (.agg (.pair .str (.pair (.int .i64) (.pair (.list .str) .unit))))), .dead, .dead, .dead, .data .str, .data (.int .i64), .dead, .dead, .dead, .dead, .dead, .dead, .dead, .dead, .dead, .dead, .dead, .dead, .dead, .dead, .dead, .dead, .dead, .dead, .dead, .dead, .dead, .dead, .dead, .dead, .dead, .dead, .dead, .dead, .dead, .dead, .dead, .dead, .dead, .dead, .dead, .dead, .dead, .dead, .dead, .dead, .dead, .dead, .dead, .dead, .dead, .dead, .dead, .dead, .dead, .dead, .dead, .dead, .dead, .dead, .dead, .dead, .dead, .dead, .dead, .dead, .dead, .dead, .dead, .dead, .dead, .dead, .dead, .dead, .dead, .dead, .dead, .dead], [], [], []⟩, ways := [⟨.x 0, ⟨[.dead, .dead, .dead, .dead, .data .str, .dead, .dead, .dead, .dead, .dead, .dead, .dead, .dead, .dead, .dead, .dead, .dead, .dead, .dead, .dead, .dead, .dead, .dead, .dead, .dead, .dead, .dead, .dead, .dead, .dead, .dead, .dead, .dead, .dead, .dead, .dead, .dead, .dead, .dead, .dead, .dead, .dead, .dead, .dead, .dead, .dead, .dead, .dead, .dead, .dead, .dead, .dead, .dead, .dead, .dead, .dead, .dead, .dead, .dead, .dead, .dead, .dead, .dead, .dead, .dead, .dead, .dead, .dead, .dead, .dead, .dead, .dead, .dead, .dead, .dead, .dead, .dead, .dead], [], [], []⟩⟩], run := fun v => iter (f32_s10_u k) k v }
theorem f32_b34_x (k : Nat) (v : ((List (ByteArray × Int × (List ByteArray) × Unit)) × ByteArray × Int × Int × Unit)) : exec (lookT tab) (f32_env k) [] (loopAt 34 (bodyOf Tryd.f32)) (mkSt (f32_b34 k).inp v) (loopKs (f32_b34 k).inp (f32_b34 k).ways) = f32_s34_u k v := by kernel_rfl
theorem f32_b34_ok (k : Nat) (hT : TTOk Tryd.prog (lookT tab)) (hL : Lasting G) (hE : EnvSound Tryd.prog G (f32_env k)) : SubSound Tryd.prog G (f32_b34 k) (.loop (loopAt 34 (bodyOf Tryd.f32))) :=
  sub_loop (subs := []) hT hE (envOf_nat _) hMix hL (subs_nil _ _ _) (f32_s34_u k) k (fun _ => rfl) (fun v o h => (f32_b34_x k v).trans h)
theorem f32_b10_x (k : Nat) (v : ((List (ByteArray × Int × (List ByteArray) × Unit)) × ByteArray × Int × Unit)) : exec (lookT tab) (f32_env k) [f32_b34 k] (loopAt 10 (bodyOf Tryd.f32)) (mkSt (f32_b10 k).inp v) (loopKs (f32_b10 k).inp (f32_b10 k).ways) = f32_s10_u k v := by kernel_rfl
theorem f32_n19 (k : Nat) : nodesAt (f32_b34 k).key (loopAt 10 (bodyOf Tryd.f32)) = [(.loop (loopAt 34 (bodyOf Tryd.f32)))] := by kernel_rfl
theorem f32_b10_ok (k : Nat) (hT : TTOk Tryd.prog (lookT tab)) (hL : Lasting G) (hE : EnvSound Tryd.prog G (f32_env k)) : SubSound Tryd.prog G (f32_b10 k) (.loop (loopAt 10 (bodyOf Tryd.f32))) :=
  sub_loop (subs := [f32_b34 k]) hT hE (envOf_nat _) hMix hL (subs_cons (f32_n19 k) (f32_b34_ok k hT hL hE) (subs_nil _ _ _)) (f32_s10_u k) k (fun _ => rfl) (fun v o h => (f32_b10_x k v).trans h)
theorem f32_x (k : Nat) (v : argsC (f32_e k).inp) : fexec (lookT tab) (f32_env k) [f32_b10 k, f32_b34 k] Tryd.f32 (bodyOf Tryd.f32) (mkArgs (f32_e k).inp v) (fun rs => getRes (f32_e k).out rs some) = (f32_e k).run v := by kernel_rfl
theorem f32_y : Tryd.f32.body = some (bodyOf Tryd.f32) := by kernel_rfl
theorem f32_z : (Tryd.f32.name == "runtime.NumGoroutine") = false := by kernel_rfl
theorem f32_n20 (k : Nat) : nodesAt (f32_b10 k).key (bodyOf Tryd.f32) = [(.loop (loopAt 10 (bodyOf Tryd.f32)))] := by kernel_rfl
theorem f32_n21 (k : Nat) : nodesAt (f32_b34 k).key (bodyOf Tryd.f32) = [(.loop (loopAt 34 (bodyOf Tryd.f32)))] := by kernel_rfl
theorem f32_ok (k : Nat) (hT : TTOk Tryd.prog (lookT tab)) (hL : Lasting G) (h0 : EntOk Tryd.prog G (f38_e k)) : EntOk Tryd.prog G (f32_e k) := by
  have hE : EnvSound Tryd.prog G (f32_env k) := envOf_sound (ents_cons h0 (ents_nil))
  exact ent_ok (subs := [f32_b10 k, f32_b34 k]) hT hE (envOf_nat _) hMix hL (subs_cons (f32_n20 k) (f32_b10_ok k hT hL hE) (subs_cons (f32_n21 k) (f32_b34_ok k hT hL hE) (subs_nil _ _ _))) (f32_e k) Tryd.func32 f32_y f32_z (f32_x k)
theorem f32_all (k : Nat) : EntOk Tryd.prog (fun w => w.ShapedOpen Tryd.prog) (f32_e k) := f32_ok k hTab (lasting_shaped _) (f38_all k)

def f6_env (k : Nat) : Env := envOf [f29_e k, f30_e k, f31_e k, f32_e k, f33_e k, f34_e k]
theorem f6_x (k : Nat) (v : argsC (f6_e k).inp) : fexec (lookT tab) (f6_env k) [] Tryd.f6 (bodyOf Tryd.f6) (mkArgs (f6_e k).inp v) (fun rs => getRes (f6_e k).out rs some) = (f6_e k).run v := by kernel_rfl
theorem f6_y : Tryd.f6.body = some (bodyOf Tryd.f6) := by kernel_rfl
theorem f6_z : (Tryd.f6.name == "runtime.NumGoroutine") = false := by kernel_rfl
theorem f6_ok (k : Nat) (hT : TTOk Tryd.prog (lookT tab)) (hL : Lasting G) (h0 : EntOk Tryd.prog G (f29_e k)) (h1 : EntOk Tryd.prog G (f30_e k)) (h2 : EntOk Tryd.prog G (f31_e k)) (h3 : EntOk Tryd.prog G (f32_e k)) (h4 : EntOk Tryd.prog G (f33_e k)) (h5 : EntOk Tryd.prog G (f34_e k)) : EntOk Tryd.prog G (f6_e k) := by
  have hE : EnvSound Tryd.prog G (f6_env k) := envOf_sound (ents_cons h0 (ents_cons h1 (ents_cons h2 (ents_cons h3 (ents_cons h4 (ents_cons h5 (ents_nil)))))))
  exact ent_ok (subs := []) hT hE (envOf_nat _) hMix hL (subs_nil _ _ _) (f6_e k) Tryd.func6 f6_y f6_z (f6_x k)
theorem f6_all (k : Nat) : EntOk Tryd.prog (fun w => w.ShapedOpen Tryd.prog) (f6_e k) := f6_ok k hTab (lasting_shaped _) (f29_all k) (f30_all k) (f31_all k) (f32_all k) (f33_all k) (f34_all k)

def f70_env (k : Nat) : Env := envOf [f71_e k]
theorem f70_x (k : Nat) (v : argsC (f70_e k).inp) : fexec (lookT tab) (f70_env k) [] Tryd.f70 (bodyOf Tryd.f70) (mkArgs (f70_e k).inp v) (fun rs => getRes (f70_e k).out rs some) = (f70_e k).run v := by kernel_rfl
theorem f70_y : Tryd.f70.body = some (bodyOf Tryd.f70) := by kernel_rfl
theorem f70_z : (Tryd.f70.name == "runtime.NumGoroutine") = false := by kernel_rfl
theorem f70_ok (k : Nat) (hT : TTOk Tryd.prog (lookT tab)) (hL : Lasting G) (h0 : EntOk Tryd.prog G (f71_e k)) : EntOk Tryd.prog G (f70_e k) := by
  have hE : EnvSound Tryd.prog G (f70_env k) := envOf_sound (ents_cons h0 (ents_nil))
  exact ent_ok (subs := []) hT hE (envOf_nat _) hMix hL (subs_nil _ _ _) (f70_e k) Tryd.func70 f70_y f70_z (f70_x k)
theorem f70_all (k : Nat) : EntOk Tryd.prog (fun w => w.ShapedOpen Tryd.prog) (f70_e k) := f70_ok k hTab (lasting_shaped _) (f71_all k)

def f69_env (k : Nat) : Env := envOf [f70_e k]
def f69_b6 (k : Nat) : Sub := { key := 6, inp := ⟨[.data (.list (.agg (.pair .str (.pair .str .unit)))), .data .str, .fn 70, .dead, .dead, .dead, .dead, .dead, .data (.int .i64), .data (.int .i64), .data (.int .i64), .dead, .dead, .dead, .dead, .dead, .dead, .dead, .dead, .dead, .dead, .dead, .dead, .dead, .dead, .dead, .dead, .dead, .dead, .dead, .dead, .dead, .dead, .dead, .dead, .dead, .dead, .dead, .dead, .dead, .dead, .dead, .dead, .dead, .dead, .dead, .dead, .dead, .dead], [], [], []⟩, ways := [⟨.x 0, ⟨[.data (.list (.agg (.pair .str (.pair .str .unit)))), .data .str, .fn 70, .dead, .dead, .dead, .dead, .dead, .data (.int .i64), .data (.int .i64), .dead, .dead, .dead, .dead, .dead, .dead, .dead, .dead, .dead, .dead, .dead, .dead, .dead, .dead, .dead, .dead, .dead, .dead, .dead, .dead, .dead, .dead, .dead, .dead, .dead, .dead, .dead, .dead, .dead, .dead, .dead, .dead, .dead, .dead, .dead, .dead, .dead, .dead, .dead], [], [], []⟩⟩], run := fun v => iter (f69_s6_u k) k v }
theorem f69_b6_x (k : Nat) (v : ((List (ByteArray × ByteArray × Unit)) × ByteArray × Int × Int × Int × Unit)) : exec (lookT tab) (f69_env k) [] (loopAt 6 (bodyOf Tryd.f69)) (mkSt (f69_b6 k).inp v) (loopKs (f69_b6 k).inp (f69_b6 k).ways) = f69_s6_u k v := by kernel_rfl
theorem f69_b6_ok (k : Nat) (hT : TTOk Tryd.prog (lookT tab)) (hL : Lasting G) (hE : EnvSound Tryd.prog G (f69_env k)) : SubSound Tryd.prog G (f69_b6 k) (.loop (loopAt 6 (bodyOf Tryd.f69))) :=
  sub_loop (subs := []) hT hE (envOf_nat _) hMix hL (subs_nil _ _ _) (f69_s6_u k) k (fun _ => rfl) (fun v o h => (f69_b6_x k v).trans h)
theorem f69_x (k : Nat) (v : argsC (f69_e k).inp) : fexec (lookT tab) (f69_env k) [f69_b6 k] Tryd.f69 (bodyOf Tryd.f69) (mkArgs (f69_e k).inp v) (fun rs => getRes (f69_e k).out rs some) = (f69_e k).run v := by kernel_rfl
theorem f69_y : Tryd.f69.body = some (bodyOf Tryd.f69) := by kernel_rfl
theorem f69_z : (Tryd.f69.name == "runtime.NumGoroutine") = false := by kernel_rfl
theorem f69_n5 (k : Nat) : nodesAt (f69_b6 k).key (bodyOf Tryd.f69) = [(.loop (loopAt 6 (bodyOf Tryd.f69)))] := by kernel_rfl
theorem f69_ok (k : Nat) (hT : TTOk Tryd.prog (lookT tab)) (hL : Lasting G) (h0 : EntOk Tryd.prog G (f70_e k)) : EntOk Tryd.prog G (f69_e k) := by
  have hE : EnvSound Tryd.prog G (f69_env k) := envOf_sound (ents_cons h0 (ents_nil))
  exact ent_ok (subs := [f69_b6 k]) hT hE (envOf_nat _) hMix hL (subs_cons (f69_n5 k) (f69_b6_ok k hT hL hE) (subs_nil _ _ _)) (f69_e k) Tryd.func69 f69_y f69_z (f69_x k)
theorem f69_all (k : Nat) : EntOk Tryd.prog (fun w => w.ShapedOpen Tryd.prog) (f69_e k) := f69_ok k hTab (lasting_shaped _) (f70_all k)

def f51_env (k : Nat) : Env := envOf [f69_e k]
theorem f51_x (k : Nat) (v : argsC (f51_e k).inp) : fexec (lookT tab) (f51_env k) [] Tryd.f51 (bodyOf Tryd.f51) (mkArgs (f51_e k).inp v) (fun rs => getRes (f51_e k).out rs some) = (f51_e k).run v := by kernel_rfl
theorem f51_y : Tryd.f51.body = some (bodyOf Tryd.f51) := by kernel_rfl
theorem f51_z : (Tryd.f51.name == "runtime.NumGoroutine") = false := by kernel_rfl
theorem f51_ok (k : Nat) (hT : TTOk Tryd.prog (lookT tab)) (hL : Lasting G) (h0 : EntOk Tryd.prog G (f69_e k)) : EntOk Tryd.prog G (f51_e k) := by
  have hE : EnvSound Tryd.prog G (f51_env k) := envOf_sound (ents_cons h0 (ents_nil))
  exact ent_ok (subs := []) hT hE (envOf_nat _) hMix hL (subs_nil _ _ _) (f51_e k) Tryd.func51 f51_y f51_z (f51_x k)
theorem f51_all (k : Nat) : EntOk Tryd.prog (fun w => w.ShapedOpen Tryd.prog) (f51_e k) := f51_ok k hTab (lasting_shaped _) (f69_all k)

def f54_env (k : Nat) : Env := envOf [f74_e k]
def f54_b6 (k : Nat) : Sub := { key := 6, inp := ⟨[.data (.list (.list (.agg (.pair .str (.pair .str .unit))))), .dead, .dead, .data (.int .i64), .dead, .dead, .dead, .dead, .dead, .data (.list (.list (.agg (.pair .str (.pair .str .unit))))), .data (.int .i64), .data (.int .i64), .dead, .dead, .dead, .dead, .dead, .dead, .dead, .dead, .dead, .dead, .dead, .dead, .dead, .dead, .dead, .dead, .dead, .dead, .dead, .dead, .dead, .dead, .dead, .dead], [], [], []⟩, ways := [⟨.x 0, ⟨[.data (.list (.list (.agg (.pair .str (.pair .str .unit))))), .dead, .dead, .data (.int .i64), .dead, .dead, .dead, .dead, .dead, .dead, .dead, .dead, .dead, .dead, .dead, .dead, .dead, .dead, .dead, .dead, .dead, .dead, .dead, .dead, .dead, .dead, .dead, .dead, .dead, .dead, .dead, .dead, .dead, .dead, .dead, .dead], [], [], []⟩⟩], run := fun v => iter (f54_s6_u k) k v }
def f54_b22 (k : Nat) : Sub := { key := 22, inp := ⟨[.dead, .dead, .dead, .dead, .dead, .dead, .osl 0, .dead, .dead, .dead, .dead, .dead, .dead, .dead, .dead, .dead, .dead, .dead, .dead, .dead, .dead, .dead, .dead, .dead, .dead, .data (.list (.list (.agg (.pair .str (.pair .str .unit))))), .data (.int .i64), .data (.int .i64), .dead, .dead, .dead, .dead, .dead, .dead, .dead, .dead], [.row (.agg (.pair .str (.pair .str .unit)))], [], []⟩, ways := [⟨.x 2, ⟨[.dead, .dead, .dead, .dead, .dead, .dead, .osl 0, .dead, .dead, .dead, .dead, .dead, .dead, .dead, .dead, .dead, .dead, .dead, .dead, .dead, .dead, .dead, .dead, .dead, .dead, .dead, .dead, .dead, .dead, .dead, .dead, .dead, .dead, .dead, .dead, .dead], [.row (.agg (.pair .str (.pair .str .unit)))], [], []⟩⟩], run := fun v => iter (f54_s22_u k) k v }
theorem f54_b6_x (k : Nat) (v : ((List (List (ByteArray × ByteArray × Unit))) × Int × (List (List (ByteArray × ByteArray × Unit))) × Int × Int × Unit)) : exec (lookT tab) (f54_env k) [] (loopAt 6 (bodyOf Tryd.f54)) (mkSt (f54_b6 k).inp v) (loopKs (f54_b6 k).inp (f54_b6 k).ways) = f54_s6_u k v := by kernel_rfl
theorem f54_b6_ok (k : Nat) (hT : TTOk Tryd.prog (lookT tab)) (hL : Lasting G) (hE : EnvSound Tryd.prog G (f54_env k)) : SubSound Tryd.prog G (f54_b6 k) (.loop (loopAt 6 (bodyOf Tryd.f54))) :=
  sub_loop (subs := []) hT hE (envOf_nat _) hMix hL (subs_nil _ _ _) (f54_s6_u k) k (fun _ => rfl) (fun v o h => (f54_b6_x k v).trans h)
theorem f54_b22_x (k : Nat) (v : ((List (List (ByteArray × ByteArray × Unit))) × Int × Int × (List (ByteArray × ByteArray × Unit)) × Unit)) : exec (lookT tab) (f54_env k) [] (loopAt 22 (bodyOf Tryd.f54)) (mkSt (f54_b22 k).inp v) (loopKs (f54_b22 k).inp (f54_b22 k).ways) = f54_s22_u k v := by kernel_rfl
theorem f54_b22_ok (k : Nat) (hT : TTOk Tryd.prog (lookT tab)) (hL : Lasting G) (hE : EnvSound Tryd.prog G (f54_env k)) : SubSound Tryd.prog G (f54_b22 k) (.loop (loopAt 22 (bodyOf Tryd.f54))) :=
  sub_loop (subs := []) hT hE (envOf_nat _) hMix hL (subs_nil _ _ _) (f54_s22_u k) k (fun _ => rfl) (fun v o h => (f54_b22_x k v).trans h)
theorem f54_x (k : Nat) (v : argsC (f54_e k).inp) : fexec (lookT tab) (f54_env k) [f54_b22 k, f54_b6 k] Tryd.f54 (bodyOf Tryd.f54) (mkArgs (f54_e k).inp v) (fun rs => getRes (f54_e k).out rs some) = (f54_e k).run v := by kernel_rfl
theorem f54_y : Tryd.f54.body = some (bodyOf Tryd.f54) := by kernel_rfl
theorem f54_z : (Tryd.f54.name == "runtime.NumGoroutine") = false := by kernel_rfl
theorem f54_n4 (k : Nat) : nodesAt (f54_b22 k).key (bodyOf Tryd.f54) = [(.loop (loopAt 22 (bodyOf Tryd.f54)))] := by kernel_rfl
theorem f54_n5 (k : Nat) : nodesAt (f54_b6 k).key (bodyOf Tryd.f54) = [(.loop (loopAt 6 (bodyOf Tryd.f54)))] := by kernel_rfl
theorem f54_ok (k : Nat) (hT : TTOk Tryd.prog (lookT tab)) (hL : Lasting G) (h0 : EntOk Tryd.prog G (f74_e k)) : EntOk Tryd.prog G (f54_e k) := by
  have hE : EnvSound Tryd.prog G (f54_env k) := envOf_sound (ents_cons h0 (ents_nil))
  exact ent_ok (subs := [f54_b22 k, f54_b6 k]) hT hE (envOf_nat _) hMix hL (subs_cons (f54_n4 k) (f54_b22_ok k hT hL hE) (subs_cons (f54_n5 k) (f54_b6_ok k hT hL hE) (subs_nil _ _ _))) (f54_e k) Tryd.func54 f54_y f54_z (f54_x k)
theorem f54_all (k : Nat) : EntOk Tryd.prog (fun w => w.ShapedOpen Tryd.prog) (f54_e k) := f54_ok k hTab (lasting_shaped _) (f74_all k)

def f23_env (k : Nat) : Env := envOf [f26_e k, f51_e k, f54_e k]
theorem f23_x (k : Nat) (v : argsC (f23_e k).inp) : fexec (lookT tab) (f23_env k) [] Tryd.f23 (bodyOf Tryd.f23) (mkArgs (f23_e k).inp v) (fun rs => getRes (f23_e k).out rs some) = (f23_e k).run v := by kernel_rfl
theorem f23_y : Tryd.f23.body = some (bodyOf Tryd.f23) := by kernel_rfl
theorem f23_z : (Tryd.f23.name == "runtime.NumGoroutine") = false := by kernel_rfl
theorem f23_ok (k : Nat) (hT : TTOk Tryd.prog (lookT tab)) (hL : Lasting G) (h0 : EntOk Tryd.prog G (f26_e k)) (h1 : EntOk Tryd.prog G (f51_e k)) (h2 : EntOk Tryd.prog G (f54_e k)) : EntOk Tryd.prog G (f23_e k) := by
  have hE : EnvSound Tryd.prog G (f23_env k) := envOf_sound (ents_cons h0 (ents_cons h1 (ents_cons h2 (ents_nil))))
  exact ent_ok (subs := []) hT hE (envOf_nat _) hMix hL (subs_nil _ _ _) (f23_e k) Tryd.func23 f23_y f23_z (f23_x k)
theorem f23_all (k : Nat) : EntOk Tryd.prog (fun w => w.ShapedOpen Tryd.prog) (f23_e k) := f23_ok k hTab (lasting_shaped _) (f26_all k) (f51_all k) (f54_all k)

def f21_env (k : Nat) : Env := envOf [f26_e k, f12_e k, f14_e k, f50_e k, f51_e k, f52_e k]
theorem f21_x (k : Nat) (v : argsC (f21_e k).inp) : fexec (lookT tab) (f21_env k) [] Tryd.f21 (bodyOf Tryd.f21) (mkArgs (f21_e k).inp v) (fun rs => getRes (f21_e k).out rs some) = (f21_e k).run v := by kernel_rfl
theorem f21_y : Tryd.f21.body = some (bodyOf Tryd.f21) := by kernel_rfl
theorem f21_z : (Tryd.f21.name == "runtime.NumGoroutine") = false := by kernel_rfl
theorem f21_ok (k : Nat) (hT : TTOk Tryd.prog (lookT tab)) (hL : Lasting G) (h0 : EntOk Tryd.prog G (f26_e k)) (h1 : EntOk Tryd.prog G (f12_e k)) (h2 : EntOk Tryd.prog G (f14_e k)) (h3 : EntOk Tryd.prog G (f50_e k)) (h4 : EntOk Tryd.prog G (f51_e k)) (h5 : EntOk Tryd.prog G (f52_e k)) : EntOk Tryd.prog G (f21_e k) := by
  have hE : EnvSound Tryd.prog G (f21_env k) := envOf_sound (ents_cons h0 (ents_cons h1 (ents_cons h2 (ents_cons h3 (ents_cons h4 (ents_cons h5 (ents_nil)))))))
  exact ent_ok (subs := []) hT hE (envOf_nat _) hMix hL (subs_nil _ _ _) (f21_e k) Tryd.func21 f21_y f21_z (f21_x k)
theorem f21_all (k : Nat) : EntOk Tryd.prog (fun w => w.ShapedOpen Tryd.prog) (f21_e k) := f21_ok k hTab (lasting_shaped _) (f26_all k) (f12_all k) (f14_all k) (f50_all k) (f51_all k) (f52_all k)

def f5_env (k : Nat) : Env := envOf [f9_e k, f16_e k, f21_e k, f22_e k, f23_e k, f24_e k, f25_e k, f20_e k, f26_e k, f27_e k, f28_e k]
theorem f5_x (k : Nat) (v : argsC (f5_e k).inp) : fexec (lookT tab) (f5_env k) [] Tryd.f5 (bodyOf Tryd.f5) (mkArgs (f5_e k).inp v) (fun rs => getRes (f5_e k).out rs some) = (f5_e k).run v := by kernel_rfl
theorem f5_y : Tryd.f5.body = some (bodyOf Tryd.f5) := by kernel_rfl
theorem f5_z : (Tryd.f5.name == "runtime.NumGoroutine") = false := by kernel_rfl
theorem f5_ok (k : Nat) (hT : TTOk Tryd.prog (lookT tab)) (hL : Lasting G) (h0 : EntOk Tryd.prog G (f9_e k)) (h1 : EntOk Tryd.prog G (f16_e k)) (h2 : EntOk Tryd.prog G (f21_e k)) (h3 : EntOk Tryd.prog G (f22_e k)) (h4 : EntOk Tryd.prog G (f23_e k)) (h5 : EntOk Tryd.prog G (f24_e k)) (h6 : EntOk Tryd.prog G (f25_e k)) (h7 : EntOk Tryd.prog G (f20_e k)) (h8 : EntOk Tryd.prog G (f26_e k)) (h9 : EntOk Tryd.prog G (f27_e k)) (h10 : EntOk Tryd.prog G (f28_e k)) : EntOk Tryd.prog G (f5_e k) := by
  have hE : EnvSound Tryd.prog G (f5_env k) := envOf_sound (ents_cons h0 (ents_cons h1 (ents_cons h2 (ents_cons h3 (ents_cons h4 (ents_cons h5 (ents_cons h6 (ents_cons h7 (ents_cons h8 (ents_cons h9 (ents_cons h10 (ents_nil))))))))))))
  exact ent_ok (subs := []) hT hE (envOf_nat _) hMix hL (subs_nil _ _ _) (f5_e k) Tryd.func5 f5_y f5_z (f5_x k)
theorem f5_all (k : Nat) : EntOk Tryd.prog (fun w => w.ShapedOpen Tryd.prog) (f5_e k) := f5_ok k hTab (lasting_shaped _) (f9_all k) (f16_all k) (f21_all k) (f22_all k) (f23_all k) (f24_all k) (f25_all k) (f20_all k) (f26_all k) (f27_all k) (f28_all k)

end Go.Proofs.YtjbaeojagkkbgaaDoor
