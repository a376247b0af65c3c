/- The code of the program does what the plain functions say. -/
import Derived.Test.YtpffibjemegioaaGreatDoorQPlain
import Derived.Test.YtpffibjemegioaaGreatDoorQTab
set_option linter.unusedVariables false
namespace Go.Proofs.YtpffibjemegioaaGreatDoor
open Go Go.RowKit Go.PB
variable {G : Gv}
def f58_env (k : Nat) : Env := envOf []
theorem f58_x (k : Nat) (v : argsC (f58_e k).inp) : fexec (lookT tab) (f58_env k) [] Tryz.f58 (bodyOf Tryz.f58) (mkArgs (f58_e k).inp v) (fun rs => getRes (f58_e k).out rs some) = (f58_e k).run v := by kernel_rfl
theorem f58_y : Tryz.f58.body = some (bodyOf Tryz.f58) := by kernel_rfl
theorem f58_z : (Tryz.f58.name == "runtime.NumGoroutine") = false := by kernel_rfl
theorem f58_ok (k : Nat) (hT : TTOk Tryz.prog (lookT tab)) (hL : Lasting G) : EntOk Tryz.prog G (f58_e k) := by
  have hE : EnvSound Tryz.prog G (f58_env k) := envOf_sound (ents_nil)
  exact ent_ok (subs := []) hT hE (envOf_nat _) hMix hL (subs_nil _ _ _) (f58_e k) Tryz.func58 f58_y f58_z (f58_x k)

def f60_env (k : Nat) : Env := envOf []
def f60_b8 (k : Nat) : Sub := { key := 8, inp := ⟨[.data (.list (.agg (.pair .str (.pair .str .unit)))), .data (.list (.agg (.pair .str (.pair .str .unit)))), .dead, .dead, .dead, .dead, .dead, .dead, .dead, .dead, .dead, .dead, .data (.int .i64), .data (.int .i64), .dead, .dead, .dead, .dead, .dead, .dead, .dead, .dead, .dead, .dead, .dead, .dead], [], [], []⟩, ways := [⟨.ret, ⟨[.dead, .dead, .dead, .dead, .data .bool, .dead, .dead, .dead, .dead, .dead, .dead, .dead, .dead, .dead, .dead, .dead, .dead, .dead, .dead, .dead, .dead, .dead, .dead, .dead, .dead, .dead], [], [], []⟩⟩, ⟨.x 0, ⟨[.dead, .dead, .dead, .dead, .dead, .dead, .dead, .dead, .dead, .dead, .dead, .dead, .dead, .dead, .dead, .dead, .dead, .dead, .dead, .dead, .dead, .dead, .dead, .dead, .dead, .dead], [], [], []⟩⟩], run := fun v => iter (f60_s8_u k) k v }
theorem f60_b8_x (k : Nat) (v : ((List (ByteArray × ByteArray × Unit)) × (List (ByteArray × ByteArray × Unit)) × Int × Int × Unit)) : exec (lookT tab) (f60_env k) [] (loopAt 8 (bodyOf Tryz.f60)) (mkSt (f60_b8 k).inp v) (loopKs (f60_b8 k).inp (f60_b8 k).ways) = f60_s8_u k v := by kernel_rfl
theorem f60_b8_ok (k : Nat) (hT : TTOk Tryz.prog (lookT tab)) (hL : Lasting G) (hE : EnvSound Tryz.prog G (f60_env k)) : SubSound Tryz.prog G (f60_b8 k) (.loop (loopAt 8 (bodyOf Tryz.f60))) :=
  sub_loop (subs := []) hT hE (envOf_nat _) hMix hL (subs_nil _ _ _) (f60_s8_u k) k (fun _ => rfl) (fun v o h => (f60_b8_x k v).trans h) (by kernel_rfl)
theorem f60_x (k : Nat) (v : argsC (f60_e k).inp) : fexec (lookT tab) (f60_env k) [f60_b8 k] Tryz.f60 (bodyOf Tryz.f60) (mkArgs (f60_e k).inp v) (fun rs => getRes (f60_e k).out rs some) = (f60_e k).run v := by kernel_rfl
theorem f60_y : Tryz.f60.body = some (bodyOf Tryz.f60) := by kernel_rfl
theorem f60_z : (Tryz.f60.name == "runtime.NumGoroutine") = false := by kernel_rfl
theorem f60_n2 (k : Nat) : nodesAt (f60_b8 k).key (bodyOf Tryz.f60) = [(.loop (loopAt 8 (bodyOf Tryz.f60)))] := by kernel_rfl
theorem f60_ok (k : Nat) (hT : TTOk Tryz.prog (lookT tab)) (hL : Lasting G) : EntOk Tryz.prog G (f60_e k) := by
  have hE : EnvSound Tryz.prog G (f60_env k) := envOf_sound (ents_nil)
  exact ent_ok (subs := [f60_b8 k]) hT hE (envOf_nat _) hMix hL (subs_cons (f60_n2 k) (f60_b8_ok k hT hL hE) (subs_nil _ _ _)) (f60_e k) Tryz.func60 f60_y f60_z (f60_x k)

def f40_env (k : Nat) : Env := envOf []
theorem f40_x (k : Nat) (v : argsC (f40_e k).inp) : fexec (lookT tab) (f40_env k) [] Tryz.f40 (bodyOf Tryz.f40) (mkArgs (f40_e k).inp v) (fun rs => getRes (f40_e k).out rs some) = (f40_e k).run v := by kernel_rfl
theorem f40_y : Tryz.f40.body = some (bodyOf Tryz.f40) := by kernel_rfl
theorem f40_z : (Tryz.f40.name == "runtime.NumGoroutine") = false := by kernel_rfl
theorem f40_ok (k : Nat) (hT : TTOk Tryz.prog (lookT tab)) (hL : Lasting G) : EntOk Tryz.prog G (f40_e k) := by
  have hE : EnvSound Tryz.prog G (f40_env k) := envOf_sound (ents_nil)
  exact ent_ok (subs := []) hT hE (envOf_nat _) hMix hL (subs_nil _ _ _) (f40_e k) Tryz.func40 f40_y f40_z (f40_x k)

def f92_env (k : Nat) : Env := envOf [f134_e k]
theorem f92_x (k : Nat) (v : argsC (f92_e k).inp) : fexec (lookT tab) (f92_env k) [] Tryz.f92 (bodyOf Tryz.f92) (mkArgs (f92_e k).inp v) (fun rs => getRes (f92_e k).out rs some) = (f92_e k).run v := by kernel_rfl
theorem f92_y : Tryz.f92.body = some (bodyOf Tryz.f92) := by kernel_rfl
theorem f92_z : (Tryz.f92.name == "runtime.NumGoroutine") = false := by kernel_rfl
theorem f92_ok (k : Nat) (hT : TTOk Tryz.prog (lookT tab)) (hL : Lasting G) (h0 : EntOk Tryz.prog G (f134_e k)) : EntOk Tryz.prog G (f92_e k) := by
  have hE : EnvSound Tryz.prog G (f92_env k) := envOf_sound (ents_cons h0 (ents_nil))
  exact ent_ok (subs := []) hT hE (envOf_nat _) hMix hL (subs_nil _ _ _) (f92_e k) Tryz.func92 f92_y f92_z (f92_x k)

def f95_env (k : Nat) : Env := envOf []
theorem f95_x (k : Nat) (v : argsC (f95_e k).inp) : fexec (lookT tab) (f95_env k) [] Tryz.f95 (bodyOf Tryz.f95) (mkArgs (f95_e k).inp v) (fun rs => getRes (f95_e k).out rs some) = (f95_e k).run v := by kernel_rfl
theorem f95_y : Tryz.f95.body = some (bodyOf Tryz.f95) := by kernel_rfl
theorem f95_z : (Tryz.f95.name == "runtime.NumGoroutine") = false := by kernel_rfl
theorem f95_ok (k : Nat) (hT : TTOk Tryz.prog (lookT tab)) (hL : Lasting G) : EntOk Tryz.prog G (f95_e k) := by
  have hE : EnvSound Tryz.prog G (f95_env k) := envOf_sound (ents_nil)
  exact ent_ok (subs := []) hT hE (envOf_nat _) hMix hL (subs_nil _ _ _) (f95_e k) Tryz.func95 f95_y f95_z (f95_x k)

def f94_env (k : Nat) : Env := envOf [f135_e k]
theorem f94_x (k : Nat) (v : argsC (f94_e k).inp) : fexec (lookT tab) (f94_env k) [] Tryz.f94 (bodyOf Tryz.f94) (mkArgs (f94_e k).inp v) (fun rs => getRes (f94_e k).out rs some) = (f94_e k).run v := by kernel_rfl
theorem f94_y : Tryz.f94.body = some (bodyOf Tryz.f94) := by kernel_rfl
theorem f94_z : (Tryz.f94.name == "runtime.NumGoroutine") = false := by kernel_rfl
theorem f94_ok (k : Nat) (hT : TTOk Tryz.prog (lookT tab)) (hL : Lasting G) (h0 : EntOk Tryz.prog G (f135_e k)) : EntOk Tryz.prog G (f94_e k) := by
  have hE : EnvSound Tryz.prog G (f94_env k) := envOf_sound (ents_cons h0 (ents_nil))
  exact ent_ok (subs := []) hT hE (envOf_nat _) hMix hL (subs_nil _ _ _) (f94_e k) Tryz.func94 f94_y f94_z (f94_x k)

def f11_env (k : Nat) : Env := envOf [f39_e k, f15_e k, f40_e k, f41_e k, f42_e k]
def f11_b8 (k : Nat) : Sub := { key := 8, inp := ⟨[.dead, .ptr 0 [], .dead, .dead, .dead, .dead, .dead, .dead, .dead, .dead, .dead, .dead, .dead, .dead, .dead, .dead, .dead, .dead, .dead, .dead, .dead, .dead, .dead, .dead, .dead, .dead, .dead, .dead, .dead, .dead, .osl 1, .data (.int .i64), .data (.int .i64), .dead, .dead, .dead, .dead, .dead, .dead, .dead, .dead, .dead, .dead, .dead, .dead, .dead, .dead, .dead, .dead, .dead, .dead, .dead, .dead, .dead, .dead, .dead, .dead, .dead, .dead, .dead, .dead, .dead, .dead, .dead, .dead, .dead, .dead, .dead, .dead, .dead, .dead, .dead, .dead, .dead, .dead, .dead, .dead, .dead, .dead, .dead, .dead, .dead, .dead, .dead, .dead, .dead, .dead, .dead, .dead, .dead, .dead, .dead, .dead, .dead, .dead], [.box (.agg (.pair (.int .i64) (.pair .str (.pair (.int .i64) (.pair (.int .i64) (.pair .bool (.pair (.list .str) (.pair (.list (.agg (.pair .str (.pair .str .unit)))) (.pair (.list .str) (.pair .str (.pair (.int .i64) (.pair (.int .i64) (.pair (.list (.int .i64)) (.pair (.list .str) (.pair .str (.pair .str (.pair (.int .i64) (.pair .str (.pair .str (.pair .str .unit)))))))))))))))))))), .row (.int .i64)], [], []⟩, ways := [⟨.ret, ⟨[.dead, .dead, .data .bool, .dead, .dead, .dead, .dead, .dead, .dead, .dead, .dead, .dead, .dead, .dead, .dead, .dead, .dead, .dead, .dead, .dead, .dead, .dead, .dead, .dead, .dead, .dead, .dead, .dead, .dead, .dead, .dead, .dead, .dead, .dead, .dead, .dead, .dead, .dead, .dead, .dead, .dead, .dead, .dead, .dead, .dead, .dead, .dead, .dead, .dead, .dead, .dead, .dead, .dead, .dead, .dead, .dead, .dead, .dead, .dead, .dead, .dead, .dead, .dead, .dead, .dead, .dead, .dead, .dead, .dead, .dead, .dead, .dead, .dead, .dead, .dead, .dead, .dead, .dead, .dead, .dead, .dead, .dead, .dead, .dead, .dead, .dead, .dead, .dead, .dead, .dead, .dead, .dead, .dead, .dead, .dead], [], [], []⟩⟩, ⟨.x 0, ⟨[.dead, .ptr 0 [], .dead, .dead, .dead, .dead, .dead, .dead, .dead, .dead, .dead, .dead, .dead, .dead, .dead, .dead, .dead, .dead, .dead, .dead, .dead, .dead, .dead, .dead, .dead, .dead, .dead, .dead, .dead, .dead, .dead, .dead, .dead, .dead, .dead, .dead, .dead, .dead, .dead, .dead, .dead, .dead, .dead, .dead, .dead, .dead, .dead, .dead, .dead, .dead, .dead, .dead, .dead, .dead, .dead, .dead, .dead, .dead, .dead, .dead, .dead, .dead, .dead, .dead, .dead, .dead, .dead, .dead, .dead, .dead, .dead, .dead, .dead, .dead, .dead, .dead, .dead, .dead, .dead, .dead, .dead, .dead, .dead, .dead, .dead, .dead, .dead, .dead, .dead, .dead, .dead, .dead, .dead, .dead, .dead], [.box (.agg (.pair (.int .i64) (.pair .str (.pair (.int .i64) (.pair (.int .i64) (.pair .bool (.pair (.list .str) (.pair (.list (.agg (.pair .str (.pair .str .unit)))) (.pair (.list .str) (.pair .str (.pair (.int .i64) (.pair (.int .i64) (.pair (.list (.int .i64)) (.pair (.list .str) (.pair .str (.pair .str (.pair (.int .i64) (.pair .str (.pair .str (.pair .str .unit))))))))))))))))))))], [], []⟩⟩], run := fun v => iter (f11_s8_u k) k v }
theorem f11_b8_x (k : Nat) (v : (Int × Int × (Int × ByteArray × Int × Int × Bool × (List ByteArray) × (List (ByteArray × ByteArray × Unit)) × (List ByteArray) × ByteArray × Int × Int × (List Int) × (List ByteArray) × ByteArray × ByteArray × Int × ByteArray × ByteArray × ByteArray × Unit) × (List Int) × Unit)) : exec (lookT tab) (f11_env k) [] (loopAt 8 (bodyOf Tryz.f11)) (mkSt (f11_b8 k).inp v) (loopKs (f11_b8 k).inp (f11_b8 k).ways) = f11_s8_u k v := by kernel_rfl
theorem f11_b8_ok (k : Nat) (hT : TTOk Tryz.prog (lookT tab)) (hL : Lasting G) (hE : EnvSound Tryz.prog G (f11_env k)) : SubSound Tryz.prog G (f11_b8 k) (.loop (loopAt 8 (bodyOf Tryz.f11))) :=
  sub_loop (subs := []) hT hE (envOf_nat _) hMix hL (subs_nil _ _ _) (f11_s8_u k) k (fun _ => rfl) (fun v o h => (f11_b8_x k v).trans h) (by kernel_rfl)
theorem f11_x (k : Nat) (v : argsC (f11_e k).inp) : fexec (lookT tab) (f11_env k) [f11_b8 k] Tryz.f11 (bodyOf Tryz.f11) (mkArgs (f11_e k).inp v) (fun rs => getRes (f11_e k).out rs some) = (f11_e k).run v := by kernel_rfl
theorem f11_y : Tryz.f11.body = some (bodyOf Tryz.f11) := by kernel_rfl
theorem f11_z : (Tryz.f11.name == "runtime.NumGoroutine") = false := by kernel_rfl
theorem f11_n14 (k : Nat) : nodesAt (f11_b8 k).key (bodyOf Tryz.f11) = [(.loop (loopAt 8 (bodyOf Tryz.f11)))] := by kernel_rfl
theorem f11_ok (k : Nat) (hT : TTOk Tryz.prog (lookT tab)) (hL : Lasting G) (h0 : EntOk Tryz.prog G (f39_e k)) (h1 : EntOk Tryz.prog G (f15_e k)) (h2 : EntOk Tryz.prog G (f40_e k)) (h3 : EntOk Tryz.prog G (f41_e k)) (h4 : EntOk Tryz.prog G (f42_e k)) : EntOk Tryz.prog G (f11_e k) := by
  have hE : EnvSound Tryz.prog G (f11_env k) := envOf_sound (ents_cons h0 (ents_cons h1 (ents_cons h2 (ents_cons h3 (ents_cons h4 (ents_nil))))))
  exact ent_ok (subs := [f11_b8 k]) hT hE (envOf_nat _) hMix hL (subs_cons (f11_n14 k) (f11_b8_ok k hT hL hE) (subs_nil _ _ _)) (f11_e k) Tryz.func11 f11_y f11_z (f11_x k)

def f48_env (k : Nat) : Env := envOf [f46_e k]
def f48_b4 (k : Nat) : Sub := { key := 4, inp := ⟨[.data (.list .str), .dead, .dead, .dead, .dead, .data (.list .str), .data (.int .i64), .data (.int .i64), .dead, .dead, .dead, .dead, .dead, .dead, .dead, .dead, .dead, .dead, .dead, .dead, .dead, .dead, .dead, .dead, .dead, .dead, .dead, .dead, .dead], [], [], []⟩, ways := [⟨.ret, ⟨[.dead, .dead, .data .bool, .dead, .dead, .dead, .dead, .dead, .dead, .dead, .dead, .dead, .dead, .dead, .dead, .dead, .dead, .dead, .dead, .dead, .dead, .dead, .dead, .dead, .dead, .dead, .dead, .dead, .dead], [], [], []⟩⟩, ⟨.x 0, ⟨[.dead, .dead, .dead, .dead, .dead, .dead, .dead, .dead, .dead, .dead, .dead, .dead, .dead, .dead, .dead, .dead, .dead, .dead, .dead, .dead, .dead, .dead, .dead, .dead, .dead, .dead, .dead, .dead, .dead], [], [], []⟩⟩], run := fun v => iter (f48_s4_u k) k v }
theorem f48_b4_x (k : Nat) (v : ((List ByteArray) × (List ByteArray) × Int × Int × Unit)) : exec (lookT tab) (f48_env k) [] (loopAt 4 (bodyOf Tryz.f48)) (mkSt (f48_b4 k).inp v) (loopKs (f48_b4 k).inp (f48_b4 k).ways) = f48_s4_u k v := by kernel_rfl
theorem f48_b4_ok (k : Nat) (hT : TTOk Tryz.prog (lookT tab)) (hL : Lasting G) (hE : EnvSound Tryz.prog G (f48_env k)) : SubSound Tryz.prog G (f48_b4 k) (.loop (loopAt 4 (bodyOf Tryz.f48))) :=
  sub_loop (subs := []) hT hE (envOf_nat _) hMix hL (subs_nil _ _ _) (f48_s4_u k) k (fun _ => rfl) (fun v o h => (f48_b4_x k v).trans h) (by kernel_rfl)
theorem f48_x (k : Nat) (v : argsC (f48_e k).inp) : fexec (lookT tab) (f48_env k) [f48_b4 k] Tryz.f48 (bodyOf Tryz.f48) (mkArgs (f48_e k).inp v) (fun rs => getRes (f48_e k).out rs some) = (f48_e k).run v := by kernel_rfl
theorem f48_y : Tryz.f48.body = some (bodyOf Tryz.f48) := by kernel_rfl
theorem f48_z : (Tryz.f48.name == "runtime.NumGoroutine") = false := by kernel_rfl
theorem f48_n5 (k : Nat) : nodesAt (f48_b4 k).key (bodyOf Tryz.f48) = [(.loop (loopAt 4 (bodyOf Tryz.f48)))] := by kernel_rfl
theorem f48_ok (k : Nat) (hT : TTOk Tryz.prog (lookT tab)) (hL : Lasting G) (h0 : EntOk Tryz.prog G (f46_e k)) : EntOk Tryz.prog G (f48_e k) := by
  have hE : EnvSound Tryz.prog G (f48_env k) := envOf_sound (ents_cons h0 (ents_nil))
  exact ent_ok (subs := [f48_b4 k]) hT hE (envOf_nat _) hMix hL (subs_cons (f48_n5 k) (f48_b4_ok k hT hL hE) (subs_nil _ _ _)) (f48_e k) Tryz.func48 f48_y f48_z (f48_x k)

def f247_env (k : Nat) : Env := envOf []
theorem f247_x (k : Nat) (v : argsC (f247_e k).inp) : fexec (lookT tab) (f247_env k) [] Tryz.f247 (bodyOf Tryz.f247) (mkArgs (f247_e k).inp v) (fun rs => getRes (f247_e k).out rs some) = (f247_e k).run v := by kernel_rfl
theorem f247_y : Tryz.f247.body = some (bodyOf Tryz.f247) := by kernel_rfl
theorem f247_z : (Tryz.f247.name == "runtime.NumGoroutine") = false := by kernel_rfl
theorem f247_ok (k : Nat) (hT : TTOk Tryz.prog (lookT tab)) (hL : Lasting G) : EntOk Tryz.prog G (f247_e k) := by
  have hE : EnvSound Tryz.prog G (f247_env k) := envOf_sound (ents_nil)
  exact ent_ok (subs := []) hT hE (envOf_nat _) hMix hL (subs_nil _ _ _) (f247_e k) Tryz.func247 f247_y f247_z (f247_x k)

def f188_env (k : Nat) : Env := envOf [f143_e k, f185_e k, f186_e k, f248_e k, f246_e k]
def f188_b28 (k : Nat) : Sub := { key := 28, inp := ⟨[.dead, .data .bool, .dead, .dead, .dead, .dead, .osl 0, .data (.list .str), .dead, .data .str, .dead, .dead, .dead, .dead, .dead, .dead, .dead, .dead, .dead, .data (.list .str), .data (.int .i64), .data (.int .i64), .dead, .dead, .dead, .dead, .dead, .dead, .dead, .dead, .dead, .dead, .dead, .dead, .dead, .dead, .dead, .dead, .dead, .dead, .dead, .dead, .dead, .dead, .dead, .dead, .dead, .dead, .dead, .dead, .dead, .dead, .dead, .dead, .dead, .dead, .dead, .dead, .dead, .dead, .dead, .data (.int .i64), .data (.int .i64), .dead, .dead, .dead, .dead, .dead, .dead, .dead, .dead, .dead, .dead, .dead, .dead, .dead, .dead, .dead, .dead, .dead, .dead, .dead, .dead], [.row (.int .u16)], [], []⟩, ways := [⟨.ret, ⟨[.dead, .dead, .dead, .dead, .data (.list (.int .u16)), .data .bool, .dead, .dead, .dead, .dead, .dead, .dead, .dead, .dead, .dead, .dead, .dead, .dead, .dead, .dead, .dead, .dead, .dead, .dead, .dead, .dead, .dead, .dead, .dead, .dead, .dead, .dead, .dead, .dead, .dead, .dead, .dead, .dead, .dead, .dead, .dead, .dead, .dead, .dead, .dead, .dead, .dead, .dead, .dead, .dead, .dead, .dead, .dead, .dead, .dead, .dead, .dead, .dead, .dead, .dead, .dead, .dead, .dead, .dead, .dead, .dead, .dead, .dead, .dead, .dead, .dead, .dead, .dead, .dead, .dead, .dead, .dead, .dead, .dead, .dead, .dead, .dead, .dead], [], [], [(4, (.int .u16))]⟩⟩, ⟨.x 2, ⟨[.dead, .data .bool, .dead, .dead, .dead, .dead, .osl 0, .data (.list .str), .dead, .data .str, .dead, .dead, .dead, .dead, .dead, .dead, .dead, .dead, .dead, .data (.list .str), .data (.int .i64), .data (.int .i64), .dead, .dead, .dead, .dead, .dead, .dead, .dead, .dead, .dead, .dead, .dead, .dead, .dead, .dead, .dead, .dead, .dead, .dead, .dead, .dead, .dead, .dead, .dead, .dead, .dead, .dead, .dead, .dead, .dead, .dead, .dead, .dead, .dead, .dead, .dead, .dead, .dead, .dead, .dead, .dead, .dead, .dead, .dead, .dead, .dead, .dead, .dead, .dead, .dead, .dead, .dead, .dead, .dead, .dead, .dead, .dead, .dead, .dead, .dead, .dead, .dead], [.row (.int .u16)], [(6, (.int .u16))], []⟩⟩], run := fun v => iter (f188_s28_u k) k v }
def f188_b12 (k : Nat) : Sub := { key := 12, inp := ⟨[.dead, .data .bool, .dead, .dead, .dead, .dead, .osl 0, .data (.list .str), .dead, .dead, .dead, .dead, .dead, .dead, .dead, .dead, .dead, .dead, .dead, .data (.list .str), .data (.int .i64), .data (.int .i64), .dead, .dead, .dead, .dead, .dead, .dead, .dead, .dead, .dead, .dead, .dead, .dead, .dead, .dead, .dead, .dead, .dead, .dead, .dead, .dead, .dead, .dead, .dead, .dead, .dead, .dead, .dead, .dead, .dead, .dead, .dead, .dead, .dead, .dead, .dead, .dead, .dead, .dead, .dead, .dead, .dead, .dead, .dead, .dead, .dead, .dead, .dead, .dead, .dead, .dead, .dead, .dead, .dead, .dead, .dead, .dead, .dead, .dead, .dead, .dead, .dead], [.row (.int .u16)], [(6, (.int .u16))], []⟩, ways := [⟨.ret, ⟨[.dead, .dead, .dead, .dead, .data (.list (.int .u16)), .data .bool, .dead, .dead, .dead, .dead, .dead, .dead, .dead, .dead, .dead, .dead, .dead, .dead, .dead, .dead, .dead, .dead, .dead, .dead, .dead, .dead, .dead, .dead, .dead, .dead, .dead, .dead, .dead, .dead, .dead, .dead, .dead, .dead, .dead, .dead, .dead, .dead, .dead, .dead, .dead, .dead, .dead, .dead, .dead, .dead, .dead, .dead, .dead, .dead, .dead, .dead, .dead, .dead, .dead, .dead, .dead, .dead, .dead, .dead, .dead, .dead, .dead, .dead, .dead, .dead, .dead, .dead, .dead, .dead, .dead, .dead, .dead, .dead, .dead, .dead, .dead, .dead, .dead], [], [], [(4, (.int .u16))]⟩⟩, ⟨.x 0, ⟨[.dead, .dead, .dead, .dead, .dead, .dead, .osl 0, .dead, .dead, .dead, .dead, .dead, .dead, .dead, .dead, .dead, .dead, .dead, .dead, .dead, .dead, .dead, .dead, .dead, .dead, .dead, .dead, .dead, .dead, .dead, .dead, .dead, .dead, .dead, .dead, .dead, .dead, .dead, .dead, .dead, .dead, .dead, .dead, .dead, .dead, .dead, .dead, .dead, .dead, .dead, .dead, .dead, .dead, .dead, .dead, .dead, .dead, .dead, .dead, .dead, .dead, .dead, .dead, .dead, .dead, .dead, .dead, .dead, .dead, .dead, .dead, .dead, .dead, .dead, .dead, .dead, .dead, .dead, .dead, .dead, .dead, .dead, .dead], [.row (.int .u16)], [], []⟩⟩], run := fun v => iter (f188_s12_u k) k v }
theorem f188_b28_x (k : Nat) (v : (Bool × (List ByteArray) × ByteArray × (List ByteArray) × Int × Int × Int × Int × (List Int) × Unit)) : exec (lookT tab) (f188_env k) [] (loopAt 28 (bodyOf Tryz.f188)) (mkSt (f188_b28 k).inp v) (loopKs (f188_b28 k).inp (f188_b28 k).ways) = f188_s28_u k v := by kernel_rfl
theorem f188_b28_ok (k : Nat) (hT : TTOk Tryz.prog (lookT tab)) (hL : Lasting G) (hE : EnvSound Tryz.prog G (f188_env k)) : SubSound Tryz.prog G (f188_b28 k) (.loop (loopAt 28 (bodyOf Tryz.f188))) :=
  sub_loop (subs := []) hT hE (envOf_nat _) hMix hL (subs_nil _ _ _) (f188_s28_u k) k (fun _ => rfl) (fun v o h => (f188_b28_x k v).trans h) (by kernel_rfl)
theorem f188_b12_x (k : Nat) (v : (Bool × (List ByteArray) × (List ByteArray) × Int × Int × (List Int) × Unit)) : exec (lookT tab) (f188_env k) [f188_b28 k] (loopAt 12 (bodyOf Tryz.f188)) (mkSt (f188_b12 k).inp v) (loopKs (f188_b12 k).inp (f188_b12 k).ways) = f188_s12_u k v := by kernel_rfl
theorem f188_n31 (k : Nat) : nodesAt (f188_b28 k).key (loopAt 12 (bodyOf Tryz.f188)) = [(.loop (loopAt 28 (bodyOf Tryz.f188)))] := by kernel_rfl
theorem f188_b12_ok (k : Nat) (hT : TTOk Tryz.prog (lookT tab)) (hL : Lasting G) (hE : EnvSound Tryz.prog G (f188_env k)) : SubSound Tryz.prog G (f188_b12 k) (.loop (loopAt 12 (bodyOf Tryz.f188))) :=
  sub_loop (subs := [f188_b28 k]) hT hE (envOf_nat _) hMix hL (subs_cons (f188_n31 k) (f188_b28_ok k hT hL hE) (subs_nil _ _ _)) (f188_s12_u k) k (fun _ => rfl) (fun v o h => (f188_b12_x k v).trans h) (by kernel_rfl)
theorem f188_x (k : Nat) (v : argsC (f188_e k).inp) : fexec (lookT tab) (f188_env k) [f188_b12 k, f188_b28 k] Tryz.f188 (bodyOf Tryz.f188) (mkArgs (f188_e k).inp v) (fun rs => getRes (f188_e k).out rs some) = (f188_e k).run v := by kernel_rfl
theorem f188_y : Tryz.f188.body = some (bodyOf Tryz.f188) := by kernel_rfl
theorem f188_z : (Tryz.f188.name == "runtime.NumGoroutine") = false := by kernel_rfl
theorem f188_n32 (k : Nat) : nodesAt (f188_b12 k).key (bodyOf Tryz.f188) = [(.loop (loopAt 12 (bodyOf Tryz.f188)))] := by kernel_rfl
theorem f188_n33 (k : Nat) : nodesAt (f188_b28 k).key (bodyOf Tryz.f188) = [(.loop (loopAt 28 (bodyOf Tryz.f188)))] := by kernel_rfl
theorem f188_ok (k : Nat) (hT : TTOk Tryz.prog (lookT tab)) (hL : Lasting G) (h0 : EntOk Tryz.prog G (f143_e k)) (h1 : EntOk Tryz.prog G (f185_e k)) (h2 : EntOk Tryz.prog G (f186_e k)) (h3 : EntOk Tryz.prog G (f248_e k)) (h4 : EntOk Tryz.prog G (f246_e k)) : EntOk Tryz.prog G (f188_e k) := by
  have hE : EnvSound Tryz.prog G (f188_env k) := envOf_sound (ents_cons h0 (ents_cons h1 (ents_cons h2 (ents_cons h3 (ents_cons h4 (ents_nil))))))
  exact ent_ok (subs := [f188_b12 k, f188_b28 k]) hT hE (envOf_nat _) hMix hL (subs_cons (f188_n32 k) (f188_b12_ok k hT hL hE) (subs_cons (f188_n33 k) (f188_b28_ok k hT hL hE) (subs_nil _ _ _))) (f188_e k) Tryz.func188 f188_y f188_z (f188_x k)

def f242_env (k : Nat) : Env := envOf []
theorem f242_x (k : Nat) (v : argsC (f242_e k).inp) : fexec (lookT tab) (f242_env k) [] Tryz.f242 (bodyOf Tryz.f242) (mkArgs (f242_e k).inp v) (fun rs => getRes (f242_e k).out rs some) = (f242_e k).run v := by kernel_rfl
theorem f242_y : Tryz.f242.body = some (bodyOf Tryz.f242) := by kernel_rfl
theorem f242_z : (Tryz.f242.name == "runtime.NumGoroutine") = false := by kernel_rfl
theorem f242_ok (k : Nat) (hT : TTOk Tryz.prog (lookT tab)) (hL : Lasting G) : EntOk Tryz.prog G (f242_e k) := by
  have hE : EnvSound Tryz.prog G (f242_env k) := envOf_sound (ents_nil)
  exact ent_ok (subs := []) hT hE (envOf_nat _) hMix hL (subs_nil _ _ _) (f242_e k) Tryz.func242 f242_y f242_z (f242_x k)

def f311_env (k : Nat) : Env := envOf []
theorem f311_x (k : Nat) (v : argsC (f311_e k).inp) : fexec (lookT tab) (f311_env k) [] Tryz.f311 (bodyOf Tryz.f311) (mkArgs (f311_e k).inp v) (fun rs => getRes (f311_e k).out rs some) = (f311_e k).run v := by kernel_rfl
theorem f311_y : Tryz.f311.body = some (bodyOf Tryz.f311) := by kernel_rfl
theorem f311_z : (Tryz.f311.name == "runtime.NumGoroutine") = false := by kernel_rfl
theorem f311_ok (k : Nat) (hT : TTOk Tryz.prog (lookT tab)) (hL : Lasting G) : EntOk Tryz.prog G (f311_e k) := by
  have hE : EnvSound Tryz.prog G (f311_env k) := envOf_sound (ents_nil)
  exact ent_ok (subs := []) hT hE (envOf_nat _) hMix hL (subs_nil _ _ _) (f311_e k) Tryz.func311 f311_y f311_z (f311_x k)

def f251_env (k : Nat) : Env := envOf [f254_e k]
theorem f251_x (k : Nat) (v : argsC (f251_e k).inp) : fexec (lookT tab) (f251_env k) [] Tryz.f251 (bodyOf Tryz.f251) (mkArgs (f251_e k).inp v) (fun rs => getRes (f251_e k).out rs some) = (f251_e k).run v := by kernel_rfl
theorem f251_y : Tryz.f251.body = some (bodyOf Tryz.f251) := by kernel_rfl
theorem f251_z : (Tryz.f251.name == "runtime.NumGoroutine") = false := by kernel_rfl
theorem f251_ok (k : Nat) (hT : TTOk Tryz.prog (lookT tab)) (hL : Lasting G) (h0 : EntOk Tryz.prog G (f254_e k)) : EntOk Tryz.prog G (f251_e k) := by
  have hE : EnvSound Tryz.prog G (f251_env k) := envOf_sound (ents_cons h0 (ents_nil))
  exact ent_ok (subs := []) hT hE (envOf_nat _) hMix hL (subs_nil _ _ _) (f251_e k) Tryz.func251 f251_y f251_z (f251_x k)

def f244_env (k : Nat) : Env := envOf [f242_e k, f287_e k]
theorem f244_x (k : Nat) (v : argsC (f244_e k).inp) : fexec (lookT tab) (f244_env k) [] Tryz.f244 (bodyOf Tryz.f244) (mkArgs (f244_e k).inp v) (fun rs => getRes (f244_e k).out rs some) = (f244_e k).run v := by kernel_rfl
theorem f244_y : Tryz.f244.body = some (bodyOf Tryz.f244) := by kernel_rfl
theorem f244_z : (Tryz.f244.name == "runtime.NumGoroutine") = false := by kernel_rfl
theorem f244_ok (k : Nat) (hT : TTOk Tryz.prog (lookT tab)) (hL : Lasting G) (h0 : EntOk Tryz.prog G (f242_e k)) (h1 : EntOk Tryz.prog G (f287_e k)) : EntOk Tryz.prog G (f244_e k) := by
  have hE : EnvSound Tryz.prog G (f244_env k) := envOf_sound (ents_cons h0 (ents_cons h1 (ents_nil)))
  exact ent_ok (subs := []) hT hE (envOf_nat _) hMix hL (subs_nil _ _ _) (f244_e k) Tryz.func244 f244_y f244_z (f244_x k)

def f184_env (k : Nat) : Env := envOf [f190_e k, f242_e k, f244_e k, f243_e k]
theorem f184_x (k : Nat) (v : argsC (f184_e k).inp) : fexec (lookT tab) (f184_env k) [] Tryz.f184 (bodyOf Tryz.f184) (mkArgs (f184_e k).inp v) (fun rs => getRes (f184_e k).out rs some) = (f184_e k).run v := by kernel_rfl
theorem f184_y : Tryz.f184.body = some (bodyOf Tryz.f184) := by kernel_rfl
theorem f184_z : (Tryz.f184.name == "runtime.NumGoroutine") = false := by kernel_rfl
theorem f184_ok (k : Nat) (hT : TTOk Tryz.prog (lookT tab)) (hL : Lasting G) (h0 : EntOk Tryz.prog G (f190_e k)) (h1 : EntOk Tryz.prog G (f242_e k)) (h2 : EntOk Tryz.prog G (f244_e k)) (h3 : EntOk Tryz.prog G (f243_e k)) : EntOk Tryz.prog G (f184_e k) := by
  have hE : EnvSound Tryz.prog G (f184_env k) := envOf_sound (ents_cons h0 (ents_cons h1 (ents_cons h2 (ents_cons h3 (ents_nil)))))
  exact ent_ok (subs := []) hT hE (envOf_nat _) hMix hL (subs_nil _ _ _) (f184_e k) Tryz.func184 f184_y f184_z (f184_x k)

def f191_env (k : Nat) : Env := envOf [f253_e k, f183_e k, f199_e k]
def f191_b6 (k : Nat) : Sub := { key := 6, inp := ⟨[.dead, .dead, .dead, .osl 1, .dead, .dead, .dead, .dead, .data (.list (.int .u8)), .data (.int .i64), .data (.int .i64), .dead, .dead, .dead, .dead, .dead, .dead, .dead, .dead, .dead, .dead, .dead, .dead], [.none, .row .str], [(3, .str)], []⟩, ways := [⟨.x 0, ⟨[.dead, .dead, .dead, .osl 1, .dead, .dead, .dead, .dead, .dead, .dead, .dead, .dead, .dead, .dead, .dead, .dead, .dead, .dead, .dead, .dead, .dead, .dead, .dead], [.none, .row .str], [], []⟩⟩], run := fun v => iter (f191_s6_u k) k v }
theorem f191_b6_x (k : Nat) (v : ((List Int) × Int × Int × (List ByteArray) × Unit)) : exec (lookT tab) (f191_env k) [] (loopAt 6 (bodyOf Tryz.f191)) (mkSt (f191_b6 k).inp v) (loopKs (f191_b6 k).inp (f191_b6 k).ways) = f191_s6_u k v := by kernel_rfl
theorem f191_b6_ok (k : Nat) (hT : TTOk Tryz.prog (lookT tab)) (hL : Lasting G) (hE : EnvSound Tryz.prog G (f191_env k)) : SubSound Tryz.prog G (f191_b6 k) (.loop (loopAt 6 (bodyOf Tryz.f191))) :=
  sub_loop (subs := []) hT hE (envOf_nat _) hMix hL (subs_nil _ _ _) (f191_s6_u k) k (fun _ => rfl) (fun v o h => (f191_b6_x k v).trans h) (by kernel_rfl)
theorem f191_x (k : Nat) (v : argsC (f191_e k).inp) : fexec (lookT tab) (f191_env k) [f191_b6 k] Tryz.f191 (bodyOf Tryz.f191) (mkArgs (f191_e k).inp v) (fun rs => getRes (f191_e k).out rs some) = (f191_e k).run v := by kernel_rfl
theorem f191_y : Tryz.f191.body = some (bodyOf Tryz.f191) := by kernel_rfl
theorem f191_z : (Tryz.f191.name == "runtime.NumGoroutine") = false := by kernel_rfl
theorem f191_n7 (k : Nat) : nodesAt (f191_b6 k).key (bodyOf Tryz.f191) = [(.loop (loopAt 6 (bodyOf Tryz.f191)))] := by kernel_rfl
theorem f191_ok (k : Nat) (hT : TTOk Tryz.prog (lookT tab)) (hL : Lasting G) (h0 : EntOk Tryz.prog G (f253_e k)) (h1 : EntOk Tryz.prog G (f183_e k)) (h2 : EntOk Tryz.prog G (f199_e k)) : EntOk Tryz.prog G (f191_e k) := by
  have hE : EnvSound Tryz.prog G (f191_env k) := envOf_sound (ents_cons h0 (ents_cons h1 (ents_cons h2 (ents_nil))))
  exact ent_ok (subs := [f191_b6 k]) hT hE (envOf_nat _) hMix hL (subs_cons (f191_n7 k) (f191_b6_ok k hT hL hE) (subs_nil _ _ _)) (f191_e k) Tryz.func191 f191_y f191_z (f191_x k)

def f307_env (k : Nat) : Env := envOf []
theorem f307_x (k : Nat) (v : argsC (f307_e k).inp) : fexec (lookT tab) (f307_env k) [] Tryz.f307 (bodyOf Tryz.f307) (mkArgs (f307_e k).inp v) (fun rs => getRes (f307_e k).out rs some) = (f307_e k).run v := by kernel_rfl
theorem f307_y : Tryz.f307.body = some (bodyOf Tryz.f307) := by kernel_rfl
theorem f307_z : (Tryz.f307.name == "runtime.NumGoroutine") = false := by kernel_rfl
theorem f307_ok (k : Nat) (hT : TTOk Tryz.prog (lookT tab)) (hL : Lasting G) : EntOk Tryz.prog G (f307_e k) := by
  have hE : EnvSound Tryz.prog G (f307_env k) := envOf_sound (ents_nil)
  exact ent_ok (subs := []) hT hE (envOf_nat _) hMix hL (subs_nil _ _ _) (f307_e k) Tryz.func307 f307_y f307_z (f307_x k)

def f323_env (k : Nat) : Env := envOf [f327_e k]
theorem f323_x (k : Nat) (v : argsC (f323_e k).inp) : fexec (lookT tab) (f323_env k) [] Tryz.f323 (bodyOf Tryz.f323) (mkArgs (f323_e k).inp v) (fun rs => getRes (f323_e k).out rs some) = (f323_e k).run v := by kernel_rfl
theorem f323_y : Tryz.f323.body = some (bodyOf Tryz.f323) := by kernel_rfl
theorem f323_z : (Tryz.f323.name == "runtime.NumGoroutine") = false := by kernel_rfl
theorem f323_ok (k : Nat) (hT : TTOk Tryz.prog (lookT tab)) (hL : Lasting G) (h0 : EntOk Tryz.prog G (f327_e k)) : EntOk Tryz.prog G (f323_e k) := by
  have hE : EnvSound Tryz.prog G (f323_env k) := envOf_sound (ents_cons h0 (ents_nil))
  exact ent_ok (subs := []) hT hE (envOf_nat _) hMix hL (subs_nil _ _ _) (f323_e k) Tryz.func323 f323_y f323_z (f323_x k)

def f289_env (k : Nat) : Env := envOf [f307_e k, f310_e k]
theorem f289_x (k : Nat) (v : argsC (f289_e k).inp) : fexec (lookT tab) (f289_env k) [] Tryz.f289 (bodyOf Tryz.f289) (mkArgs (f289_e k).inp v) (fun rs => getRes (f289_e k).out rs some) = (f289_e k).run v := by kernel_rfl
theorem f289_y : Tryz.f289.body = some (bodyOf Tryz.f289) := by kernel_rfl
theorem f289_z : (Tryz.f289.name == "runtime.NumGoroutine") = false := by kernel_rfl
theorem f289_ok (k : Nat) (hT : TTOk Tryz.prog (lookT tab)) (hL : Lasting G) (h0 : EntOk Tryz.prog G (f307_e k)) (h1 : EntOk Tryz.prog G (f310_e k)) : EntOk Tryz.prog G (f289_e k) := by
  have hE : EnvSound Tryz.prog G (f289_env k) := envOf_sound (ents_cons h0 (ents_cons h1 (ents_nil)))
  exact ent_ok (subs := []) hT hE (envOf_nat _) hMix hL (subs_nil _ _ _) (f289_e k) Tryz.func289 f289_y f289_z (f289_x k)

def f194_env (k : Nat) : Env := envOf [f255_e k, f199_e k]
def f194_b6 (k : Nat) : Sub := { key := 6, inp := ⟨[.dead, .dead, .dead, .osl 0, .dead, .dead, .data (.list (.int .u16)), .data (.int .i64), .data (.int .i64), .dead, .dead, .dead, .dead, .dead, .dead, .dead, .dead, .dead, .dead, .dead, .dead], [.row .str], [(3, .str)], []⟩, ways := [⟨.x 0, ⟨[.dead, .dead, .dead, .osl 0, .dead, .dead, .dead, .dead, .dead, .dead, .dead, .dead, .dead, .dead, .dead, .dead, .dead, .dead, .dead, .dead, .dead], [.row .str], [], []⟩⟩], run := fun v => iter (f194_s6_u k) k v }
theorem f194_b6_x (k : Nat) (v : ((List Int) × Int × Int × (List ByteArray) × Unit)) : exec (lookT tab) (f194_env k) [] (loopAt 6 (bodyOf Tryz.f194)) (mkSt (f194_b6 k).inp v) (loopKs (f194_b6 k).inp (f194_b6 k).ways) = f194_s6_u k v := by kernel_rfl
theorem f194_b6_ok (k : Nat) (hT : TTOk Tryz.prog (lookT tab)) (hL : Lasting G) (hE : EnvSound Tryz.prog G (f194_env k)) : SubSound Tryz.prog G (f194_b6 k) (.loop (loopAt 6 (bodyOf Tryz.f194))) :=
  sub_loop (subs := []) hT hE (envOf_nat _) hMix hL (subs_nil _ _ _) (f194_s6_u k) k (fun _ => rfl) (fun v o h => (f194_b6_x k v).trans h) (by kernel_rfl)
theorem f194_x (k : Nat) (v : argsC (f194_e k).inp) : fexec (lookT tab) (f194_env k) [f194_b6 k] Tryz.f194 (bodyOf Tryz.f194) (mkArgs (f194_e k).inp v) (fun rs => getRes (f194_e k).out rs some) = (f194_e k).run v := by kernel_rfl
theorem f194_y : Tryz.f194.body = some (bodyOf Tryz.f194) := by kernel_rfl
theorem f194_z : (Tryz.f194.name == "runtime.NumGoroutine") = false := by kernel_rfl
theorem f194_n6 (k : Nat) : nodesAt (f194_b6 k).key (bodyOf Tryz.f194) = [(.loop (loopAt 6 (bodyOf Tryz.f194)))] := by kernel_rfl
theorem f194_ok (k : Nat) (hT : TTOk Tryz.prog (lookT tab)) (hL : Lasting G) (h0 : EntOk Tryz.prog G (f255_e k)) (h1 : EntOk Tryz.prog G (f199_e k)) : EntOk Tryz.prog G (f194_e k) := by
  have hE : EnvSound Tryz.prog G (f194_env k) := envOf_sound (ents_cons h0 (ents_cons h1 (ents_nil)))
  exact ent_ok (subs := [f194_b6 k]) hT hE (envOf_nat _) hMix hL (subs_cons (f194_n6 k) (f194_b6_ok k hT hL hE) (subs_nil _ _ _)) (f194_e k) Tryz.func194 f194_y f194_z (f194_x k)

def f100_env (k : Nat) : Env := envOf [f138_e k, f139_e k]
theorem f100_x (k : Nat) (v : argsC (f100_e k).inp) : fexec (lookT tab) (f100_env k) [] Tryz.f100 (bodyOf Tryz.f100) (mkArgs (f100_e k).inp v) (fun rs => getRes (f100_e k).out rs some) = (f100_e k).run v := by kernel_rfl
theorem f100_y : Tryz.f100.body = some (bodyOf Tryz.f100) := by kernel_rfl
theorem f100_z : (Tryz.f100.name == "runtime.NumGoroutine") = false := by kernel_rfl
theorem f100_ok (k : Nat) (hT : TTOk Tryz.prog (lookT tab)) (hL : Lasting G) (h0 : EntOk Tryz.prog G (f138_e k)) (h1 : EntOk Tryz.prog G (f139_e k)) : EntOk Tryz.prog G (f100_e k) := by
  have hE : EnvSound Tryz.prog G (f100_env k) := envOf_sound (ents_cons h0 (ents_cons h1 (ents_nil)))
  exact ent_ok (subs := []) hT hE (envOf_nat _) hMix hL (subs_nil _ _ _) (f100_e k) Tryz.func100 f100_y f100_z (f100_x k)

def f101_env (k : Nat) : Env := envOf []
theorem f101_x (k : Nat) (v : argsC (f101_e k).inp) : fexec (lookT tab) (f101_env k) [] Tryz.f101 (bodyOf Tryz.f101) (mkArgs (f101_e k).inp v) (fun rs => getRes (f101_e k).out rs some) = (f101_e k).run v := by kernel_rfl
theorem f101_y : Tryz.f101.body = some (bodyOf Tryz.f101) := by kernel_rfl
theorem f101_z : (Tryz.f101.name == "runtime.NumGoroutine") = false := by kernel_rfl
theorem f101_ok (k : Nat) (hT : TTOk Tryz.prog (lookT tab)) (hL : Lasting G) : EntOk Tryz.prog G (f101_e k) := by
  have hE : EnvSound Tryz.prog G (f101_env k) := envOf_sound (ents_nil)
  exact ent_ok (subs := []) hT hE (envOf_nat _) hMix hL (subs_nil _ _ _) (f101_e k) Tryz.func101 f101_y f101_z (f101_x k)

def f140_env (k : Nat) : Env := envOf []
def f140_b4 (k : Nat) : Sub := { key := 4, inp := ⟨[.data (.list (.int .i64)), .data (.int .i64), .dead, .dead, .dead, .dead, .dead, .data (.int .i64), .data (.int .i64), .dead, .dead, .dead, .dead, .dead, .dead, .dead, .dead, .dead, .dead], [], [], []⟩, ways := [⟨.ret, ⟨[.dead, .dead, .dead, .dead, .data (.int .i64), .dead, .dead, .dead, .dead, .dead, .dead, .dead, .dead, .dead, .dead, .dead, .dead, .dead, .dead], [], [], []⟩⟩, ⟨.x 0, ⟨[.dead, .dead, .dead, .dead, .dead, .dead, .dead, .dead, .dead, .dead, .dead, .dead, .dead, .dead, .dead, .dead, .dead, .dead, .dead], [], [], []⟩⟩], run := fun v => iter (f140_s4_u k) k v }
theorem f140_b4_x (k : Nat) (v : ((List Int) × Int × Int × Int × Unit)) : exec (lookT tab) (f140_env k) [] (loopAt 4 (bodyOf Tryz.f140)) (mkSt (f140_b4 k).inp v) (loopKs (f140_b4 k).inp (f140_b4 k).ways) = f140_s4_u k v := by kernel_rfl
theorem f140_b4_ok (k : Nat) (hT : TTOk Tryz.prog (lookT tab)) (hL : Lasting G) (hE : EnvSound Tryz.prog G (f140_env k)) : SubSound Tryz.prog G (f140_b4 k) (.loop (loopAt 4 (bodyOf Tryz.f140))) :=
  sub_loop (subs := []) hT hE (envOf_nat _) hMix hL (subs_nil _ _ _) (f140_s4_u k) k (fun _ => rfl) (fun v o h => (f140_b4_x k v).trans h) (by kernel_rfl)
theorem f140_x (k : Nat) (v : argsC (f140_e k).inp) : fexec (lookT tab) (f140_env k) [f140_b4 k] Tryz.f140 (bodyOf Tryz.f140) (mkArgs (f140_e k).inp v) (fun rs => getRes (f140_e k).out rs some) = (f140_e k).run v := by kernel_rfl
theorem f140_y : Tryz.f140.body = some (bodyOf Tryz.f140) := by kernel_rfl
theorem f140_z : (Tryz.f140.name == "runtime.NumGoroutine") = false := by kernel_rfl
theorem f140_n2 (k : Nat) : nodesAt (f140_b4 k).key (bodyOf Tryz.f140) = [(.loop (loopAt 4 (bodyOf Tryz.f140)))] := by kernel_rfl
theorem f140_ok (k : Nat) (hT : TTOk Tryz.prog (lookT tab)) (hL : Lasting G) : EntOk Tryz.prog G (f140_e k) := by
  have hE : EnvSound Tryz.prog G (f140_env k) := envOf_sound (ents_nil)
  exact ent_ok (subs := [f140_b4 k]) hT hE (envOf_nat _) hMix hL (subs_cons (f140_n2 k) (f140_b4_ok k hT hL hE) (subs_nil _ _ _)) (f140_e k) Tryz.func140 f140_y f140_z (f140_x k)

def f102_env (k : Nat) : Env := envOf [f140_e k]
theorem f102_x (k : Nat) (v : argsC (f102_e k).inp) : fexec (lookT tab) (f102_env k) [] Tryz.f102 (bodyOf Tryz.f102) (mkArgs (f102_e k).inp v) (fun rs => getRes (f102_e k).out rs some) = (f102_e k).run v := by kernel_rfl
theorem f102_y : Tryz.f102.body = some (bodyOf Tryz.f102) := by kernel_rfl
theorem f102_z : (Tryz.f102.name == "runtime.NumGoroutine") = false := by kernel_rfl
theorem f102_ok (k : Nat) (hT : TTOk Tryz.prog (lookT tab)) (hL : Lasting G) (h0 : EntOk Tryz.prog G (f140_e k)) : EntOk Tryz.prog G (f102_e k) := by
  have hE : EnvSound Tryz.prog G (f102_env k) := envOf_sound (ents_cons h0 (ents_nil))
  exact ent_ok (subs := []) hT hE (envOf_nat _) hMix hL (subs_nil _ _ _) (f102_e k) Tryz.func102 f102_y f102_z (f102_x k)

def f103_env (k : Nat) : Env := envOf [f141_e k, f142_e k]
theorem f103_x (k : Nat) (v : argsC (f103_e k).inp) : fexec (lookT tab) (f103_env k) [] Tryz.f103 (bodyOf Tryz.f103) (mkArgs (f103_e k).inp v) (fun rs => getRes (f103_e k).out rs some) = (f103_e k).run v := by kernel_rfl
theorem f103_y : Tryz.f103.body = some (bodyOf Tryz.f103) := by kernel_rfl
theorem f103_z : (Tryz.f103.name == "runtime.NumGoroutine") = false := by kernel_rfl
theorem f103_ok (k : Nat) (hT : TTOk Tryz.prog (lookT tab)) (hL : Lasting G) (h0 : EntOk Tryz.prog G (f141_e k)) (h1 : EntOk Tryz.prog G (f142_e k)) : EntOk Tryz.prog G (f103_e k) := by
  have hE : EnvSound Tryz.prog G (f103_env k) := envOf_sound (ents_cons h0 (ents_cons h1 (ents_nil)))
  exact ent_ok (subs := []) hT hE (envOf_nat _) hMix hL (subs_nil _ _ _) (f103_e k) Tryz.func103 f103_y f103_z (f103_x k)

def f50_env (k : Nat) : Env := envOf [f40_e k, f102_e k, f103_e k, f101_e k]
def f50_b14 (k : Nat) : Sub := { key := 14, inp := ⟨[.dead, .ptr 0 [], .dead, .dead, .dead, .dead, .dead, .dead, .dead, .dead, .dead, .dead, .dead, .dead, .dead, .dead, .dead, .dead, .dead, .dead, .dead, .dead, .dead, .dead, .dead, .dead, .dead, .dead, .dead, .dead, .dead, .dead, .dead, .dead, .dead, .dead, .dead, .dead, .dead, .dead, .dead, .dead, .dead, .dead, .dead, .dead, .dead, .dead, .dead, .dead, .dead, .data (.list (.int .i64)), .data (.int .i64), .data (.int .i64), .dead, .dead, .dead, .dead, .dead, .dead, .dead, .dead, .dead, .dead, .dead, .dead, .dead, .dead, .dead, .dead, .dead, .dead, .dead, .dead, .dead, .dead, .dead, .dead, .dead, .dead, .dead, .dead, .dead, .dead, .dead, .dead, .dead, .dead, .dead, .dead, .dead, .dead, .dead, .dead, .dead, .dead, .dead, .dead, .dead], [.box (.agg (.pair (.int .i64) (.pair .str (.pair (.int .i64) (.pair (.int .i64) (.pair .bool (.pair (.list .str) (.pair (.list (.agg (.pair .str (.pair .str .unit)))) (.pair (.list .str) (.pair .str (.pair (.int .i64) (.pair (.int .i64) (.pair (.list (.int .i64)) (.pair (.list .str) (.pair .str (.pair .str (.pair (.int .i64) (.pair .str (.pair .str (.pair .str .unit))))))))))))))))))))], [], []⟩, ways := [⟨.ret, ⟨[.dead, .dead, .data .bool, .dead, .dead, .dead, .dead, .dead, .dead, .dead, .dead, .dead, .dead, .dead, .dead, .dead, .dead, .dead, .dead, .dead, .dead, .dead, .dead, .dead, .dead, .dead, .dead, .dead, .dead, .dead, .dead, .dead, .dead, .dead, .dead, .dead, .dead, .dead, .dead, .dead, .dead, .dead, .dead, .dead, .dead, .dead, .dead, .dead, .dead, .dead, .dead, .dead, .dead, .dead, .dead, .dead, .dead, .dead, .dead, .dead, .dead, .dead, .dead, .dead, .dead, .dead, .dead, .dead, .dead, .dead, .dead, .dead, .dead, .dead, .dead, .dead, .dead, .dead, .dead, .dead, .dead, .dead, .dead, .dead, .dead, .dead, .dead, .dead, .dead, .dead, .dead, .dead, .dead, .dead, .dead, .dead, .dead, .dead, .dead], [], [], []⟩⟩, ⟨.x 0, ⟨[.dead, .ptr 0 [], .dead, .dead, .dead, .dead, .dead, .dead, .dead, .dead, .dead, .dead, .dead, .dead, .dead, .dead, .dead, .dead, .dead, .dead, .dead, .dead, .dead, .dead, .dead, .dead, .dead, .dead, .dead, .dead, .dead, .dead, .dead, .dead, .dead, .dead, .dead, .dead, .dead, .dead, .dead, .dead, .dead, .dead, .dead, .dead, .dead, .dead, .dead, .dead, .dead, .dead, .dead, .dead, .dead, .dead, .dead, .dead, .dead, .dead, .dead, .dead, .dead, .dead, .dead, .dead, .dead, .dead, .dead, .dead, .dead, .dead, .dead, .dead, .dead, .dead, .dead, .dead, .dead, .dead, .dead, .dead, .dead, .dead, .dead, .dead, .dead, .dead, .dead, .dead, .dead, .dead, .dead, .dead, .dead, .dead, .dead, .dead, .dead], [.box (.agg (.pair (.int .i64) (.pair .str (.pair (.int .i64) (.pair (.int .i64) (.pair .bool (.pair (.list .str) (.pair (.list (.agg (.pair .str (.pair .str .unit)))) (.pair (.list .str) (.pair .str (.pair (.int .i64) (.pair (.int .i64) (.pair (.list (.int .i64)) (.pair (.list .str) (.pair .str (.pair .str (.pair (.int .i64) (.pair .str (.pair .str (.pair .str .unit))))))))))))))))))))], [], []⟩⟩], run := fun v => iter (f50_s14_u k) k v }
def f50_b26 (k : Nat) : Sub := { key := 26, inp := ⟨[.dead, .ptr 0 [], .dead, .dead, .dead, .dead, .dead, .dead, .dead, .dead, .dead, .dead, .dead, .dead, .dead, .dead, .dead, .dead, .dead, .dead, .dead, .dead, .dead, .dead, .dead, .dead, .dead, .dead, .dead, .dead, .dead, .dead, .dead, .dead, .dead, .dead, .dead, .dead, .dead, .dead, .dead, .dead, .dead, .dead, .dead, .dead, .dead, .dead, .dead, .dead, .dead, .dead, .dead, .dead, .dead, .dead, .dead, .dead, .dead, .dead, .dead, .dead, .dead, .dead, .dead, .dead, .dead, .dead, .dead, .dead, .dead, .dead, .dead, .dead, .data (.list .str), .data (.int .i64), .data (.int .i64), .dead, .dead, .dead, .dead, .dead, .dead, .dead, .dead, .dead, .dead, .dead, .dead, .dead, .dead, .dead, .dead, .dead, .dead, .dead, .dead, .dead, .dead], [.box (.agg (.pair (.int .i64) (.pair .str (.pair (.int .i64) (.pair (.int .i64) (.pair .bool (.pair (.list .str) (.pair (.list (.agg (.pair .str (.pair .str .unit)))) (.pair (.list .str) (.pair .str (.pair (.int .i64) (.pair (.int .i64) (.pair (.list (.int .i64)) (.pair (.list .str) (.pair .str (.pair .str (.pair (.int .i64) (.pair .str (.pair .str (.pair .str .unit))))))))))))))))))))], [], []⟩, ways := [⟨.ret, ⟨[.dead, .dead, .data .bool, .dead, .dead, .dead, .dead, .dead, .dead, .dead, .dead, .dead, .dead, .dead, .dead, .dead, .dead, .dead, .dead, .dead, .dead, .dead, .dead, .dead, .dead, .dead, .dead, .dead, .dead, .dead, .dead, .dead, .dead, .dead, .dead, .dead, .dead, .dead, .dead, .dead, .dead, .dead, .dead, .dead, .dead, .dead, .dead, .dead, .dead, .dead, .dead, .dead, .dead, .dead, .dead, .dead, .dead, .dead, .dead, .dead, .dead, .dead, .dead, .dead, .dead, .dead, .dead, .dead, .dead, .dead, .dead, .dead, .dead, .dead, .dead, .dead, .dead, .dead, .dead, .dead, .dead, .dead, .dead, .dead, .dead, .dead, .dead, .dead, .dead, .dead, .dead, .dead, .dead, .dead, .dead, .dead, .dead, .dead, .dead], [], [], []⟩⟩, ⟨.x 2, ⟨[.dead, .dead, .dead, .dead, .dead, .dead, .dead, .dead, .dead, .dead, .dead, .dead, .dead, .dead, .dead, .dead, .dead, .dead, .dead, .dead, .dead, .dead, .dead, .dead, .dead, .dead, .dead, .dead, .dead, .dead, .dead, .dead, .dead, .dead, .dead, .dead, .dead, .dead, .dead, .dead, .dead, .dead, .dead, .dead, .dead, .dead, .dead, .dead, .dead, .dead, .dead, .dead, .dead, .dead, .dead, .dead, .dead, .dead, .dead, .dead, .dead, .dead, .dead, .dead, .dead, .dead, .dead, .dead, .dead, .dead, .dead, .dead, .dead, .dead, .dead, .dead, .dead, .dead, .dead, .dead, .dead, .dead, .dead, .dead, .dead, .dead, .dead, .dead, .dead, .dead, .dead, .dead, .dead, .dead, .dead, .dead, .dead, .dead, .dead], [], [], []⟩⟩], run := fun v => iter (f50_s26_u k) k v }
theorem f50_b14_x (k : Nat) (v : ((List Int) × Int × Int × (Int × ByteArray × Int × Int × Bool × (List ByteArray) × (List (ByteArray × ByteArray × Unit)) × (List ByteArray) × ByteArray × Int × Int × (List Int) × (List ByteArray) × ByteArray × ByteArray × Int × ByteArray × ByteArray × ByteArray × Unit) × Unit)) : exec (lookT tab) (f50_env k) [] (loopAt 14 (bodyOf Tryz.f50)) (mkSt (f50_b14 k).inp v) (loopKs (f50_b14 k).inp (f50_b14 k).ways) = f50_s14_u k v := by kernel_rfl
theorem f50_b14_ok (k : Nat) (hT : TTOk Tryz.prog (lookT tab)) (hL : Lasting G) (hE : EnvSound Tryz.prog G (f50_env k)) : SubSound Tryz.prog G (f50_b14 k) (.loop (loopAt 14 (bodyOf Tryz.f50))) :=
  sub_loop (subs := []) hT hE (envOf_nat _) hMix hL (subs_nil _ _ _) (f50_s14_u k) k (fun _ => rfl) (fun v o h => (f50_b14_x k v).trans h) (by kernel_rfl)
theorem f50_b26_x (k : Nat) (v : ((List ByteArray) × Int × Int × (Int × ByteArray × Int × Int × Bool × (List ByteArray) × (List (ByteArray × ByteArray × Unit)) × (List ByteArray) × ByteArray × Int × Int × (List Int) × (List ByteArray) × ByteArray × ByteArray × Int × ByteArray × ByteArray × ByteArray × Unit) × Unit)) : exec (lookT tab) (f50_env k) [] (loopAt 26 (bodyOf Tryz.f50)) (mkSt (f50_b26 k).inp v) (loopKs (f50_b26 k).inp (f50_b26 k).ways) = f50_s26_u k v := by kernel_rfl
theorem f50_b26_ok (k : Nat) (hT : TTOk Tryz.prog (lookT tab)) (hL : Lasting G) (hE : EnvSound Tryz.prog G (f50_env k)) : SubSound Tryz.prog G (f50_b26 k) (.loop (loopAt 26 (bodyOf Tryz.f50))) :=
  sub_loop (subs := []) hT hE (envOf_nat _) hMix hL (subs_nil _ _ _) (f50_s26_u k) k (fun _ => rfl) (fun v o h => (f50_b26_x k v).trans h) (by kernel_rfl)
theorem f50_x (k : Nat) (v : argsC (f50_e k).inp) : fexec (lookT tab) (f50_env k) [f50_b26 k, f50_b14 k] Tryz.f50 (bodyOf Tryz.f50) (mkArgs (f50_e k).inp v) (fun rs => getRes (f50_e k).out rs some) = (f50_e k).run v := by kernel_rfl
theorem f50_y : Tryz.f50.body = some (bodyOf Tryz.f50) := by kernel_rfl
theorem f50_z : (Tryz.f50.name == "runtime.NumGoroutine") = false := by kernel_rfl
theorem f50_n22 (k : Nat) : nodesAt (f50_b26 k).key (bodyOf Tryz.f50) = [(.loop (loopAt 26 (bodyOf Tryz.f50)))] := by kernel_rfl
theorem f50_n23 (k : Nat) : nodesAt (f50_b14 k).key (bodyOf Tryz.f50) = [(.loop (loopAt 14 (bodyOf Tryz.f50)))] := by kernel_rfl
theorem f50_ok (k : Nat) (hT : TTOk Tryz.prog (lookT tab)) (hL : Lasting G) (h0 : EntOk Tryz.prog G (f40_e k)) (h1 : EntOk Tryz.prog G (f102_e k)) (h2 : EntOk Tryz.prog G (f103_e k)) (h3 : EntOk Tryz.prog G (f101_e k)) : EntOk Tryz.prog G (f50_e k) := by
  have hE : EnvSound Tryz.prog G (f50_env k) := envOf_sound (ents_cons h0 (ents_cons h1 (ents_cons h2 (ents_cons h3 (ents_nil)))))
  exact ent_ok (subs := [f50_b26 k, f50_b14 k]) hT hE (envOf_nat _) hMix hL (subs_cons (f50_n22 k) (f50_b26_ok k hT hL hE) (subs_cons (f50_n23 k) (f50_b14_ok k hT hL hE) (subs_nil _ _ _))) (f50_e k) Tryz.func50 f50_y f50_z (f50_x k)

def f201_env (k : Nat) : Env := envOf [f247_e k, f251_e k]
theorem f201_x (k : Nat) (v : argsC (f201_e k).inp) : fexec (lookT tab) (f201_env k) [] Tryz.f201 (bodyOf Tryz.f201) (mkArgs (f201_e k).inp v) (fun rs => getRes (f201_e k).out rs some) = (f201_e k).run v := by kernel_rfl
theorem f201_y : Tryz.f201.body = some (bodyOf Tryz.f201) := by kernel_rfl
theorem f201_z : (Tryz.f201.name == "runtime.NumGoroutine") = false := by kernel_rfl
theorem f201_ok (k : Nat) (hT : TTOk Tryz.prog (lookT tab)) (hL : Lasting G) (h0 : EntOk Tryz.prog G (f247_e k)) (h1 : EntOk Tryz.prog G (f251_e k)) : EntOk Tryz.prog G (f201_e k) := by
  have hE : EnvSound Tryz.prog G (f201_env k) := envOf_sound (ents_cons h0 (ents_cons h1 (ents_nil)))
  exact ent_ok (subs := []) hT hE (envOf_nat _) hMix hL (subs_nil _ _ _) (f201_e k) Tryz.func201 f201_y f201_z (f201_x k)

def f147_env (k : Nat) : Env := envOf []
theorem f147_x (k : Nat) (v : argsC (f147_e k).inp) : fexec (lookT tab) (f147_env k) [] Tryz.f147 (bodyOf Tryz.f147) (mkArgs (f147_e k).inp v) (fun rs => getRes (f147_e k).out rs some) = (f147_e k).run v := by kernel_rfl
theorem f147_y : Tryz.f147.body = some (bodyOf Tryz.f147) := by kernel_rfl
theorem f147_z : (Tryz.f147.name == "runtime.NumGoroutine") = false := by kernel_rfl
theorem f147_ok (k : Nat) (hT : TTOk Tryz.prog (lookT tab)) (hL : Lasting G) : EntOk Tryz.prog G (f147_e k) := by
  have hE : EnvSound Tryz.prog G (f147_env k) := envOf_sound (ents_nil)
  exact ent_ok (subs := []) hT hE (envOf_nat _) hMix hL (subs_nil _ _ _) (f147_e k) Tryz.func147 f147_y f147_z (f147_x k)

def f105_env (k : Nat) : Env := envOf [f100_e k, f146_e k, f147_e k]
theorem f105_x (k : Nat) (v : argsC (f105_e k).inp) : fexec (lookT tab) (f105_env k) [] Tryz.f105 (bodyOf Tryz.f105) (mkArgs (f105_e k).inp v) (fun rs => getRes (f105_e k).out rs some) = (f105_e k).run v := by kernel_rfl
theorem f105_y : Tryz.f105.body = some (bodyOf Tryz.f105) := by kernel_rfl
theorem f105_z : (Tryz.f105.name == "runtime.NumGoroutine") = false := by kernel_rfl
theorem f105_ok (k : Nat) (hT : TTOk Tryz.prog (lookT tab)) (hL : Lasting G) (h0 : EntOk Tryz.prog G (f100_e k)) (h1 : EntOk Tryz.prog G (f146_e k)) (h2 : EntOk Tryz.prog G (f147_e k)) : EntOk Tryz.prog G (f105_e k) := by
  have hE : EnvSound Tryz.prog G (f105_env k) := envOf_sound (ents_cons h0 (ents_cons h1 (ents_cons h2 (ents_nil))))
  exact ent_ok (subs := []) hT hE (envOf_nat _) hMix hL (subs_nil _ _ _) (f105_e k) Tryz.func105 f105_y f105_z (f105_x k)

def f36_env (k : Nat) : Env := envOf []
theorem f36_x (k : Nat) (v : argsC (f36_e k).inp) : fexec (lookT tab) (f36_env k) [] Tryz.f36 (bodyOf Tryz.f36) (mkArgs (f36_e k).inp v) (fun rs => getRes (f36_e k).out rs some) = (f36_e k).run v := by kernel_rfl
theorem f36_y : Tryz.f36.body = some (bodyOf Tryz.f36) := by kernel_rfl
theorem f36_z : (Tryz.f36.name == "runtime.NumGoroutine") = false := by kernel_rfl
theorem f36_ok (k : Nat) (hT : TTOk Tryz.prog (lookT tab)) (hL : Lasting G) : EntOk Tryz.prog G (f36_e k) := by
  have hE : EnvSound Tryz.prog G (f36_env k) := envOf_sound (ents_nil)
  exact ent_ok (subs := []) hT hE (envOf_nat _) hMix hL (subs_nil _ _ _) (f36_e k) Tryz.func36 f36_y f36_z (f36_x k)

def f9_env (k : Nat) : Env := envOf [f13_e k, f36_e k, f11_e k]
theorem f9_x (k : Nat) (v : argsC (f9_e k).inp) : fexec (lookT tab) (f9_env k) [] Tryz.f9 (bodyOf Tryz.f9) (mkArgs (f9_e k).inp v) (fun rs => getRes (f9_e k).out rs some) = (f9_e k).run v := by kernel_rfl
theorem f9_y : Tryz.f9.body = some (bodyOf Tryz.f9) := by kernel_rfl
theorem f9_z : (Tryz.f9.name == "runtime.NumGoroutine") = false := by kernel_rfl
theorem f9_ok (k : Nat) (hT : TTOk Tryz.prog (lookT tab)) (hL : Lasting G) (h0 : EntOk Tryz.prog G (f13_e k)) (h1 : EntOk Tryz.prog G (f36_e k)) (h2 : EntOk Tryz.prog G (f11_e k)) : EntOk Tryz.prog G (f9_e k) := by
  have hE : EnvSound Tryz.prog G (f9_env k) := envOf_sound (ents_cons h0 (ents_cons h1 (ents_cons h2 (ents_nil))))
  exact ent_ok (subs := []) hT hE (envOf_nat _) hMix hL (subs_nil _ _ _) (f9_e k) Tryz.func9 f9_y f9_z (f9_x k)

def f10_env (k : Nat) : Env := envOf [f37_e k, f38_e k]
theorem f10_x (k : Nat) (v : argsC (f10_e k).inp) : fexec (lookT tab) (f10_env k) [] Tryz.f10 (bodyOf Tryz.f10) (mkArgs (f10_e k).inp v) (fun rs => getRes (f10_e k).out rs some) = (f10_e k).run v := by kernel_rfl
theorem f10_y : Tryz.f10.body = some (bodyOf Tryz.f10) := by kernel_rfl
theorem f10_z : (Tryz.f10.name == "runtime.NumGoroutine") = false := by kernel_rfl
theorem f10_ok (k : Nat) (hT : TTOk Tryz.prog (lookT tab)) (hL : Lasting G) (h0 : EntOk Tryz.prog G (f37_e k)) (h1 : EntOk Tryz.prog G (f38_e k)) : EntOk Tryz.prog G (f10_e k) := by
  have hE : EnvSound Tryz.prog G (f10_env k) := envOf_sound (ents_cons h0 (ents_cons h1 (ents_nil)))
  exact ent_ok (subs := []) hT hE (envOf_nat _) hMix hL (subs_nil _ _ _) (f10_e k) Tryz.func10 f10_y f10_z (f10_x k)

def f16_env (k : Nat) : Env := envOf [f62_e k, f63_e k]
def f16_b12 (k : Nat) : Sub := { key := 12, inp := ⟨[.dead, .dead, .ptr 0 [], .ptr 1 [], .dead, .data (.int .i64), .dead, .dead, .dead, .dead, .dead, .dead, .dead, .dead, .dead, .dead, .dead, .dead, .dead, .dead, .dead, .dead, .dead, .dead, .dead, .dead, .dead, .dead, .dead, .dead, .dead, .dead, .dead, .dead, .dead, .dead, .dead, .dead, .dead, .dead, .dead, .dead, .dead, .dead, .dead, .dead, .dead, .dead, .dead, .dead, .dead, .dead, .dead, .dead, .dead, .dead, .dead, .dead, .dead, .dead, .dead, .dead, .dead, .dead, .dead, .dead, .dead, .dead, .dead, .dead, .dead, .dead, .dead, .dead, .dead, .dead, .dead, .dead, .dead, .dead, .dead, .dead, .dead, .dead, .dead, .dead, .dead, .dead, .dead, .dead, .dead, .dead, .dead, .dead, .dead, .dead, .dead, .dead, .dead, .dead, .dead, .dead, .dead, .dead, .dead, .dead, .dead, .dead, .dead, .dead, .dead, .dead, .dead, .dead, .dead, .dead, .dead, .dead, .dead, .dead, .dead, .dead, .dead, .dead, .dead, .dead, .dead, .dead, .dead, .dead, .dead, .dead, .dead, .dead, .dead, .dead, .dead, .dead, .dead, .dead, .dead, .dead, .dead, .dead, .dead, .dead, .dead, .dead, .dead, .dead, .dead, .dead, .dead], [.box (.agg (.pair (.int .i64) (.pair .str (.pair (.int .i64) (.pair (.int .i64) (.pair .bool (.pair (.list .str) (.pair (.list (.agg (.pair .str (.pair .str .unit)))) (.pair (.list .str) (.pair .str (.pair (.int .i64) (.pair (.int .i64) (.pair (.list (.int .i64)) (.pair (.list .str) (.pair .str (.pair .str (.pair (.int .i64) (.pair .str (.pair .str (.pair .str .unit)))))))))))))))))))), .box (.agg (.pair (.int .i64) (.pair .str (.pair (.int .i64) (.pair (.int .i64) (.pair .bool (.pair (.list .str) (.pair (.list (.agg (.pair .str (.pair .str .unit)))) (.pair (.list .str) (.pair .str (.pair (.int .i64) (.pair (.int .i64) (.pair (.list (.int .i64)) (.pair (.list .str) (.pair .str (.pair .str (.pair (.int .i64) (.pair .str (.pair .str (.pair .str .unit))))))))))))))))))))], [], []⟩, ways := [⟨.ret, ⟨[.dead, .dead, .dead, .dead, .data .bool, .dead, .dead, .dead, .dead, .dead, .dead, .dead, .dead, .dead, .dead, .dead, .dead, .dead, .dead, .dead, .dead, .dead, .dead, .dead, .dead, .dead, .dead, .dead, .dead, .dead, .dead, .dead, .dead, .dead, .dead, .dead, .dead, .dead, .dead, .dead, .dead, .dead, .dead, .dead, .dead, .dead, .dead, .dead, .dead, .dead, .dead, .dead, .dead, .dead, .dead, .dead, .dead, .dead, .dead, .dead, .dead, .dead, .dead, .dead, .dead, .dead, .dead, .dead, .dead, .dead, .dead, .dead, .dead, .dead, .dead, .dead, .dead, .dead, .dead, .dead, .dead, .dead, .dead, .dead, .dead, .dead, .dead, .dead, .dead, .dead, .dead, .dead, .dead, .dead, .dead, .dead, .dead, .dead, .dead, .dead, .dead, .dead, .dead, .dead, .dead, .dead, .dead, .dead, .dead, .dead, .dead, .dead, .dead, .dead, .dead, .dead, .dead, .dead, .dead, .dead, .dead, .dead, .dead, .dead, .dead, .dead, .dead, .dead, .dead, .dead, .dead, .dead, .dead, .dead, .dead, .dead, .dead, .dead, .dead, .dead, .dead, .dead, .dead, .dead, .dead, .dead, .dead, .dead, .dead, .dead, .dead, .dead, .dead], [], [], []⟩⟩, ⟨.x 0, ⟨[.dead, .dead, .ptr 0 [], .ptr 1 [], .dead, .dead, .dead, .dead, .dead, .dead, .dead, .dead, .dead, .dead, .dead, .dead, .dead, .dead, .dead, .dead, .dead, .dead, .dead, .dead, .dead, .dead, .dead, .dead, .dead, .dead, .dead, .dead, .dead, .dead, .dead, .dead, .dead, .dead, .dead, .dead, .dead, .dead, .dead, .dead, .dead, .dead, .dead, .dead, .dead, .dead, .dead, .dead, .dead, .dead, .dead, .dead, .dead, .dead, .dead, .dead, .dead, .dead, .dead, .dead, .dead, .dead, .dead, .dead, .dead, .dead, .dead, .dead, .dead, .dead, .dead, .dead, .dead, .dead, .dead, .dead, .dead, .dead, .dead, .dead, .dead, .dead, .dead, .dead, .dead, .dead, .dead, .dead, .dead, .dead, .dead, .dead, .dead, .dead, .dead, .dead, .dead, .dead, .dead, .dead, .dead, .dead, .dead, .dead, .dead, .dead, .dead, .dead, .dead, .dead, .dead, .dead, .dead, .dead, .dead, .dead, .dead, .dead, .dead, .dead, .dead, .dead, .dead, .dead, .dead, .dead, .dead, .dead, .dead, .dead, .dead, .dead, .dead, .dead, .dead, .dead, .dead, .dead, .dead, .dead, .dead, .dead, .dead, .dead, .dead, .dead, .dead, .dead, .dead], [.box (.agg (.pair (.int .i64) (.pair .str (.pair (.int .i64) (.pair (.int .i64) (.pair .bool (.pair (.list .str) (.pair (.list (.agg (.pair .str (.pair .str .unit)))) (.pair (.list .str) (.pair .str (.pair (.int .i64) (.pair (.int .i64) (.pair (.list (.int .i64)) (.pair (.list .str) (.pair .str (.pair .str (.pair (.int .i64) (.pair .str (.pair .str (.pair .str .unit)))))))))))))))))))), .box (.agg (.pair (.int .i64) (.pair .str (.pair (.int .i64) (.pair (.int .i64) (.pair .bool (.pair (.list .str) (.pair (.list (.agg (.pair .str (.pair .str .unit)))) (.pair (.list .str) (.pair .str (.pair (.int .i64) (.pair (.int .i64) (.pair (.list (.int .i64)) (.pair (.list .str) (.pair .str (.pair .str (.pair (.int .i64) (.pair .str (.pair .str (.pair .str .unit))))))))))))))))))))], [], []⟩⟩], run := fun v => iter (f16_s12_u k) k v }
theorem f16_b12_x (k : Nat) (v : (Int × (Int × ByteArray × Int × Int × Bool × (List ByteArray) × (List (ByteArray × ByteArray × Unit)) × (List ByteArray) × ByteArray × Int × Int × (List Int) × (List ByteArray) × ByteArray × ByteArray × Int × ByteArray × ByteArray × ByteArray × Unit) × (Int × ByteArray × Int × Int × Bool × (List ByteArray) × (List (ByteArray × ByteArray × Unit)) × (List ByteArray) × ByteArray × Int × Int × (List Int) × (List ByteArray) × ByteArray × ByteArray × Int × ByteArray × ByteArray × ByteArray × Unit) × Unit)) : exec (lookT tab) (f16_env k) [] (loopAt 12 (bodyOf Tryz.f16)) (mkSt (f16_b12 k).inp v) (loopKs (f16_b12 k).inp (f16_b12 k).ways) = f16_s12_u k v := by kernel_rfl
theorem f16_b12_ok (k : Nat) (hT : TTOk Tryz.prog (lookT tab)) (hL : Lasting G) (hE : EnvSound Tryz.prog G (f16_env k)) : SubSound Tryz.prog G (f16_b12 k) (.loop (loopAt 12 (bodyOf Tryz.f16))) :=
  sub_loop (subs := []) hT hE (envOf_nat _) hMix hL (subs_nil _ _ _) (f16_s12_u k) k (fun _ => rfl) (fun v o h => (f16_b12_x k v).trans h) (by kernel_rfl)
theorem f16_x (k : Nat) (v : argsC (f16_e k).inp) : fexec (lookT tab) (f16_env k) [f16_b12 k] Tryz.f16 (bodyOf Tryz.f16) (mkArgs (f16_e k).inp v) (fun rs => getRes (f16_e k).out rs some) = (f16_e k).run v := by kernel_rfl
theorem f16_y : Tryz.f16.body = some (bodyOf Tryz.f16) := by kernel_rfl
theorem f16_z : (Tryz.f16.name == "runtime.NumGoroutine") = false := by kernel_rfl
theorem f16_n6 (k : Nat) : nodesAt (f16_b12 k).key (bodyOf Tryz.f16) = [(.loop (loopAt 12 (bodyOf Tryz.f16)))] := by kernel_rfl
theorem f16_ok (k : Nat) (hT : TTOk Tryz.prog (lookT tab)) (hL : Lasting G) (h0 : EntOk Tryz.prog G (f62_e k)) (h1 : EntOk Tryz.prog G (f63_e k)) : EntOk Tryz.prog G (f16_e k) := by
  have hE : EnvSound Tryz.prog G (f16_env k) := envOf_sound (ents_cons h0 (ents_cons h1 (ents_nil)))
  exact ent_ok (subs := [f16_b12 k]) hT hE (envOf_nat _) hMix hL (subs_cons (f16_n6 k) (f16_b12_ok k hT hL hE) (subs_nil _ _ _)) (f16_e k) Tryz.func16 f16_y f16_z (f16_x k)

end Go.Proofs.YtpffibjemegioaaGreatDoor
