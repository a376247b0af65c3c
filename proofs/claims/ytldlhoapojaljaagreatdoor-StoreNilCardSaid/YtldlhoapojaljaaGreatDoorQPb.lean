/- The code of the program does what the plain functions say. -/
import Derived.Test.YtldlhoapojaljaaGreatDoorQPlain
import Derived.Test.YtldlhoapojaljaaGreatDoorQTab
set_option linter.unusedVariables false
namespace Go.Proofs.YtldlhoapojaljaaGreatDoor
open Go Go.RowKit Go.PB
variable {G : Gv}
def f20_env (k : Nat) : Env := envOf []
theorem f20_x (k : Nat) (v : argsC (f20_e k).inp) : fexec (lookT tab) (f20_env k) [] Tryz.f20 (bodyOf Tryz.f20) (mkArgs (f20_e k).inp v) (fun rs => getRes (f20_e k).out rs some) = (f20_e k).run v := by kernel_rfl
theorem f20_y : Tryz.f20.body = some (bodyOf Tryz.f20) := by kernel_rfl
theorem f20_z : (Tryz.f20.name == "runtime.NumGoroutine") = false := by kernel_rfl
theorem f20_ok (k : Nat) (hT : TTOk Tryz.prog (lookT tab)) (hL : Lasting G) : EntOk Tryz.prog G (f20_e k) := by
  have hE : EnvSound Tryz.prog G (f20_env k) := envOf_sound (ents_nil)
  exact ent_ok (subs := []) hT hE (envOf_nat _) hMix hL (subs_nil _ _ _) (f20_e k) Tryz.func20 f20_y f20_z (f20_x k)

def f45_env (k : Nat) : Env := envOf []
theorem f45_x (k : Nat) (v : argsC (f45_e k).inp) : fexec (lookT tab) (f45_env k) [] Tryz.f45 (bodyOf Tryz.f45) (mkArgs (f45_e k).inp v) (fun rs => getRes (f45_e k).out rs some) = (f45_e k).run v := by kernel_rfl
theorem f45_y : Tryz.f45.body = some (bodyOf Tryz.f45) := by kernel_rfl
theorem f45_z : (Tryz.f45.name == "runtime.NumGoroutine") = false := by kernel_rfl
theorem f45_ok (k : Nat) (hT : TTOk Tryz.prog (lookT tab)) (hL : Lasting G) : EntOk Tryz.prog G (f45_e k) := by
  have hE : EnvSound Tryz.prog G (f45_env k) := envOf_sound (ents_nil)
  exact ent_ok (subs := []) hT hE (envOf_nat _) hMix hL (subs_nil _ _ _) (f45_e k) Tryz.func45 f45_y f45_z (f45_x k)

def f43_env (k : Nat) : Env := envOf []
def f43_b8 (k : Nat) : Sub := { key := 8, inp := ⟨[.data (.list .str), .data (.list .str), .dead, .dead, .dead, .dead, .dead, .dead, .dead, .dead, .dead, .dead, .data (.int .i64), .data (.int .i64), .dead, .dead, .dead, .dead, .dead, .dead, .dead, .dead, .dead, .dead, .dead, .dead], [], [], []⟩, ways := [⟨.ret, ⟨[.dead, .dead, .dead, .dead, .data .bool, .dead, .dead, .dead, .dead, .dead, .dead, .dead, .dead, .dead, .dead, .dead, .dead, .dead, .dead, .dead, .dead, .dead, .dead, .dead, .dead, .dead], [], [], []⟩⟩, ⟨.x 0, ⟨[.dead, .dead, .dead, .dead, .dead, .dead, .dead, .dead, .dead, .dead, .dead, .dead, .dead, .dead, .dead, .dead, .dead, .dead, .dead, .dead, .dead, .dead, .dead, .dead, .dead, .dead], [], [], []⟩⟩], run := fun v => iter (f43_s8_u k) k v }
theorem f43_b8_x (k : Nat) (v : ((List ByteArray) × (List ByteArray) × Int × Int × Unit)) : exec (lookT tab) (f43_env k) [] (loopAt 8 (bodyOf Tryz.f43)) (mkSt (f43_b8 k).inp v) (loopKs (f43_b8 k).inp (f43_b8 k).ways) = f43_s8_u k v := by kernel_rfl
theorem f43_b8_ok (k : Nat) (hT : TTOk Tryz.prog (lookT tab)) (hL : Lasting G) (hE : EnvSound Tryz.prog G (f43_env k)) : SubSound Tryz.prog G (f43_b8 k) (.loop (loopAt 8 (bodyOf Tryz.f43))) :=
  sub_loop (subs := []) hT hE (envOf_nat _) hMix hL (subs_nil _ _ _) (f43_s8_u k) k (fun _ => rfl) (fun v o h => (f43_b8_x k v).trans h) (by kernel_rfl)
theorem f43_x (k : Nat) (v : argsC (f43_e k).inp) : fexec (lookT tab) (f43_env k) [f43_b8 k] Tryz.f43 (bodyOf Tryz.f43) (mkArgs (f43_e k).inp v) (fun rs => getRes (f43_e k).out rs some) = (f43_e k).run v := by kernel_rfl
theorem f43_y : Tryz.f43.body = some (bodyOf Tryz.f43) := by kernel_rfl
theorem f43_z : (Tryz.f43.name == "runtime.NumGoroutine") = false := by kernel_rfl
theorem f43_n2 (k : Nat) : nodesAt (f43_b8 k).key (bodyOf Tryz.f43) = [(.loop (loopAt 8 (bodyOf Tryz.f43)))] := by kernel_rfl
theorem f43_ok (k : Nat) (hT : TTOk Tryz.prog (lookT tab)) (hL : Lasting G) : EntOk Tryz.prog G (f43_e k) := by
  have hE : EnvSound Tryz.prog G (f43_env k) := envOf_sound (ents_nil)
  exact ent_ok (subs := [f43_b8 k]) hT hE (envOf_nat _) hMix hL (subs_cons (f43_n2 k) (f43_b8_ok k hT hL hE) (subs_nil _ _ _)) (f43_e k) Tryz.func43 f43_y f43_z (f43_x k)

def f75_env (k : Nat) : Env := envOf []
def f75_b8 (k : Nat) : Sub := { key := 8, inp := ⟨[.data (.list (.int .i64)), .data (.list (.int .i64)), .dead, .dead, .dead, .dead, .dead, .dead, .dead, .dead, .dead, .dead, .data (.int .i64), .data (.int .i64), .dead, .dead, .dead, .dead, .dead, .dead, .dead, .dead, .dead, .dead, .dead, .dead], [], [], []⟩, ways := [⟨.ret, ⟨[.dead, .dead, .dead, .dead, .data .bool, .dead, .dead, .dead, .dead, .dead, .dead, .dead, .dead, .dead, .dead, .dead, .dead, .dead, .dead, .dead, .dead, .dead, .dead, .dead, .dead, .dead], [], [], []⟩⟩, ⟨.x 0, ⟨[.dead, .dead, .dead, .dead, .dead, .dead, .dead, .dead, .dead, .dead, .dead, .dead, .dead, .dead, .dead, .dead, .dead, .dead, .dead, .dead, .dead, .dead, .dead, .dead, .dead, .dead], [], [], []⟩⟩], run := fun v => iter (f75_s8_u k) k v }
theorem f75_b8_x (k : Nat) (v : ((List Int) × (List Int) × Int × Int × Unit)) : exec (lookT tab) (f75_env k) [] (loopAt 8 (bodyOf Tryz.f75)) (mkSt (f75_b8 k).inp v) (loopKs (f75_b8 k).inp (f75_b8 k).ways) = f75_s8_u k v := by kernel_rfl
theorem f75_b8_ok (k : Nat) (hT : TTOk Tryz.prog (lookT tab)) (hL : Lasting G) (hE : EnvSound Tryz.prog G (f75_env k)) : SubSound Tryz.prog G (f75_b8 k) (.loop (loopAt 8 (bodyOf Tryz.f75))) :=
  sub_loop (subs := []) hT hE (envOf_nat _) hMix hL (subs_nil _ _ _) (f75_s8_u k) k (fun _ => rfl) (fun v o h => (f75_b8_x k v).trans h) (by kernel_rfl)
theorem f75_x (k : Nat) (v : argsC (f75_e k).inp) : fexec (lookT tab) (f75_env k) [f75_b8 k] Tryz.f75 (bodyOf Tryz.f75) (mkArgs (f75_e k).inp v) (fun rs => getRes (f75_e k).out rs some) = (f75_e k).run v := by kernel_rfl
theorem f75_y : Tryz.f75.body = some (bodyOf Tryz.f75) := by kernel_rfl
theorem f75_z : (Tryz.f75.name == "runtime.NumGoroutine") = false := by kernel_rfl
theorem f75_n2 (k : Nat) : nodesAt (f75_b8 k).key (bodyOf Tryz.f75) = [(.loop (loopAt 8 (bodyOf Tryz.f75)))] := by kernel_rfl
theorem f75_ok (k : Nat) (hT : TTOk Tryz.prog (lookT tab)) (hL : Lasting G) : EntOk Tryz.prog G (f75_e k) := by
  have hE : EnvSound Tryz.prog G (f75_env k) := envOf_sound (ents_nil)
  exact ent_ok (subs := [f75_b8 k]) hT hE (envOf_nat _) hMix hL (subs_cons (f75_n2 k) (f75_b8_ok k hT hL hE) (subs_nil _ _ _)) (f75_e k) Tryz.func75 f75_y f75_z (f75_x k)

def f46_env (k : Nat) : Env := envOf []
theorem f46_x (k : Nat) (v : argsC (f46_e k).inp) : fexec (lookT tab) (f46_env k) [] Tryz.f46 (bodyOf Tryz.f46) (mkArgs (f46_e k).inp v) (fun rs => getRes (f46_e k).out rs some) = (f46_e k).run v := by kernel_rfl
theorem f46_y : Tryz.f46.body = some (bodyOf Tryz.f46) := by kernel_rfl
theorem f46_z : (Tryz.f46.name == "runtime.NumGoroutine") = false := by kernel_rfl
theorem f46_ok (k : Nat) (hT : TTOk Tryz.prog (lookT tab)) (hL : Lasting G) : EntOk Tryz.prog G (f46_e k) := by
  have hE : EnvSound Tryz.prog G (f46_env k) := envOf_sound (ents_nil)
  exact ent_ok (subs := []) hT hE (envOf_nat _) hMix hL (subs_nil _ _ _) (f46_e k) Tryz.func46 f46_y f46_z (f46_x k)

def f77_env (k : Nat) : Env := envOf []
theorem f77_x (k : Nat) (v : argsC (f77_e k).inp) : fexec (lookT tab) (f77_env k) [] Tryz.f77 (bodyOf Tryz.f77) (mkArgs (f77_e k).inp v) (fun rs => getRes (f77_e k).out rs some) = (f77_e k).run v := by kernel_rfl
theorem f77_y : Tryz.f77.body = some (bodyOf Tryz.f77) := by kernel_rfl
theorem f77_z : (Tryz.f77.name == "runtime.NumGoroutine") = false := by kernel_rfl
theorem f77_ok (k : Nat) (hT : TTOk Tryz.prog (lookT tab)) (hL : Lasting G) : EntOk Tryz.prog G (f77_e k) := by
  have hE : EnvSound Tryz.prog G (f77_env k) := envOf_sound (ents_nil)
  exact ent_ok (subs := []) hT hE (envOf_nat _) hMix hL (subs_nil _ _ _) (f77_e k) Tryz.func77 f77_y f77_z (f77_x k)

def f76_env (k : Nat) : Env := envOf [f99_e k]
theorem f76_x (k : Nat) (v : argsC (f76_e k).inp) : fexec (lookT tab) (f76_env k) [] Tryz.f76 (bodyOf Tryz.f76) (mkArgs (f76_e k).inp v) (fun rs => getRes (f76_e k).out rs some) = (f76_e k).run v := by kernel_rfl
theorem f76_y : Tryz.f76.body = some (bodyOf Tryz.f76) := by kernel_rfl
theorem f76_z : (Tryz.f76.name == "runtime.NumGoroutine") = false := by kernel_rfl
theorem f76_ok (k : Nat) (hT : TTOk Tryz.prog (lookT tab)) (hL : Lasting G) (h0 : EntOk Tryz.prog G (f99_e k)) : EntOk Tryz.prog G (f76_e k) := by
  have hE : EnvSound Tryz.prog G (f76_env k) := envOf_sound (ents_cons h0 (ents_nil))
  exact ent_ok (subs := []) hT hE (envOf_nat _) hMix hL (subs_nil _ _ _) (f76_e k) Tryz.func76 f76_y f76_z (f76_x k)

def f47_env (k : Nat) : Env := envOf [f76_e k]
theorem f47_x (k : Nat) (v : argsC (f47_e k).inp) : fexec (lookT tab) (f47_env k) [] Tryz.f47 (bodyOf Tryz.f47) (mkArgs (f47_e k).inp v) (fun rs => getRes (f47_e k).out rs some) = (f47_e k).run v := by kernel_rfl
theorem f47_y : Tryz.f47.body = some (bodyOf Tryz.f47) := by kernel_rfl
theorem f47_z : (Tryz.f47.name == "runtime.NumGoroutine") = false := by kernel_rfl
theorem f47_ok (k : Nat) (hT : TTOk Tryz.prog (lookT tab)) (hL : Lasting G) (h0 : EntOk Tryz.prog G (f76_e k)) : EntOk Tryz.prog G (f47_e k) := by
  have hE : EnvSound Tryz.prog G (f47_env k) := envOf_sound (ents_cons h0 (ents_nil))
  exact ent_ok (subs := []) hT hE (envOf_nat _) hMix hL (subs_nil _ _ _) (f47_e k) Tryz.func47 f47_y f47_z (f47_x k)

def f79_env (k : Nat) : Env := envOf []
theorem f79_x (k : Nat) (v : argsC (f79_e k).inp) : fexec (lookT tab) (f79_env k) [] Tryz.f79 (bodyOf Tryz.f79) (mkArgs (f79_e k).inp v) (fun rs => getRes (f79_e k).out rs some) = (f79_e k).run v := by kernel_rfl
theorem f79_y : Tryz.f79.body = some (bodyOf Tryz.f79) := by kernel_rfl
theorem f79_z : (Tryz.f79.name == "runtime.NumGoroutine") = false := by kernel_rfl
theorem f79_ok (k : Nat) (hT : TTOk Tryz.prog (lookT tab)) (hL : Lasting G) : EntOk Tryz.prog G (f79_e k) := by
  have hE : EnvSound Tryz.prog G (f79_env k) := envOf_sound (ents_nil)
  exact ent_ok (subs := []) hT hE (envOf_nat _) hMix hL (subs_nil _ _ _) (f79_e k) Tryz.func79 f79_y f79_z (f79_x k)

def f78_env (k : Nat) : Env := envOf [f100_e k]
theorem f78_x (k : Nat) (v : argsC (f78_e k).inp) : fexec (lookT tab) (f78_env k) [] Tryz.f78 (bodyOf Tryz.f78) (mkArgs (f78_e k).inp v) (fun rs => getRes (f78_e k).out rs some) = (f78_e k).run v := by kernel_rfl
theorem f78_y : Tryz.f78.body = some (bodyOf Tryz.f78) := by kernel_rfl
theorem f78_z : (Tryz.f78.name == "runtime.NumGoroutine") = false := by kernel_rfl
theorem f78_ok (k : Nat) (hT : TTOk Tryz.prog (lookT tab)) (hL : Lasting G) (h0 : EntOk Tryz.prog G (f100_e k)) : EntOk Tryz.prog G (f78_e k) := by
  have hE : EnvSound Tryz.prog G (f78_env k) := envOf_sound (ents_cons h0 (ents_nil))
  exact ent_ok (subs := []) hT hE (envOf_nat _) hMix hL (subs_nil _ _ _) (f78_e k) Tryz.func78 f78_y f78_z (f78_x k)

def f48_env (k : Nat) : Env := envOf [f78_e k]
theorem f48_x (k : Nat) (v : argsC (f48_e k).inp) : fexec (lookT tab) (f48_env k) [] Tryz.f48 (bodyOf Tryz.f48) (mkArgs (f48_e k).inp v) (fun rs => getRes (f48_e k).out rs some) = (f48_e k).run v := by kernel_rfl
theorem f48_y : Tryz.f48.body = some (bodyOf Tryz.f48) := by kernel_rfl
theorem f48_z : (Tryz.f48.name == "runtime.NumGoroutine") = false := by kernel_rfl
theorem f48_ok (k : Nat) (hT : TTOk Tryz.prog (lookT tab)) (hL : Lasting G) (h0 : EntOk Tryz.prog G (f78_e k)) : EntOk Tryz.prog G (f48_e k) := by
  have hE : EnvSound Tryz.prog G (f48_env k) := envOf_sound (ents_cons h0 (ents_nil))
  exact ent_ok (subs := []) hT hE (envOf_nat _) hMix hL (subs_nil _ _ _) (f48_e k) Tryz.func48 f48_y f48_z (f48_x k)

def f27_env (k : Nat) : Env := envOf [f45_e k, f44_e k, f46_e k, f47_e k, f48_e k]
def f27_b8 (k : Nat) : Sub := { key := 8, inp := ⟨[.dead, .ptr 0 [], .dead, .dead, .dead, .dead, .dead, .dead, .dead, .dead, .dead, .dead, .dead, .dead, .dead, .dead, .dead, .dead, .dead, .dead, .dead, .dead, .dead, .dead, .dead, .dead, .dead, .dead, .dead, .dead, .osl 1, .data (.int .i64), .data (.int .i64), .dead, .dead, .dead, .dead, .dead, .dead, .dead, .dead, .dead, .dead, .dead, .dead, .dead, .dead, .dead, .dead, .dead, .dead, .dead, .dead, .dead, .dead, .dead, .dead, .dead, .dead, .dead, .dead, .dead, .dead, .dead, .dead, .dead, .dead, .dead, .dead, .dead, .dead, .dead, .dead, .dead, .dead, .dead, .dead, .dead, .dead, .dead, .dead, .dead, .dead, .dead, .dead, .dead, .dead, .dead, .dead, .dead, .dead, .dead, .dead, .dead, .dead], [.box tO, .row (.int .i64)], [], []⟩, ways := [⟨.ret, ⟨[.dead, .dead, .data .bool, .dead, .dead, .dead, .dead, .dead, .dead, .dead, .dead, .dead, .dead, .dead, .dead, .dead, .dead, .dead, .dead, .dead, .dead, .dead, .dead, .dead, .dead, .dead, .dead, .dead, .dead, .dead, .dead, .dead, .dead, .dead, .dead, .dead, .dead, .dead, .dead, .dead, .dead, .dead, .dead, .dead, .dead, .dead, .dead, .dead, .dead, .dead, .dead, .dead, .dead, .dead, .dead, .dead, .dead, .dead, .dead, .dead, .dead, .dead, .dead, .dead, .dead, .dead, .dead, .dead, .dead, .dead, .dead, .dead, .dead, .dead, .dead, .dead, .dead, .dead, .dead, .dead, .dead, .dead, .dead, .dead, .dead, .dead, .dead, .dead, .dead, .dead, .dead, .dead, .dead, .dead, .dead], [], [], []⟩⟩, ⟨.x 0, ⟨[.dead, .ptr 0 [], .dead, .dead, .dead, .dead, .dead, .dead, .dead, .dead, .dead, .dead, .dead, .dead, .dead, .dead, .dead, .dead, .dead, .dead, .dead, .dead, .dead, .dead, .dead, .dead, .dead, .dead, .dead, .dead, .dead, .dead, .dead, .dead, .dead, .dead, .dead, .dead, .dead, .dead, .dead, .dead, .dead, .dead, .dead, .dead, .dead, .dead, .dead, .dead, .dead, .dead, .dead, .dead, .dead, .dead, .dead, .dead, .dead, .dead, .dead, .dead, .dead, .dead, .dead, .dead, .dead, .dead, .dead, .dead, .dead, .dead, .dead, .dead, .dead, .dead, .dead, .dead, .dead, .dead, .dead, .dead, .dead, .dead, .dead, .dead, .dead, .dead, .dead, .dead, .dead, .dead, .dead, .dead, .dead], [.box tO], [], []⟩⟩], run := fun v => iter (f27_s8_u k) k v }
theorem f27_b8_x (k : Nat) (v : (Int × Int × cO × (List Int) × Unit)) : exec (lookT tab) (f27_env k) [] (loopAt 8 (bodyOf Tryz.f27)) (mkSt (f27_b8 k).inp v) (loopKs (f27_b8 k).inp (f27_b8 k).ways) = f27_s8_u k v := by kernel_rfl
theorem f27_b8_ok (k : Nat) (hT : TTOk Tryz.prog (lookT tab)) (hL : Lasting G) (hE : EnvSound Tryz.prog G (f27_env k)) : SubSound Tryz.prog G (f27_b8 k) (.loop (loopAt 8 (bodyOf Tryz.f27))) :=
  sub_loop (subs := []) hT hE (envOf_nat _) hMix hL (subs_nil _ _ _) (f27_s8_u k) k (fun _ => rfl) (fun v o h => (f27_b8_x k v).trans h) (by kernel_rfl)
theorem f27_x (k : Nat) (v : argsC (f27_e k).inp) : fexec (lookT tab) (f27_env k) [f27_b8 k] Tryz.f27 (bodyOf Tryz.f27) (mkArgs (f27_e k).inp v) (fun rs => getRes (f27_e k).out rs some) = (f27_e k).run v := by kernel_rfl
theorem f27_y : Tryz.f27.body = some (bodyOf Tryz.f27) := by kernel_rfl
theorem f27_z : (Tryz.f27.name == "runtime.NumGoroutine") = false := by kernel_rfl
theorem f27_n14 (k : Nat) : nodesAt (f27_b8 k).key (bodyOf Tryz.f27) = [(.loop (loopAt 8 (bodyOf Tryz.f27)))] := by kernel_rfl
theorem f27_ok (k : Nat) (hT : TTOk Tryz.prog (lookT tab)) (hL : Lasting G) (h0 : EntOk Tryz.prog G (f45_e k)) (h1 : EntOk Tryz.prog G (f44_e k)) (h2 : EntOk Tryz.prog G (f46_e k)) (h3 : EntOk Tryz.prog G (f47_e k)) (h4 : EntOk Tryz.prog G (f48_e k)) : EntOk Tryz.prog G (f27_e k) := by
  have hE : EnvSound Tryz.prog G (f27_env k) := envOf_sound (ents_cons h0 (ents_cons h1 (ents_cons h2 (ents_cons h3 (ents_cons h4 (ents_nil))))))
  exact ent_ok (subs := [f27_b8 k]) hT hE (envOf_nat _) hMix hL (subs_cons (f27_n14 k) (f27_b8_ok k hT hL hE) (subs_nil _ _ _)) (f27_e k) Tryz.func27 f27_y f27_z (f27_x k)

def f62a_env (k : Nat) : Env := envOf [f88_e k, f87_e k]
def f62a_b8 (k : Nat) : Sub := { key := 8, inp := ⟨[.data .str, .fn 88, .data .str, .dead, .dead, .dead, .dead, .dead, .dead, .dead, .dead, .dead, .dead, .dead, .iter 0, .dead, .dead, .dead, .dead, .dead, .dead, .dead, .dead, .dead, .dead, .dead, .dead, .dead, .dead, .dead, .dead, .dead, .dead, .dead, .dead, .dead, .dead, .dead, .dead, .dead, .dead], [.iter], [], []⟩, ways := [⟨.ret, ⟨[.dead, .dead, .dead, .dead, .dead, .dead, .data .bool, .dead, .dead, .dead, .dead, .dead, .dead, .dead, .dead, .dead, .dead, .dead, .dead, .dead, .dead, .dead, .dead, .dead, .dead, .dead, .dead, .dead, .dead, .dead, .dead, .dead, .dead, .dead, .dead, .dead, .dead, .dead, .dead, .dead, .dead], [], [], []⟩⟩, ⟨.x 0, ⟨[.dead, .dead, .dead, .dead, .dead, .dead, .dead, .dead, .dead, .dead, .dead, .dead, .dead, .dead, .dead, .dead, .dead, .dead, .dead, .dead, .dead, .dead, .dead, .dead, .dead, .dead, .dead, .dead, .dead, .dead, .dead, .dead, .dead, .dead, .dead, .dead, .dead, .dead, .dead, .dead, .dead], [], [], []⟩⟩], run := fun v => iter (f62a_s8_u k) k v }
theorem f62a_b8_x (k : Nat) (v : (ByteArray × ByteArray × ByteArray × Nat × Unit)) : exec (lookT tab) (f62a_env k) [] (loopAt 8 (bodyOf Tryz.f62)) (mkSt (f62a_b8 k).inp v) (loopKs (f62a_b8 k).inp (f62a_b8 k).ways) = f62a_s8_u k v := by kernel_rfl
theorem f62a_b8_ok (k : Nat) (hT : TTOk Tryz.prog (lookT tab)) (hL : Lasting G) (hE : EnvSound Tryz.prog G (f62a_env k)) : SubSound Tryz.prog G (f62a_b8 k) (.loop (loopAt 8 (bodyOf Tryz.f62))) :=
  sub_loop (subs := []) hT hE (envOf_nat _) hMix hL (subs_nil _ _ _) (f62a_s8_u k) k (fun _ => rfl) (fun v o h => (f62a_b8_x k v).trans h) (by kernel_rfl)
theorem f62a_x (k : Nat) (v : argsC (f62a_e k).inp) : fexec (lookT tab) (f62a_env k) [f62a_b8 k] Tryz.f62 (bodyOf Tryz.f62) (mkArgs (f62a_e k).inp v) (fun rs => getRes (f62a_e k).out rs some) = (f62a_e k).run v := by kernel_rfl
theorem f62a_y : Tryz.f62.body = some (bodyOf Tryz.f62) := by kernel_rfl
theorem f62a_z : (Tryz.f62.name == "runtime.NumGoroutine") = false := by kernel_rfl
theorem f62a_n9 (k : Nat) : nodesAt (f62a_b8 k).key (bodyOf Tryz.f62) = [(.loop (loopAt 8 (bodyOf Tryz.f62)))] := by kernel_rfl
theorem f62a_ok (k : Nat) (hT : TTOk Tryz.prog (lookT tab)) (hL : Lasting G) (h0 : EntOk Tryz.prog G (f88_e k)) (h1 : EntOk Tryz.prog G (f87_e k)) : EntOk Tryz.prog G (f62a_e k) := by
  have hE : EnvSound Tryz.prog G (f62a_env k) := envOf_sound (ents_cons h0 (ents_cons h1 (ents_nil)))
  exact ent_ok (subs := [f62a_b8 k]) hT hE (envOf_nat _) hMix hL (subs_cons (f62a_n9 k) (f62a_b8_ok k hT hL hE) (subs_nil _ _ _)) (f62a_e k) Tryz.func62 f62a_y f62a_z (f62a_x k)

def f38_env (k : Nat) : Env := envOf [f36_e k]
def f38_b4 (k : Nat) : Sub := { key := 4, inp := ⟨[.data (.list .str), .dead, .dead, .dead, .dead, .data (.list .str), .data (.int .i64), .data (.int .i64), .dead, .dead, .dead, .dead, .dead, .dead, .dead, .dead, .dead, .dead, .dead, .dead, .dead, .dead, .dead, .dead, .dead, .dead, .dead, .dead, .dead], [], [], []⟩, ways := [⟨.ret, ⟨[.dead, .dead, .data .bool, .dead, .dead, .dead, .dead, .dead, .dead, .dead, .dead, .dead, .dead, .dead, .dead, .dead, .dead, .dead, .dead, .dead, .dead, .dead, .dead, .dead, .dead, .dead, .dead, .dead, .dead], [], [], []⟩⟩, ⟨.x 0, ⟨[.dead, .dead, .dead, .dead, .dead, .dead, .dead, .dead, .dead, .dead, .dead, .dead, .dead, .dead, .dead, .dead, .dead, .dead, .dead, .dead, .dead, .dead, .dead, .dead, .dead, .dead, .dead, .dead, .dead], [], [], []⟩⟩], run := fun v => iter (f38_s4_u k) k v }
theorem f38_b4_x (k : Nat) (v : ((List ByteArray) × (List ByteArray) × Int × Int × Unit)) : exec (lookT tab) (f38_env k) [] (loopAt 4 (bodyOf Tryz.f38)) (mkSt (f38_b4 k).inp v) (loopKs (f38_b4 k).inp (f38_b4 k).ways) = f38_s4_u k v := by kernel_rfl
theorem f38_b4_ok (k : Nat) (hT : TTOk Tryz.prog (lookT tab)) (hL : Lasting G) (hE : EnvSound Tryz.prog G (f38_env k)) : SubSound Tryz.prog G (f38_b4 k) (.loop (loopAt 4 (bodyOf Tryz.f38))) :=
  sub_loop (subs := []) hT hE (envOf_nat _) hMix hL (subs_nil _ _ _) (f38_s4_u k) k (fun _ => rfl) (fun v o h => (f38_b4_x k v).trans h) (by kernel_rfl)
theorem f38_x (k : Nat) (v : argsC (f38_e k).inp) : fexec (lookT tab) (f38_env k) [f38_b4 k] Tryz.f38 (bodyOf Tryz.f38) (mkArgs (f38_e k).inp v) (fun rs => getRes (f38_e k).out rs some) = (f38_e k).run v := by kernel_rfl
theorem f38_y : Tryz.f38.body = some (bodyOf Tryz.f38) := by kernel_rfl
theorem f38_z : (Tryz.f38.name == "runtime.NumGoroutine") = false := by kernel_rfl
theorem f38_n5 (k : Nat) : nodesAt (f38_b4 k).key (bodyOf Tryz.f38) = [(.loop (loopAt 4 (bodyOf Tryz.f38)))] := by kernel_rfl
theorem f38_ok (k : Nat) (hT : TTOk Tryz.prog (lookT tab)) (hL : Lasting G) (h0 : EntOk Tryz.prog G (f36_e k)) : EntOk Tryz.prog G (f38_e k) := by
  have hE : EnvSound Tryz.prog G (f38_env k) := envOf_sound (ents_cons h0 (ents_nil))
  exact ent_ok (subs := [f38_b4 k]) hT hE (envOf_nat _) hMix hL (subs_cons (f38_n5 k) (f38_b4_ok k hT hL hE) (subs_nil _ _ _)) (f38_e k) Tryz.func38 f38_y f38_z (f38_x k)

def f39_env (k : Nat) : Env := envOf []
def f39_b6 (k : Nat) : Sub := { key := 6, inp := ⟨[.dead, .ptr 0 [], .dead, .ptr 1 [], .dead, .dead, .dead, .dead, .dead, .data (.list .str), .data (.int .i64), .data (.int .i64), .dead, .dead, .dead, .dead, .dead, .dead, .dead, .dead, .dead, .dead, .dead, .dead, .dead, .dead, .dead, .dead, .dead, .dead, .dead, .dead, .dead, .dead, .dead, .dead, .dead, .dead, .dead, .dead, .dead, .dead, .dead, .dead, .dead, .dead, .dead, .dead, .dead], [.box tO, .box (.arr 2 (.int .i64))], [], []⟩, ways := [⟨.x 0, ⟨[.dead, .ptr 0 [], .dead, .ptr 1 [], .dead, .dead, .dead, .dead, .dead, .dead, .dead, .dead, .dead, .dead, .dead, .dead, .dead, .dead, .dead, .dead, .dead, .dead, .dead, .dead, .dead, .dead, .dead, .dead, .dead, .dead, .dead, .dead, .dead, .dead, .dead, .dead, .dead, .dead, .dead, .dead, .dead, .dead, .dead, .dead, .dead, .dead, .dead, .dead, .dead], [.box tO, .box (.arr 2 (.int .i64))], [], []⟩⟩], run := fun v => iter (f39_s6_u k) k v }
theorem f39_b6_x (k : Nat) (v : ((List ByteArray) × Int × Int × cO × (List Int) × Unit)) : exec (lookT tab) (f39_env k) [] (loopAt 6 (bodyOf Tryz.f39)) (mkSt (f39_b6 k).inp v) (loopKs (f39_b6 k).inp (f39_b6 k).ways) = f39_s6_u k v := by kernel_rfl
theorem f39_b6_ok (k : Nat) (hT : TTOk Tryz.prog (lookT tab)) (hL : Lasting G) (hE : EnvSound Tryz.prog G (f39_env k)) : SubSound Tryz.prog G (f39_b6 k) (.loop (loopAt 6 (bodyOf Tryz.f39))) :=
  sub_loop (subs := []) hT hE (envOf_nat _) hMix hL (subs_nil _ _ _) (f39_s6_u k) k (fun _ => rfl) (fun v o h => (f39_b6_x k v).trans h) (by kernel_rfl)
theorem f39_x (k : Nat) (v : argsC (f39_e k).inp) : fexec (lookT tab) (f39_env k) [f39_b6 k] Tryz.f39 (bodyOf Tryz.f39) (mkArgs (f39_e k).inp v) (fun rs => getRes (f39_e k).out rs some) = (f39_e k).run v := by kernel_rfl
theorem f39_y : Tryz.f39.body = some (bodyOf Tryz.f39) := by kernel_rfl
theorem f39_z : (Tryz.f39.name == "runtime.NumGoroutine") = false := by kernel_rfl
theorem f39_n2 (k : Nat) : nodesAt (f39_b6 k).key (bodyOf Tryz.f39) = [(.loop (loopAt 6 (bodyOf Tryz.f39)))] := by kernel_rfl
theorem f39_ok (k : Nat) (hT : TTOk Tryz.prog (lookT tab)) (hL : Lasting G) : EntOk Tryz.prog G (f39_e k) := by
  have hE : EnvSound Tryz.prog G (f39_env k) := envOf_sound (ents_nil)
  exact ent_ok (subs := [f39_b6 k]) hT hE (envOf_nat _) hMix hL (subs_cons (f39_n2 k) (f39_b6_ok k hT hL hE) (subs_nil _ _ _)) (f39_e k) Tryz.func39 f39_y f39_z (f39_x k)

def f6_m : List (Nat × TT) := [(29, (.opt tS)), (52, (.map tK tO)), (54, tS)]
theorem f6_t : TTOk Tryz.prog (lookTM tab f6_m [54]) := lookTM_ok hTabB (by kernel_rfl)
def f6_env (k : Nat) : Env := envOf [f20_e k, f21_e k, f22_e k]
theorem f6_x (k : Nat) (v : argsC (f6_e k).inp) : fexec (lookTM tab f6_m [54]) (f6_env k) [] Tryz.f6 (bodyOf Tryz.f6) (mkArgs (f6_e k).inp v) (fun rs => getRes (f6_e k).out rs some) = (f6_e k).run v := by kernel_rfl
theorem f6_y : Tryz.f6.body = some (bodyOf Tryz.f6) := by kernel_rfl
theorem f6_z : (Tryz.f6.name == "runtime.NumGoroutine") = false := by kernel_rfl
theorem f6_ok (k : Nat) (hT : TTOk Tryz.prog (lookTM tab f6_m [54])) (hL : Lasting G) (h0 : EntOk Tryz.prog G (f20_e k)) (h1 : EntOk Tryz.prog G (f21_e k)) (h2 : EntOk Tryz.prog G (f22_e k)) : EntOk Tryz.prog G (f6_e k) := by
  have hE : EnvSound Tryz.prog G (f6_env k) := envOf_sound (ents_cons h0 (ents_cons h1 (ents_cons h2 (ents_nil))))
  exact ent_ok (subs := []) hT hE (envOf_nat _) hMix hL (subs_nil _ _ _) (f6_e k) Tryz.func6 f6_y f6_z (f6_x k)

def f29_env (k : Nat) : Env := envOf [f28_e k]
theorem f29_x (k : Nat) (v : argsC (f29_e k).inp) : fexec (lookT tab) (f29_env k) [] Tryz.f29 (bodyOf Tryz.f29) (mkArgs (f29_e k).inp v) (fun rs => getRes (f29_e k).out rs some) = (f29_e k).run v := by kernel_rfl
theorem f29_y : Tryz.f29.body = some (bodyOf Tryz.f29) := by kernel_rfl
theorem f29_z : (Tryz.f29.name == "runtime.NumGoroutine") = false := by kernel_rfl
theorem f29_ok (k : Nat) (hT : TTOk Tryz.prog (lookT tab)) (hL : Lasting G) (h0 : EntOk Tryz.prog G (f28_e k)) : EntOk Tryz.prog G (f29_e k) := by
  have hE : EnvSound Tryz.prog G (f29_env k) := envOf_sound (ents_cons h0 (ents_nil))
  exact ent_ok (subs := []) hT hE (envOf_nat _) hMix hL (subs_nil _ _ _) (f29_e k) Tryz.func29 f29_y f29_z (f29_x k)

def f12_m : List (Nat × TT) := [(29, (.opt tS)), (52, (.map tK tO)), (54, tS)]
theorem f12_t : TTOk Tryz.prog (lookTM tab f12_m [54]) := lookTM_ok hTabB (by kernel_rfl)
def f12_env (k : Nat) : Env := envOf [f30_e k, f29_e k, f20_e k]
theorem f12_x (k : Nat) (v : argsC (f12_e k).inp) : fexec (lookTM tab f12_m [54]) (f12_env k) [] Tryz.f12 (bodyOf Tryz.f12) (mkArgs (f12_e k).inp v) (fun rs => getRes (f12_e k).out rs some) = (f12_e k).run v := by kernel_rfl
theorem f12_y : Tryz.f12.body = some (bodyOf Tryz.f12) := by kernel_rfl
theorem f12_z : (Tryz.f12.name == "runtime.NumGoroutine") = false := by kernel_rfl
theorem f12_ok (k : Nat) (hT : TTOk Tryz.prog (lookTM tab f12_m [54])) (hL : Lasting G) (h0 : EntOk Tryz.prog G (f30_e k)) (h1 : EntOk Tryz.prog G (f29_e k)) (h2 : EntOk Tryz.prog G (f20_e k)) : EntOk Tryz.prog G (f12_e k) := by
  have hE : EnvSound Tryz.prog G (f12_env k) := envOf_sound (ents_cons h0 (ents_cons h1 (ents_cons h2 (ents_nil))))
  exact ent_ok (subs := []) hT hE (envOf_nat _) hMix hL (subs_nil _ _ _) (f12_e k) Tryz.func12 f12_y f12_z (f12_x k)

def f25_env (k : Nat) : Env := envOf [f44_e k]
theorem f25_x (k : Nat) (v : argsC (f25_e k).inp) : fexec (lookT tab) (f25_env k) [] Tryz.f25 (bodyOf Tryz.f25) (mkArgs (f25_e k).inp v) (fun rs => getRes (f25_e k).out rs some) = (f25_e k).run v := by kernel_rfl
theorem f25_y : Tryz.f25.body = some (bodyOf Tryz.f25) := by kernel_rfl
theorem f25_z : (Tryz.f25.name == "runtime.NumGoroutine") = false := by kernel_rfl
theorem f25_ok (k : Nat) (hT : TTOk Tryz.prog (lookT tab)) (hL : Lasting G) (h0 : EntOk Tryz.prog G (f44_e k)) : EntOk Tryz.prog G (f25_e k) := by
  have hE : EnvSound Tryz.prog G (f25_env k) := envOf_sound (ents_cons h0 (ents_nil))
  exact ent_ok (subs := []) hT hE (envOf_nat _) hMix hL (subs_nil _ _ _) (f25_e k) Tryz.func25 f25_y f25_z (f25_x k)

def f26_env (k : Nat) : Env := envOf [f28_e k]
theorem f26_x (k : Nat) (v : argsC (f26_e k).inp) : fexec (lookT tab) (f26_env k) [] Tryz.f26 (bodyOf Tryz.f26) (mkArgs (f26_e k).inp v) (fun rs => getRes (f26_e k).out rs some) = (f26_e k).run v := by kernel_rfl
theorem f26_y : Tryz.f26.body = some (bodyOf Tryz.f26) := by kernel_rfl
theorem f26_z : (Tryz.f26.name == "runtime.NumGoroutine") = false := by kernel_rfl
theorem f26_ok (k : Nat) (hT : TTOk Tryz.prog (lookT tab)) (hL : Lasting G) (h0 : EntOk Tryz.prog G (f28_e k)) : EntOk Tryz.prog G (f26_e k) := by
  have hE : EnvSound Tryz.prog G (f26_env k) := envOf_sound (ents_cons h0 (ents_nil))
  exact ent_ok (subs := []) hT hE (envOf_nat _) hMix hL (subs_nil _ _ _) (f26_e k) Tryz.func26 f26_y f26_z (f26_x k)

def f7_m : List (Nat × TT) := [(29, (.opt tS)), (52, (.map tK tO)), (54, tS)]
theorem f7_t : TTOk Tryz.prog (lookTM tab f7_m [54]) := lookTM_ok hTabB (by kernel_rfl)
def f7_env (k : Nat) : Env := envOf [f20_e k, f23_e k, f21_e k, f24_e k, f25_e k, f26_e k, f22_e k]
theorem f7_x (k : Nat) (v : argsC (f7_e k).inp) : fexec (lookTM tab f7_m [54]) (f7_env k) [] Tryz.f7 (bodyOf Tryz.f7) (mkArgs (f7_e k).inp v) (fun rs => getRes (f7_e k).out rs some) = (f7_e k).run v := by kernel_rfl
theorem f7_y : Tryz.f7.body = some (bodyOf Tryz.f7) := by kernel_rfl
theorem f7_z : (Tryz.f7.name == "runtime.NumGoroutine") = false := by kernel_rfl
theorem f7_ok (k : Nat) (hT : TTOk Tryz.prog (lookTM tab f7_m [54])) (hL : Lasting G) (h0 : EntOk Tryz.prog G (f20_e k)) (h1 : EntOk Tryz.prog G (f23_e k)) (h2 : EntOk Tryz.prog G (f21_e k)) (h3 : EntOk Tryz.prog G (f24_e k)) (h4 : EntOk Tryz.prog G (f25_e k)) (h5 : EntOk Tryz.prog G (f26_e k)) (h6 : EntOk Tryz.prog G (f22_e k)) : EntOk Tryz.prog G (f7_e k) := by
  have hE : EnvSound Tryz.prog G (f7_env k) := envOf_sound (ents_cons h0 (ents_cons h1 (ents_cons h2 (ents_cons h3 (ents_cons h4 (ents_cons h5 (ents_cons h6 (ents_nil))))))))
  exact ent_ok (subs := []) hT hE (envOf_nat _) hMix hL (subs_nil _ _ _) (f7_e k) Tryz.func7 f7_y f7_z (f7_x k)

def f19_env (k : Nat) : Env := envOf []
def f19_b8 (k : Nat) : Sub := { key := 8, inp := ⟨[.data (.list .str), .dead, .dead, .data (.int .i64), .dead, .dead, .dead, .dead, .dead, .dead, .dead, .dead, .dead, .dead, .dead, .dead, .dead, .dead, .dead], [], [], []⟩, ways := [⟨.ret, ⟨[.dead, .dead, .data .bool, .dead, .dead, .dead, .dead, .dead, .dead, .dead, .dead, .dead, .dead, .dead, .dead, .dead, .dead, .dead, .dead], [], [], []⟩⟩, ⟨.x 0, ⟨[.dead, .dead, .dead, .dead, .dead, .dead, .dead, .dead, .dead, .dead, .dead, .dead, .dead, .dead, .dead, .dead, .dead, .dead, .dead], [], [], []⟩⟩], run := fun v => iter (f19_s8_u k) k v }
theorem f19_b8_x (k : Nat) (v : ((List ByteArray) × Int × Unit)) : exec (lookT tab) (f19_env k) [] (loopAt 8 (bodyOf Tryz.f19)) (mkSt (f19_b8 k).inp v) (loopKs (f19_b8 k).inp (f19_b8 k).ways) = f19_s8_u k v := by kernel_rfl
theorem f19_b8_ok (k : Nat) (hT : TTOk Tryz.prog (lookT tab)) (hL : Lasting G) (hE : EnvSound Tryz.prog G (f19_env k)) : SubSound Tryz.prog G (f19_b8 k) (.loop (loopAt 8 (bodyOf Tryz.f19))) :=
  sub_loop (subs := []) hT hE (envOf_nat _) hMix hL (subs_nil _ _ _) (f19_s8_u k) k (fun _ => rfl) (fun v o h => (f19_b8_x k v).trans h) (by kernel_rfl)
theorem f19_x (k : Nat) (v : argsC (f19_e k).inp) : fexec (lookT tab) (f19_env k) [f19_b8 k] Tryz.f19 (bodyOf Tryz.f19) (mkArgs (f19_e k).inp v) (fun rs => getRes (f19_e k).out rs some) = (f19_e k).run v := by kernel_rfl
theorem f19_y : Tryz.f19.body = some (bodyOf Tryz.f19) := by kernel_rfl
theorem f19_z : (Tryz.f19.name == "runtime.NumGoroutine") = false := by kernel_rfl
theorem f19_n2 (k : Nat) : nodesAt (f19_b8 k).key (bodyOf Tryz.f19) = [(.loop (loopAt 8 (bodyOf Tryz.f19)))] := by kernel_rfl
theorem f19_ok (k : Nat) (hT : TTOk Tryz.prog (lookT tab)) (hL : Lasting G) : EntOk Tryz.prog G (f19_e k) := by
  have hE : EnvSound Tryz.prog G (f19_env k) := envOf_sound (ents_nil)
  exact ent_ok (subs := [f19_b8 k]) hT hE (envOf_nat _) hMix hL (subs_cons (f19_n2 k) (f19_b8_ok k hT hL hE) (subs_nil _ _ _)) (f19_e k) Tryz.func19 f19_y f19_z (f19_x k)

def f6a_m : List (Nat × TT) := [(29, (.opt tS)), (52, (.map tK tO)), (54, tS)]
theorem f6a_t : TTOk Tryz.prog (lookTM tab f6a_m [54]) := lookTM_ok hTabB (by kernel_rfl)
def f6a_env (k : Nat) : Env := envOf []
theorem f6a_x (k : Nat) (v : argsC (f6a_e k).inp) : fexec (lookTM tab f6a_m [54]) (f6a_env k) [] Tryz.f6 (bodyOf Tryz.f6) (mkArgs (f6a_e k).inp v) (fun rs => getRes (f6a_e k).out rs some) = (f6a_e k).run v := by kernel_rfl
theorem f6a_y : Tryz.f6.body = some (bodyOf Tryz.f6) := by kernel_rfl
theorem f6a_z : (Tryz.f6.name == "runtime.NumGoroutine") = false := by kernel_rfl
theorem f6a_ok (k : Nat) (hT : TTOk Tryz.prog (lookTM tab f6a_m [54])) (hL : Lasting G) : EntOk Tryz.prog G (f6a_e k) := by
  have hE : EnvSound Tryz.prog G (f6a_env k) := envOf_sound (ents_nil)
  exact ent_ok (subs := []) hT hE (envOf_nat _) hMix hL (subs_nil _ _ _) (f6a_e k) Tryz.func6 f6a_y f6a_z (f6a_x k)

def f8_m : List (Nat × TT) := [(29, (.opt tS)), (52, (.map tK tO)), (54, tS)]
theorem f8_t : TTOk Tryz.prog (lookTM tab f8_m [54]) := lookTM_ok hTabB (by kernel_rfl)
def f8_env (k : Nat) : Env := envOf []
theorem f8_x (k : Nat) (v : argsC (f8_e k).inp) : fexec (lookTM tab f8_m [54]) (f8_env k) [] Tryz.f8 (bodyOf Tryz.f8) (mkArgs (f8_e k).inp v) (fun rs => getRes (f8_e k).out rs some) = (f8_e k).run v := by kernel_rfl
theorem f8_y : Tryz.f8.body = some (bodyOf Tryz.f8) := by kernel_rfl
theorem f8_z : (Tryz.f8.name == "runtime.NumGoroutine") = false := by kernel_rfl
theorem f8_ok (k : Nat) (hT : TTOk Tryz.prog (lookTM tab f8_m [54])) (hL : Lasting G) : EntOk Tryz.prog G (f8_e k) := by
  have hE : EnvSound Tryz.prog G (f8_env k) := envOf_sound (ents_nil)
  exact ent_ok (subs := []) hT hE (envOf_nat _) hMix hL (subs_nil _ _ _) (f8_e k) Tryz.func8 f8_y f8_z (f8_x k)

def f10_m : List (Nat × TT) := [(29, (.opt tS)), (52, (.map tK tO)), (54, tS)]
theorem f10_t : TTOk Tryz.prog (lookTM tab f10_m [54]) := lookTM_ok hTabB (by kernel_rfl)
def f10_env (k : Nat) : Env := envOf []
theorem f10_x (k : Nat) (v : argsC (f10_e k).inp) : fexec (lookTM tab f10_m [54]) (f10_env k) [] Tryz.f10 (bodyOf Tryz.f10) (mkArgs (f10_e k).inp v) (fun rs => getRes (f10_e k).out rs some) = (f10_e k).run v := by kernel_rfl
theorem f10_y : Tryz.f10.body = some (bodyOf Tryz.f10) := by kernel_rfl
theorem f10_z : (Tryz.f10.name == "runtime.NumGoroutine") = false := by kernel_rfl
theorem f10_ok (k : Nat) (hT : TTOk Tryz.prog (lookTM tab f10_m [54])) (hL : Lasting G) : EntOk Tryz.prog G (f10_e k) := by
  have hE : EnvSound Tryz.prog G (f10_env k) := envOf_sound (ents_nil)
  exact ent_ok (subs := []) hT hE (envOf_nat _) hMix hL (subs_nil _ _ _) (f10_e k) Tryz.func10 f10_y f10_z (f10_x k)

def f12a_m : List (Nat × TT) := [(29, (.opt tS)), (52, (.map tK tO)), (54, tS)]
theorem f12a_t : TTOk Tryz.prog (lookTM tab f12a_m [54]) := lookTM_ok hTabB (by kernel_rfl)
def f12a_env (k : Nat) : Env := envOf []
theorem f12a_x (k : Nat) (v : argsC (f12a_e k).inp) : fexec (lookTM tab f12a_m [54]) (f12a_env k) [] Tryz.f12 (bodyOf Tryz.f12) (mkArgs (f12a_e k).inp v) (fun rs => getRes (f12a_e k).out rs some) = (f12a_e k).run v := by kernel_rfl
theorem f12a_y : Tryz.f12.body = some (bodyOf Tryz.f12) := by kernel_rfl
theorem f12a_z : (Tryz.f12.name == "runtime.NumGoroutine") = false := by kernel_rfl
theorem f12a_ok (k : Nat) (hT : TTOk Tryz.prog (lookTM tab f12a_m [54])) (hL : Lasting G) : EntOk Tryz.prog G (f12a_e k) := by
  have hE : EnvSound Tryz.prog G (f12a_env k) := envOf_sound (ents_nil)
  exact ent_ok (subs := []) hT hE (envOf_nat _) hMix hL (subs_nil _ _ _) (f12a_e k) Tryz.func12 f12a_y f12a_z (f12a_x k)

def f14a_m : List (Nat × TT) := [(29, (.opt tS)), (52, (.map tK tO)), (54, tS)]
theorem f14a_t : TTOk Tryz.prog (lookTM tab f14a_m [54]) := lookTM_ok hTabB (by kernel_rfl)
def f14a_env (k : Nat) : Env := envOf []
theorem f14a_x (k : Nat) (v : argsC (f14a_e k).inp) : fexec (lookTM tab f14a_m [54]) (f14a_env k) [] Tryz.f14 (bodyOf Tryz.f14) (mkArgs (f14a_e k).inp v) (fun rs => getRes (f14a_e k).out rs some) = (f14a_e k).run v := by kernel_rfl
theorem f14a_y : Tryz.f14.body = some (bodyOf Tryz.f14) := by kernel_rfl
theorem f14a_z : (Tryz.f14.name == "runtime.NumGoroutine") = false := by kernel_rfl
theorem f14a_ok (k : Nat) (hT : TTOk Tryz.prog (lookTM tab f14a_m [54])) (hL : Lasting G) : EntOk Tryz.prog G (f14a_e k) := by
  have hE : EnvSound Tryz.prog G (f14a_env k) := envOf_sound (ents_nil)
  exact ent_ok (subs := []) hT hE (envOf_nat _) hMix hL (subs_nil _ _ _) (f14a_e k) Tryz.func14 f14a_y f14a_z (f14a_x k)

def f16_m : List (Nat × TT) := [(29, (.opt tS)), (52, (.map tK tO)), (54, tS)]
theorem f16_t : TTOk Tryz.prog (lookTM tab f16_m [54]) := lookTM_ok hTabB (by kernel_rfl)
def f16_env (k : Nat) : Env := envOf []
theorem f16_x (k : Nat) (v : argsC (f16_e k).inp) : fexec (lookTM tab f16_m [54]) (f16_env k) [] Tryz.f16 (bodyOf Tryz.f16) (mkArgs (f16_e k).inp v) (fun rs => getRes (f16_e k).out rs some) = (f16_e k).run v := by kernel_rfl
theorem f16_y : Tryz.f16.body = some (bodyOf Tryz.f16) := by kernel_rfl
theorem f16_z : (Tryz.f16.name == "runtime.NumGoroutine") = false := by kernel_rfl
theorem f16_ok (k : Nat) (hT : TTOk Tryz.prog (lookTM tab f16_m [54])) (hL : Lasting G) : EntOk Tryz.prog G (f16_e k) := by
  have hE : EnvSound Tryz.prog G (f16_env k) := envOf_sound (ents_nil)
  exact ent_ok (subs := []) hT hE (envOf_nat _) hMix hL (subs_nil _ _ _) (f16_e k) Tryz.func16 f16_y f16_z (f16_x k)

end Go.Proofs.YtldlhoapojaljaaGreatDoor
