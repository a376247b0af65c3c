/- The code of the program does what the plain functions say. -/
import Derived.Test.YtpffibjemegioaaGreatDoorQPlain
import Derived.Test.YtpffibjemegioaaGreatDoorQTab
set_option linter.unusedVariables false
namespace Go.Proofs.YtpffibjemegioaaGreatDoor
open Go Go.RowKit Go.PB
variable {G : Gv}
def f59_env (k : Nat) : Env := envOf []
def f59_b8 (k : Nat) : Sub := { key := 8, inp := ⟨[.data (.list .str), .data (.list .str), .dead, .dead, .dead, .dead, .dead, .dead, .dead, .dead, .dead, .dead, .data (.int .i64), .data (.int .i64), .dead, .dead, .dead, .dead, .dead, .dead, .dead, .dead, .dead, .dead, .dead, .dead], [], [], []⟩, ways := [⟨.ret, ⟨[.dead, .dead, .dead, .dead, .data .bool, .dead, .dead, .dead, .dead, .dead, .dead, .dead, .dead, .dead, .dead, .dead, .dead, .dead, .dead, .dead, .dead, .dead, .dead, .dead, .dead, .dead], [], [], []⟩⟩, ⟨.x 0, ⟨[.dead, .dead, .dead, .dead, .dead, .dead, .dead, .dead, .dead, .dead, .dead, .dead, .dead, .dead, .dead, .dead, .dead, .dead, .dead, .dead, .dead, .dead, .dead, .dead, .dead, .dead], [], [], []⟩⟩], run := fun v => iter (f59_s8_u k) k v }
theorem f59_b8_x (k : Nat) (v : ((List ByteArray) × (List ByteArray) × Int × Int × Unit)) : exec (lookT tab) (f59_env k) [] (loopAt 8 (bodyOf Tryz.f59)) (mkSt (f59_b8 k).inp v) (loopKs (f59_b8 k).inp (f59_b8 k).ways) = f59_s8_u k v := by kernel_rfl
theorem f59_b8_ok (k : Nat) (hT : TTOk Tryz.prog (lookT tab)) (hL : Lasting G) (hE : EnvSound Tryz.prog G (f59_env k)) : SubSound Tryz.prog G (f59_b8 k) (.loop (loopAt 8 (bodyOf Tryz.f59))) :=
  sub_loop (subs := []) hT hE (envOf_nat _) hMix hL (subs_nil _ _ _) (f59_s8_u k) k (fun _ => rfl) (fun v o h => (f59_b8_x k v).trans h) (by kernel_rfl)
theorem f59_x (k : Nat) (v : argsC (f59_e k).inp) : fexec (lookT tab) (f59_env k) [f59_b8 k] Tryz.f59 (bodyOf Tryz.f59) (mkArgs (f59_e k).inp v) (fun rs => getRes (f59_e k).out rs some) = (f59_e k).run v := by kernel_rfl
theorem f59_y : Tryz.f59.body = some (bodyOf Tryz.f59) := by kernel_rfl
theorem f59_z : (Tryz.f59.name == "runtime.NumGoroutine") = false := by kernel_rfl
theorem f59_n2 (k : Nat) : nodesAt (f59_b8 k).key (bodyOf Tryz.f59) = [(.loop (loopAt 8 (bodyOf Tryz.f59)))] := by kernel_rfl
theorem f59_ok (k : Nat) (hT : TTOk Tryz.prog (lookT tab)) (hL : Lasting G) : EntOk Tryz.prog G (f59_e k) := by
  have hE : EnvSound Tryz.prog G (f59_env k) := envOf_sound (ents_nil)
  exact ent_ok (subs := [f59_b8 k]) hT hE (envOf_nat _) hMix hL (subs_cons (f59_n2 k) (f59_b8_ok k hT hL hE) (subs_nil _ _ _)) (f59_e k) Tryz.func59 f59_y f59_z (f59_x k)

def f61_env (k : Nat) : Env := envOf []
def f61_b8 (k : Nat) : Sub := { key := 8, inp := ⟨[.data (.list (.int .i64)), .data (.list (.int .i64)), .dead, .dead, .dead, .dead, .dead, .dead, .dead, .dead, .dead, .dead, .data (.int .i64), .data (.int .i64), .dead, .dead, .dead, .dead, .dead, .dead, .dead, .dead, .dead, .dead, .dead, .dead], [], [], []⟩, ways := [⟨.ret, ⟨[.dead, .dead, .dead, .dead, .data .bool, .dead, .dead, .dead, .dead, .dead, .dead, .dead, .dead, .dead, .dead, .dead, .dead, .dead, .dead, .dead, .dead, .dead, .dead, .dead, .dead, .dead], [], [], []⟩⟩, ⟨.x 0, ⟨[.dead, .dead, .dead, .dead, .dead, .dead, .dead, .dead, .dead, .dead, .dead, .dead, .dead, .dead, .dead, .dead, .dead, .dead, .dead, .dead, .dead, .dead, .dead, .dead, .dead, .dead], [], [], []⟩⟩], run := fun v => iter (f61_s8_u k) k v }
theorem f61_b8_x (k : Nat) (v : ((List Int) × (List Int) × Int × Int × Unit)) : exec (lookT tab) (f61_env k) [] (loopAt 8 (bodyOf Tryz.f61)) (mkSt (f61_b8 k).inp v) (loopKs (f61_b8 k).inp (f61_b8 k).ways) = f61_s8_u k v := by kernel_rfl
theorem f61_b8_ok (k : Nat) (hT : TTOk Tryz.prog (lookT tab)) (hL : Lasting G) (hE : EnvSound Tryz.prog G (f61_env k)) : SubSound Tryz.prog G (f61_b8 k) (.loop (loopAt 8 (bodyOf Tryz.f61))) :=
  sub_loop (subs := []) hT hE (envOf_nat _) hMix hL (subs_nil _ _ _) (f61_s8_u k) k (fun _ => rfl) (fun v o h => (f61_b8_x k v).trans h) (by kernel_rfl)
theorem f61_x (k : Nat) (v : argsC (f61_e k).inp) : fexec (lookT tab) (f61_env k) [f61_b8 k] Tryz.f61 (bodyOf Tryz.f61) (mkArgs (f61_e k).inp v) (fun rs => getRes (f61_e k).out rs some) = (f61_e k).run v := by kernel_rfl
theorem f61_y : Tryz.f61.body = some (bodyOf Tryz.f61) := by kernel_rfl
theorem f61_z : (Tryz.f61.name == "runtime.NumGoroutine") = false := by kernel_rfl
theorem f61_n2 (k : Nat) : nodesAt (f61_b8 k).key (bodyOf Tryz.f61) = [(.loop (loopAt 8 (bodyOf Tryz.f61)))] := by kernel_rfl
theorem f61_ok (k : Nat) (hT : TTOk Tryz.prog (lookT tab)) (hL : Lasting G) : EntOk Tryz.prog G (f61_e k) := by
  have hE : EnvSound Tryz.prog G (f61_env k) := envOf_sound (ents_nil)
  exact ent_ok (subs := [f61_b8 k]) hT hE (envOf_nat _) hMix hL (subs_cons (f61_n2 k) (f61_b8_ok k hT hL hE) (subs_nil _ _ _)) (f61_e k) Tryz.func61 f61_y f61_z (f61_x k)

def f93_env (k : Nat) : Env := envOf []
theorem f93_x (k : Nat) (v : argsC (f93_e k).inp) : fexec (lookT tab) (f93_env k) [] Tryz.f93 (bodyOf Tryz.f93) (mkArgs (f93_e k).inp v) (fun rs => getRes (f93_e k).out rs some) = (f93_e k).run v := by kernel_rfl
theorem f93_y : Tryz.f93.body = some (bodyOf Tryz.f93) := by kernel_rfl
theorem f93_z : (Tryz.f93.name == "runtime.NumGoroutine") = false := by kernel_rfl
theorem f93_ok (k : Nat) (hT : TTOk Tryz.prog (lookT tab)) (hL : Lasting G) : EntOk Tryz.prog G (f93_e k) := by
  have hE : EnvSound Tryz.prog G (f93_env k) := envOf_sound (ents_nil)
  exact ent_ok (subs := []) hT hE (envOf_nat _) hMix hL (subs_nil _ _ _) (f93_e k) Tryz.func93 f93_y f93_z (f93_x k)

def f41_env (k : Nat) : Env := envOf [f92_e k]
theorem f41_x (k : Nat) (v : argsC (f41_e k).inp) : fexec (lookT tab) (f41_env k) [] Tryz.f41 (bodyOf Tryz.f41) (mkArgs (f41_e k).inp v) (fun rs => getRes (f41_e k).out rs some) = (f41_e k).run v := by kernel_rfl
theorem f41_y : Tryz.f41.body = some (bodyOf Tryz.f41) := by kernel_rfl
theorem f41_z : (Tryz.f41.name == "runtime.NumGoroutine") = false := by kernel_rfl
theorem f41_ok (k : Nat) (hT : TTOk Tryz.prog (lookT tab)) (hL : Lasting G) (h0 : EntOk Tryz.prog G (f92_e k)) : EntOk Tryz.prog G (f41_e k) := by
  have hE : EnvSound Tryz.prog G (f41_env k) := envOf_sound (ents_cons h0 (ents_nil))
  exact ent_ok (subs := []) hT hE (envOf_nat _) hMix hL (subs_nil _ _ _) (f41_e k) Tryz.func41 f41_y f41_z (f41_x k)

def f135_env (k : Nat) : Env := envOf [f95_e k]
def f135_b4 (k : Nat) : Sub := { key := 4, inp := ⟨[.data (.list (.agg (.pair .str (.pair .str .unit)))), .fn 95, .dead, .dead, .dead, .dead, .dead, .data (.int .i64), .data (.int .i64), .dead, .dead, .dead, .dead, .dead, .dead, .dead, .dead, .dead, .dead], [], [], []⟩, ways := [⟨.ret, ⟨[.dead, .dead, .dead, .dead, .data (.int .i64), .dead, .dead, .dead, .dead, .dead, .dead, .dead, .dead, .dead, .dead, .dead, .dead, .dead, .dead], [], [], []⟩⟩, ⟨.x 0, ⟨[.dead, .dead, .dead, .dead, .dead, .dead, .dead, .dead, .dead, .dead, .dead, .dead, .dead, .dead, .dead, .dead, .dead, .dead, .dead], [], [], []⟩⟩], run := fun v => iter (f135_s4_u k) k v }
theorem f135_b4_x (k : Nat) (v : ((List (ByteArray × ByteArray × Unit)) × Int × Int × Unit)) : exec (lookT tab) (f135_env k) [] (loopAt 4 (bodyOf Tryz.f135)) (mkSt (f135_b4 k).inp v) (loopKs (f135_b4 k).inp (f135_b4 k).ways) = f135_s4_u k v := by kernel_rfl
theorem f135_b4_ok (k : Nat) (hT : TTOk Tryz.prog (lookT tab)) (hL : Lasting G) (hE : EnvSound Tryz.prog G (f135_env k)) : SubSound Tryz.prog G (f135_b4 k) (.loop (loopAt 4 (bodyOf Tryz.f135))) :=
  sub_loop (subs := []) hT hE (envOf_nat _) hMix hL (subs_nil _ _ _) (f135_s4_u k) k (fun _ => rfl) (fun v o h => (f135_b4_x k v).trans h) (by kernel_rfl)
theorem f135_x (k : Nat) (v : argsC (f135_e k).inp) : fexec (lookT tab) (f135_env k) [f135_b4 k] Tryz.f135 (bodyOf Tryz.f135) (mkArgs (f135_e k).inp v) (fun rs => getRes (f135_e k).out rs some) = (f135_e k).run v := by kernel_rfl
theorem f135_y : Tryz.f135.body = some (bodyOf Tryz.f135) := by kernel_rfl
theorem f135_z : (Tryz.f135.name == "runtime.NumGoroutine") = false := by kernel_rfl
theorem f135_n5 (k : Nat) : nodesAt (f135_b4 k).key (bodyOf Tryz.f135) = [(.loop (loopAt 4 (bodyOf Tryz.f135)))] := by kernel_rfl
theorem f135_ok (k : Nat) (hT : TTOk Tryz.prog (lookT tab)) (hL : Lasting G) (h0 : EntOk Tryz.prog G (f95_e k)) : EntOk Tryz.prog G (f135_e k) := by
  have hE : EnvSound Tryz.prog G (f135_env k) := envOf_sound (ents_cons h0 (ents_nil))
  exact ent_ok (subs := [f135_b4 k]) hT hE (envOf_nat _) hMix hL (subs_cons (f135_n5 k) (f135_b4_ok k hT hL hE) (subs_nil _ _ _)) (f135_e k) Tryz.func135 f135_y f135_z (f135_x k)

def f136_env (k : Nat) : Env := envOf []
def f136_b4 (k : Nat) : Sub := { key := 4, inp := ⟨[.dead, .data (.int .i32), .dead, .dead, .dead, .dead, .dead, .dead, .iter 0, .dead, .dead, .dead, .dead, .dead, .dead], [.iter], [], []⟩, ways := [⟨.ret, ⟨[.dead, .dead, .dead, .dead, .data .bool, .dead, .dead, .dead, .dead, .dead, .dead, .dead, .dead, .dead, .dead], [], [], []⟩⟩, ⟨.x 0, ⟨[.dead, .dead, .dead, .dead, .dead, .dead, .dead, .dead, .dead, .dead, .dead, .dead, .dead, .dead, .dead], [], [], []⟩⟩], run := fun v => iter (f136_s4_u k) k v }
theorem f136_b4_x (k : Nat) (v : (Int × ByteArray × Nat × Unit)) : exec (lookT tab) (f136_env k) [] (loopAt 4 (bodyOf Tryz.f136)) (mkSt (f136_b4 k).inp v) (loopKs (f136_b4 k).inp (f136_b4 k).ways) = f136_s4_u k v := by kernel_rfl
theorem f136_b4_ok (k : Nat) (hT : TTOk Tryz.prog (lookT tab)) (hL : Lasting G) (hE : EnvSound Tryz.prog G (f136_env k)) : SubSound Tryz.prog G (f136_b4 k) (.loop (loopAt 4 (bodyOf Tryz.f136))) :=
  sub_loop (subs := []) hT hE (envOf_nat _) hMix hL (subs_nil _ _ _) (f136_s4_u k) k (fun _ => rfl) (fun v o h => (f136_b4_x k v).trans h) (by kernel_rfl)
theorem f136_x (k : Nat) (v : argsC (f136_e k).inp) : fexec (lookT tab) (f136_env k) [f136_b4 k] Tryz.f136 (bodyOf Tryz.f136) (mkArgs (f136_e k).inp v) (fun rs => getRes (f136_e k).out rs some) = (f136_e k).run v := by kernel_rfl
theorem f136_y : Tryz.f136.body = some (bodyOf Tryz.f136) := by kernel_rfl
theorem f136_z : (Tryz.f136.name == "runtime.NumGoroutine") = false := by kernel_rfl
theorem f136_n2 (k : Nat) : nodesAt (f136_b4 k).key (bodyOf Tryz.f136) = [(.loop (loopAt 4 (bodyOf Tryz.f136)))] := by kernel_rfl
theorem f136_ok (k : Nat) (hT : TTOk Tryz.prog (lookT tab)) (hL : Lasting G) : EntOk Tryz.prog G (f136_e k) := by
  have hE : EnvSound Tryz.prog G (f136_env k) := envOf_sound (ents_nil)
  exact ent_ok (subs := [f136_b4 k]) hT hE (envOf_nat _) hMix hL (subs_cons (f136_n2 k) (f136_b4_ok k hT hL hE) (subs_nil _ _ _)) (f136_e k) Tryz.func136 f136_y f136_z (f136_x k)

def f46_env (k : Nat) : Env := envOf [f96_e k]
theorem f46_x (k : Nat) (v : argsC (f46_e k).inp) : fexec (lookT tab) (f46_env k) [] Tryz.f46 (bodyOf Tryz.f46) (mkArgs (f46_e k).inp v) (fun rs => getRes (f46_e k).out rs some) = (f46_e k).run v := by kernel_rfl
theorem f46_y : Tryz.f46.body = some (bodyOf Tryz.f46) := by kernel_rfl
theorem f46_z : (Tryz.f46.name == "runtime.NumGoroutine") = false := by kernel_rfl
theorem f46_ok (k : Nat) (hT : TTOk Tryz.prog (lookT tab)) (hL : Lasting G) (h0 : EntOk Tryz.prog G (f96_e k)) : EntOk Tryz.prog G (f46_e k) := by
  have hE : EnvSound Tryz.prog G (f46_env k) := envOf_sound (ents_cons h0 (ents_nil))
  exact ent_ok (subs := []) hT hE (envOf_nat _) hMix hL (subs_nil _ _ _) (f46_e k) Tryz.func46 f46_y f46_z (f46_x k)

def f137_env (k : Nat) : Env := envOf [f97_e k]
theorem f137_x (k : Nat) (v : argsC (f137_e k).inp) : fexec (lookT tab) (f137_env k) [] Tryz.f137 (bodyOf Tryz.f137) (mkArgs (f137_e k).inp v) (fun rs => getRes (f137_e k).out rs some) = (f137_e k).run v := by kernel_rfl
theorem f137_y : Tryz.f137.body = some (bodyOf Tryz.f137) := by kernel_rfl
theorem f137_z : (Tryz.f137.name == "runtime.NumGoroutine") = false := by kernel_rfl
theorem f137_ok (k : Nat) (hT : TTOk Tryz.prog (lookT tab)) (hL : Lasting G) (h0 : EntOk Tryz.prog G (f97_e k)) : EntOk Tryz.prog G (f137_e k) := by
  have hE : EnvSound Tryz.prog G (f137_env k) := envOf_sound (ents_cons h0 (ents_nil))
  exact ent_ok (subs := []) hT hE (envOf_nat _) hMix hL (subs_nil _ _ _) (f137_e k) Tryz.func137 f137_y f137_z (f137_x k)

def f98_env (k : Nat) : Env := envOf [f96a_e k]
theorem f98_x (k : Nat) (v : argsC (f98_e k).inp) : fexec (lookT tab) (f98_env k) [] Tryz.f98 (bodyOf Tryz.f98) (mkArgs (f98_e k).inp v) (fun rs => getRes (f98_e k).out rs some) = (f98_e k).run v := by kernel_rfl
theorem f98_y : Tryz.f98.body = some (bodyOf Tryz.f98) := by kernel_rfl
theorem f98_z : (Tryz.f98.name == "runtime.NumGoroutine") = false := by kernel_rfl
theorem f98_ok (k : Nat) (hT : TTOk Tryz.prog (lookT tab)) (hL : Lasting G) (h0 : EntOk Tryz.prog G (f96a_e k)) : EntOk Tryz.prog G (f98_e k) := by
  have hE : EnvSound Tryz.prog G (f98_env k) := envOf_sound (ents_cons h0 (ents_nil))
  exact ent_ok (subs := []) hT hE (envOf_nat _) hMix hL (subs_nil _ _ _) (f98_e k) Tryz.func98 f98_y f98_z (f98_x k)

def f99_env (k : Nat) : Env := envOf [f96a_e k]
theorem f99_x (k : Nat) (v : argsC (f99_e k).inp) : fexec (lookT tab) (f99_env k) [] Tryz.f99 (bodyOf Tryz.f99) (mkArgs (f99_e k).inp v) (fun rs => getRes (f99_e k).out rs some) = (f99_e k).run v := by kernel_rfl
theorem f99_y : Tryz.f99.body = some (bodyOf Tryz.f99) := by kernel_rfl
theorem f99_z : (Tryz.f99.name == "runtime.NumGoroutine") = false := by kernel_rfl
theorem f99_ok (k : Nat) (hT : TTOk Tryz.prog (lookT tab)) (hL : Lasting G) (h0 : EntOk Tryz.prog G (f96a_e k)) : EntOk Tryz.prog G (f99_e k) := by
  have hE : EnvSound Tryz.prog G (f99_env k) := envOf_sound (ents_cons h0 (ents_nil))
  exact ent_ok (subs := []) hT hE (envOf_nat _) hMix hL (subs_nil _ _ _) (f99_e k) Tryz.func99 f99_y f99_z (f99_x k)

def f47_env (k : Nat) : Env := envOf [f98_e k, f99_e k]
def f47_b4 (k : Nat) : Sub := { key := 4, inp := ⟨[.data (.list (.agg (.pair .str (.pair .str .unit)))), .dead, .dead, .dead, .dead, .data (.list (.agg (.pair .str (.pair .str .unit)))), .data (.int .i64), .data (.int .i64), .dead, .dead, .dead, .dead, .dead, .dead, .dead, .dead, .dead, .dead, .dead, .dead, .dead, .dead, .dead, .dead, .dead, .dead, .dead, .dead, .dead, .dead, .dead, .dead, .dead, .dead, .dead, .dead, .dead, .dead, .dead, .dead, .dead], [], [], []⟩, ways := [⟨.ret, ⟨[.dead, .dead, .data .bool, .dead, .dead, .dead, .dead, .dead, .dead, .dead, .dead, .dead, .dead, .dead, .dead, .dead, .dead, .dead, .dead, .dead, .dead, .dead, .dead, .dead, .dead, .dead, .dead, .dead, .dead, .dead, .dead, .dead, .dead, .dead, .dead, .dead, .dead, .dead, .dead, .dead, .dead], [], [], []⟩⟩, ⟨.x 0, ⟨[.data (.list (.agg (.pair .str (.pair .str .unit)))), .dead, .dead, .dead, .dead, .dead, .dead, .dead, .dead, .dead, .dead, .dead, .dead, .dead, .dead, .dead, .dead, .dead, .dead, .dead, .dead, .dead, .dead, .dead, .dead, .dead, .dead, .dead, .dead, .dead, .dead, .dead, .dead, .dead, .dead, .dead, .dead, .dead, .dead, .dead, .dead], [], [], []⟩⟩], run := fun v => iter (f47_s4_u k) k v }
theorem f47_b4_x (k : Nat) (v : ((List (ByteArray × ByteArray × Unit)) × (List (ByteArray × ByteArray × Unit)) × Int × Int × Unit)) : exec (lookT tab) (f47_env k) [] (loopAt 4 (bodyOf Tryz.f47)) (mkSt (f47_b4 k).inp v) (loopKs (f47_b4 k).inp (f47_b4 k).ways) = f47_s4_u k v := by kernel_rfl
theorem f47_b4_ok (k : Nat) (hT : TTOk Tryz.prog (lookT tab)) (hL : Lasting G) (hE : EnvSound Tryz.prog G (f47_env k)) : SubSound Tryz.prog G (f47_b4 k) (.loop (loopAt 4 (bodyOf Tryz.f47))) :=
  sub_loop (subs := []) hT hE (envOf_nat _) hMix hL (subs_nil _ _ _) (f47_s4_u k) k (fun _ => rfl) (fun v o h => (f47_b4_x k v).trans h) (by kernel_rfl)
theorem f47_x (k : Nat) (v : argsC (f47_e k).inp) : fexec (lookT tab) (f47_env k) [f47_b4 k] Tryz.f47 (bodyOf Tryz.f47) (mkArgs (f47_e k).inp v) (fun rs => getRes (f47_e k).out rs some) = (f47_e k).run v := by kernel_rfl
theorem f47_y : Tryz.f47.body = some (bodyOf Tryz.f47) := by kernel_rfl
theorem f47_z : (Tryz.f47.name == "runtime.NumGoroutine") = false := by kernel_rfl
theorem f47_n7 (k : Nat) : nodesAt (f47_b4 k).key (bodyOf Tryz.f47) = [(.loop (loopAt 4 (bodyOf Tryz.f47)))] := by kernel_rfl
theorem f47_ok (k : Nat) (hT : TTOk Tryz.prog (lookT tab)) (hL : Lasting G) (h0 : EntOk Tryz.prog G (f98_e k)) (h1 : EntOk Tryz.prog G (f99_e k)) : EntOk Tryz.prog G (f47_e k) := by
  have hE : EnvSound Tryz.prog G (f47_env k) := envOf_sound (ents_cons h0 (ents_cons h1 (ents_nil)))
  exact ent_ok (subs := [f47_b4 k]) hT hE (envOf_nat _) hMix hL (subs_cons (f47_n7 k) (f47_b4_ok k hT hL hE) (subs_nil _ _ _)) (f47_e k) Tryz.func47 f47_y f47_z (f47_x k)

def f187_env (k : Nat) : Env := envOf [f247_e k]
theorem f187_x (k : Nat) (v : argsC (f187_e k).inp) : fexec (lookT tab) (f187_env k) [] Tryz.f187 (bodyOf Tryz.f187) (mkArgs (f187_e k).inp v) (fun rs => getRes (f187_e k).out rs some) = (f187_e k).run v := by kernel_rfl
theorem f187_y : Tryz.f187.body = some (bodyOf Tryz.f187) := by kernel_rfl
theorem f187_z : (Tryz.f187.name == "runtime.NumGoroutine") = false := by kernel_rfl
theorem f187_ok (k : Nat) (hT : TTOk Tryz.prog (lookT tab)) (hL : Lasting G) (h0 : EntOk Tryz.prog G (f247_e k)) : EntOk Tryz.prog G (f187_e k) := by
  have hE : EnvSound Tryz.prog G (f187_env k) := envOf_sound (ents_cons h0 (ents_nil))
  exact ent_ok (subs := []) hT hE (envOf_nat _) hMix hL (subs_nil _ _ _) (f187_e k) Tryz.func187 f187_y f187_z (f187_x k)

def f189_env (k : Nat) : Env := envOf []
def f189_b8 (k : Nat) : Sub := { key := 8, inp := ⟨[.data (.list (.int .u16)), .data (.list (.int .u16)), .dead, .dead, .ptr 0 [], .ptr 1 [], .dead, .dead, .dead, .dead, .dead, .dead, .dead, .data (.list (.int .u16)), .data (.int .i64), .data (.int .i64), .dead, .dead, .dead, .dead, .dead, .dead, .dead, .dead, .dead, .dead, .dead, .dead, .dead, .dead, .dead, .dead, .dead, .dead, .dead, .dead, .dead, .dead, .dead, .dead, .dead, .dead, .dead, .dead, .dead], [.box (.agg (.pair .bool (.pair (.agg (.pair (.int .u64) (.pair (.int .u64) .unit))) .unit))), .box (.agg (.pair .bool (.pair (.agg (.pair (.int .u64) (.pair (.int .u64) .unit))) .unit)))], [], []⟩, ways := [⟨.x 0, ⟨[.data (.list (.int .u16)), .data (.list (.int .u16)), .dead, .dead, .ptr 0 [], .ptr 1 [], .dead, .dead, .dead, .dead, .dead, .dead, .dead, .dead, .dead, .dead, .dead, .dead, .dead, .dead, .dead, .dead, .dead, .dead, .dead, .dead, .dead, .dead, .dead, .dead, .dead, .dead, .dead, .dead, .dead, .dead, .dead, .dead, .dead, .dead, .dead, .dead, .dead, .dead, .dead], [.box (.agg (.pair .bool (.pair (.agg (.pair (.int .u64) (.pair (.int .u64) .unit))) .unit))), .box (.agg (.pair .bool (.pair (.agg (.pair (.int .u64) (.pair (.int .u64) .unit))) .unit)))], [], []⟩⟩], run := fun v => iter (f189_s8_u k) k v }
def f189_b18 (k : Nat) : Sub := { key := 18, inp := ⟨[.dead, .data (.list (.int .u16)), .dead, .dead, .ptr 0 [], .ptr 1 [], .dead, .dead, .dead, .dead, .dead, .dead, .dead, .dead, .dead, .dead, .dead, .dead, .dead, .dead, .dead, .dead, .dead, .dead, .dead, .dead, .dead, .dead, .data (.int .i64), .data (.int .i64), .dead, .dead, .dead, .dead, .dead, .dead, .dead, .dead, .dead, .dead, .dead, .dead, .dead, .dead, .dead], [.box (.agg (.pair .bool (.pair (.agg (.pair (.int .u64) (.pair (.int .u64) .unit))) .unit))), .box (.agg (.pair .bool (.pair (.agg (.pair (.int .u64) (.pair (.int .u64) .unit))) .unit)))], [], []⟩, ways := [⟨.x 2, ⟨[.dead, .data (.list (.int .u16)), .dead, .dead, .ptr 0 [], .ptr 1 [], .dead, .dead, .dead, .dead, .dead, .dead, .dead, .dead, .dead, .dead, .dead, .dead, .dead, .dead, .dead, .dead, .dead, .dead, .dead, .dead, .dead, .dead, .dead, .dead, .dead, .dead, .dead, .dead, .dead, .dead, .dead, .dead, .dead, .dead, .dead, .dead, .dead, .dead, .dead], [.box (.agg (.pair .bool (.pair (.agg (.pair (.int .u64) (.pair (.int .u64) .unit))) .unit))), .box (.agg (.pair .bool (.pair (.agg (.pair (.int .u64) (.pair (.int .u64) .unit))) .unit)))], [], []⟩⟩], run := fun v => iter (f189_s18_u k) k v }
def f189_b26 (k : Nat) : Sub := { key := 26, inp := ⟨[.dead, .dead, .dead, .dead, .ptr 0 [], .ptr 1 [], .dead, .dead, .dead, .dead, .dead, .dead, .dead, .dead, .dead, .dead, .dead, .dead, .dead, .dead, .dead, .dead, .dead, .dead, .dead, .dead, .dead, .dead, .dead, .dead, .dead, .dead, .dead, .dead, .data (.list (.int .u16)), .data (.int .i64), .data (.int .i64), .dead, .dead, .dead, .dead, .dead, .dead, .dead, .dead], [.box (.agg (.pair .bool (.pair (.agg (.pair (.int .u64) (.pair (.int .u64) .unit))) .unit))), .box (.agg (.pair .bool (.pair (.agg (.pair (.int .u64) (.pair (.int .u64) .unit))) .unit)))], [], []⟩, ways := [⟨.x 4, ⟨[.dead, .dead, .dead, .dead, .ptr 0 [], .ptr 1 [], .dead, .dead, .dead, .dead, .dead, .dead, .dead, .dead, .dead, .dead, .dead, .dead, .dead, .dead, .dead, .dead, .dead, .dead, .dead, .dead, .dead, .dead, .dead, .dead, .dead, .dead, .dead, .dead, .dead, .dead, .dead, .dead, .dead, .dead, .dead, .dead, .dead, .dead, .dead], [.box (.agg (.pair .bool (.pair (.agg (.pair (.int .u64) (.pair (.int .u64) .unit))) .unit))), .box (.agg (.pair .bool (.pair (.agg (.pair (.int .u64) (.pair (.int .u64) .unit))) .unit)))], [], []⟩⟩], run := fun v => iter (f189_s26_u k) k v }
theorem f189_b8_x (k : Nat) (v : ((List Int) × (List Int) × (List Int) × Int × Int × (Bool × (Int × Int × Unit) × Unit) × (Bool × (Int × Int × Unit) × Unit) × Unit)) : exec (lookT tab) (f189_env k) [] (loopAt 8 (bodyOf Tryz.f189)) (mkSt (f189_b8 k).inp v) (loopKs (f189_b8 k).inp (f189_b8 k).ways) = f189_s8_u k v := by kernel_rfl
theorem f189_b8_ok (k : Nat) (hT : TTOk Tryz.prog (lookT tab)) (hL : Lasting G) (hE : EnvSound Tryz.prog G (f189_env k)) : SubSound Tryz.prog G (f189_b8 k) (.loop (loopAt 8 (bodyOf Tryz.f189))) :=
  sub_loop (subs := []) hT hE (envOf_nat _) hMix hL (subs_nil _ _ _) (f189_s8_u k) k (fun _ => rfl) (fun v o h => (f189_b8_x k v).trans h) (by kernel_rfl)
theorem f189_b18_x (k : Nat) (v : ((List Int) × Int × Int × (Bool × (Int × Int × Unit) × Unit) × (Bool × (Int × Int × Unit) × Unit) × Unit)) : exec (lookT tab) (f189_env k) [] (loopAt 18 (bodyOf Tryz.f189)) (mkSt (f189_b18 k).inp v) (loopKs (f189_b18 k).inp (f189_b18 k).ways) = f189_s18_u k v := by kernel_rfl
theorem f189_b18_ok (k : Nat) (hT : TTOk Tryz.prog (lookT tab)) (hL : Lasting G) (hE : EnvSound Tryz.prog G (f189_env k)) : SubSound Tryz.prog G (f189_b18 k) (.loop (loopAt 18 (bodyOf Tryz.f189))) :=
  sub_loop (subs := []) hT hE (envOf_nat _) hMix hL (subs_nil _ _ _) (f189_s18_u k) k (fun _ => rfl) (fun v o h => (f189_b18_x k v).trans h) (by kernel_rfl)
theorem f189_b26_x (k : Nat) (v : ((List Int) × Int × Int × (Bool × (Int × Int × Unit) × Unit) × (Bool × (Int × Int × Unit) × Unit) × Unit)) : exec (lookT tab) (f189_env k) [] (loopAt 26 (bodyOf Tryz.f189)) (mkSt (f189_b26 k).inp v) (loopKs (f189_b26 k).inp (f189_b26 k).ways) = f189_s26_u k v := by kernel_rfl
theorem f189_b26_ok (k : Nat) (hT : TTOk Tryz.prog (lookT tab)) (hL : Lasting G) (hE : EnvSound Tryz.prog G (f189_env k)) : SubSound Tryz.prog G (f189_b26 k) (.loop (loopAt 26 (bodyOf Tryz.f189))) :=
  sub_loop (subs := []) hT hE (envOf_nat _) hMix hL (subs_nil _ _ _) (f189_s26_u k) k (fun _ => rfl) (fun v o h => (f189_b26_x k v).trans h) (by kernel_rfl)
theorem f189_x (k : Nat) (v : argsC (f189_e k).inp) : fexec (lookT tab) (f189_env k) [f189_b26 k, f189_b18 k, f189_b8 k] Tryz.f189 (bodyOf Tryz.f189) (mkArgs (f189_e k).inp v) (fun rs => getRes (f189_e k).out rs some) = (f189_e k).run v := by kernel_rfl
theorem f189_y : Tryz.f189.body = some (bodyOf Tryz.f189) := by kernel_rfl
theorem f189_z : (Tryz.f189.name == "runtime.NumGoroutine") = false := by kernel_rfl
theorem f189_n4 (k : Nat) : nodesAt (f189_b26 k).key (bodyOf Tryz.f189) = [(.loop (loopAt 26 (bodyOf Tryz.f189)))] := by kernel_rfl
theorem f189_n5 (k : Nat) : nodesAt (f189_b18 k).key (bodyOf Tryz.f189) = [(.loop (loopAt 18 (bodyOf Tryz.f189)))] := by kernel_rfl
theorem f189_n6 (k : Nat) : nodesAt (f189_b8 k).key (bodyOf Tryz.f189) = [(.loop (loopAt 8 (bodyOf Tryz.f189)))] := by kernel_rfl
theorem f189_ok (k : Nat) (hT : TTOk Tryz.prog (lookT tab)) (hL : Lasting G) : EntOk Tryz.prog G (f189_e k) := by
  have hE : EnvSound Tryz.prog G (f189_env k) := envOf_sound (ents_nil)
  exact ent_ok (subs := [f189_b26 k, f189_b18 k, f189_b8 k]) hT hE (envOf_nat _) hMix hL (subs_cons (f189_n4 k) (f189_b26_ok k hT hL hE) (subs_cons (f189_n5 k) (f189_b18_ok k hT hL hE) (subs_cons (f189_n6 k) (f189_b8_ok k hT hL hE) (subs_nil _ _ _)))) (f189_e k) Tryz.func189 f189_y f189_z (f189_x k)

def f252_env (k : Nat) : Env := envOf [f234_e k]
theorem f252_x (k : Nat) (v : argsC (f252_e k).inp) : fexec (lookT tab) (f252_env k) [] Tryz.f252 (bodyOf Tryz.f252) (mkArgs (f252_e k).inp v) (fun rs => getRes (f252_e k).out rs some) = (f252_e k).run v := by kernel_rfl
theorem f252_y : Tryz.f252.body = some (bodyOf Tryz.f252) := by kernel_rfl
theorem f252_z : (Tryz.f252.name == "runtime.NumGoroutine") = false := by kernel_rfl
theorem f252_ok (k : Nat) (hT : TTOk Tryz.prog (lookT tab)) (hL : Lasting G) (h0 : EntOk Tryz.prog G (f234_e k)) : EntOk Tryz.prog G (f252_e k) := by
  have hE : EnvSound Tryz.prog G (f252_env k) := envOf_sound (ents_cons h0 (ents_nil))
  exact ent_ok (subs := []) hT hE (envOf_nat _) hMix hL (subs_nil _ _ _) (f252_e k) Tryz.func252 f252_y f252_z (f252_x k)

def f190_env (k : Nat) : Env := envOf [f252_e k, f242_e k]
theorem f190_x (k : Nat) (v : argsC (f190_e k).inp) : fexec (lookT tab) (f190_env k) [] Tryz.f190 (bodyOf Tryz.f190) (mkArgs (f190_e k).inp v) (fun rs => getRes (f190_e k).out rs some) = (f190_e k).run v := by kernel_rfl
theorem f190_y : Tryz.f190.body = some (bodyOf Tryz.f190) := by kernel_rfl
theorem f190_z : (Tryz.f190.name == "runtime.NumGoroutine") = false := by kernel_rfl
theorem f190_ok (k : Nat) (hT : TTOk Tryz.prog (lookT tab)) (hL : Lasting G) (h0 : EntOk Tryz.prog G (f252_e k)) (h1 : EntOk Tryz.prog G (f242_e k)) : EntOk Tryz.prog G (f190_e k) := by
  have hE : EnvSound Tryz.prog G (f190_env k) := envOf_sound (ents_cons h0 (ents_cons h1 (ents_nil)))
  exact ent_ok (subs := []) hT hE (envOf_nat _) hMix hL (subs_nil _ _ _) (f190_e k) Tryz.func190 f190_y f190_z (f190_x k)

def f254_env (k : Nat) : Env := envOf []
theorem f254_x (k : Nat) (v : argsC (f254_e k).inp) : fexec (lookT tab) (f254_env k) [] Tryz.f254 (bodyOf Tryz.f254) (mkArgs (f254_e k).inp v) (fun rs => getRes (f254_e k).out rs some) = (f254_e k).run v := by kernel_rfl
theorem f254_y : Tryz.f254.body = some (bodyOf Tryz.f254) := by kernel_rfl
theorem f254_z : (Tryz.f254.name == "runtime.NumGoroutine") = false := by kernel_rfl
theorem f254_ok (k : Nat) (hT : TTOk Tryz.prog (lookT tab)) (hL : Lasting G) : EntOk Tryz.prog G (f254_e k) := by
  have hE : EnvSound Tryz.prog G (f254_env k) := envOf_sound (ents_nil)
  exact ent_ok (subs := []) hT hE (envOf_nat _) hMix hL (subs_nil _ _ _) (f254_e k) Tryz.func254 f254_y f254_z (f254_x k)

def f287_env (k : Nat) : Env := envOf [f311_e k, f251_e k]
theorem f287_x (k : Nat) (v : argsC (f287_e k).inp) : fexec (lookT tab) (f287_env k) [] Tryz.f287 (bodyOf Tryz.f287) (mkArgs (f287_e k).inp v) (fun rs => getRes (f287_e k).out rs some) = (f287_e k).run v := by kernel_rfl
theorem f287_y : Tryz.f287.body = some (bodyOf Tryz.f287) := by kernel_rfl
theorem f287_z : (Tryz.f287.name == "runtime.NumGoroutine") = false := by kernel_rfl
theorem f287_ok (k : Nat) (hT : TTOk Tryz.prog (lookT tab)) (hL : Lasting G) (h0 : EntOk Tryz.prog G (f311_e k)) (h1 : EntOk Tryz.prog G (f251_e k)) : EntOk Tryz.prog G (f287_e k) := by
  have hE : EnvSound Tryz.prog G (f287_env k) := envOf_sound (ents_cons h0 (ents_cons h1 (ents_nil)))
  exact ent_ok (subs := []) hT hE (envOf_nat _) hMix hL (subs_nil _ _ _) (f287_e k) Tryz.func287 f287_y f287_z (f287_x k)

def f243_env (k : Nat) : Env := envOf []
theorem f243_x (k : Nat) (v : argsC (f243_e k).inp) : fexec (lookT tab) (f243_env k) [] Tryz.f243 (bodyOf Tryz.f243) (mkArgs (f243_e k).inp v) (fun rs => getRes (f243_e k).out rs some) = (f243_e k).run v := by kernel_rfl
theorem f243_y : Tryz.f243.body = some (bodyOf Tryz.f243) := by kernel_rfl
theorem f243_z : (Tryz.f243.name == "runtime.NumGoroutine") = false := by kernel_rfl
theorem f243_ok (k : Nat) (hT : TTOk Tryz.prog (lookT tab)) (hL : Lasting G) : EntOk Tryz.prog G (f243_e k) := by
  have hE : EnvSound Tryz.prog G (f243_env k) := envOf_sound (ents_nil)
  exact ent_ok (subs := []) hT hE (envOf_nat _) hMix hL (subs_nil _ _ _) (f243_e k) Tryz.func243 f243_y f243_z (f243_x k)

def f138_env (k : Nat) : Env := envOf [f181_e k, f141_e k, f182_e k, f183_e k, f184_e k]
theorem f138_x (k : Nat) (v : argsC (f138_e k).inp) : fexec (lookT tab) (f138_env k) [] Tryz.f138 (bodyOf Tryz.f138) (mkArgs (f138_e k).inp v) (fun rs => getRes (f138_e k).out rs some) = (f138_e k).run v := by kernel_rfl
theorem f138_y : Tryz.f138.body = some (bodyOf Tryz.f138) := by kernel_rfl
theorem f138_z : (Tryz.f138.name == "runtime.NumGoroutine") = false := by kernel_rfl
theorem f138_ok (k : Nat) (hT : TTOk Tryz.prog (lookT tab)) (hL : Lasting G) (h0 : EntOk Tryz.prog G (f181_e k)) (h1 : EntOk Tryz.prog G (f141_e k)) (h2 : EntOk Tryz.prog G (f182_e k)) (h3 : EntOk Tryz.prog G (f183_e k)) (h4 : EntOk Tryz.prog G (f184_e k)) : EntOk Tryz.prog G (f138_e k) := by
  have hE : EnvSound Tryz.prog G (f138_env k) := envOf_sound (ents_cons h0 (ents_cons h1 (ents_cons h2 (ents_cons h3 (ents_cons h4 (ents_nil))))))
  exact ent_ok (subs := []) hT hE (envOf_nat _) hMix hL (subs_nil _ _ _) (f138_e k) Tryz.func138 f138_y f138_z (f138_x k)

def f192_env (k : Nat) : Env := envOf [f254_e k]
def f192_b6 (k : Nat) : Sub := { key := 6, inp := ⟨[.dead, .ptr 0 [], .ptr 1 [], .ptr 2 [], .dead, .data (.int .i64), .dead, .dead, .dead, .dead, .dead, .dead, .dead, .dead, .dead, .dead, .dead, .dead, .dead, .dead, .dead], [.box (.agg (.pair .bool (.pair (.agg (.pair (.int .u64) (.pair (.int .u64) .unit))) .unit))), .box (.arr 8 (.int .u16)), .box (.arr 8 (.int .u16))], [], []⟩, ways := [⟨.x 0, ⟨[.dead, .dead, .ptr 1 [], .ptr 2 [], .dead, .dead, .dead, .dead, .dead, .dead, .dead, .dead, .dead, .dead, .dead, .dead, .dead, .dead, .dead, .dead, .dead], [.none, .box (.arr 8 (.int .u16)), .box (.arr 8 (.int .u16))], [], []⟩⟩], run := fun v => iter (f192_s6_u k) k v }
theorem f192_b6_x (k : Nat) (v : (Int × (Bool × (Int × Int × Unit) × Unit) × (List Int) × (List Int) × Unit)) : exec (lookT tab) (f192_env k) [] (loopAt 6 (bodyOf Tryz.f192)) (mkSt (f192_b6 k).inp v) (loopKs (f192_b6 k).inp (f192_b6 k).ways) = f192_s6_u k v := by kernel_rfl
theorem f192_b6_ok (k : Nat) (hT : TTOk Tryz.prog (lookT tab)) (hL : Lasting G) (hE : EnvSound Tryz.prog G (f192_env k)) : SubSound Tryz.prog G (f192_b6 k) (.loop (loopAt 6 (bodyOf Tryz.f192))) :=
  sub_loop (subs := []) hT hE (envOf_nat _) hMix hL (subs_nil _ _ _) (f192_s6_u k) k (fun _ => rfl) (fun v o h => (f192_b6_x k v).trans h) (by kernel_rfl)
theorem f192_x (k : Nat) (v : argsC (f192_e k).inp) : fexec (lookT tab) (f192_env k) [f192_b6 k] Tryz.f192 (bodyOf Tryz.f192) (mkArgs (f192_e k).inp v) (fun rs => getRes (f192_e k).out rs some) = (f192_e k).run v := by kernel_rfl
theorem f192_y : Tryz.f192.body = some (bodyOf Tryz.f192) := by kernel_rfl
theorem f192_z : (Tryz.f192.name == "runtime.NumGoroutine") = false := by kernel_rfl
theorem f192_n4 (k : Nat) : nodesAt (f192_b6 k).key (bodyOf Tryz.f192) = [(.loop (loopAt 6 (bodyOf Tryz.f192)))] := by kernel_rfl
theorem f192_ok (k : Nat) (hT : TTOk Tryz.prog (lookT tab)) (hL : Lasting G) (h0 : EntOk Tryz.prog G (f254_e k)) : EntOk Tryz.prog G (f192_e k) := by
  have hE : EnvSound Tryz.prog G (f192_env k) := envOf_sound (ents_cons h0 (ents_nil))
  exact ent_ok (subs := [f192_b6 k]) hT hE (envOf_nat _) hMix hL (subs_cons (f192_n4 k) (f192_b6_ok k hT hL hE) (subs_nil _ _ _)) (f192_e k) Tryz.func192 f192_y f192_z (f192_x k)

def f320_env (k : Nat) : Env := envOf []
theorem f320_x (k : Nat) (v : argsC (f320_e k).inp) : fexec (lookT tab) (f320_env k) [] Tryz.f320 (bodyOf Tryz.f320) (mkArgs (f320_e k).inp v) (fun rs => getRes (f320_e k).out rs some) = (f320_e k).run v := by kernel_rfl
theorem f320_y : Tryz.f320.body = some (bodyOf Tryz.f320) := by kernel_rfl
theorem f320_z : (Tryz.f320.name == "runtime.NumGoroutine") = false := by kernel_rfl
theorem f320_ok (k : Nat) (hT : TTOk Tryz.prog (lookT tab)) (hL : Lasting G) : EntOk Tryz.prog G (f320_e k) := by
  have hE : EnvSound Tryz.prog G (f320_env k) := envOf_sound (ents_nil)
  exact ent_ok (subs := []) hT hE (envOf_nat _) hMix hL (subs_nil _ _ _) (f320_e k) Tryz.func320 f320_y f320_z (f320_x k)

def f322_env (k : Nat) : Env := envOf []
theorem f322_x (k : Nat) (v : argsC (f322_e k).inp) : fexec (lookT tab) (f322_env k) [] Tryz.f322 (bodyOf Tryz.f322) (mkArgs (f322_e k).inp v) (fun rs => getRes (f322_e k).out rs some) = (f322_e k).run v := by kernel_rfl
theorem f322_y : Tryz.f322.body = some (bodyOf Tryz.f322) := by kernel_rfl
theorem f322_z : (Tryz.f322.name == "runtime.NumGoroutine") = false := by kernel_rfl
theorem f322_ok (k : Nat) (hT : TTOk Tryz.prog (lookT tab)) (hL : Lasting G) : EntOk Tryz.prog G (f322_e k) := by
  have hE : EnvSound Tryz.prog G (f322_env k) := envOf_sound (ents_nil)
  exact ent_ok (subs := []) hT hE (envOf_nat _) hMix hL (subs_nil _ _ _) (f322_e k) Tryz.func322 f322_y f322_z (f322_x k)

def f327_env (k : Nat) : Env := envOf []
theorem f327_x (k : Nat) (v : argsC (f327_e k).inp) : fexec (lookT tab) (f327_env k) [] Tryz.f327 (bodyOf Tryz.f327) (mkArgs (f327_e k).inp v) (fun rs => getRes (f327_e k).out rs some) = (f327_e k).run v := by kernel_rfl
theorem f327_y : Tryz.f327.body = some (bodyOf Tryz.f327) := by kernel_rfl
theorem f327_z : (Tryz.f327.name == "runtime.NumGoroutine") = false := by kernel_rfl
theorem f327_ok (k : Nat) (hT : TTOk Tryz.prog (lookT tab)) (hL : Lasting G) : EntOk Tryz.prog G (f327_e k) := by
  have hE : EnvSound Tryz.prog G (f327_env k) := envOf_sound (ents_nil)
  exact ent_ok (subs := []) hT hE (envOf_nat _) hMix hL (subs_nil _ _ _) (f327_e k) Tryz.func327 f327_y f327_z (f327_x k)

def f310_env (k : Nat) : Env := envOf [f322_e k, f323_e k]
def f310_b22 (k : Nat) : Sub := { key := 22, inp := ⟨[.data (.list (.int .u8)), .data (.int .u64), .dead, .data .bool, .data .bool, .dead, .dead, .dead, .dead, .dead, .nils, .data .str, .ptr 0 [], .data (.int .i64), .data (.int .u64), .data (.int .u64), .data (.int .u64), .dead, .dead, .dead, .dead, .dead, .dead, .dead, .dead, .dead, .dead, .dead, .dead, .dead, .dead, .dead, .dead, .dead, .dead, .dead, .dead, .dead, .dead, .dead, .dead, .dead, .dead, .dead, .dead, .dead, .dead, .dead, .dead, .dead, .dead, .dead, .dead, .dead, .dead, .dead, .dead, .dead, .dead, .dead, .dead, .dead, .dead, .dead, .dead, .dead, .dead, .dead, .dead, .dead, .dead, .dead, .dead, .dead, .dead, .dead, .dead, .dead, .dead, .dead, .dead, .dead, .dead, .dead, .dead, .dead, .dead, .dead, .dead, .dead, .dead, .dead, .dead, .dead, .dead, .dead, .dead, .dead, .dead, .dead, .dead, .dead], [.box (.arr 65 (.int .u8))], [], []⟩, ways := [⟨.x 0, ⟨[.data (.list (.int .u8)), .data (.int .u64), .dead, .data .bool, .data .bool, .dead, .dead, .dead, .dead, .dead, .nils, .data .str, .ptr 0 [], .data (.int .i64), .dead, .dead, .dead, .dead, .dead, .dead, .dead, .dead, .dead, .dead, .dead, .dead, .dead, .dead, .dead, .dead, .dead, .dead, .dead, .dead, .dead, .dead, .dead, .dead, .dead, .dead, .dead, .dead, .dead, .dead, .dead, .dead, .dead, .dead, .dead, .dead, .dead, .dead, .dead, .dead, .dead, .dead, .dead, .dead, .dead, .dead, .dead, .dead, .dead, .dead, .dead, .dead, .dead, .dead, .dead, .dead, .dead, .dead, .dead, .dead, .dead, .dead, .dead, .dead, .dead, .dead, .dead, .dead, .dead, .dead, .dead, .dead, .dead, .dead, .dead, .dead, .dead, .dead, .dead, .dead, .dead, .dead, .dead, .dead, .dead, .dead, .dead, .dead], [.box (.arr 65 (.int .u8))], [], []⟩⟩], run := fun v => iter (f310_s22_u k) k v }
def f310_b36 (k : Nat) : Sub := { key := 36, inp := ⟨[.data (.list (.int .u8)), .data (.int .u64), .dead, .data .bool, .data .bool, .dead, .dead, .dead, .dead, .dead, .nils, .data .str, .ptr 0 [], .data (.int .i64), .dead, .dead, .dead, .data (.int .u64), .dead, .dead, .dead, .dead, .dead, .dead, .dead, .dead, .dead, .dead, .dead, .dead, .dead, .dead, .dead, .dead, .dead, .dead, .dead, .dead, .dead, .dead, .dead, .dead, .dead, .dead, .dead, .dead, .dead, .dead, .dead, .dead, .dead, .dead, .dead, .dead, .dead, .dead, .dead, .dead, .dead, .dead, .dead, .dead, .dead, .dead, .dead, .dead, .dead, .dead, .dead, .dead, .dead, .dead, .dead, .dead, .dead, .dead, .dead, .dead, .dead, .dead, .dead, .dead, .dead, .dead, .dead, .dead, .dead, .dead, .dead, .dead, .dead, .dead, .dead, .dead, .dead, .dead, .dead, .dead, .dead, .dead, .dead, .dead], [.box (.arr 65 (.int .u8))], [], []⟩, ways := [⟨.x 2, ⟨[.data (.list (.int .u8)), .data (.int .u64), .dead, .data .bool, .data .bool, .dead, .dead, .dead, .dead, .dead, .nils, .data .str, .ptr 0 [], .data (.int .i64), .dead, .dead, .dead, .dead, .dead, .dead, .dead, .dead, .dead, .dead, .dead, .dead, .dead, .dead, .dead, .dead, .dead, .dead, .dead, .dead, .dead, .dead, .dead, .dead, .dead, .dead, .dead, .dead, .dead, .dead, .dead, .dead, .dead, .dead, .dead, .dead, .dead, .dead, .dead, .dead, .dead, .dead, .dead, .dead, .dead, .dead, .dead, .dead, .dead, .dead, .dead, .dead, .dead, .dead, .dead, .dead, .dead, .dead, .dead, .dead, .dead, .dead, .dead, .dead, .dead, .dead, .dead, .dead, .dead, .dead, .dead, .dead, .dead, .dead, .dead, .dead, .dead, .dead, .dead, .dead, .dead, .dead, .dead, .dead, .dead, .dead, .dead, .dead], [.box (.arr 65 (.int .u8))], [], []⟩⟩], run := fun v => iter (f310_s36_u k) k v }
theorem f310_b22_x (k : Nat) (v : ((List Int) × Int × Bool × Bool × ByteArray × Int × Int × Int × Int × (List Int) × Unit)) : exec (lookT tab) (f310_env k) [] (loopAt 22 (bodyOf Tryz.f310)) (mkSt (f310_b22 k).inp v) (loopKs (f310_b22 k).inp (f310_b22 k).ways) = f310_s22_u k v := by kernel_rfl
theorem f310_b22_ok (k : Nat) (hT : TTOk Tryz.prog (lookT tab)) (hL : Lasting G) (hE : EnvSound Tryz.prog G (f310_env k)) : SubSound Tryz.prog G (f310_b22 k) (.loop (loopAt 22 (bodyOf Tryz.f310))) :=
  sub_loop (subs := []) hT hE (envOf_nat _) hMix hL (subs_nil _ _ _) (f310_s22_u k) k (fun _ => rfl) (fun v o h => (f310_b22_x k v).trans h) (by kernel_rfl)
theorem f310_b36_x (k : Nat) (v : ((List Int) × Int × Bool × Bool × ByteArray × Int × Int × (List Int) × Unit)) : exec (lookT tab) (f310_env k) [] (loopAt 36 (bodyOf Tryz.f310)) (mkSt (f310_b36 k).inp v) (loopKs (f310_b36 k).inp (f310_b36 k).ways) = f310_s36_u k v := by kernel_rfl
theorem f310_b36_ok (k : Nat) (hT : TTOk Tryz.prog (lookT tab)) (hL : Lasting G) (hE : EnvSound Tryz.prog G (f310_env k)) : SubSound Tryz.prog G (f310_b36 k) (.loop (loopAt 36 (bodyOf Tryz.f310))) :=
  sub_loop (subs := []) hT hE (envOf_nat _) hMix hL (subs_nil _ _ _) (f310_s36_u k) k (fun _ => rfl) (fun v o h => (f310_b36_x k v).trans h) (by kernel_rfl)
theorem f310_x (k : Nat) (v : argsC (f310_e k).inp) : fexec (lookT tab) (f310_env k) [f310_b36 k, f310_b22 k] Tryz.f310 (bodyOf Tryz.f310) (mkArgs (f310_e k).inp v) (fun rs => getRes (f310_e k).out rs some) = (f310_e k).run v := by kernel_rfl
theorem f310_y : Tryz.f310.body = some (bodyOf Tryz.f310) := by kernel_rfl
theorem f310_z : (Tryz.f310.name == "runtime.NumGoroutine") = false := by kernel_rfl
theorem f310_n9 (k : Nat) : nodesAt (f310_b36 k).key (bodyOf Tryz.f310) = [(.loop (loopAt 36 (bodyOf Tryz.f310)))] := by kernel_rfl
theorem f310_n10 (k : Nat) : nodesAt (f310_b22 k).key (bodyOf Tryz.f310) = [(.loop (loopAt 22 (bodyOf Tryz.f310)))] := by kernel_rfl
theorem f310_ok (k : Nat) (hT : TTOk Tryz.prog (lookT tab)) (hL : Lasting G) (h0 : EntOk Tryz.prog G (f322_e k)) (h1 : EntOk Tryz.prog G (f323_e k)) : EntOk Tryz.prog G (f310_e k) := by
  have hE : EnvSound Tryz.prog G (f310_env k) := envOf_sound (ents_cons h0 (ents_cons h1 (ents_nil)))
  exact ent_ok (subs := [f310_b36 k, f310_b22 k]) hT hE (envOf_nat _) hMix hL (subs_cons (f310_n9 k) (f310_b36_ok k hT hL hE) (subs_cons (f310_n10 k) (f310_b22_ok k hT hL hE) (subs_nil _ _ _))) (f310_e k) Tryz.func310 f310_y f310_z (f310_x k)

def f196_env (k : Nat) : Env := envOf [f258_e k]
theorem f196_x (k : Nat) (v : argsC (f196_e k).inp) : fexec (lookT tab) (f196_env k) [] Tryz.f196 (bodyOf Tryz.f196) (mkArgs (f196_e k).inp v) (fun rs => getRes (f196_e k).out rs some) = (f196_e k).run v := by kernel_rfl
theorem f196_y : Tryz.f196.body = some (bodyOf Tryz.f196) := by kernel_rfl
theorem f196_z : (Tryz.f196.name == "runtime.NumGoroutine") = false := by kernel_rfl
theorem f196_ok (k : Nat) (hT : TTOk Tryz.prog (lookT tab)) (hL : Lasting G) (h0 : EntOk Tryz.prog G (f258_e k)) : EntOk Tryz.prog G (f196_e k) := by
  have hE : EnvSound Tryz.prog G (f196_env k) := envOf_sound (ents_cons h0 (ents_nil))
  exact ent_ok (subs := []) hT hE (envOf_nat _) hMix hL (subs_nil _ _ _) (f196_e k) Tryz.func196 f196_y f196_z (f196_x k)

def f236_env (k : Nat) : Env := envOf []
theorem f236_x (k : Nat) (v : argsC (f236_e k).inp) : fexec (lookT tab) (f236_env k) [] Tryz.f236 (bodyOf Tryz.f236) (mkArgs (f236_e k).inp v) (fun rs => getRes (f236_e k).out rs some) = (f236_e k).run v := by kernel_rfl
theorem f236_y : Tryz.f236.body = some (bodyOf Tryz.f236) := by kernel_rfl
theorem f236_z : (Tryz.f236.name == "runtime.NumGoroutine") = false := by kernel_rfl
theorem f236_ok (k : Nat) (hT : TTOk Tryz.prog (lookT tab)) (hL : Lasting G) : EntOk Tryz.prog G (f236_e k) := by
  have hE : EnvSound Tryz.prog G (f236_env k) := envOf_sound (ents_nil)
  exact ent_ok (subs := []) hT hE (envOf_nat _) hMix hL (subs_nil _ _ _) (f236_e k) Tryz.func236 f236_y f236_z (f236_x k)

def f179_env (k : Nat) : Env := envOf [f98_e k, f236_e k, f237_e k]
theorem f179_x (k : Nat) (v : argsC (f179_e k).inp) : fexec (lookT tab) (f179_env k) [] Tryz.f179 (bodyOf Tryz.f179) (mkArgs (f179_e k).inp v) (fun rs => getRes (f179_e k).out rs some) = (f179_e k).run v := by kernel_rfl
theorem f179_y : Tryz.f179.body = some (bodyOf Tryz.f179) := by kernel_rfl
theorem f179_z : (Tryz.f179.name == "runtime.NumGoroutine") = false := by kernel_rfl
theorem f179_ok (k : Nat) (hT : TTOk Tryz.prog (lookT tab)) (hL : Lasting G) (h0 : EntOk Tryz.prog G (f98_e k)) (h1 : EntOk Tryz.prog G (f236_e k)) (h2 : EntOk Tryz.prog G (f237_e k)) : EntOk Tryz.prog G (f179_e k) := by
  have hE : EnvSound Tryz.prog G (f179_env k) := envOf_sound (ents_cons h0 (ents_cons h1 (ents_cons h2 (ents_nil))))
  exact ent_ok (subs := []) hT hE (envOf_nat _) hMix hL (subs_nil _ _ _) (f179_e k) Tryz.func179 f179_y f179_z (f179_x k)

def f178_env (k : Nat) : Env := envOf [f179_e k]
theorem f178_x (k : Nat) (v : argsC (f178_e k).inp) : fexec (lookT tab) (f178_env k) [] Tryz.f178 (bodyOf Tryz.f178) (mkArgs (f178_e k).inp v) (fun rs => getRes (f178_e k).out rs some) = (f178_e k).run v := by kernel_rfl
theorem f178_y : Tryz.f178.body = some (bodyOf Tryz.f178) := by kernel_rfl
theorem f178_z : (Tryz.f178.name == "runtime.NumGoroutine") = false := by kernel_rfl
theorem f178_ok (k : Nat) (hT : TTOk Tryz.prog (lookT tab)) (hL : Lasting G) (h0 : EntOk Tryz.prog G (f179_e k)) : EntOk Tryz.prog G (f178_e k) := by
  have hE : EnvSound Tryz.prog G (f178_env k) := envOf_sound (ents_cons h0 (ents_nil))
  exact ent_ok (subs := []) hT hE (envOf_nat _) hMix hL (subs_nil _ _ _) (f178_e k) Tryz.func178 f178_y f178_z (f178_x k)

def f235_env (k : Nat) : Env := envOf [f178_e k]
def f235_b4 (k : Nat) : Sub := { key := 4, inp := ⟨[.data (.list (.agg (.pair .str (.pair (.int .i64) (.pair (.list .str) .unit))))), .fn 178, .dead, .dead, .dead, .dead, .dead, .data (.int .i64), .data (.int .i64), .dead, .dead, .dead, .dead, .dead, .dead, .dead, .dead, .dead, .dead], [], [], []⟩, ways := [⟨.ret, ⟨[.dead, .dead, .dead, .dead, .data (.int .i64), .dead, .dead, .dead, .dead, .dead, .dead, .dead, .dead, .dead, .dead, .dead, .dead, .dead, .dead], [], [], []⟩⟩, ⟨.x 0, ⟨[.dead, .dead, .dead, .dead, .dead, .dead, .dead, .dead, .dead, .dead, .dead, .dead, .dead, .dead, .dead, .dead, .dead, .dead, .dead], [], [], []⟩⟩], run := fun v => iter (f235_s4_u k) k v }
theorem f235_b4_x (k : Nat) (v : ((List (ByteArray × Int × (List ByteArray) × Unit)) × Int × Int × Unit)) : exec (lookT tab) (f235_env k) [] (loopAt 4 (bodyOf Tryz.f235)) (mkSt (f235_b4 k).inp v) (loopKs (f235_b4 k).inp (f235_b4 k).ways) = f235_s4_u k v := by kernel_rfl
theorem f235_b4_ok (k : Nat) (hT : TTOk Tryz.prog (lookT tab)) (hL : Lasting G) (hE : EnvSound Tryz.prog G (f235_env k)) : SubSound Tryz.prog G (f235_b4 k) (.loop (loopAt 4 (bodyOf Tryz.f235))) :=
  sub_loop (subs := []) hT hE (envOf_nat _) hMix hL (subs_nil _ _ _) (f235_s4_u k) k (fun _ => rfl) (fun v o h => (f235_b4_x k v).trans h) (by kernel_rfl)
theorem f235_x (k : Nat) (v : argsC (f235_e k).inp) : fexec (lookT tab) (f235_env k) [f235_b4 k] Tryz.f235 (bodyOf Tryz.f235) (mkArgs (f235_e k).inp v) (fun rs => getRes (f235_e k).out rs some) = (f235_e k).run v := by kernel_rfl
theorem f235_y : Tryz.f235.body = some (bodyOf Tryz.f235) := by kernel_rfl
theorem f235_z : (Tryz.f235.name == "runtime.NumGoroutine") = false := by kernel_rfl
theorem f235_n5 (k : Nat) : nodesAt (f235_b4 k).key (bodyOf Tryz.f235) = [(.loop (loopAt 4 (bodyOf Tryz.f235)))] := by kernel_rfl
theorem f235_ok (k : Nat) (hT : TTOk Tryz.prog (lookT tab)) (hL : Lasting G) (h0 : EntOk Tryz.prog G (f178_e k)) : EntOk Tryz.prog G (f235_e k) := by
  have hE : EnvSound Tryz.prog G (f235_env k) := envOf_sound (ents_cons h0 (ents_nil))
  exact ent_ok (subs := [f235_b4 k]) hT hE (envOf_nat _) hMix hL (subs_cons (f235_n5 k) (f235_b4_ok k hT hL hE) (subs_nil _ _ _)) (f235_e k) Tryz.func235 f235_y f235_z (f235_x k)

def f145_env (k : Nat) : Env := envOf [f132_e k, f198_e k, f199_e k]
def f145_b10 (k : Nat) : Sub := { key := 10, inp := ⟨[.dead, .dead, .dead, .dead, .osl 0, .dead, .dead, .dead, .dead, .dead, .data (.list (.agg (.pair .str (.pair (.int .i64) (.pair (.list .str) .unit))))), .data (.int .i64), .data (.int .i64), .dead, .dead, .dead, .dead, .dead, .dead, .dead, .dead, .dead, .dead, .dead], [.row .str], [(4, .str)], []⟩, ways := [⟨.x 0, ⟨[.dead, .dead, .dead, .dead, .osl 0, .dead, .dead, .dead, .dead, .dead, .dead, .dead, .dead, .dead, .dead, .dead, .dead, .dead, .dead, .dead, .dead, .dead, .dead, .dead], [.row .str], [], []⟩⟩], run := fun v => iter (f145_s10_u k) k v }
theorem f145_b10_x (k : Nat) (v : ((List (ByteArray × Int × (List ByteArray) × Unit)) × Int × Int × (List ByteArray) × Unit)) : exec (lookT tab) (f145_env k) [] (loopAt 10 (bodyOf Tryz.f145)) (mkSt (f145_b10 k).inp v) (loopKs (f145_b10 k).inp (f145_b10 k).ways) = f145_s10_u k v := by kernel_rfl
theorem f145_b10_ok (k : Nat) (hT : TTOk Tryz.prog (lookT tab)) (hL : Lasting G) (hE : EnvSound Tryz.prog G (f145_env k)) : SubSound Tryz.prog G (f145_b10 k) (.loop (loopAt 10 (bodyOf Tryz.f145))) :=
  sub_loop (subs := []) hT hE (envOf_nat _) hMix hL (subs_nil _ _ _) (f145_s10_u k) k (fun _ => rfl) (fun v o h => (f145_b10_x k v).trans h) (by kernel_rfl)
theorem f145_x (k : Nat) (v : argsC (f145_e k).inp) : fexec (lookT tab) (f145_env k) [f145_b10 k] Tryz.f145 (bodyOf Tryz.f145) (mkArgs (f145_e k).inp v) (fun rs => getRes (f145_e k).out rs some) = (f145_e k).run v := by kernel_rfl
theorem f145_y : Tryz.f145.body = some (bodyOf Tryz.f145) := by kernel_rfl
theorem f145_z : (Tryz.f145.name == "runtime.NumGoroutine") = false := by kernel_rfl
theorem f145_n7 (k : Nat) : nodesAt (f145_b10 k).key (bodyOf Tryz.f145) = [(.loop (loopAt 10 (bodyOf Tryz.f145)))] := by kernel_rfl
theorem f145_ok (k : Nat) (hT : TTOk Tryz.prog (lookT tab)) (hL : Lasting G) (h0 : EntOk Tryz.prog G (f132_e k)) (h1 : EntOk Tryz.prog G (f198_e k)) (h2 : EntOk Tryz.prog G (f199_e k)) : EntOk Tryz.prog G (f145_e k) := by
  have hE : EnvSound Tryz.prog G (f145_env k) := envOf_sound (ents_cons h0 (ents_cons h1 (ents_cons h2 (ents_nil))))
  exact ent_ok (subs := [f145_b10 k]) hT hE (envOf_nat _) hMix hL (subs_cons (f145_n7 k) (f145_b10_ok k hT hL hE) (subs_nil _ _ _)) (f145_e k) Tryz.func145 f145_y f145_z (f145_x k)

def f200_env (k : Nat) : Env := envOf [f184_e k, f242_e k]
theorem f200_x (k : Nat) (v : argsC (f200_e k).inp) : fexec (lookT tab) (f200_env k) [] Tryz.f200 (bodyOf Tryz.f200) (mkArgs (f200_e k).inp v) (fun rs => getRes (f200_e k).out rs some) = (f200_e k).run v := by kernel_rfl
theorem f200_y : Tryz.f200.body = some (bodyOf Tryz.f200) := by kernel_rfl
theorem f200_z : (Tryz.f200.name == "runtime.NumGoroutine") = false := by kernel_rfl
theorem f200_ok (k : Nat) (hT : TTOk Tryz.prog (lookT tab)) (hL : Lasting G) (h0 : EntOk Tryz.prog G (f184_e k)) (h1 : EntOk Tryz.prog G (f242_e k)) : EntOk Tryz.prog G (f200_e k) := by
  have hE : EnvSound Tryz.prog G (f200_env k) := envOf_sound (ents_cons h0 (ents_cons h1 (ents_nil)))
  exact ent_ok (subs := []) hT hE (envOf_nat _) hMix hL (subs_nil _ _ _) (f200_e k) Tryz.func200 f200_y f200_z (f200_x k)

def f146_env (k : Nat) : Env := envOf [f200_e k, f201_e k]
theorem f146_x (k : Nat) (v : argsC (f146_e k).inp) : fexec (lookT tab) (f146_env k) [] Tryz.f146 (bodyOf Tryz.f146) (mkArgs (f146_e k).inp v) (fun rs => getRes (f146_e k).out rs some) = (f146_e k).run v := by kernel_rfl
theorem f146_y : Tryz.f146.body = some (bodyOf Tryz.f146) := by kernel_rfl
theorem f146_z : (Tryz.f146.name == "runtime.NumGoroutine") = false := by kernel_rfl
theorem f146_ok (k : Nat) (hT : TTOk Tryz.prog (lookT tab)) (hL : Lasting G) (h0 : EntOk Tryz.prog G (f200_e k)) (h1 : EntOk Tryz.prog G (f201_e k)) : EntOk Tryz.prog G (f146_e k) := by
  have hE : EnvSound Tryz.prog G (f146_env k) := envOf_sound (ents_cons h0 (ents_cons h1 (ents_nil)))
  exact ent_ok (subs := []) hT hE (envOf_nat _) hMix hL (subs_nil _ _ _) (f146_e k) Tryz.func146 f146_y f146_z (f146_x k)

def f51_env (k : Nat) : Env := envOf [f104_e k, f105_e k]
theorem f51_x (k : Nat) (v : argsC (f51_e k).inp) : fexec (lookT tab) (f51_env k) [] Tryz.f51 (bodyOf Tryz.f51) (mkArgs (f51_e k).inp v) (fun rs => getRes (f51_e k).out rs some) = (f51_e k).run v := by kernel_rfl
theorem f51_y : Tryz.f51.body = some (bodyOf Tryz.f51) := by kernel_rfl
theorem f51_z : (Tryz.f51.name == "runtime.NumGoroutine") = false := by kernel_rfl
theorem f51_ok (k : Nat) (hT : TTOk Tryz.prog (lookT tab)) (hL : Lasting G) (h0 : EntOk Tryz.prog G (f104_e k)) (h1 : EntOk Tryz.prog G (f105_e k)) : EntOk Tryz.prog G (f51_e k) := by
  have hE : EnvSound Tryz.prog G (f51_env k) := envOf_sound (ents_cons h0 (ents_cons h1 (ents_nil)))
  exact ent_ok (subs := []) hT hE (envOf_nat _) hMix hL (subs_nil _ _ _) (f51_e k) Tryz.func51 f51_y f51_z (f51_x k)

def f38_env (k : Nat) : Env := envOf []
def f38_b8 (k : Nat) : Sub := { key := 8, inp := ⟨[.data (.list .str), .dead, .dead, .data (.int .i64), .dead, .dead, .dead, .dead, .dead, .dead, .dead, .dead, .dead, .dead, .dead, .dead, .dead, .dead, .dead], [], [], []⟩, ways := [⟨.ret, ⟨[.dead, .dead, .data .bool, .dead, .dead, .dead, .dead, .dead, .dead, .dead, .dead, .dead, .dead, .dead, .dead, .dead, .dead, .dead, .dead], [], [], []⟩⟩, ⟨.x 0, ⟨[.dead, .dead, .dead, .dead, .dead, .dead, .dead, .dead, .dead, .dead, .dead, .dead, .dead, .dead, .dead, .dead, .dead, .dead, .dead], [], [], []⟩⟩], run := fun v => iter (f38_s8_u k) k v }
theorem f38_b8_x (k : Nat) (v : ((List ByteArray) × Int × Unit)) : exec (lookT tab) (f38_env k) [] (loopAt 8 (bodyOf Tryz.f38)) (mkSt (f38_b8 k).inp v) (loopKs (f38_b8 k).inp (f38_b8 k).ways) = f38_s8_u k v := by kernel_rfl
theorem f38_b8_ok (k : Nat) (hT : TTOk Tryz.prog (lookT tab)) (hL : Lasting G) (hE : EnvSound Tryz.prog G (f38_env k)) : SubSound Tryz.prog G (f38_b8 k) (.loop (loopAt 8 (bodyOf Tryz.f38))) :=
  sub_loop (subs := []) hT hE (envOf_nat _) hMix hL (subs_nil _ _ _) (f38_s8_u k) k (fun _ => rfl) (fun v o h => (f38_b8_x k v).trans h) (by kernel_rfl)
theorem f38_x (k : Nat) (v : argsC (f38_e k).inp) : fexec (lookT tab) (f38_env k) [f38_b8 k] Tryz.f38 (bodyOf Tryz.f38) (mkArgs (f38_e k).inp v) (fun rs => getRes (f38_e k).out rs some) = (f38_e k).run v := by kernel_rfl
theorem f38_y : Tryz.f38.body = some (bodyOf Tryz.f38) := by kernel_rfl
theorem f38_z : (Tryz.f38.name == "runtime.NumGoroutine") = false := by kernel_rfl
theorem f38_n2 (k : Nat) : nodesAt (f38_b8 k).key (bodyOf Tryz.f38) = [(.loop (loopAt 8 (bodyOf Tryz.f38)))] := by kernel_rfl
theorem f38_ok (k : Nat) (hT : TTOk Tryz.prog (lookT tab)) (hL : Lasting G) : EntOk Tryz.prog G (f38_e k) := by
  have hE : EnvSound Tryz.prog G (f38_env k) := envOf_sound (ents_nil)
  exact ent_ok (subs := [f38_b8 k]) hT hE (envOf_nat _) hMix hL (subs_cons (f38_n2 k) (f38_b8_ok k hT hL hE) (subs_nil _ _ _)) (f38_e k) Tryz.func38 f38_y f38_z (f38_x k)

def f62_env (k : Nat) : Env := envOf []
def f62_b8 (k : Nat) : Sub := { key := 8, inp := ⟨[.data (.list .str), .data (.list .str), .dead, .dead, .dead, .data (.int .i64), .dead, .dead, .dead, .dead, .dead, .dead, .dead, .dead, .dead, .dead, .dead, .dead, .dead, .dead, .dead, .dead, .dead, .dead, .dead, .dead], [], [], []⟩, ways := [⟨.ret, ⟨[.dead, .dead, .dead, .dead, .data .bool, .dead, .dead, .dead, .dead, .dead, .dead, .dead, .dead, .dead, .dead, .dead, .dead, .dead, .dead, .dead, .dead, .dead, .dead, .dead, .dead, .dead], [], [], []⟩⟩, ⟨.x 0, ⟨[.dead, .dead, .dead, .dead, .dead, .dead, .dead, .dead, .dead, .dead, .dead, .dead, .dead, .dead, .dead, .dead, .dead, .dead, .dead, .dead, .dead, .dead, .dead, .dead, .dead, .dead], [], [], []⟩⟩], run := fun v => iter (f62_s8_u k) k v }
theorem f62_b8_x (k : Nat) (v : ((List ByteArray) × (List ByteArray) × Int × Unit)) : exec (lookT tab) (f62_env k) [] (loopAt 8 (bodyOf Tryz.f62)) (mkSt (f62_b8 k).inp v) (loopKs (f62_b8 k).inp (f62_b8 k).ways) = f62_s8_u k v := by kernel_rfl
theorem f62_b8_ok (k : Nat) (hT : TTOk Tryz.prog (lookT tab)) (hL : Lasting G) (hE : EnvSound Tryz.prog G (f62_env k)) : SubSound Tryz.prog G (f62_b8 k) (.loop (loopAt 8 (bodyOf Tryz.f62))) :=
  sub_loop (subs := []) hT hE (envOf_nat _) hMix hL (subs_nil _ _ _) (f62_s8_u k) k (fun _ => rfl) (fun v o h => (f62_b8_x k v).trans h) (by kernel_rfl)
theorem f62_x (k : Nat) (v : argsC (f62_e k).inp) : fexec (lookT tab) (f62_env k) [f62_b8 k] Tryz.f62 (bodyOf Tryz.f62) (mkArgs (f62_e k).inp v) (fun rs => getRes (f62_e k).out rs some) = (f62_e k).run v := by kernel_rfl
theorem f62_y : Tryz.f62.body = some (bodyOf Tryz.f62) := by kernel_rfl
theorem f62_z : (Tryz.f62.name == "runtime.NumGoroutine") = false := by kernel_rfl
theorem f62_n2 (k : Nat) : nodesAt (f62_b8 k).key (bodyOf Tryz.f62) = [(.loop (loopAt 8 (bodyOf Tryz.f62)))] := by kernel_rfl
theorem f62_ok (k : Nat) (hT : TTOk Tryz.prog (lookT tab)) (hL : Lasting G) : EntOk Tryz.prog G (f62_e k) := by
  have hE : EnvSound Tryz.prog G (f62_env k) := envOf_sound (ents_nil)
  exact ent_ok (subs := [f62_b8 k]) hT hE (envOf_nat _) hMix hL (subs_cons (f62_n2 k) (f62_b8_ok k hT hL hE) (subs_nil _ _ _)) (f62_e k) Tryz.func62 f62_y f62_z (f62_x k)

def f17_m : List (Nat × TT) := [(26, (.agg (.pair (.data (.int .i64)) (.pair (.data .str) (.pair (.data (.int .i64)) (.pair (.data (.int .i64)) (.pair (.data .bool) (.pair (.data (.list .str)) (.pair (.data (.list (.agg (.pair .str (.pair .str .unit))))) (.pair (.data (.list .str)) (.pair (.data .str) (.pair (.data (.int .i64)) (.pair (.data (.int .i64)) (.pair (.data (.list (.int .i64))) (.pair (.data (.list .str)) (.pair (.data .str) (.pair (.data .str) (.pair (.data (.int .i64)) (.pair (.data .str) (.pair (.data .str) (.pair (.data .str) .unit)))))))))))))))))))))]
theorem f17_t : TTOk Tryz.prog (lookTM tab f17_m [26]) := lookTM_ok hTabB (by kernel_rfl)
def f17_env (k : Nat) : Env := envOf [f64_e k, f65_e k, f66_e k]
theorem f17_x (k : Nat) (v : argsC (f17_e k).inp) : fexec (lookTM tab f17_m [26]) (f17_env k) [] Tryz.f17 (bodyOf Tryz.f17) (mkArgs (f17_e k).inp v) (fun rs => getRes (f17_e k).out rs some) = (f17_e k).run v := by kernel_rfl
theorem f17_y : Tryz.f17.body = some (bodyOf Tryz.f17) := by kernel_rfl
theorem f17_z : (Tryz.f17.name == "runtime.NumGoroutine") = false := by kernel_rfl
theorem f17_ok (k : Nat) (hT : TTOk Tryz.prog (lookTM tab f17_m [26])) (hL : Lasting G) (h0 : EntOk Tryz.prog G (f64_e k)) (h1 : EntOk Tryz.prog G (f65_e k)) (h2 : EntOk Tryz.prog G (f66_e k)) : EntOk Tryz.prog G (f17_e k) := by
  have hE : EnvSound Tryz.prog G (f17_env k) := envOf_sound (ents_cons h0 (ents_cons h1 (ents_cons h2 (ents_nil))))
  exact ent_ok (subs := []) hT hE (envOf_nat _) hMix hL (subs_nil _ _ _) (f17_e k) Tryz.func17 f17_y f17_z (f17_x k)

end Go.Proofs.YtpffibjemegioaaGreatDoor
