/- The code of the program does what the plain functions say. -/
import Derived.Test.YtldlhoapojaljaaGreatDoorQPlain
import Derived.Test.YtldlhoapojaljaaGreatDoorQTab
set_option linter.unusedVariables false
namespace Go.Proofs.YtldlhoapojaljaaGreatDoor
open Go Go.RowKit Go.PB
variable {G : Gv}
def f17_m : List (Nat × TT) := [(29, (.opt tS)), (52, (.map tK tO)), (54, tS)]
theorem f17_t : TTOk Tryz.prog (lookTM tab f17_m [54]) := lookTM_ok hTabB (by kernel_rfl)
def f17_env (k : Nat) : Env := envOf []
theorem f17_x (k : Nat) (v : argsC (f17_e k).inp) : fexec (lookTM tab f17_m [54]) (f17_env k) [] Tryz.f17 (bodyOf Tryz.f17) (mkArgs (f17_e k).inp v) (fun rs => getRes (f17_e k).out rs some) = (f17_e k).run v := by kernel_rfl
theorem f17_y : Tryz.f17.body = some (bodyOf Tryz.f17) := by kernel_rfl
theorem f17_z : (Tryz.f17.name == "runtime.NumGoroutine") = false := by kernel_rfl
theorem f17_ok (k : Nat) (hT : TTOk Tryz.prog (lookTM tab f17_m [54])) (hL : Lasting G) : EntOk Tryz.prog G (f17_e k) := by
  have hE : EnvSound Tryz.prog G (f17_env k) := envOf_sound (ents_nil)
  exact ent_ok (subs := []) hT hE (envOf_nat _) hMix hL (subs_nil _ _ _) (f17_e k) Tryz.func17 f17_y f17_z (f17_x k)

def f73_env (k : Nat) : Env := envOf []
theorem f73_x (k : Nat) (v : argsC (f73_e k).inp) : fexec (lookT tab) (f73_env k) [] Tryz.f73 (bodyOf Tryz.f73) (mkArgs (f73_e k).inp v) (fun rs => getRes (f73_e k).out rs some) = (f73_e k).run v := by kernel_rfl
theorem f73_y : Tryz.f73.body = some (bodyOf Tryz.f73) := by kernel_rfl
theorem f73_z : (Tryz.f73.name == "runtime.NumGoroutine") = false := by kernel_rfl
theorem f73_ok (k : Nat) (hT : TTOk Tryz.prog (lookT tab)) (hL : Lasting G) : EntOk Tryz.prog G (f73_e k) := by
  have hE : EnvSound Tryz.prog G (f73_env k) := envOf_sound (ents_nil)
  exact ent_ok (subs := []) hT hE (envOf_nat _) hMix hL (subs_nil _ _ _) (f73_e k) Tryz.func73 f73_y f73_z (f73_x k)

def f74_env (k : Nat) : Env := envOf []
def f74_b8 (k : Nat) : Sub := { key := 8, inp := ⟨[.data (.list (.agg (.pair .str (.pair .str .unit)))), .data (.list (.agg (.pair .str (.pair .str .unit)))), .dead, .dead, .dead, .dead, .dead, .dead, .dead, .dead, .dead, .dead, .data (.int .i64), .data (.int .i64), .dead, .dead, .dead, .dead, .dead, .dead, .dead, .dead, .dead, .dead, .dead, .dead], [], [], []⟩, ways := [⟨.ret, ⟨[.dead, .dead, .dead, .dead, .data .bool, .dead, .dead, .dead, .dead, .dead, .dead, .dead, .dead, .dead, .dead, .dead, .dead, .dead, .dead, .dead, .dead, .dead, .dead, .dead, .dead, .dead], [], [], []⟩⟩, ⟨.x 0, ⟨[.dead, .dead, .dead, .dead, .dead, .dead, .dead, .dead, .dead, .dead, .dead, .dead, .dead, .dead, .dead, .dead, .dead, .dead, .dead, .dead, .dead, .dead, .dead, .dead, .dead, .dead], [], [], []⟩⟩], run := fun v => iter (f74_s8_u k) k v }
theorem f74_b8_x (k : Nat) (v : ((List (ByteArray × ByteArray × Unit)) × (List (ByteArray × ByteArray × Unit)) × Int × Int × Unit)) : exec (lookT tab) (f74_env k) [] (loopAt 8 (bodyOf Tryz.f74)) (mkSt (f74_b8 k).inp v) (loopKs (f74_b8 k).inp (f74_b8 k).ways) = f74_s8_u k v := by kernel_rfl
theorem f74_b8_ok (k : Nat) (hT : TTOk Tryz.prog (lookT tab)) (hL : Lasting G) (hE : EnvSound Tryz.prog G (f74_env k)) : SubSound Tryz.prog G (f74_b8 k) (.loop (loopAt 8 (bodyOf Tryz.f74))) :=
  sub_loop (subs := []) hT hE (envOf_nat _) hMix hL (subs_nil _ _ _) (f74_s8_u k) k (fun _ => rfl) (fun v o h => (f74_b8_x k v).trans h) (by kernel_rfl)
theorem f74_x (k : Nat) (v : argsC (f74_e k).inp) : fexec (lookT tab) (f74_env k) [f74_b8 k] Tryz.f74 (bodyOf Tryz.f74) (mkArgs (f74_e k).inp v) (fun rs => getRes (f74_e k).out rs some) = (f74_e k).run v := by kernel_rfl
theorem f74_y : Tryz.f74.body = some (bodyOf Tryz.f74) := by kernel_rfl
theorem f74_z : (Tryz.f74.name == "runtime.NumGoroutine") = false := by kernel_rfl
theorem f74_n2 (k : Nat) : nodesAt (f74_b8 k).key (bodyOf Tryz.f74) = [(.loop (loopAt 8 (bodyOf Tryz.f74)))] := by kernel_rfl
theorem f74_ok (k : Nat) (hT : TTOk Tryz.prog (lookT tab)) (hL : Lasting G) : EntOk Tryz.prog G (f74_e k) := by
  have hE : EnvSound Tryz.prog G (f74_env k) := envOf_sound (ents_nil)
  exact ent_ok (subs := [f74_b8 k]) hT hE (envOf_nat _) hMix hL (subs_cons (f74_n2 k) (f74_b8_ok k hT hL hE) (subs_nil _ _ _)) (f74_e k) Tryz.func74 f74_y f74_z (f74_x k)

def f44_env (k : Nat) : Env := envOf [f73_e k, f43_e k, f74_e k, f75_e k]
theorem f44_x (k : Nat) (v : argsC (f44_e k).inp) : fexec (lookT tab) (f44_env k) [] Tryz.f44 (bodyOf Tryz.f44) (mkArgs (f44_e k).inp v) (fun rs => getRes (f44_e k).out rs some) = (f44_e k).run v := by kernel_rfl
theorem f44_y : Tryz.f44.body = some (bodyOf Tryz.f44) := by kernel_rfl
theorem f44_z : (Tryz.f44.name == "runtime.NumGoroutine") = false := by kernel_rfl
theorem f44_ok (k : Nat) (hT : TTOk Tryz.prog (lookT tab)) (hL : Lasting G) (h0 : EntOk Tryz.prog G (f73_e k)) (h1 : EntOk Tryz.prog G (f43_e k)) (h2 : EntOk Tryz.prog G (f74_e k)) (h3 : EntOk Tryz.prog G (f75_e k)) : EntOk Tryz.prog G (f44_e k) := by
  have hE : EnvSound Tryz.prog G (f44_env k) := envOf_sound (ents_cons h0 (ents_cons h1 (ents_cons h2 (ents_cons h3 (ents_nil)))))
  exact ent_ok (subs := []) hT hE (envOf_nat _) hMix hL (subs_nil _ _ _) (f44_e k) Tryz.func44 f44_y f44_z (f44_x k)

def f99_env (k : Nat) : Env := envOf [f77_e k]
def f99_b4 (k : Nat) : Sub := { key := 4, inp := ⟨[.data (.list .str), .fn 77, .dead, .dead, .dead, .dead, .dead, .data (.int .i64), .data (.int .i64), .dead, .dead, .dead, .dead, .dead, .dead, .dead, .dead, .dead, .dead], [], [], []⟩, ways := [⟨.ret, ⟨[.dead, .dead, .dead, .dead, .data (.int .i64), .dead, .dead, .dead, .dead, .dead, .dead, .dead, .dead, .dead, .dead, .dead, .dead, .dead, .dead], [], [], []⟩⟩, ⟨.x 0, ⟨[.dead, .dead, .dead, .dead, .dead, .dead, .dead, .dead, .dead, .dead, .dead, .dead, .dead, .dead, .dead, .dead, .dead, .dead, .dead], [], [], []⟩⟩], run := fun v => iter (f99_s4_u k) k v }
theorem f99_b4_x (k : Nat) (v : ((List ByteArray) × Int × Int × Unit)) : exec (lookT tab) (f99_env k) [] (loopAt 4 (bodyOf Tryz.f99)) (mkSt (f99_b4 k).inp v) (loopKs (f99_b4 k).inp (f99_b4 k).ways) = f99_s4_u k v := by kernel_rfl
theorem f99_b4_ok (k : Nat) (hT : TTOk Tryz.prog (lookT tab)) (hL : Lasting G) (hE : EnvSound Tryz.prog G (f99_env k)) : SubSound Tryz.prog G (f99_b4 k) (.loop (loopAt 4 (bodyOf Tryz.f99))) :=
  sub_loop (subs := []) hT hE (envOf_nat _) hMix hL (subs_nil _ _ _) (f99_s4_u k) k (fun _ => rfl) (fun v o h => (f99_b4_x k v).trans h) (by kernel_rfl)
theorem f99_x (k : Nat) (v : argsC (f99_e k).inp) : fexec (lookT tab) (f99_env k) [f99_b4 k] Tryz.f99 (bodyOf Tryz.f99) (mkArgs (f99_e k).inp v) (fun rs => getRes (f99_e k).out rs some) = (f99_e k).run v := by kernel_rfl
theorem f99_y : Tryz.f99.body = some (bodyOf Tryz.f99) := by kernel_rfl
theorem f99_z : (Tryz.f99.name == "runtime.NumGoroutine") = false := by kernel_rfl
theorem f99_n5 (k : Nat) : nodesAt (f99_b4 k).key (bodyOf Tryz.f99) = [(.loop (loopAt 4 (bodyOf Tryz.f99)))] := by kernel_rfl
theorem f99_ok (k : Nat) (hT : TTOk Tryz.prog (lookT tab)) (hL : Lasting G) (h0 : EntOk Tryz.prog G (f77_e k)) : EntOk Tryz.prog G (f99_e k) := by
  have hE : EnvSound Tryz.prog G (f99_env k) := envOf_sound (ents_cons h0 (ents_nil))
  exact ent_ok (subs := [f99_b4 k]) hT hE (envOf_nat _) hMix hL (subs_cons (f99_n5 k) (f99_b4_ok k hT hL hE) (subs_nil _ _ _)) (f99_e k) Tryz.func99 f99_y f99_z (f99_x k)

def f100_env (k : Nat) : Env := envOf [f79_e k]
def f100_b4 (k : Nat) : Sub := { key := 4, inp := ⟨[.data (.list (.agg (.pair .str (.pair .str .unit)))), .fn 79, .dead, .dead, .dead, .dead, .dead, .data (.int .i64), .data (.int .i64), .dead, .dead, .dead, .dead, .dead, .dead, .dead, .dead, .dead, .dead], [], [], []⟩, ways := [⟨.ret, ⟨[.dead, .dead, .dead, .dead, .data (.int .i64), .dead, .dead, .dead, .dead, .dead, .dead, .dead, .dead, .dead, .dead, .dead, .dead, .dead, .dead], [], [], []⟩⟩, ⟨.x 0, ⟨[.dead, .dead, .dead, .dead, .dead, .dead, .dead, .dead, .dead, .dead, .dead, .dead, .dead, .dead, .dead, .dead, .dead, .dead, .dead], [], [], []⟩⟩], run := fun v => iter (f100_s4_u k) k v }
theorem f100_b4_x (k : Nat) (v : ((List (ByteArray × ByteArray × Unit)) × Int × Int × Unit)) : exec (lookT tab) (f100_env k) [] (loopAt 4 (bodyOf Tryz.f100)) (mkSt (f100_b4 k).inp v) (loopKs (f100_b4 k).inp (f100_b4 k).ways) = f100_s4_u k v := by kernel_rfl
theorem f100_b4_ok (k : Nat) (hT : TTOk Tryz.prog (lookT tab)) (hL : Lasting G) (hE : EnvSound Tryz.prog G (f100_env k)) : SubSound Tryz.prog G (f100_b4 k) (.loop (loopAt 4 (bodyOf Tryz.f100))) :=
  sub_loop (subs := []) hT hE (envOf_nat _) hMix hL (subs_nil _ _ _) (f100_s4_u k) k (fun _ => rfl) (fun v o h => (f100_b4_x k v).trans h) (by kernel_rfl)
theorem f100_x (k : Nat) (v : argsC (f100_e k).inp) : fexec (lookT tab) (f100_env k) [f100_b4 k] Tryz.f100 (bodyOf Tryz.f100) (mkArgs (f100_e k).inp v) (fun rs => getRes (f100_e k).out rs some) = (f100_e k).run v := by kernel_rfl
theorem f100_y : Tryz.f100.body = some (bodyOf Tryz.f100) := by kernel_rfl
theorem f100_z : (Tryz.f100.name == "runtime.NumGoroutine") = false := by kernel_rfl
theorem f100_n5 (k : Nat) : nodesAt (f100_b4 k).key (bodyOf Tryz.f100) = [(.loop (loopAt 4 (bodyOf Tryz.f100)))] := by kernel_rfl
theorem f100_ok (k : Nat) (hT : TTOk Tryz.prog (lookT tab)) (hL : Lasting G) (h0 : EntOk Tryz.prog G (f79_e k)) : EntOk Tryz.prog G (f100_e k) := by
  have hE : EnvSound Tryz.prog G (f100_env k) := envOf_sound (ents_cons h0 (ents_nil))
  exact ent_ok (subs := [f100_b4 k]) hT hE (envOf_nat _) hMix hL (subs_cons (f100_n5 k) (f100_b4_ok k hT hL hE) (subs_nil _ _ _)) (f100_e k) Tryz.func100 f100_y f100_z (f100_x k)

def f63_env (k : Nat) : Env := envOf []
theorem f63_x (k : Nat) (v : argsC (f63_e k).inp) : fexec (lookT tab) (f63_env k) [] Tryz.f63 (bodyOf Tryz.f63) (mkArgs (f63_e k).inp v) (fun rs => getRes (f63_e k).out rs some) = (f63_e k).run v := by kernel_rfl
theorem f63_y : Tryz.f63.body = some (bodyOf Tryz.f63) := by kernel_rfl
theorem f63_z : (Tryz.f63.name == "runtime.NumGoroutine") = false := by kernel_rfl
theorem f63_ok (k : Nat) (hT : TTOk Tryz.prog (lookT tab)) (hL : Lasting G) : EntOk Tryz.prog G (f63_e k) := by
  have hE : EnvSound Tryz.prog G (f63_env k) := envOf_sound (ents_nil)
  exact ent_ok (subs := []) hT hE (envOf_nat _) hMix hL (subs_nil _ _ _) (f63_e k) Tryz.func63 f63_y f63_z (f63_x k)

def f87_env (k : Nat) : Env := envOf []
def f87_b4 (k : Nat) : Sub := { key := 4, inp := ⟨[.dead, .data (.int .i32), .dead, .dead, .dead, .dead, .dead, .dead, .iter 0, .dead, .dead, .dead, .dead, .dead, .dead], [.iter], [], []⟩, ways := [⟨.ret, ⟨[.dead, .dead, .dead, .dead, .data .bool, .dead, .dead, .dead, .dead, .dead, .dead, .dead, .dead, .dead, .dead], [], [], []⟩⟩, ⟨.x 0, ⟨[.dead, .dead, .dead, .dead, .dead, .dead, .dead, .dead, .dead, .dead, .dead, .dead, .dead, .dead, .dead], [], [], []⟩⟩], run := fun v => iter (f87_s4_u k) k v }
theorem f87_b4_x (k : Nat) (v : (Int × ByteArray × Nat × Unit)) : exec (lookT tab) (f87_env k) [] (loopAt 4 (bodyOf Tryz.f87)) (mkSt (f87_b4 k).inp v) (loopKs (f87_b4 k).inp (f87_b4 k).ways) = f87_s4_u k v := by kernel_rfl
theorem f87_b4_ok (k : Nat) (hT : TTOk Tryz.prog (lookT tab)) (hL : Lasting G) (hE : EnvSound Tryz.prog G (f87_env k)) : SubSound Tryz.prog G (f87_b4 k) (.loop (loopAt 4 (bodyOf Tryz.f87))) :=
  sub_loop (subs := []) hT hE (envOf_nat _) hMix hL (subs_nil _ _ _) (f87_s4_u k) k (fun _ => rfl) (fun v o h => (f87_b4_x k v).trans h) (by kernel_rfl)
theorem f87_x (k : Nat) (v : argsC (f87_e k).inp) : fexec (lookT tab) (f87_env k) [f87_b4 k] Tryz.f87 (bodyOf Tryz.f87) (mkArgs (f87_e k).inp v) (fun rs => getRes (f87_e k).out rs some) = (f87_e k).run v := by kernel_rfl
theorem f87_y : Tryz.f87.body = some (bodyOf Tryz.f87) := by kernel_rfl
theorem f87_z : (Tryz.f87.name == "runtime.NumGoroutine") = false := by kernel_rfl
theorem f87_n2 (k : Nat) : nodesAt (f87_b4 k).key (bodyOf Tryz.f87) = [(.loop (loopAt 4 (bodyOf Tryz.f87)))] := by kernel_rfl
theorem f87_ok (k : Nat) (hT : TTOk Tryz.prog (lookT tab)) (hL : Lasting G) : EntOk Tryz.prog G (f87_e k) := by
  have hE : EnvSound Tryz.prog G (f87_env k) := envOf_sound (ents_nil)
  exact ent_ok (subs := [f87_b4 k]) hT hE (envOf_nat _) hMix hL (subs_cons (f87_n2 k) (f87_b4_ok k hT hL hE) (subs_nil _ _ _)) (f87_e k) Tryz.func87 f87_y f87_z (f87_x k)

def f62_env (k : Nat) : Env := envOf [f63_e k, f87_e k]
def f62_b8 (k : Nat) : Sub := { key := 8, inp := ⟨[.data .str, .fn 63, .data .str, .dead, .dead, .dead, .dead, .dead, .dead, .dead, .dead, .dead, .dead, .dead, .iter 0, .dead, .dead, .dead, .dead, .dead, .dead, .dead, .dead, .dead, .dead, .dead, .dead, .dead, .dead, .dead, .dead, .dead, .dead, .dead, .dead, .dead, .dead, .dead, .dead, .dead, .dead], [.iter], [], []⟩, ways := [⟨.ret, ⟨[.dead, .dead, .dead, .dead, .dead, .dead, .data .bool, .dead, .dead, .dead, .dead, .dead, .dead, .dead, .dead, .dead, .dead, .dead, .dead, .dead, .dead, .dead, .dead, .dead, .dead, .dead, .dead, .dead, .dead, .dead, .dead, .dead, .dead, .dead, .dead, .dead, .dead, .dead, .dead, .dead, .dead], [], [], []⟩⟩, ⟨.x 0, ⟨[.dead, .dead, .dead, .dead, .dead, .dead, .dead, .dead, .dead, .dead, .dead, .dead, .dead, .dead, .dead, .dead, .dead, .dead, .dead, .dead, .dead, .dead, .dead, .dead, .dead, .dead, .dead, .dead, .dead, .dead, .dead, .dead, .dead, .dead, .dead, .dead, .dead, .dead, .dead, .dead, .dead], [], [], []⟩⟩], run := fun v => iter (f62_s8_u k) k v }
theorem f62_b8_x (k : Nat) (v : (ByteArray × ByteArray × ByteArray × Nat × Unit)) : exec (lookT tab) (f62_env k) [] (loopAt 8 (bodyOf Tryz.f62)) (mkSt (f62_b8 k).inp v) (loopKs (f62_b8 k).inp (f62_b8 k).ways) = f62_s8_u k v := by kernel_rfl
theorem f62_b8_ok (k : Nat) (hT : TTOk Tryz.prog (lookT tab)) (hL : Lasting G) (hE : EnvSound Tryz.prog G (f62_env k)) : SubSound Tryz.prog G (f62_b8 k) (.loop (loopAt 8 (bodyOf Tryz.f62))) :=
  sub_loop (subs := []) hT hE (envOf_nat _) hMix hL (subs_nil _ _ _) (f62_s8_u k) k (fun _ => rfl) (fun v o h => (f62_b8_x k v).trans h) (by kernel_rfl)
theorem f62_x (k : Nat) (v : argsC (f62_e k).inp) : fexec (lookT tab) (f62_env k) [f62_b8 k] Tryz.f62 (bodyOf Tryz.f62) (mkArgs (f62_e k).inp v) (fun rs => getRes (f62_e k).out rs some) = (f62_e k).run v := by kernel_rfl
theorem f62_y : Tryz.f62.body = some (bodyOf Tryz.f62) := by kernel_rfl
theorem f62_z : (Tryz.f62.name == "runtime.NumGoroutine") = false := by kernel_rfl
theorem f62_n9 (k : Nat) : nodesAt (f62_b8 k).key (bodyOf Tryz.f62) = [(.loop (loopAt 8 (bodyOf Tryz.f62)))] := by kernel_rfl
theorem f62_ok (k : Nat) (hT : TTOk Tryz.prog (lookT tab)) (hL : Lasting G) (h0 : EntOk Tryz.prog G (f63_e k)) (h1 : EntOk Tryz.prog G (f87_e k)) : EntOk Tryz.prog G (f62_e k) := by
  have hE : EnvSound Tryz.prog G (f62_env k) := envOf_sound (ents_cons h0 (ents_cons h1 (ents_nil)))
  exact ent_ok (subs := [f62_b8 k]) hT hE (envOf_nat _) hMix hL (subs_cons (f62_n9 k) (f62_b8_ok k hT hL hE) (subs_nil _ _ _)) (f62_e k) Tryz.func62 f62_y f62_z (f62_x k)

def f36_env (k : Nat) : Env := envOf [f62_e k]
theorem f36_x (k : Nat) (v : argsC (f36_e k).inp) : fexec (lookT tab) (f36_env k) [] Tryz.f36 (bodyOf Tryz.f36) (mkArgs (f36_e k).inp v) (fun rs => getRes (f36_e k).out rs some) = (f36_e k).run v := by kernel_rfl
theorem f36_y : Tryz.f36.body = some (bodyOf Tryz.f36) := by kernel_rfl
theorem f36_z : (Tryz.f36.name == "runtime.NumGoroutine") = false := by kernel_rfl
theorem f36_ok (k : Nat) (hT : TTOk Tryz.prog (lookT tab)) (hL : Lasting G) (h0 : EntOk Tryz.prog G (f62_e k)) : EntOk Tryz.prog G (f36_e k) := by
  have hE : EnvSound Tryz.prog G (f36_env k) := envOf_sound (ents_cons h0 (ents_nil))
  exact ent_ok (subs := []) hT hE (envOf_nat _) hMix hL (subs_nil _ _ _) (f36_e k) Tryz.func36 f36_y f36_z (f36_x k)

def f88_env (k : Nat) : Env := envOf [f63_e k]
theorem f88_x (k : Nat) (v : argsC (f88_e k).inp) : fexec (lookT tab) (f88_env k) [] Tryz.f88 (bodyOf Tryz.f88) (mkArgs (f88_e k).inp v) (fun rs => getRes (f88_e k).out rs some) = (f88_e k).run v := by kernel_rfl
theorem f88_y : Tryz.f88.body = some (bodyOf Tryz.f88) := by kernel_rfl
theorem f88_z : (Tryz.f88.name == "runtime.NumGoroutine") = false := by kernel_rfl
theorem f88_ok (k : Nat) (hT : TTOk Tryz.prog (lookT tab)) (hL : Lasting G) (h0 : EntOk Tryz.prog G (f63_e k)) : EntOk Tryz.prog G (f88_e k) := by
  have hE : EnvSound Tryz.prog G (f88_env k) := envOf_sound (ents_cons h0 (ents_nil))
  exact ent_ok (subs := []) hT hE (envOf_nat _) hMix hL (subs_nil _ _ _) (f88_e k) Tryz.func88 f88_y f88_z (f88_x k)

def f64_env (k : Nat) : Env := envOf [f62a_e k]
theorem f64_x (k : Nat) (v : argsC (f64_e k).inp) : fexec (lookT tab) (f64_env k) [] Tryz.f64 (bodyOf Tryz.f64) (mkArgs (f64_e k).inp v) (fun rs => getRes (f64_e k).out rs some) = (f64_e k).run v := by kernel_rfl
theorem f64_y : Tryz.f64.body = some (bodyOf Tryz.f64) := by kernel_rfl
theorem f64_z : (Tryz.f64.name == "runtime.NumGoroutine") = false := by kernel_rfl
theorem f64_ok (k : Nat) (hT : TTOk Tryz.prog (lookT tab)) (hL : Lasting G) (h0 : EntOk Tryz.prog G (f62a_e k)) : EntOk Tryz.prog G (f64_e k) := by
  have hE : EnvSound Tryz.prog G (f64_env k) := envOf_sound (ents_cons h0 (ents_nil))
  exact ent_ok (subs := []) hT hE (envOf_nat _) hMix hL (subs_nil _ _ _) (f64_e k) Tryz.func64 f64_y f64_z (f64_x k)

def f65_env (k : Nat) : Env := envOf [f62a_e k]
theorem f65_x (k : Nat) (v : argsC (f65_e k).inp) : fexec (lookT tab) (f65_env k) [] Tryz.f65 (bodyOf Tryz.f65) (mkArgs (f65_e k).inp v) (fun rs => getRes (f65_e k).out rs some) = (f65_e k).run v := by kernel_rfl
theorem f65_y : Tryz.f65.body = some (bodyOf Tryz.f65) := by kernel_rfl
theorem f65_z : (Tryz.f65.name == "runtime.NumGoroutine") = false := by kernel_rfl
theorem f65_ok (k : Nat) (hT : TTOk Tryz.prog (lookT tab)) (hL : Lasting G) (h0 : EntOk Tryz.prog G (f62a_e k)) : EntOk Tryz.prog G (f65_e k) := by
  have hE : EnvSound Tryz.prog G (f65_env k) := envOf_sound (ents_cons h0 (ents_nil))
  exact ent_ok (subs := []) hT hE (envOf_nat _) hMix hL (subs_nil _ _ _) (f65_e k) Tryz.func65 f65_y f65_z (f65_x k)

def f37_env (k : Nat) : Env := envOf [f64_e k, f65_e k]
def f37_b4 (k : Nat) : Sub := { key := 4, inp := ⟨[.data (.list (.agg (.pair .str (.pair .str .unit)))), .dead, .dead, .dead, .dead, .data (.list (.agg (.pair .str (.pair .str .unit)))), .data (.int .i64), .data (.int .i64), .dead, .dead, .dead, .dead, .dead, .dead, .dead, .dead, .dead, .dead, .dead, .dead, .dead, .dead, .dead, .dead, .dead, .dead, .dead, .dead, .dead, .dead, .dead, .dead, .dead, .dead, .dead, .dead, .dead, .dead, .dead, .dead, .dead], [], [], []⟩, ways := [⟨.ret, ⟨[.dead, .dead, .data .bool, .dead, .dead, .dead, .dead, .dead, .dead, .dead, .dead, .dead, .dead, .dead, .dead, .dead, .dead, .dead, .dead, .dead, .dead, .dead, .dead, .dead, .dead, .dead, .dead, .dead, .dead, .dead, .dead, .dead, .dead, .dead, .dead, .dead, .dead, .dead, .dead, .dead, .dead], [], [], []⟩⟩, ⟨.x 0, ⟨[.data (.list (.agg (.pair .str (.pair .str .unit)))), .dead, .dead, .dead, .dead, .dead, .dead, .dead, .dead, .dead, .dead, .dead, .dead, .dead, .dead, .dead, .dead, .dead, .dead, .dead, .dead, .dead, .dead, .dead, .dead, .dead, .dead, .dead, .dead, .dead, .dead, .dead, .dead, .dead, .dead, .dead, .dead, .dead, .dead, .dead, .dead], [], [], []⟩⟩], run := fun v => iter (f37_s4_u k) k v }
theorem f37_b4_x (k : Nat) (v : ((List (ByteArray × ByteArray × Unit)) × (List (ByteArray × ByteArray × Unit)) × Int × Int × Unit)) : exec (lookT tab) (f37_env k) [] (loopAt 4 (bodyOf Tryz.f37)) (mkSt (f37_b4 k).inp v) (loopKs (f37_b4 k).inp (f37_b4 k).ways) = f37_s4_u k v := by kernel_rfl
theorem f37_b4_ok (k : Nat) (hT : TTOk Tryz.prog (lookT tab)) (hL : Lasting G) (hE : EnvSound Tryz.prog G (f37_env k)) : SubSound Tryz.prog G (f37_b4 k) (.loop (loopAt 4 (bodyOf Tryz.f37))) :=
  sub_loop (subs := []) hT hE (envOf_nat _) hMix hL (subs_nil _ _ _) (f37_s4_u k) k (fun _ => rfl) (fun v o h => (f37_b4_x k v).trans h) (by kernel_rfl)
theorem f37_x (k : Nat) (v : argsC (f37_e k).inp) : fexec (lookT tab) (f37_env k) [f37_b4 k] Tryz.f37 (bodyOf Tryz.f37) (mkArgs (f37_e k).inp v) (fun rs => getRes (f37_e k).out rs some) = (f37_e k).run v := by kernel_rfl
theorem f37_y : Tryz.f37.body = some (bodyOf Tryz.f37) := by kernel_rfl
theorem f37_z : (Tryz.f37.name == "runtime.NumGoroutine") = false := by kernel_rfl
theorem f37_n7 (k : Nat) : nodesAt (f37_b4 k).key (bodyOf Tryz.f37) = [(.loop (loopAt 4 (bodyOf Tryz.f37)))] := by kernel_rfl
theorem f37_ok (k : Nat) (hT : TTOk Tryz.prog (lookT tab)) (hL : Lasting G) (h0 : EntOk Tryz.prog G (f64_e k)) (h1 : EntOk Tryz.prog G (f65_e k)) : EntOk Tryz.prog G (f37_e k) := by
  have hE : EnvSound Tryz.prog G (f37_env k) := envOf_sound (ents_cons h0 (ents_cons h1 (ents_nil)))
  exact ent_ok (subs := [f37_b4 k]) hT hE (envOf_nat _) hMix hL (subs_cons (f37_n7 k) (f37_b4_ok k hT hL hE) (subs_nil _ _ _)) (f37_e k) Tryz.func37 f37_y f37_z (f37_x k)

def f21_env (k : Nat) : Env := envOf [f27_e k, f36_e k, f37_e k, f38_e k, f39_e k]
theorem f21_x (k : Nat) (v : argsC (f21_e k).inp) : fexec (lookT tab) (f21_env k) [] Tryz.f21 (bodyOf Tryz.f21) (mkArgs (f21_e k).inp v) (fun rs => getRes (f21_e k).out rs some) = (f21_e k).run v := by kernel_rfl
theorem f21_y : Tryz.f21.body = some (bodyOf Tryz.f21) := by kernel_rfl
theorem f21_z : (Tryz.f21.name == "runtime.NumGoroutine") = false := by kernel_rfl
theorem f21_ok (k : Nat) (hT : TTOk Tryz.prog (lookT tab)) (hL : Lasting G) (h0 : EntOk Tryz.prog G (f27_e k)) (h1 : EntOk Tryz.prog G (f36_e k)) (h2 : EntOk Tryz.prog G (f37_e k)) (h3 : EntOk Tryz.prog G (f38_e k)) (h4 : EntOk Tryz.prog G (f39_e k)) : EntOk Tryz.prog G (f21_e k) := by
  have hE : EnvSound Tryz.prog G (f21_env k) := envOf_sound (ents_cons h0 (ents_cons h1 (ents_cons h2 (ents_cons h3 (ents_cons h4 (ents_nil))))))
  exact ent_ok (subs := []) hT hE (envOf_nat _) hMix hL (subs_nil _ _ _) (f21_e k) Tryz.func21 f21_y f21_z (f21_x k)

def f28_env (k : Nat) : Env := envOf [f49_e k, f50_e k, f51_e k]
theorem f28_x (k : Nat) (v : argsC (f28_e k).inp) : fexec (lookT tab) (f28_env k) [] Tryz.f28 (bodyOf Tryz.f28) (mkArgs (f28_e k).inp v) (fun rs => getRes (f28_e k).out rs some) = (f28_e k).run v := by kernel_rfl
theorem f28_y : Tryz.f28.body = some (bodyOf Tryz.f28) := by kernel_rfl
theorem f28_z : (Tryz.f28.name == "runtime.NumGoroutine") = false := by kernel_rfl
theorem f28_ok (k : Nat) (hT : TTOk Tryz.prog (lookT tab)) (hL : Lasting G) (h0 : EntOk Tryz.prog G (f49_e k)) (h1 : EntOk Tryz.prog G (f50_e k)) (h2 : EntOk Tryz.prog G (f51_e k)) : EntOk Tryz.prog G (f28_e k) := by
  have hE : EnvSound Tryz.prog G (f28_env k) := envOf_sound (ents_cons h0 (ents_cons h1 (ents_cons h2 (ents_nil))))
  exact ent_ok (subs := []) hT hE (envOf_nat _) hMix hL (subs_nil _ _ _) (f28_e k) Tryz.func28 f28_y f28_z (f28_x k)

def f22_m : List (Nat × TT) := [(29, (.opt tS)), (52, (.map tK tO)), (54, tS)]
theorem f22_t : TTOk Tryz.prog (lookTM tab f22_m [54]) := lookTM_ok hTabB (by kernel_rfl)
def f22_env (k : Nat) : Env := envOf [f28_e k]
theorem f22_x (k : Nat) (v : argsC (f22_e k).inp) : fexec (lookTM tab f22_m [54]) (f22_env k) [] Tryz.f22 (bodyOf Tryz.f22) (mkArgs (f22_e k).inp v) (fun rs => getRes (f22_e k).out rs some) = (f22_e k).run v := by kernel_rfl
theorem f22_y : Tryz.f22.body = some (bodyOf Tryz.f22) := by kernel_rfl
theorem f22_z : (Tryz.f22.name == "runtime.NumGoroutine") = false := by kernel_rfl
theorem f22_ok (k : Nat) (hT : TTOk Tryz.prog (lookTM tab f22_m [54])) (hL : Lasting G) (h0 : EntOk Tryz.prog G (f28_e k)) : EntOk Tryz.prog G (f22_e k) := by
  have hE : EnvSound Tryz.prog G (f22_env k) := envOf_sound (ents_cons h0 (ents_nil))
  exact ent_ok (subs := []) hT hE (envOf_nat _) hMix hL (subs_nil _ _ _) (f22_e k) Tryz.func22 f22_y f22_z (f22_x k)

def f30_m : List (Nat × TT) := [(29, (.opt tS)), (52, (.map tK tO)), (54, tS)]
theorem f30_t : TTOk Tryz.prog (lookTM tab f30_m [54]) := lookTM_ok hTabB (by kernel_rfl)
def f30_env (k : Nat) : Env := envOf [f20_e k, f27_e k]
theorem f30_x (k : Nat) (v : argsC (f30_e k).inp) : fexec (lookTM tab f30_m [54]) (f30_env k) [] Tryz.f30 (bodyOf Tryz.f30) (mkArgs (f30_e k).inp v) (fun rs => getRes (f30_e k).out rs some) = (f30_e k).run v := by kernel_rfl
theorem f30_y : Tryz.f30.body = some (bodyOf Tryz.f30) := by kernel_rfl
theorem f30_z : (Tryz.f30.name == "runtime.NumGoroutine") = false := by kernel_rfl
theorem f30_ok (k : Nat) (hT : TTOk Tryz.prog (lookTM tab f30_m [54])) (hL : Lasting G) (h0 : EntOk Tryz.prog G (f20_e k)) (h1 : EntOk Tryz.prog G (f27_e k)) : EntOk Tryz.prog G (f30_e k) := by
  have hE : EnvSound Tryz.prog G (f30_env k) := envOf_sound (ents_cons h0 (ents_cons h1 (ents_nil)))
  exact ent_ok (subs := []) hT hE (envOf_nat _) hMix hL (subs_nil _ _ _) (f30_e k) Tryz.func30 f30_y f30_z (f30_x k)

def f23_env (k : Nat) : Env := envOf []
theorem f23_x (k : Nat) (v : argsC (f23_e k).inp) : fexec (lookT tab) (f23_env k) [] Tryz.f23 (bodyOf Tryz.f23) (mkArgs (f23_e k).inp v) (fun rs => getRes (f23_e k).out rs some) = (f23_e k).run v := by kernel_rfl
theorem f23_y : Tryz.f23.body = some (bodyOf Tryz.f23) := by kernel_rfl
theorem f23_z : (Tryz.f23.name == "runtime.NumGoroutine") = false := by kernel_rfl
theorem f23_ok (k : Nat) (hT : TTOk Tryz.prog (lookT tab)) (hL : Lasting G) : EntOk Tryz.prog G (f23_e k) := by
  have hE : EnvSound Tryz.prog G (f23_env k) := envOf_sound (ents_nil)
  exact ent_ok (subs := []) hT hE (envOf_nat _) hMix hL (subs_nil _ _ _) (f23_e k) Tryz.func23 f23_y f23_z (f23_x k)

def f72_env (k : Nat) : Env := envOf []
def f72_b4 (k : Nat) : Sub := { key := 4, inp := ⟨[.data (.list .str), .data .str, .dead, .dead, .dead, .dead, .dead, .data (.int .i64), .data (.int .i64), .dead, .dead, .dead, .dead, .dead, .dead, .dead, .dead, .dead, .dead], [], [], []⟩, ways := [⟨.ret, ⟨[.dead, .dead, .dead, .dead, .data (.int .i64), .dead, .dead, .dead, .dead, .dead, .dead, .dead, .dead, .dead, .dead, .dead, .dead, .dead, .dead], [], [], []⟩⟩, ⟨.x 0, ⟨[.dead, .dead, .dead, .dead, .dead, .dead, .dead, .dead, .dead, .dead, .dead, .dead, .dead, .dead, .dead, .dead, .dead, .dead, .dead], [], [], []⟩⟩], run := fun v => iter (f72_s4_u k) k v }
theorem f72_b4_x (k : Nat) (v : ((List ByteArray) × ByteArray × Int × Int × Unit)) : exec (lookT tab) (f72_env k) [] (loopAt 4 (bodyOf Tryz.f72)) (mkSt (f72_b4 k).inp v) (loopKs (f72_b4 k).inp (f72_b4 k).ways) = f72_s4_u k v := by kernel_rfl
theorem f72_b4_ok (k : Nat) (hT : TTOk Tryz.prog (lookT tab)) (hL : Lasting G) (hE : EnvSound Tryz.prog G (f72_env k)) : SubSound Tryz.prog G (f72_b4 k) (.loop (loopAt 4 (bodyOf Tryz.f72))) :=
  sub_loop (subs := []) hT hE (envOf_nat _) hMix hL (subs_nil _ _ _) (f72_s4_u k) k (fun _ => rfl) (fun v o h => (f72_b4_x k v).trans h) (by kernel_rfl)
theorem f72_x (k : Nat) (v : argsC (f72_e k).inp) : fexec (lookT tab) (f72_env k) [f72_b4 k] Tryz.f72 (bodyOf Tryz.f72) (mkArgs (f72_e k).inp v) (fun rs => getRes (f72_e k).out rs some) = (f72_e k).run v := by kernel_rfl
theorem f72_y : Tryz.f72.body = some (bodyOf Tryz.f72) := by kernel_rfl
theorem f72_z : (Tryz.f72.name == "runtime.NumGoroutine") = false := by kernel_rfl
theorem f72_n2 (k : Nat) : nodesAt (f72_b4 k).key (bodyOf Tryz.f72) = [(.loop (loopAt 4 (bodyOf Tryz.f72)))] := by kernel_rfl
theorem f72_ok (k : Nat) (hT : TTOk Tryz.prog (lookT tab)) (hL : Lasting G) : EntOk Tryz.prog G (f72_e k) := by
  have hE : EnvSound Tryz.prog G (f72_env k) := envOf_sound (ents_nil)
  exact ent_ok (subs := [f72_b4 k]) hT hE (envOf_nat _) hMix hL (subs_cons (f72_n2 k) (f72_b4_ok k hT hL hE) (subs_nil _ _ _)) (f72_e k) Tryz.func72 f72_y f72_z (f72_x k)

def f42_env (k : Nat) : Env := envOf [f72_e k]
theorem f42_x (k : Nat) (v : argsC (f42_e k).inp) : fexec (lookT tab) (f42_env k) [] Tryz.f42 (bodyOf Tryz.f42) (mkArgs (f42_e k).inp v) (fun rs => getRes (f42_e k).out rs some) = (f42_e k).run v := by kernel_rfl
theorem f42_y : Tryz.f42.body = some (bodyOf Tryz.f42) := by kernel_rfl
theorem f42_z : (Tryz.f42.name == "runtime.NumGoroutine") = false := by kernel_rfl
theorem f42_ok (k : Nat) (hT : TTOk Tryz.prog (lookT tab)) (hL : Lasting G) (h0 : EntOk Tryz.prog G (f72_e k)) : EntOk Tryz.prog G (f42_e k) := by
  have hE : EnvSound Tryz.prog G (f42_env k) := envOf_sound (ents_cons h0 (ents_nil))
  exact ent_ok (subs := []) hT hE (envOf_nat _) hMix hL (subs_nil _ _ _) (f42_e k) Tryz.func42 f42_y f42_z (f42_x k)

def f24_env (k : Nat) : Env := envOf [f42_e k, f43_e k]
def f24_b4 (k : Nat) : Sub := { key := 4, inp := ⟨[.dead, .dead, .ptr 0 [], .ptr 1 [], .dead, .dead, .dead, .dead, .data (.list .str), .data (.int .i64), .data (.int .i64), .dead, .dead, .dead, .dead, .dead, .dead, .dead, .dead, .dead, .dead, .dead, .dead, .dead, .dead, .dead, .dead, .dead, .dead, .dead, .dead, .dead, .dead, .dead, .dead, .dead, .dead, .dead, .dead, .dead, .dead, .dead, .dead, .dead, .dead, .dead, .dead, .dead, .dead, .dead, .dead, .dead, .dead, .dead, .dead, .dead, .dead, .dead, .dead, .dead, .dead, .dead, .dead, .dead, .dead, .dead, .dead, .dead, .dead], [.box tO, .box tO], [], []⟩, ways := [⟨.ret, ⟨[.dead, .dead, .dead, .dead, .data .bool, .dead, .dead, .dead, .dead, .dead, .dead, .dead, .dead, .dead, .dead, .dead, .dead, .dead, .dead, .dead, .dead, .dead, .dead, .dead, .dead, .dead, .dead, .dead, .dead, .dead, .dead, .dead, .dead, .dead, .dead, .dead, .dead, .dead, .dead, .dead, .dead, .dead, .dead, .dead, .dead, .dead, .dead, .dead, .dead, .dead, .dead, .dead, .dead, .dead, .dead, .dead, .dead, .dead, .dead, .dead, .dead, .dead, .dead, .dead, .dead, .dead, .dead, .dead, .dead], [], [], []⟩⟩, ⟨.x 0, ⟨[.dead, .dead, .ptr 0 [], .ptr 1 [], .dead, .dead, .dead, .dead, .dead, .dead, .dead, .dead, .dead, .dead, .dead, .dead, .dead, .dead, .dead, .dead, .dead, .dead, .dead, .dead, .dead, .dead, .dead, .dead, .dead, .dead, .dead, .dead, .dead, .dead, .dead, .dead, .dead, .dead, .dead, .dead, .dead, .dead, .dead, .dead, .dead, .dead, .dead, .dead, .dead, .dead, .dead, .dead, .dead, .dead, .dead, .dead, .dead, .dead, .dead, .dead, .dead, .dead, .dead, .dead, .dead, .dead, .dead, .dead, .dead], [.box tO, .box tO], [], []⟩⟩], run := fun v => iter (f24_s4_u k) k v }
theorem f24_b4_x (k : Nat) (v : ((List ByteArray) × Int × Int × cO × cO × Unit)) : exec (lookT tab) (f24_env k) [] (loopAt 4 (bodyOf Tryz.f24)) (mkSt (f24_b4 k).inp v) (loopKs (f24_b4 k).inp (f24_b4 k).ways) = f24_s4_u k v := by kernel_rfl
theorem f24_b4_ok (k : Nat) (hT : TTOk Tryz.prog (lookT tab)) (hL : Lasting G) (hE : EnvSound Tryz.prog G (f24_env k)) : SubSound Tryz.prog G (f24_b4 k) (.loop (loopAt 4 (bodyOf Tryz.f24))) :=
  sub_loop (subs := []) hT hE (envOf_nat _) hMix hL (subs_nil _ _ _) (f24_s4_u k) k (fun _ => rfl) (fun v o h => (f24_b4_x k v).trans h) (by kernel_rfl)
theorem f24_x (k : Nat) (v : argsC (f24_e k).inp) : fexec (lookT tab) (f24_env k) [f24_b4 k] Tryz.f24 (bodyOf Tryz.f24) (mkArgs (f24_e k).inp v) (fun rs => getRes (f24_e k).out rs some) = (f24_e k).run v := by kernel_rfl
theorem f24_y : Tryz.f24.body = some (bodyOf Tryz.f24) := by kernel_rfl
theorem f24_z : (Tryz.f24.name == "runtime.NumGoroutine") = false := by kernel_rfl
theorem f24_n6 (k : Nat) : nodesAt (f24_b4 k).key (bodyOf Tryz.f24) = [(.loop (loopAt 4 (bodyOf Tryz.f24)))] := by kernel_rfl
theorem f24_ok (k : Nat) (hT : TTOk Tryz.prog (lookT tab)) (hL : Lasting G) (h0 : EntOk Tryz.prog G (f42_e k)) (h1 : EntOk Tryz.prog G (f43_e k)) : EntOk Tryz.prog G (f24_e k) := by
  have hE : EnvSound Tryz.prog G (f24_env k) := envOf_sound (ents_cons h0 (ents_cons h1 (ents_nil)))
  exact ent_ok (subs := [f24_b4 k]) hT hE (envOf_nat _) hMix hL (subs_cons (f24_n6 k) (f24_b4_ok k hT hL hE) (subs_nil _ _ _)) (f24_e k) Tryz.func24 f24_y f24_z (f24_x k)

def f14_m : List (Nat × TT) := [(29, (.opt tS)), (52, (.map tK tO)), (54, tS)]
theorem f14_t : TTOk Tryz.prog (lookTM tab f14_m [54]) := lookTM_ok hTabB (by kernel_rfl)
def f14_env (k : Nat) : Env := envOf []
theorem f14_x (k : Nat) (v : argsC (f14_e k).inp) : fexec (lookTM tab f14_m [54]) (f14_env k) [] Tryz.f14 (bodyOf Tryz.f14) (mkArgs (f14_e k).inp v) (fun rs => getRes (f14_e k).out rs some) = (f14_e k).run v := by kernel_rfl
theorem f14_y : Tryz.f14.body = some (bodyOf Tryz.f14) := by kernel_rfl
theorem f14_z : (Tryz.f14.name == "runtime.NumGoroutine") = false := by kernel_rfl
theorem f14_ok (k : Nat) (hT : TTOk Tryz.prog (lookTM tab f14_m [54])) (hL : Lasting G) : EntOk Tryz.prog G (f14_e k) := by
  have hE : EnvSound Tryz.prog G (f14_env k) := envOf_sound (ents_nil)
  exact ent_ok (subs := []) hT hE (envOf_nat _) hMix hL (subs_nil _ _ _) (f14_e k) Tryz.func14 f14_y f14_z (f14_x k)

def f4_m : List (Nat × TT) := [(29, (.opt tS)), (52, (.map tK tO)), (54, tS)]
theorem f4_t : TTOk Tryz.prog (lookTM tab f4_m [54]) := lookTM_ok hTabB (by kernel_rfl)
def f4_env (k : Nat) : Env := envOf [f17_e k, f6_e k, f12_e k, f7_e k, f14_e k]
theorem f4_x (k : Nat) (v : argsC (f4_e k).inp) : fexec (lookTM tab f4_m [54]) (f4_env k) [] Tryz.f4 (bodyOf Tryz.f4) (mkArgs (f4_e k).inp v) (fun rs => getRes (f4_e k).out rs some) = (f4_e k).run v := by kernel_rfl
theorem f4_y : Tryz.f4.body = some (bodyOf Tryz.f4) := by kernel_rfl
theorem f4_z : (Tryz.f4.name == "runtime.NumGoroutine") = false := by kernel_rfl
theorem f4_ok (k : Nat) (hT : TTOk Tryz.prog (lookTM tab f4_m [54])) (hL : Lasting G) (h0 : EntOk Tryz.prog G (f17_e k)) (h1 : EntOk Tryz.prog G (f6_e k)) (h2 : EntOk Tryz.prog G (f12_e k)) (h3 : EntOk Tryz.prog G (f7_e k)) (h4 : EntOk Tryz.prog G (f14_e k)) : EntOk Tryz.prog G (f4_e k) := by
  have hE : EnvSound Tryz.prog G (f4_env k) := envOf_sound (ents_cons h0 (ents_cons h1 (ents_cons h2 (ents_cons h3 (ents_cons h4 (ents_nil))))))
  exact ent_ok (subs := []) hT hE (envOf_nat _) hMix hL (subs_nil _ _ _) (f4_e k) Tryz.func4 f4_y f4_z (f4_x k)

def f18_env (k : Nat) : Env := envOf []
def f18_b8 (k : Nat) : Sub := { key := 8, inp := ⟨[.data (.list (.agg (.pair .str (.pair .str .unit)))), .dead, .dead, .data (.int .i64), .dead, .dead, .dead, .dead, .dead, .dead, .dead, .dead, .dead, .dead, .dead, .dead, .dead, .dead, .dead, .dead, .dead, .dead, .dead, .dead, .dead, .dead, .dead, .dead, .dead], [], [], []⟩, ways := [⟨.ret, ⟨[.dead, .dead, .data .bool, .dead, .dead, .dead, .dead, .dead, .dead, .dead, .dead, .dead, .dead, .dead, .dead, .dead, .dead, .dead, .dead, .dead, .dead, .dead, .dead, .dead, .dead, .dead, .dead, .dead, .dead], [], [], []⟩⟩, ⟨.x 0, ⟨[.dead, .dead, .dead, .dead, .dead, .dead, .dead, .dead, .dead, .dead, .dead, .dead, .dead, .dead, .dead, .dead, .dead, .dead, .dead, .dead, .dead, .dead, .dead, .dead, .dead, .dead, .dead, .dead, .dead], [], [], []⟩⟩], run := fun v => iter (f18_s8_u k) k v }
theorem f18_b8_x (k : Nat) (v : ((List (ByteArray × ByteArray × Unit)) × Int × Unit)) : exec (lookT tab) (f18_env k) [] (loopAt 8 (bodyOf Tryz.f18)) (mkSt (f18_b8 k).inp v) (loopKs (f18_b8 k).inp (f18_b8 k).ways) = f18_s8_u k v := by kernel_rfl
theorem f18_b8_ok (k : Nat) (hT : TTOk Tryz.prog (lookT tab)) (hL : Lasting G) (hE : EnvSound Tryz.prog G (f18_env k)) : SubSound Tryz.prog G (f18_b8 k) (.loop (loopAt 8 (bodyOf Tryz.f18))) :=
  sub_loop (subs := []) hT hE (envOf_nat _) hMix hL (subs_nil _ _ _) (f18_s8_u k) k (fun _ => rfl) (fun v o h => (f18_b8_x k v).trans h) (by kernel_rfl)
theorem f18_x (k : Nat) (v : argsC (f18_e k).inp) : fexec (lookT tab) (f18_env k) [f18_b8 k] Tryz.f18 (bodyOf Tryz.f18) (mkArgs (f18_e k).inp v) (fun rs => getRes (f18_e k).out rs some) = (f18_e k).run v := by kernel_rfl
theorem f18_y : Tryz.f18.body = some (bodyOf Tryz.f18) := by kernel_rfl
theorem f18_z : (Tryz.f18.name == "runtime.NumGoroutine") = false := by kernel_rfl
theorem f18_n2 (k : Nat) : nodesAt (f18_b8 k).key (bodyOf Tryz.f18) = [(.loop (loopAt 8 (bodyOf Tryz.f18)))] := by kernel_rfl
theorem f18_ok (k : Nat) (hT : TTOk Tryz.prog (lookT tab)) (hL : Lasting G) : EntOk Tryz.prog G (f18_e k) := by
  have hE : EnvSound Tryz.prog G (f18_env k) := envOf_sound (ents_nil)
  exact ent_ok (subs := [f18_b8 k]) hT hE (envOf_nat _) hMix hL (subs_cons (f18_n2 k) (f18_b8_ok k hT hL hE) (subs_nil _ _ _)) (f18_e k) Tryz.func18 f18_y f18_z (f18_x k)

def f5_env (k : Nat) : Env := envOf [f18_e k, f19_e k]
theorem f5_x (k : Nat) (v : argsC (f5_e k).inp) : fexec (lookT tab) (f5_env k) [] Tryz.f5 (bodyOf Tryz.f5) (mkArgs (f5_e k).inp v) (fun rs => getRes (f5_e k).out rs some) = (f5_e k).run v := by kernel_rfl
theorem f5_y : Tryz.f5.body = some (bodyOf Tryz.f5) := by kernel_rfl
theorem f5_z : (Tryz.f5.name == "runtime.NumGoroutine") = false := by kernel_rfl
theorem f5_ok (k : Nat) (hT : TTOk Tryz.prog (lookT tab)) (hL : Lasting G) (h0 : EntOk Tryz.prog G (f18_e k)) (h1 : EntOk Tryz.prog G (f19_e k)) : EntOk Tryz.prog G (f5_e k) := by
  have hE : EnvSound Tryz.prog G (f5_env k) := envOf_sound (ents_cons h0 (ents_cons h1 (ents_nil)))
  exact ent_ok (subs := []) hT hE (envOf_nat _) hMix hL (subs_nil _ _ _) (f5_e k) Tryz.func5 f5_y f5_z (f5_x k)

def f7a_m : List (Nat × TT) := [(29, (.opt tS)), (52, (.map tK tO)), (54, tS)]
theorem f7a_t : TTOk Tryz.prog (lookTM tab f7a_m [54]) := lookTM_ok hTabB (by kernel_rfl)
def f7a_env (k : Nat) : Env := envOf []
theorem f7a_x (k : Nat) (v : argsC (f7a_e k).inp) : fexec (lookTM tab f7a_m [54]) (f7a_env k) [] Tryz.f7 (bodyOf Tryz.f7) (mkArgs (f7a_e k).inp v) (fun rs => getRes (f7a_e k).out rs some) = (f7a_e k).run v := by kernel_rfl
theorem f7a_y : Tryz.f7.body = some (bodyOf Tryz.f7) := by kernel_rfl
theorem f7a_z : (Tryz.f7.name == "runtime.NumGoroutine") = false := by kernel_rfl
theorem f7a_ok (k : Nat) (hT : TTOk Tryz.prog (lookTM tab f7a_m [54])) (hL : Lasting G) : EntOk Tryz.prog G (f7a_e k) := by
  have hE : EnvSound Tryz.prog G (f7a_env k) := envOf_sound (ents_nil)
  exact ent_ok (subs := []) hT hE (envOf_nat _) hMix hL (subs_nil _ _ _) (f7a_e k) Tryz.func7 f7a_y f7a_z (f7a_x k)

def f9_m : List (Nat × TT) := [(29, (.opt tS)), (52, (.map tK tO)), (54, tS)]
theorem f9_t : TTOk Tryz.prog (lookTM tab f9_m [54]) := lookTM_ok hTabB (by kernel_rfl)
def f9_env (k : Nat) : Env := envOf []
theorem f9_x (k : Nat) (v : argsC (f9_e k).inp) : fexec (lookTM tab f9_m [54]) (f9_env k) [] Tryz.f9 (bodyOf Tryz.f9) (mkArgs (f9_e k).inp v) (fun rs => getRes (f9_e k).out rs some) = (f9_e k).run v := by kernel_rfl
theorem f9_y : Tryz.f9.body = some (bodyOf Tryz.f9) := by kernel_rfl
theorem f9_z : (Tryz.f9.name == "runtime.NumGoroutine") = false := by kernel_rfl
theorem f9_ok (k : Nat) (hT : TTOk Tryz.prog (lookTM tab f9_m [54])) (hL : Lasting G) : EntOk Tryz.prog G (f9_e k) := by
  have hE : EnvSound Tryz.prog G (f9_env k) := envOf_sound (ents_nil)
  exact ent_ok (subs := []) hT hE (envOf_nat _) hMix hL (subs_nil _ _ _) (f9_e k) Tryz.func9 f9_y f9_z (f9_x k)

def f11_m : List (Nat × TT) := [(29, (.opt tS)), (52, (.map tK tO)), (54, tS)]
theorem f11_t : TTOk Tryz.prog (lookTM tab f11_m [54]) := lookTM_ok hTabB (by kernel_rfl)
def f11_env (k : Nat) : Env := envOf []
theorem f11_x (k : Nat) (v : argsC (f11_e k).inp) : fexec (lookTM tab f11_m [54]) (f11_env k) [] Tryz.f11 (bodyOf Tryz.f11) (mkArgs (f11_e k).inp v) (fun rs => getRes (f11_e k).out rs some) = (f11_e k).run v := by kernel_rfl
theorem f11_y : Tryz.f11.body = some (bodyOf Tryz.f11) := by kernel_rfl
theorem f11_z : (Tryz.f11.name == "runtime.NumGoroutine") = false := by kernel_rfl
theorem f11_ok (k : Nat) (hT : TTOk Tryz.prog (lookTM tab f11_m [54])) (hL : Lasting G) : EntOk Tryz.prog G (f11_e k) := by
  have hE : EnvSound Tryz.prog G (f11_env k) := envOf_sound (ents_nil)
  exact ent_ok (subs := []) hT hE (envOf_nat _) hMix hL (subs_nil _ _ _) (f11_e k) Tryz.func11 f11_y f11_z (f11_x k)

def f13_m : List (Nat × TT) := [(29, (.opt tS)), (52, (.map tK tO)), (54, tS)]
theorem f13_t : TTOk Tryz.prog (lookTM tab f13_m [54]) := lookTM_ok hTabB (by kernel_rfl)
def f13_env (k : Nat) : Env := envOf []
theorem f13_x (k : Nat) (v : argsC (f13_e k).inp) : fexec (lookTM tab f13_m [54]) (f13_env k) [] Tryz.f13 (bodyOf Tryz.f13) (mkArgs (f13_e k).inp v) (fun rs => getRes (f13_e k).out rs some) = (f13_e k).run v := by kernel_rfl
theorem f13_y : Tryz.f13.body = some (bodyOf Tryz.f13) := by kernel_rfl
theorem f13_z : (Tryz.f13.name == "runtime.NumGoroutine") = false := by kernel_rfl
theorem f13_ok (k : Nat) (hT : TTOk Tryz.prog (lookTM tab f13_m [54])) (hL : Lasting G) : EntOk Tryz.prog G (f13_e k) := by
  have hE : EnvSound Tryz.prog G (f13_env k) := envOf_sound (ents_nil)
  exact ent_ok (subs := []) hT hE (envOf_nat _) hMix hL (subs_nil _ _ _) (f13_e k) Tryz.func13 f13_y f13_z (f13_x k)

def f15_m : List (Nat × TT) := [(29, (.opt tS)), (52, (.map tK tO)), (54, tS)]
theorem f15_t : TTOk Tryz.prog (lookTM tab f15_m [54]) := lookTM_ok hTabB (by kernel_rfl)
def f15_env (k : Nat) : Env := envOf []
theorem f15_x (k : Nat) (v : argsC (f15_e k).inp) : fexec (lookTM tab f15_m [54]) (f15_env k) [] Tryz.f15 (bodyOf Tryz.f15) (mkArgs (f15_e k).inp v) (fun rs => getRes (f15_e k).out rs some) = (f15_e k).run v := by kernel_rfl
theorem f15_y : Tryz.f15.body = some (bodyOf Tryz.f15) := by kernel_rfl
theorem f15_z : (Tryz.f15.name == "runtime.NumGoroutine") = false := by kernel_rfl
theorem f15_ok (k : Nat) (hT : TTOk Tryz.prog (lookTM tab f15_m [54])) (hL : Lasting G) : EntOk Tryz.prog G (f15_e k) := by
  have hE : EnvSound Tryz.prog G (f15_env k) := envOf_sound (ents_nil)
  exact ent_ok (subs := []) hT hE (envOf_nat _) hMix hL (subs_nil _ _ _) (f15_e k) Tryz.func15 f15_y f15_z (f15_x k)

def f3_m : List (Nat × TT) := [(29, (.opt tS)), (52, (.map tK tO)), (54, tS)]
theorem f3_t : TTOk Tryz.prog (lookTM tab f3_m [54]) := lookTM_ok hTabB (by kernel_rfl)
def f3_env (k : Nat) : Env := envOf [f4_e k, f5_e k, f6a_e k, f7a_e k, f8_e k, f9_e k, f10_e k, f11_e k, f12a_e k, f13_e k, f14a_e k, f15_e k, f16_e k]
theorem f3_x (k : Nat) (v : argsC (f3_e k).inp) : fexec (lookTM tab f3_m [54]) (f3_env k) [] Tryz.f3 (bodyOf Tryz.f3) (mkArgs (f3_e k).inp v) (fun rs => getRes (f3_e k).out rs some) = (f3_e k).run v := by kernel_rfl
theorem f3_y : Tryz.f3.body = some (bodyOf Tryz.f3) := by kernel_rfl
theorem f3_z : (Tryz.f3.name == "runtime.NumGoroutine") = false := by kernel_rfl
theorem f3_ok (k : Nat) (hT : TTOk Tryz.prog (lookTM tab f3_m [54])) (hL : Lasting G) (h0 : EntOk Tryz.prog G (f4_e k)) (h1 : EntOk Tryz.prog G (f5_e k)) (h2 : EntOk Tryz.prog G (f6a_e k)) (h3 : EntOk Tryz.prog G (f7a_e k)) (h4 : EntOk Tryz.prog G (f8_e k)) (h5 : EntOk Tryz.prog G (f9_e k)) (h6 : EntOk Tryz.prog G (f10_e k)) (h7 : EntOk Tryz.prog G (f11_e k)) (h8 : EntOk Tryz.prog G (f12a_e k)) (h9 : EntOk Tryz.prog G (f13_e k)) (h10 : EntOk Tryz.prog G (f14a_e k)) (h11 : EntOk Tryz.prog G (f15_e k)) (h12 : EntOk Tryz.prog G (f16_e k)) : EntOk Tryz.prog G (f3_e k) := by
  have hE : EnvSound Tryz.prog G (f3_env k) := envOf_sound (ents_cons h0 (ents_cons h1 (ents_cons h2 (ents_cons h3 (ents_cons h4 (ents_cons h5 (ents_cons h6 (ents_cons h7 (ents_cons h8 (ents_cons h9 (ents_cons h10 (ents_cons h11 (ents_cons h12 (ents_nil))))))))))))))
  exact ent_ok (subs := []) hT hE (envOf_nat _) hMix hL (subs_nil _ _ _) (f3_e k) Tryz.func3 f3_y f3_z (f3_x k)

end Go.Proofs.YtldlhoapojaljaaGreatDoor
