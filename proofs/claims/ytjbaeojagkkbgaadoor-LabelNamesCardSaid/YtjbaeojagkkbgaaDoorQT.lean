/- Plain functions of the program, printed from its code, with the proofs that the code does what they say. -/
import Derived.Test.YtjbaeojagkkbgaaDoorQC
import Derived.Test.YtjbaeojagkkbgaaDoorQShelf
set_option linter.unusedVariables false
namespace Go.Proofs.YtjbaeojagkkbgaaDoor
open Go Go.RowKit Go.PB
def tab : List (Nat × Ty) := [(2, (.int .i64)), (3, (.int .i64)), (4, .bool), (5, (.int .u8)), (6, (.int .u8)), (7, (.agg (.pair (.int .i64) (.pair (.int .i64) (.pair .bool (.pair (.int .u8) .unit)))))), (8, (.agg (.pair (.int .i64) (.pair (.int .i64) (.pair .bool (.pair (.int .u8) .unit)))))), (9, .str), (10, .str), (11, .str), (12, (.int .u64)), (13, (.agg (.pair .str (.pair (.int .u64) .unit)))), (14, (.agg (.pair .str (.pair (.int .u64) .unit)))), (21, (.int .i32)), (25, (.list (.agg (.pair .str (.pair .str .unit))))), (27, (.int .i64)), (40, (.list (.agg (.pair .str (.pair (.int .i64) (.pair (.list .str) .unit)))))), (47, (.list .str)), (48, (.agg (.pair .str (.pair (.int .i64) (.pair (.list .str) .unit))))), (49, (.agg (.pair .str (.pair (.int .i64) (.pair (.list .str) .unit))))), (57, (.agg (.pair .str (.pair .str .unit)))), (58, (.agg (.pair .str (.pair .str .unit)))), (76, (.list (.int .u8))), (90, (.list (.list (.agg (.pair .str (.pair .str .unit)))))), (100, (.int .u64)), (117, (.int .u32)), (122, (.agg (.pair (.int .u8) (.pair (.int .u8) .unit)))), (123, (.agg (.pair (.int .u8) (.pair (.int .u8) .unit)))), (131, (.int .u8)), (132, (.int .u8)), (134, (.int .i32)), (135, (.int .i32))]
theorem hTab : TTOk Tryd.prog (lookT tab) := lookT_ok (by kernel_rfl)
theorem hMix : Tryd.prog.follows .mixedOrders = true := by kernel_rfl
def f48 (k : Nat) (s sep : ByteArray) : Option (List ByteArray) := splitRun s sep
def f48_e (k : Nat) : Ent := { f := 48, inp := [.data .str, .data .str], out := [.data (.list .str)], run := fun v => f48 k v.1 v.2.1 }
theorem f48_y : (Tryd.f48.body.isSome = true) := by kernel_rfl
theorem f48_z : (Tryd.f48.name == "runtime.NumGoroutine") = false := by kernel_rfl
theorem f48_all (k : Nat) : EntOk Tryd.prog (fun w => w.ShapedOpen Tryd.prog) (f48_e k) := split_ok ⟨_, Tryd.func48, f48_y, f48_z⟩ Tryd.strings_Split_shaped
def f49 (k : Nat) (s sep : ByteArray) : Option (ByteArray × ByteArray × Bool) := cutRun s sep
def f49_e (k : Nat) : Ent := { f := 49, inp := [.data .str, .data .str], out := [.data .str, .data .str, .data .bool], run := fun v => f49 k v.1 v.2.1 }
theorem f49_y : (Tryd.f49.body.isSome = true) := by kernel_rfl
theorem f49_z : (Tryd.f49.name == "runtime.NumGoroutine") = false := by kernel_rfl
theorem f49_all (k : Nat) : EntOk Tryd.prog (fun w => w.ShapedOpen Tryd.prog) (f49_e k) := cut_ok ⟨_, Tryd.func49, f49_y, f49_z⟩ Tryd.strings_Cut_shaped
variable {G : World → Prop}
def f43 (k : Nat) (a0 : Int) : Option Bool :=
  bif (decide (a0 ≥ 97)) then (bif (decide (a0 ≤ 122)) then (some true) else (bif (decide (a0 ≥ 48)) then (some (decide (a0 ≤ 57))) else (some false))) else (bif (decide (a0 ≥ 48)) then (some (decide (a0 ≤ 57))) else (some false))
def f43_e (k : Nat) : Ent := { f := 43, inp := [.data (.int .i32)], out := [.data .bool], run := fun v => f43 k v.1 }
def f43_env (k : Nat) : Env := envOf []
theorem f43_x (k : Nat) (v : argsC (f43_e k).inp) : fexec (lookT tab) (f43_env k) [] Tryd.f43 (bodyOf Tryd.f43) (mkArgs (f43_e k).inp v) (fun rs => getRes (f43_e k).out rs some) = (f43_e k).run v := by kernel_rfl
theorem f43_y : Tryd.f43.body = some (bodyOf Tryd.f43) := by kernel_rfl
theorem f43_z : (Tryd.f43.name == "runtime.NumGoroutine") = false := by kernel_rfl
theorem f43_ok (k : Nat) (hT : TTOk Tryd.prog (lookT tab)) (hL : Lasting G) : EntOk Tryd.prog G (f43_e k) := by
  have hE : EnvSound Tryd.prog G (f43_env k) := envOf_sound (ents_nil)
  exact ent_ok (subs := []) hT hE (envOf_nat _) hMix hL (subs_nil _ _ _) (f43_e k) Tryd.func43 f43_y f43_z (f43_x k)
theorem f43_all (k : Nat) : EntOk Tryd.prog (fun w => w.ShapedOpen Tryd.prog) (f43_e k) := f43_ok k hTab (lasting_shaped _)

def f45 (k : Nat) (a0 : Int) : Option Bool :=
  (f43 k a0).bind fun r1 => (bif r1 then (some true) else (bif (decide (a0 ≥ 65)) then (some (decide (a0 ≤ 90))) else (some false)))
def f45_e (k : Nat) : Ent := { f := 45, inp := [.data (.int .i32)], out := [.data .bool], run := fun v => f45 k v.1 }
def f45_env (k : Nat) : Env := envOf [f43_e k]
theorem f45_x (k : Nat) (v : argsC (f45_e k).inp) : fexec (lookT tab) (f45_env k) [] Tryd.f45 (bodyOf Tryd.f45) (mkArgs (f45_e k).inp v) (fun rs => getRes (f45_e k).out rs some) = (f45_e k).run v := by kernel_rfl
theorem f45_y : Tryd.f45.body = some (bodyOf Tryd.f45) := by kernel_rfl
theorem f45_z : (Tryd.f45.name == "runtime.NumGoroutine") = false := by kernel_rfl
theorem f45_ok (k : Nat) (hT : TTOk Tryd.prog (lookT tab)) (hL : Lasting G) (h0 : EntOk Tryd.prog G (f43_e k)) : EntOk Tryd.prog G (f45_e k) := by
  have hE : EnvSound Tryd.prog G (f45_env k) := envOf_sound (ents_cons h0 (ents_nil))
  exact ent_ok (subs := []) hT hE (envOf_nat _) hMix hL (subs_nil _ _ _) (f45_e k) Tryd.func45 f45_y f45_z (f45_x k)
theorem f45_all (k : Nat) : EntOk Tryd.prog (fun w => w.ShapedOpen Tryd.prog) (f45_e k) := f45_ok k hTab (lasting_shaped _) (f43_all k)

def f44 (k : Nat) (a0 : Int) : Option Bool :=
  bif (decide (a0 ≥ 97)) then (bif (decide (a0 ≤ 122)) then (some true) else (bif (decide (a0 ≥ 48)) then (some (decide (a0 ≤ 57))) else (some false))) else (bif (decide (a0 ≥ 48)) then (some (decide (a0 ≤ 57))) else (some false))
def f44_e (k : Nat) : Ent := { f := 44, inp := [.data (.int .u8)], out := [.data .bool], run := fun v => f44 k v.1 }
def f44_env (k : Nat) : Env := envOf []
theorem f44_x (k : Nat) (v : argsC (f44_e k).inp) : fexec (lookT tab) (f44_env k) [] Tryd.f44 (bodyOf Tryd.f44) (mkArgs (f44_e k).inp v) (fun rs => getRes (f44_e k).out rs some) = (f44_e k).run v := by kernel_rfl
theorem f44_y : Tryd.f44.body = some (bodyOf Tryd.f44) := by kernel_rfl
theorem f44_z : (Tryd.f44.name == "runtime.NumGoroutine") = false := by kernel_rfl
theorem f44_ok (k : Nat) (hT : TTOk Tryd.prog (lookT tab)) (hL : Lasting G) : EntOk Tryd.prog G (f44_e k) := by
  have hE : EnvSound Tryd.prog G (f44_env k) := envOf_sound (ents_nil)
  exact ent_ok (subs := []) hT hE (envOf_nat _) hMix hL (subs_nil _ _ _) (f44_e k) Tryd.func44 f44_y f44_z (f44_x k)
theorem f44_all (k : Nat) : EntOk Tryd.prog (fun w => w.ShapedOpen Tryd.prog) (f44_e k) := f44_ok k hTab (lasting_shaped _)

def f46 (k : Nat) (a0 : Int) : Option Bool :=
  (f44 k a0).bind fun r1 => (bif r1 then (some true) else (bif (decide (a0 ≥ 65)) then (some (decide (a0 ≤ 90))) else (some false)))
def f46_e (k : Nat) : Ent := { f := 46, inp := [.data (.int .u8)], out := [.data .bool], run := fun v => f46 k v.1 }
def f46_env (k : Nat) : Env := envOf [f44_e k]
theorem f46_x (k : Nat) (v : argsC (f46_e k).inp) : fexec (lookT tab) (f46_env k) [] Tryd.f46 (bodyOf Tryd.f46) (mkArgs (f46_e k).inp v) (fun rs => getRes (f46_e k).out rs some) = (f46_e k).run v := by kernel_rfl
theorem f46_y : Tryd.f46.body = some (bodyOf Tryd.f46) := by kernel_rfl
theorem f46_z : (Tryd.f46.name == "runtime.NumGoroutine") = false := by kernel_rfl
theorem f46_ok (k : Nat) (hT : TTOk Tryd.prog (lookT tab)) (hL : Lasting G) (h0 : EntOk Tryd.prog G (f44_e k)) : EntOk Tryd.prog G (f46_e k) := by
  have hE : EnvSound Tryd.prog G (f46_env k) := envOf_sound (ents_cons h0 (ents_nil))
  exact ent_ok (subs := []) hT hE (envOf_nat _) hMix hL (subs_nil _ _ _) (f46_e k) Tryd.func46 f46_y f46_z (f46_x k)
theorem f46_all (k : Nat) : EntOk Tryd.prog (fun w => w.ShapedOpen Tryd.prog) (f46_e k) := f46_ok k hTab (lasting_shaped _) (f44_all k)

def f63_s4 (k : Nat) (t1 : Int) (h0 : ByteArray) (p0 : Nat) : Option ((Int × ByteArray × Nat × Unit) ⊕ ((Bool × Unit) ⊕ (Unit))) :=
  if p0 < h0.size then (bif ((runeAt h0 p0) == t1) then (some (.inr (.inl (true, ())))) else (some (.inl (t1, h0, (runeTo h0 p0), ())))) else (some (.inr (.inr (()))))
def f63_s4_u (k : Nat) (v : (Int × ByteArray × Nat × Unit)) : Option ((Int × ByteArray × Nat × Unit) ⊕ ((Bool × Unit) ⊕ (Unit))) := f63_s4 k v.1 v.2.1 v.2.2.1
def f63_l4 (k : Nat) (t1 : Int) (h0 : ByteArray) (p0 : Nat) : Option ((Bool × Unit) ⊕ (Unit)) := iter (f63_s4_u k) k (t1, h0, p0, ())
def f63 (k : Nat) (a0 : ByteArray) (a1 : Int) : Option Bool :=
  (f63_l4 k a1 a0 0).bind fun o1 => (match o1 with | .inl o1' => (some (o1'.1)) | .inr o1' => (some false))
def f63_e (k : Nat) : Ent := { f := 63, inp := [.data .str, .data (.int .i32)], out := [.data .bool], run := fun v => f63 k v.1 v.2.1 }
def f63_env (k : Nat) : Env := envOf []
def f63_b4 (k : Nat) : Sub := { key := 4, inp := ⟨[.dead, .data (.int .i32), .dead, .dead, .dead, .dead, .dead, .dead, .iter 0, .dead, .dead, .dead, .dead, .dead, .dead], [.iter], [], []⟩, ways := [⟨.ret, ⟨[.dead, .dead, .dead, .dead, .data .bool, .dead, .dead, .dead, .dead, .dead, .dead, .dead, .dead, .dead, .dead], [], [], []⟩⟩, ⟨.x 0, ⟨[.dead, .dead, .dead, .dead, .dead, .dead, .dead, .dead, .dead, .dead, .dead, .dead, .dead, .dead, .dead], [], [], []⟩⟩], run := fun v => iter (f63_s4_u k) k v }
theorem f63_b4_x (k : Nat) (v : (Int × ByteArray × Nat × Unit)) : exec (lookT tab) (f63_env k) [] (loopAt 4 (bodyOf Tryd.f63)) (mkSt (f63_b4 k).inp v) (loopKs (f63_b4 k).inp (f63_b4 k).ways) = f63_s4_u k v := by kernel_rfl
theorem f63_b4_ok (k : Nat) (hT : TTOk Tryd.prog (lookT tab)) (hL : Lasting G) (hE : EnvSound Tryd.prog G (f63_env k)) : SubSound Tryd.prog G (f63_b4 k) (.loop (loopAt 4 (bodyOf Tryd.f63))) :=
  sub_loop (subs := []) hT hE (envOf_nat _) hMix hL (subs_nil _ _ _) (f63_s4_u k) k (fun _ => rfl) (fun v o h => (f63_b4_x k v).trans h)
theorem f63_x (k : Nat) (v : argsC (f63_e k).inp) : fexec (lookT tab) (f63_env k) [f63_b4 k] Tryd.f63 (bodyOf Tryd.f63) (mkArgs (f63_e k).inp v) (fun rs => getRes (f63_e k).out rs some) = (f63_e k).run v := by kernel_rfl
theorem f63_y : Tryd.f63.body = some (bodyOf Tryd.f63) := by kernel_rfl
theorem f63_z : (Tryd.f63.name == "runtime.NumGoroutine") = false := by kernel_rfl
theorem f63_n2 (k : Nat) : nodesAt (f63_b4 k).key (bodyOf Tryd.f63) = [(.loop (loopAt 4 (bodyOf Tryd.f63)))] := by kernel_rfl
theorem f63_ok (k : Nat) (hT : TTOk Tryd.prog (lookT tab)) (hL : Lasting G) : EntOk Tryd.prog G (f63_e k) := by
  have hE : EnvSound Tryd.prog G (f63_env k) := envOf_sound (ents_nil)
  exact ent_ok (subs := [f63_b4 k]) hT hE (envOf_nat _) hMix hL (subs_cons (f63_n2 k) (f63_b4_ok k hT hL hE) (subs_nil _ _ _)) (f63_e k) Tryd.func63 f63_y f63_z (f63_x k)
theorem f63_all (k : Nat) : EntOk Tryd.prog (fun w => w.ShapedOpen Tryd.prog) (f63_e k) := f63_ok k hTab (lasting_shaped _)

def f42s_s8 (k : Nat) (t0 : ByteArray) (t2 : ByteArray) (h0 : ByteArray) (p0 : Nat) : Option ((ByteArray × ByteArray × ByteArray × Nat × Unit) ⊕ ((Bool × Unit) ⊕ (Unit))) :=
  if p0 < h0.size then (bif (((p0 : Nat) : Int) == 0) then ((f43 k (runeAt h0 p0)).bind fun r5 => (bif (!r5) then (some (.inr (.inl (false, ())))) else (some (.inl (t0, t2, h0, (runeTo h0 p0), ()))))) else ((f43 k (runeAt h0 p0)).bind fun r6 => (bif (!r6) then (bif (((p0 : Nat) : Int) == (w64 ((sLen t0) - 1))) then (some (.inr (.inl (false, ())))) else ((f63 k t2 (runeAt h0 p0)).bind fun r7 => (bif (!r7) then (some (.inr (.inl (false, ())))) else (some (.inl (t0, t2, h0, (runeTo h0 p0), ())))))) else (some (.inl (t0, t2, h0, (runeTo h0 p0), ())))))) else (some (.inr (.inr (()))))
def f42s_s8_u (k : Nat) (v : (ByteArray × ByteArray × ByteArray × Nat × Unit)) : Option ((ByteArray × ByteArray × ByteArray × Nat × Unit) ⊕ ((Bool × Unit) ⊕ (Unit))) := f42s_s8 k v.1 v.2.1 v.2.2.1 v.2.2.2.1
def f42s_l8 (k : Nat) (t0 : ByteArray) (t2 : ByteArray) (h0 : ByteArray) (p0 : Nat) : Option ((Bool × Unit) ⊕ (Unit)) := iter (f42s_s8_u k) k (t0, t2, h0, p0, ())
def f42s (k : Nat) (a0 : ByteArray) (a2 : ByteArray) : Option Bool :=
  bif (decide ((sLen a0) > 63)) then (some false) else ((f42s_l8 k a0 a2 a0 0).bind fun o8 => (match o8 with | .inl o8' => (some (o8'.1)) | .inr o8' => (some true)))
def f42s_e (k : Nat) : Ent := { f := 42, inp := [.data .str, .fn 43 [], .data .str], out := [.data .bool], run := fun v => f42s k v.1 v.2.2.1 }
def f42s_env (k : Nat) : Env := envOf [f43_e k, f63_e k]
def f42s_b8 (k : Nat) : Sub := { key := 8, inp := ⟨[.data .str, .fn 43, .data .str, .dead, .dead, .dead, .dead, .dead, .dead, .dead, .dead, .dead, .dead, .dead, .iter 0, .dead, .dead, .dead, .dead, .dead, .dead, .dead, .dead, .dead, .dead, .dead, .dead, .dead, .dead, .dead, .dead, .dead, .dead, .dead, .dead, .dead, .dead, .dead, .dead, .dead, .dead], [.iter], [], []⟩, ways := [⟨.ret, ⟨[.dead, .dead, .dead, .dead, .dead, .dead, .data .bool, .dead, .dead, .dead, .dead, .dead, .dead, .dead, .dead, .dead, .dead, .dead, .dead, .dead, .dead, .dead, .dead, .dead, .dead, .dead, .dead, .dead, .dead, .dead, .dead, .dead, .dead, .dead, .dead, .dead, .dead, .dead, .dead, .dead, .dead], [], [], []⟩⟩, ⟨.x 0, ⟨[.dead, .dead, .dead, .dead, .dead, .dead, .dead, .dead, .dead, .dead, .dead, .dead, .dead, .dead, .dead, .dead, .dead, .dead, .dead, .dead, .dead, .dead, .dead, .dead, .dead, .dead, .dead, .dead, .dead, .dead, .dead, .dead, .dead, .dead, .dead, .dead, .dead, .dead, .dead, .dead, .dead], [], [], []⟩⟩], run := fun v => iter (f42s_s8_u k) k v }
theorem f42s_b8_x (k : Nat) (v : (ByteArray × ByteArray × ByteArray × Nat × Unit)) : exec (lookT tab) (f42s_env k) [] (loopAt 8 (bodyOf Tryd.f42)) (mkSt (f42s_b8 k).inp v) (loopKs (f42s_b8 k).inp (f42s_b8 k).ways) = f42s_s8_u k v := by kernel_rfl
theorem f42s_b8_ok (k : Nat) (hT : TTOk Tryd.prog (lookT tab)) (hL : Lasting G) (hE : EnvSound Tryd.prog G (f42s_env k)) : SubSound Tryd.prog G (f42s_b8 k) (.loop (loopAt 8 (bodyOf Tryd.f42))) :=
  sub_loop (subs := []) hT hE (envOf_nat _) hMix hL (subs_nil _ _ _) (f42s_s8_u k) k (fun _ => rfl) (fun v o h => (f42s_b8_x k v).trans h)
theorem f42s_x (k : Nat) (v : argsC (f42s_e k).inp) : fexec (lookT tab) (f42s_env k) [f42s_b8 k] Tryd.f42 (bodyOf Tryd.f42) (mkArgs (f42s_e k).inp v) (fun rs => getRes (f42s_e k).out rs some) = (f42s_e k).run v := by kernel_rfl
theorem f42s_y : Tryd.f42.body = some (bodyOf Tryd.f42) := by kernel_rfl
theorem f42s_z : (Tryd.f42.name == "runtime.NumGoroutine") = false := by kernel_rfl
theorem f42s_n9 (k : Nat) : nodesAt (f42s_b8 k).key (bodyOf Tryd.f42) = [(.loop (loopAt 8 (bodyOf Tryd.f42)))] := by kernel_rfl
theorem f42s_ok (k : Nat) (hT : TTOk Tryd.prog (lookT tab)) (hL : Lasting G) (h0 : EntOk Tryd.prog G (f43_e k)) (h1 : EntOk Tryd.prog G (f63_e k)) : EntOk Tryd.prog G (f42s_e k) := by
  have hE : EnvSound Tryd.prog G (f42s_env k) := envOf_sound (ents_cons h0 (ents_cons h1 (ents_nil)))
  exact ent_ok (subs := [f42s_b8 k]) hT hE (envOf_nat _) hMix hL (subs_cons (f42s_n9 k) (f42s_b8_ok k hT hL hE) (subs_nil _ _ _)) (f42s_e k) Tryd.func42 f42s_y f42s_z (f42s_x k)
theorem f42s_all (k : Nat) : EntOk Tryd.prog (fun w => w.ShapedOpen Tryd.prog) (f42s_e k) := f42s_ok k hTab (lasting_shaped _) (f43_all k) (f63_all k)

def f42p_s8 (k : Nat) (t0 : ByteArray) (t2 : ByteArray) (h0 : ByteArray) (p0 : Nat) : Option ((ByteArray × ByteArray × ByteArray × Nat × Unit) ⊕ ((Bool × Unit) ⊕ (Unit))) :=
  if p0 < h0.size then (bif (((p0 : Nat) : Int) == 0) then ((f45 k (runeAt h0 p0)).bind fun r5 => (bif (!r5) then (some (.inr (.inl (false, ())))) else (some (.inl (t0, t2, h0, (runeTo h0 p0), ()))))) else ((f45 k (runeAt h0 p0)).bind fun r6 => (bif (!r6) then (bif (((p0 : Nat) : Int) == (w64 ((sLen t0) - 1))) then (some (.inr (.inl (false, ())))) else ((f63 k t2 (runeAt h0 p0)).bind fun r7 => (bif (!r7) then (some (.inr (.inl (false, ())))) else (some (.inl (t0, t2, h0, (runeTo h0 p0), ())))))) else (some (.inl (t0, t2, h0, (runeTo h0 p0), ())))))) else (some (.inr (.inr (()))))
def f42p_s8_u (k : Nat) (v : (ByteArray × ByteArray × ByteArray × Nat × Unit)) : Option ((ByteArray × ByteArray × ByteArray × Nat × Unit) ⊕ ((Bool × Unit) ⊕ (Unit))) := f42p_s8 k v.1 v.2.1 v.2.2.1 v.2.2.2.1
def f42p_l8 (k : Nat) (t0 : ByteArray) (t2 : ByteArray) (h0 : ByteArray) (p0 : Nat) : Option ((Bool × Unit) ⊕ (Unit)) := iter (f42p_s8_u k) k (t0, t2, h0, p0, ())
def f42p (k : Nat) (a0 : ByteArray) (a2 : ByteArray) : Option Bool :=
  bif (decide ((sLen a0) > 63)) then (some false) else ((f42p_l8 k a0 a2 a0 0).bind fun o8 => (match o8 with | .inl o8' => (some (o8'.1)) | .inr o8' => (some true)))
def f42p_e (k : Nat) : Ent := { f := 42, inp := [.data .str, .fn 45 [], .data .str], out := [.data .bool], run := fun v => f42p k v.1 v.2.2.1 }
def f42p_env (k : Nat) : Env := envOf [f45_e k, f63_e k]
def f42p_b8 (k : Nat) : Sub := { key := 8, inp := ⟨[.data .str, .fn 45, .data .str, .dead, .dead, .dead, .dead, .dead, .dead, .dead, .dead, .dead, .dead, .dead, .iter 0, .dead, .dead, .dead, .dead, .dead, .dead, .dead, .dead, .dead, .dead, .dead, .dead, .dead, .dead, .dead, .dead, .dead, .dead, .dead, .dead, .dead, .dead, .dead, .dead, .dead, .dead], [.iter], [], []⟩, ways := [⟨.ret, ⟨[.dead, .dead, .dead, .dead, .dead, .dead, .data .bool, .dead, .dead, .dead, .dead, .dead, .dead, .dead, .dead, .dead, .dead, .dead, .dead, .dead, .dead, .dead, .dead, .dead, .dead, .dead, .dead, .dead, .dead, .dead, .dead, .dead, .dead, .dead, .dead, .dead, .dead, .dead, .dead, .dead, .dead], [], [], []⟩⟩, ⟨.x 0, ⟨[.dead, .dead, .dead, .dead, .dead, .dead, .dead, .dead, .dead, .dead, .dead, .dead, .dead, .dead, .dead, .dead, .dead, .dead, .dead, .dead, .dead, .dead, .dead, .dead, .dead, .dead, .dead, .dead, .dead, .dead, .dead, .dead, .dead, .dead, .dead, .dead, .dead, .dead, .dead, .dead, .dead], [], [], []⟩⟩], run := fun v => iter (f42p_s8_u k) k v }
theorem f42p_b8_x (k : Nat) (v : (ByteArray × ByteArray × ByteArray × Nat × Unit)) : exec (lookT tab) (f42p_env k) [] (loopAt 8 (bodyOf Tryd.f42)) (mkSt (f42p_b8 k).inp v) (loopKs (f42p_b8 k).inp (f42p_b8 k).ways) = f42p_s8_u k v := by kernel_rfl
theorem f42p_b8_ok (k : Nat) (hT : TTOk Tryd.prog (lookT tab)) (hL : Lasting G) (hE : EnvSound Tryd.prog G (f42p_env k)) : SubSound Tryd.prog G (f42p_b8 k) (.loop (loopAt 8 (bodyOf Tryd.f42))) :=
  sub_loop (subs := []) hT hE (envOf_nat _) hMix hL (subs_nil _ _ _) (f42p_s8_u k) k (fun _ => rfl) (fun v o h => (f42p_b8_x k v).trans h)
theorem f42p_x (k : Nat) (v : argsC (f42p_e k).inp) : fexec (lookT tab) (f42p_env k) [f42p_b8 k] Tryd.f42 (bodyOf Tryd.f42) (mkArgs (f42p_e k).inp v) (fun rs => getRes (f42p_e k).out rs some) = (f42p_e k).run v := by kernel_rfl
theorem f42p_y : Tryd.f42.body = some (bodyOf Tryd.f42) := by kernel_rfl
theorem f42p_z : (Tryd.f42.name == "runtime.NumGoroutine") = false := by kernel_rfl
theorem f42p_n9 (k : Nat) : nodesAt (f42p_b8 k).key (bodyOf Tryd.f42) = [(.loop (loopAt 8 (bodyOf Tryd.f42)))] := by kernel_rfl
theorem f42p_ok (k : Nat) (hT : TTOk Tryd.prog (lookT tab)) (hL : Lasting G) (h0 : EntOk Tryd.prog G (f45_e k)) (h1 : EntOk Tryd.prog G (f63_e k)) : EntOk Tryd.prog G (f42p_e k) := by
  have hE : EnvSound Tryd.prog G (f42p_env k) := envOf_sound (ents_cons h0 (ents_cons h1 (ents_nil)))
  exact ent_ok (subs := [f42p_b8 k]) hT hE (envOf_nat _) hMix hL (subs_cons (f42p_n9 k) (f42p_b8_ok k hT hL hE) (subs_nil _ _ _)) (f42p_e k) Tryd.func42 f42p_y f42p_z (f42p_x k)
theorem f42p_all (k : Nat) : EntOk Tryd.prog (fun w => w.ShapedOpen Tryd.prog) (f42p_e k) := f42p_ok k hTab (lasting_shaped _) (f45_all k) (f63_all k)

def f10 (k : Nat) (a0 : ByteArray) : Option Bool :=
  bif (!(sEq a0 sNil)) then ((f42s k a0 (⟨#[45]⟩ : ByteArray)).bind fun r1 => (some r1)) else (some false)
def f10_e (k : Nat) : Ent := { f := 10, inp := [.data .str], out := [.data .bool], run := fun v => f10 k v.1 }
def f10_env (k : Nat) : Env := envOf [f42s_e k]
theorem f10_x (k : Nat) (v : argsC (f10_e k).inp) : fexec (lookT tab) (f10_env k) [] Tryd.f10 (bodyOf Tryd.f10) (mkArgs (f10_e k).inp v) (fun rs => getRes (f10_e k).out rs some) = (f10_e k).run v := by kernel_rfl
theorem f10_y : Tryd.f10.body = some (bodyOf Tryd.f10) := by kernel_rfl
theorem f10_z : (Tryd.f10.name == "runtime.NumGoroutine") = false := by kernel_rfl
theorem f10_ok (k : Nat) (hT : TTOk Tryd.prog (lookT tab)) (hL : Lasting G) (h0 : EntOk Tryd.prog G (f42s_e k)) : EntOk Tryd.prog G (f10_e k) := by
  have hE : EnvSound Tryd.prog G (f10_env k) := envOf_sound (ents_cons h0 (ents_nil))
  exact ent_ok (subs := []) hT hE (envOf_nat _) hMix hL (subs_nil _ _ _) (f10_e k) Tryd.func10 f10_y f10_z (f10_x k)
theorem f10_all (k : Nat) : EntOk Tryd.prog (fun w => w.ShapedOpen Tryd.prog) (f10_e k) := f10_ok k hTab (lasting_shaped _) (f42s_all k)

def f12 (k : Nat) (a0 : ByteArray) : Option Bool :=
  bif (!(sEq a0 sNil)) then ((f42p k a0 (⟨#[45, 95, 46, 47]⟩ : ByteArray)).bind fun r1 => (some r1)) else (some false)
def f12_e (k : Nat) : Ent := { f := 12, inp := [.data .str], out := [.data .bool], run := fun v => f12 k v.1 }
def f12_env (k : Nat) : Env := envOf [f42p_e k]
theorem f12_x (k : Nat) (v : argsC (f12_e k).inp) : fexec (lookT tab) (f12_env k) [] Tryd.f12 (bodyOf Tryd.f12) (mkArgs (f12_e k).inp v) (fun rs => getRes (f12_e k).out rs some) = (f12_e k).run v := by kernel_rfl
theorem f12_y : Tryd.f12.body = some (bodyOf Tryd.f12) := by kernel_rfl
theorem f12_z : (Tryd.f12.name == "runtime.NumGoroutine") = false := by kernel_rfl
theorem f12_ok (k : Nat) (hT : TTOk Tryd.prog (lookT tab)) (hL : Lasting G) (h0 : EntOk Tryd.prog G (f42p_e k)) : EntOk Tryd.prog G (f12_e k) := by
  have hE : EnvSound Tryd.prog G (f12_env k) := envOf_sound (ents_cons h0 (ents_nil))
  exact ent_ok (subs := []) hT hE (envOf_nat _) hMix hL (subs_nil _ _ _) (f12_e k) Tryd.func12 f12_y f12_z (f12_x k)
theorem f12_all (k : Nat) : EntOk Tryd.prog (fun w => w.ShapedOpen Tryd.prog) (f12_e k) := f12_ok k hTab (lasting_shaped _) (f42p_all k)

def f14 (k : Nat) (a0 : ByteArray) : Option Bool :=
  (f42p k a0 (⟨#[45, 95, 46]⟩ : ByteArray)).bind fun r1 => (some r1)
def f14_e (k : Nat) : Ent := { f := 14, inp := [.data .str], out := [.data .bool], run := fun v => f14 k v.1 }
def f14_env (k : Nat) : Env := envOf [f42p_e k]
theorem f14_x (k : Nat) (v : argsC (f14_e k).inp) : fexec (lookT tab) (f14_env k) [] Tryd.f14 (bodyOf Tryd.f14) (mkArgs (f14_e k).inp v) (fun rs => getRes (f14_e k).out rs some) = (f14_e k).run v := by kernel_rfl
theorem f14_y : Tryd.f14.body = some (bodyOf Tryd.f14) := by kernel_rfl
theorem f14_z : (Tryd.f14.name == "runtime.NumGoroutine") = false := by kernel_rfl
theorem f14_ok (k : Nat) (hT : TTOk Tryd.prog (lookT tab)) (hL : Lasting G) (h0 : EntOk Tryd.prog G (f42p_e k)) : EntOk Tryd.prog G (f14_e k) := by
  have hE : EnvSound Tryd.prog G (f14_env k) := envOf_sound (ents_cons h0 (ents_nil))
  exact ent_ok (subs := []) hT hE (envOf_nat _) hMix hL (subs_nil _ _ _) (f14_e k) Tryd.func14 f14_y f14_z (f14_x k)
theorem f14_all (k : Nat) : EntOk Tryd.prog (fun w => w.ShapedOpen Tryd.prog) (f14_e k) := f14_ok k hTab (lasting_shaped _) (f42p_all k)

def f11_s8 (k : Nat) (t0 : ByteArray) (t3 : Int) : Option ((ByteArray × Int × Unit) ⊕ ((Bool × Unit) ⊕ (Unit))) :=
  bif (decide (t3 < (sLen t0))) then (rangeK t3 (sLen t0) ((f44 k (sAt t0 t3)).bind fun r3 => (bif (!r3) then (rangeK t3 (sLen t0) (bif ((sAt t0 t3) != 45) then (some (.inr (.inl (false, ())))) else (some (.inl (t0, (w64 (t3 + 1)), ()))))) else (some (.inl (t0, (w64 (t3 + 1)), ())))))) else (some (.inr (.inr (()))))
def f11_s8_u (k : Nat) (v : (ByteArray × Int × Unit)) : Option ((ByteArray × Int × Unit) ⊕ ((Bool × Unit) ⊕ (Unit))) := f11_s8 k v.1 v.2.1
def f11_l8 (k : Nat) (t0 : ByteArray) (t3 : Int) : Option ((Bool × Unit) ⊕ (Unit)) := iter (f11_s8_u k) k (t0, t3, ())
def f11 (k : Nat) (a0 : ByteArray) : Option Bool :=
  bif (decide ((sLen a0) < 1)) then (some false) else (bif (decide ((sLen a0) > 63)) then (some false) else (rangeK 0 (sLen a0) (bif ((sAt a0 0) == 45) then (some false) else (rangeK (w64 ((sLen a0) - 1)) (sLen a0) (bif ((sAt a0 (w64 ((sLen a0) - 1))) == 45) then (some false) else ((f11_l8 k a0 0).bind fun o4 => (match o4 with | .inl o4' => (some (o4'.1)) | .inr o4' => (some true))))))))
def f11_e (k : Nat) : Ent := { f := 11, inp := [.data .str], out := [.data .bool], run := fun v => f11 k v.1 }
def f11_env (k : Nat) : Env := envOf [f44_e k]
def f11_b8 (k : Nat) : Sub := { key := 8, inp := ⟨[.data .str, .dead, .dead, .data (.int .i64), .dead, .dead, .dead, .dead, .dead, .dead, .dead, .dead, .dead, .dead, .dead, .dead, .dead, .dead, .dead, .dead, .dead, .dead, .dead, .dead, .dead, .dead, .dead, .dead, .dead, .dead, .dead, .dead, .dead, .dead, .dead, .dead, .dead, .dead, .dead, .dead, .dead, .dead], [], [], []⟩, ways := [⟨.ret, ⟨[.dead, .dead, .data .bool, .dead, .dead, .dead, .dead, .dead, .dead, .dead, .dead, .dead, .dead, .dead, .dead, .dead, .dead, .dead, .dead, .dead, .dead, .dead, .dead, .dead, .dead, .dead, .dead, .dead, .dead, .dead, .dead, .dead, .dead, .dead, .dead, .dead, .dead, .dead, .dead, .dead, .dead, .dead], [], [], []⟩⟩, ⟨.x 0, ⟨[.dead, .dead, .dead, .dead, .dead, .dead, .dead, .dead, .dead, .dead, .dead, .dead, .dead, .dead, .dead, .dead, .dead, .dead, .dead, .dead, .dead, .dead, .dead, .dead, .dead, .dead, .dead, .dead, .dead, .dead, .dead, .dead, .dead, .dead, .dead, .dead, .dead, .dead, .dead, .dead, .dead, .dead], [], [], []⟩⟩], run := fun v => iter (f11_s8_u k) k v }
theorem f11_b8_x (k : Nat) (v : (ByteArray × Int × Unit)) : exec (lookT tab) (f11_env k) [] (loopAt 8 (bodyOf Tryd.f11)) (mkSt (f11_b8 k).inp v) (loopKs (f11_b8 k).inp (f11_b8 k).ways) = f11_s8_u k v := by kernel_rfl
theorem f11_b8_ok (k : Nat) (hT : TTOk Tryd.prog (lookT tab)) (hL : Lasting G) (hE : EnvSound Tryd.prog G (f11_env k)) : SubSound Tryd.prog G (f11_b8 k) (.loop (loopAt 8 (bodyOf Tryd.f11))) :=
  sub_loop (subs := []) hT hE (envOf_nat _) hMix hL (subs_nil _ _ _) (f11_s8_u k) k (fun _ => rfl) (fun v o h => (f11_b8_x k v).trans h)
theorem f11_x (k : Nat) (v : argsC (f11_e k).inp) : fexec (lookT tab) (f11_env k) [f11_b8 k] Tryd.f11 (bodyOf Tryd.f11) (mkArgs (f11_e k).inp v) (fun rs => getRes (f11_e k).out rs some) = (f11_e k).run v := by kernel_rfl
theorem f11_y : Tryd.f11.body = some (bodyOf Tryd.f11) := by kernel_rfl
theorem f11_z : (Tryd.f11.name == "runtime.NumGoroutine") = false := by kernel_rfl
theorem f11_n5 (k : Nat) : nodesAt (f11_b8 k).key (bodyOf Tryd.f11) = [(.loop (loopAt 8 (bodyOf Tryd.f11)))] := by kernel_rfl
theorem f11_ok (k : Nat) (hT : TTOk Tryd.prog (lookT tab)) (hL : Lasting G) (h0 : EntOk Tryd.prog G (f44_e k)) : EntOk Tryd.prog G (f11_e k) := by
  have hE : EnvSound Tryd.prog G (f11_env k) := envOf_sound (ents_cons h0 (ents_nil))
  exact ent_ok (subs := [f11_b8 k]) hT hE (envOf_nat _) hMix hL (subs_cons (f11_n5 k) (f11_b8_ok k hT hL hE) (subs_nil _ _ _)) (f11_e k) Tryd.func11 f11_y f11_z (f11_x k)
theorem f11_all (k : Nat) : EntOk Tryd.prog (fun w => w.ShapedOpen Tryd.prog) (f11_e k) := f11_ok k hTab (lasting_shaped _) (f44_all k)

def f15_s8 (k : Nat) (t0 : ByteArray) (t1 : Bool) (t5 : Int) : Option ((ByteArray × Bool × Int × Unit) ⊕ ((Bool × Unit) ⊕ (Unit))) :=
  bif (decide (t5 < (sLen t0))) then (rangeK t5 (sLen t0) ((f46 k (sAt t0 t5)).bind fun r3 => (bif r3 then (some (.inl (t0, t1, (w64 (t5 + 1)), ()))) else (bif (t5 == 0) then (some (.inr (.inl (false, ())))) else (bif (t5 == (w64 ((sLen t0) - 1))) then (some (.inr (.inl (false, ())))) else (bif ((sAt t0 t5) != 45) then (bif ((sAt t0 t5) != 95) then (bif ((sAt t0 t5) != 46) then (bif t1 then (bif (!((sAt t0 t5) == 47)) then (some (.inr (.inl (false, ())))) else (some (.inl (t0, t1, (w64 (t5 + 1)), ())))) else (some (.inr (.inl (false, ()))))) else (some (.inl (t0, t1, (w64 (t5 + 1)), ())))) else (some (.inl (t0, t1, (w64 (t5 + 1)), ())))) else (some (.inl (t0, t1, (w64 (t5 + 1)), ()))))))))) else (some (.inr (.inr (()))))
def f15_s8_u (k : Nat) (v : (ByteArray × Bool × Int × Unit)) : Option ((ByteArray × Bool × Int × Unit) ⊕ ((Bool × Unit) ⊕ (Unit))) := f15_s8 k v.1 v.2.1 v.2.2.1
def f15_l8 (k : Nat) (t0 : ByteArray) (t1 : Bool) (t5 : Int) : Option ((Bool × Unit) ⊕ (Unit)) := iter (f15_s8_u k) k (t0, t1, t5, ())
def f15 (k : Nat) (a0 : ByteArray) (a1 : Bool) : Option Bool :=
  bif (decide ((sLen a0) > 63)) then (some false) else ((f15_l8 k a0 a1 0).bind fun o4 => (match o4 with | .inl o4' => (some (o4'.1)) | .inr o4' => (some true)))
def f15_e (k : Nat) : Ent := { f := 15, inp := [.data .str, .data .bool], out := [.data .bool], run := fun v => f15 k v.1 v.2.1 }
def f15_env (k : Nat) : Env := envOf [f46_e k]
def f15_b8 (k : Nat) : Sub := { key := 8, inp := ⟨[.data .str, .data .bool, .dead, .dead, .dead, .data (.int .i64), .dead, .dead, .dead, .dead, .dead, .dead, .dead, .dead, .dead, .dead, .dead, .dead, .dead, .dead, .dead, .dead, .dead, .dead, .dead, .dead, .dead, .dead, .dead, .dead, .dead, .dead, .dead, .dead, .dead, .dead, .dead, .dead, .dead, .dead, .dead, .dead, .dead, .dead, .dead, .dead, .dead, .dead, .dead, .dead], [], [], []⟩, ways := [⟨.ret, ⟨[.dead, .dead, .dead, .dead, .data .bool, .dead, .dead, .dead, .dead, .dead, .dead, .dead, .dead, .dead, .dead, .dead, .dead, .dead, .dead, .dead, .dead, .dead, .dead, .dead, .dead, .dead, .dead, .dead, .dead, .dead, .dead, .dead, .dead, .dead, .dead, .dead, .dead, .dead, .dead, .dead, .dead, .dead, .dead, .dead, .dead, .dead, .dead, .dead, .dead, .dead], [], [], []⟩⟩, ⟨.x 0, ⟨[.dead, .dead, .dead, .dead, .dead, .dead, .dead, .dead, .dead, .dead, .dead, .dead, .dead, .dead, .dead, .dead, .dead, .dead, .dead, .dead, .dead, .dead, .dead, .dead, .dead, .dead, .dead, .dead, .dead, .dead, .dead, .dead, .dead, .dead, .dead, .dead, .dead, .dead, .dead, .dead, .dead, .dead, .dead, .dead, .dead, .dead, .dead, .dead, .dead, .dead], [], [], []⟩⟩], run := fun v => iter (f15_s8_u k) k v }
theorem f15_b8_x (k : Nat) (v : (ByteArray × Bool × Int × Unit)) : exec (lookT tab) (f15_env k) [] (loopAt 8 (bodyOf Tryd.f15)) (mkSt (f15_b8 k).inp v) (loopKs (f15_b8 k).inp (f15_b8 k).ways) = f15_s8_u k v := by kernel_rfl
theorem f15_b8_ok (k : Nat) (hT : TTOk Tryd.prog (lookT tab)) (hL : Lasting G) (hE : EnvSound Tryd.prog G (f15_env k)) : SubSound Tryd.prog G (f15_b8 k) (.loop (loopAt 8 (bodyOf Tryd.f15))) :=
  sub_loop (subs := []) hT hE (envOf_nat _) hMix hL (subs_nil _ _ _) (f15_s8_u k) k (fun _ => rfl) (fun v o h => (f15_b8_x k v).trans h)
theorem f15_x (k : Nat) (v : argsC (f15_e k).inp) : fexec (lookT tab) (f15_env k) [f15_b8 k] Tryd.f15 (bodyOf Tryd.f15) (mkArgs (f15_e k).inp v) (fun rs => getRes (f15_e k).out rs some) = (f15_e k).run v := by kernel_rfl
theorem f15_y : Tryd.f15.body = some (bodyOf Tryd.f15) := by kernel_rfl
theorem f15_z : (Tryd.f15.name == "runtime.NumGoroutine") = false := by kernel_rfl
theorem f15_n5 (k : Nat) : nodesAt (f15_b8 k).key (bodyOf Tryd.f15) = [(.loop (loopAt 8 (bodyOf Tryd.f15)))] := by kernel_rfl
theorem f15_ok (k : Nat) (hT : TTOk Tryd.prog (lookT tab)) (hL : Lasting G) (h0 : EntOk Tryd.prog G (f46_e k)) : EntOk Tryd.prog G (f15_e k) := by
  have hE : EnvSound Tryd.prog G (f15_env k) := envOf_sound (ents_cons h0 (ents_nil))
  exact ent_ok (subs := [f15_b8 k]) hT hE (envOf_nat _) hMix hL (subs_cons (f15_n5 k) (f15_b8_ok k hT hL hE) (subs_nil _ _ _)) (f15_e k) Tryd.func15 f15_y f15_z (f15_x k)
theorem f15_all (k : Nat) : EntOk Tryd.prog (fun w => w.ShapedOpen Tryd.prog) (f15_e k) := f15_ok k hTab (lasting_shaped _) (f46_all k)

def f13 (k : Nat) (a0 : ByteArray) : Option Bool :=
  bif (decide ((sLen a0) > 0)) then ((f15 k a0 true).bind fun r1 => (some r1)) else (some false)
def f13_e (k : Nat) : Ent := { f := 13, inp := [.data .str], out := [.data .bool], run := fun v => f13 k v.1 }
def f13_env (k : Nat) : Env := envOf [f15_e k]
theorem f13_x (k : Nat) (v : argsC (f13_e k).inp) : fexec (lookT tab) (f13_env k) [] Tryd.f13 (bodyOf Tryd.f13) (mkArgs (f13_e k).inp v) (fun rs => getRes (f13_e k).out rs some) = (f13_e k).run v := by kernel_rfl
theorem f13_y : Tryd.f13.body = some (bodyOf Tryd.f13) := by kernel_rfl
theorem f13_z : (Tryd.f13.name == "runtime.NumGoroutine") = false := by kernel_rfl
theorem f13_ok (k : Nat) (hT : TTOk Tryd.prog (lookT tab)) (hL : Lasting G) (h0 : EntOk Tryd.prog G (f15_e k)) : EntOk Tryd.prog G (f13_e k) := by
  have hE : EnvSound Tryd.prog G (f13_env k) := envOf_sound (ents_cons h0 (ents_nil))
  exact ent_ok (subs := []) hT hE (envOf_nat _) hMix hL (subs_nil _ _ _) (f13_e k) Tryd.func13 f13_y f13_z (f13_x k)
theorem f13_all (k : Nat) : EntOk Tryd.prog (fun w => w.ShapedOpen Tryd.prog) (f13_e k) := f13_ok k hTab (lasting_shaped _) (f15_all k)

def f53_s4 (k : Nat) (t0 : ByteArray) (t1 : ByteArray) (t5 : Int) : Option ((ByteArray × ByteArray × Int × Unit) ⊕ ((Bool × Unit) ⊕ (ByteArray × ByteArray × Unit))) :=
  bif (decide (t5 < (sLen t0))) then (bif (decide (t5 < (sLen t1))) then (rangeK t5 (sLen t0) (rangeK t5 (sLen t1) (bif ((sAt t0 t5) != (sAt t1 t5)) then (rangeK t5 (sLen t0) (rangeK t5 (sLen t1) (some (.inr (.inl ((decide ((sAt t0 t5) < (sAt t1 t5))), ())))))) else (some (.inl (t0, t1, (w64 (t5 + 1)), ())))))) else (some (.inr (.inr (t0, t1, ()))))) else (some (.inr (.inr (t0, t1, ()))))
def f53_s4_u (k : Nat) (v : (ByteArray × ByteArray × Int × Unit)) : Option ((ByteArray × ByteArray × Int × Unit) ⊕ ((Bool × Unit) ⊕ (ByteArray × ByteArray × Unit))) := f53_s4 k v.1 v.2.1 v.2.2.1
def f53_l4 (k : Nat) (t0 : ByteArray) (t1 : ByteArray) (t5 : Int) : Option ((Bool × Unit) ⊕ (ByteArray × ByteArray × Unit)) := iter (f53_s4_u k) k (t0, t1, t5, ())
def f53 (k : Nat) (a0 : ByteArray) (a1 : ByteArray) : Option Bool :=
  (f53_l4 k a0 a1 0).bind fun o1 => (match o1 with | .inl o1' => (some (o1'.1)) | .inr o1' => (some (decide ((sLen (o1'.1)) < (sLen (o1'.2.1))))))
def f53_e (k : Nat) : Ent := { f := 53, inp := [.data .str, .data .str], out := [.data .bool], run := fun v => f53 k v.1 v.2.1 }
def f53_env (k : Nat) : Env := envOf []
def f53_b4 (k : Nat) : Sub := { key := 4, inp := ⟨[.data .str, .data .str, .dead, .dead, .dead, .data (.int .i64), .dead, .dead, .dead, .dead, .dead, .dead, .dead, .dead, .dead, .dead, .dead, .dead, .dead, .dead, .dead, .dead, .dead, .dead, .dead, .dead, .dead, .dead, .dead, .dead, .dead, .dead, .dead, .dead, .dead, .dead, .dead], [], [], []⟩, ways := [⟨.ret, ⟨[.dead, .dead, .dead, .dead, .data .bool, .dead, .dead, .dead, .dead, .dead, .dead, .dead, .dead, .dead, .dead, .dead, .dead, .dead, .dead, .dead, .dead, .dead, .dead, .dead, .dead, .dead, .dead, .dead, .dead, .dead, .dead, .dead, .dead, .dead, .dead, .dead, .dead], [], [], []⟩⟩, ⟨.x 0, ⟨[.data .str, .data .str, .dead, .dead, .dead, .dead, .dead, .dead, .dead, .dead, .dead, .dead, .dead, .dead, .dead, .dead, .dead, .dead, .dead, .dead, .dead, .dead, .dead, .dead, .dead, .dead, .dead, .dead, .dead, .dead, .dead, .dead, .dead, .dead, .dead, .dead, .dead], [], [], []⟩⟩], run := fun v => iter (f53_s4_u k) k v }
theorem f53_b4_x (k : Nat) (v : (ByteArray × ByteArray × Int × Unit)) : exec (lookT tab) (f53_env k) [] (loopAt 4 (bodyOf Tryd.f53)) (mkSt (f53_b4 k).inp v) (loopKs (f53_b4 k).inp (f53_b4 k).ways) = f53_s4_u k v := by kernel_rfl
theorem f53_b4_ok (k : Nat) (hT : TTOk Tryd.prog (lookT tab)) (hL : Lasting G) (hE : EnvSound Tryd.prog G (f53_env k)) : SubSound Tryd.prog G (f53_b4 k) (.loop (loopAt 4 (bodyOf Tryd.f53))) :=
  sub_loop (subs := []) hT hE (envOf_nat _) hMix hL (subs_nil _ _ _) (f53_s4_u k) k (fun _ => rfl) (fun v o h => (f53_b4_x k v).trans h)
theorem f53_x (k : Nat) (v : argsC (f53_e k).inp) : fexec (lookT tab) (f53_env k) [f53_b4 k] Tryd.f53 (bodyOf Tryd.f53) (mkArgs (f53_e k).inp v) (fun rs => getRes (f53_e k).out rs some) = (f53_e k).run v := by kernel_rfl
theorem f53_y : Tryd.f53.body = some (bodyOf Tryd.f53) := by kernel_rfl
theorem f53_z : (Tryd.f53.name == "runtime.NumGoroutine") = false := by kernel_rfl
theorem f53_n2 (k : Nat) : nodesAt (f53_b4 k).key (bodyOf Tryd.f53) = [(.loop (loopAt 4 (bodyOf Tryd.f53)))] := by kernel_rfl
theorem f53_ok (k : Nat) (hT : TTOk Tryd.prog (lookT tab)) (hL : Lasting G) : EntOk Tryd.prog G (f53_e k) := by
  have hE : EnvSound Tryd.prog G (f53_env k) := envOf_sound (ents_nil)
  exact ent_ok (subs := [f53_b4 k]) hT hE (envOf_nat _) hMix hL (subs_cons (f53_n2 k) (f53_b4_ok k hT hL hE) (subs_nil _ _ _)) (f53_e k) Tryd.func53 f53_y f53_z (f53_x k)
theorem f53_all (k : Nat) : EntOk Tryd.prog (fun w => w.ShapedOpen Tryd.prog) (f53_e k) := f53_ok k hTab (lasting_shaped _)

def f24_s4 (k : Nat) (t1 : ByteArray) (t8 : (List (ByteArray × ByteArray × Unit))) (t9 : Int) (t10 : Int) : Option ((ByteArray × (List (ByteArray × ByteArray × Unit)) × Int × Int × Unit) ⊕ ((ByteArray × Bool × Unit) ⊕ (Unit))) :=
  bif (decide (t10 < t9)) then (rangeK t10 (lLen t8) (bif (sEq ((lAt (.agg (.pair .str (.pair .str .unit))) t8 t10).1) t1) then (some (.inr (.inl ((lAt (.agg (.pair .str (.pair .str .unit))) t8 t10).2.1, true, ())))) else (some (.inl (t1, t8, t9, (w64 (t10 + 1)), ()))))) else (some (.inr (.inr (()))))
def f24_s4_u (k : Nat) (v : (ByteArray × (List (ByteArray × ByteArray × Unit)) × Int × Int × Unit)) : Option ((ByteArray × (List (ByteArray × ByteArray × Unit)) × Int × Int × Unit) ⊕ ((ByteArray × Bool × Unit) ⊕ (Unit))) := f24_s4 k v.1 v.2.1 v.2.2.1 v.2.2.2.1
def f24_l4 (k : Nat) (t1 : ByteArray) (t8 : (List (ByteArray × ByteArray × Unit))) (t9 : Int) (t10 : Int) : Option ((ByteArray × Bool × Unit) ⊕ (Unit)) := iter (f24_s4_u k) k (t1, t8, t9, t10, ())
def f24 (k : Nat) (a0 : (List (ByteArray × ByteArray × Unit))) (a1 : ByteArray) : Option (ByteArray × Bool) :=
  (f24_l4 k a1 a0 (lLen a0) 0).bind fun o1 => (match o1 with | .inl o1' => (some (o1'.1, o1'.2.1)) | .inr o1' => (some (sNil, false)))
def f24_e (k : Nat) : Ent := { f := 24, inp := [.data (.list (.agg (.pair .str (.pair .str .unit)))), .data .str], out := [.data .str, .data .bool], run := fun v => f24 k v.1 v.2.1 }
def f24_env (k : Nat) : Env := envOf []
def f24_b4 (k : Nat) : Sub := { key := 4, inp := ⟨[.dead, .data .str, .dead, .dead, .dead, .dead, .dead, .dead, .data (.list (.agg (.pair .str (.pair .str .unit)))), .data (.int .i64), .data (.int .i64), .dead, .dead, .dead, .dead, .dead, .dead, .dead, .dead, .dead, .dead], [], [], []⟩, ways := [⟨.ret, ⟨[.dead, .dead, .dead, .dead, .data .str, .data .bool, .dead, .dead, .dead, .dead, .dead, .dead, .dead, .dead, .dead, .dead, .dead, .dead, .dead, .dead, .dead], [], [], []⟩⟩, ⟨.x 0, ⟨[.dead, .dead, .dead, .dead, .dead, .dead, .dead, .dead, .dead, .dead, .dead, .dead, .dead, .dead, .dead, .dead, .dead, .dead, .dead, .dead, .dead], [], [], []⟩⟩], run := fun v => iter (f24_s4_u k) k v }
theorem f24_b4_x (k : Nat) (v : (ByteArray × (List (ByteArray × ByteArray × Unit)) × Int × Int × Unit)) : exec (lookT tab) (f24_env k) [] (loopAt 4 (bodyOf Tryd.f24)) (mkSt (f24_b4 k).inp v) (loopKs (f24_b4 k).inp (f24_b4 k).ways) = f24_s4_u k v := by kernel_rfl
theorem f24_b4_ok (k : Nat) (hT : TTOk Tryd.prog (lookT tab)) (hL : Lasting G) (hE : EnvSound Tryd.prog G (f24_env k)) : SubSound Tryd.prog G (f24_b4 k) (.loop (loopAt 4 (bodyOf Tryd.f24))) :=
  sub_loop (subs := []) hT hE (envOf_nat _) hMix hL (subs_nil _ _ _) (f24_s4_u k) k (fun _ => rfl) (fun v o h => (f24_b4_x k v).trans h)
theorem f24_x (k : Nat) (v : argsC (f24_e k).inp) : fexec (lookT tab) (f24_env k) [f24_b4 k] Tryd.f24 (bodyOf Tryd.f24) (mkArgs (f24_e k).inp v) (fun rs => getRes (f24_e k).out rs some) = (f24_e k).run v := by kernel_rfl
theorem f24_y : Tryd.f24.body = some (bodyOf Tryd.f24) := by kernel_rfl
theorem f24_z : (Tryd.f24.name == "runtime.NumGoroutine") = false := by kernel_rfl
theorem f24_n2 (k : Nat) : nodesAt (f24_b4 k).key (bodyOf Tryd.f24) = [(.loop (loopAt 4 (bodyOf Tryd.f24)))] := by kernel_rfl
theorem f24_ok (k : Nat) (hT : TTOk Tryd.prog (lookT tab)) (hL : Lasting G) : EntOk Tryd.prog G (f24_e k) := by
  have hE : EnvSound Tryd.prog G (f24_env k) := envOf_sound (ents_nil)
  exact ent_ok (subs := [f24_b4 k]) hT hE (envOf_nat _) hMix hL (subs_cons (f24_n2 k) (f24_b4_ok k hT hL hE) (subs_nil _ _ _)) (f24_e k) Tryd.func24 f24_y f24_z (f24_x k)
theorem f24_all (k : Nat) : EntOk Tryd.prog (fun w => w.ShapedOpen Tryd.prog) (f24_e k) := f24_ok k hTab (lasting_shaped _)

def f25_s4 (k : Nat) (t0 : (List (ByteArray × ByteArray × Unit))) (t1 : ByteArray) (t6 : Int) : Option (((List (ByteArray × ByteArray × Unit)) × ByteArray × Int × Unit) ⊕ ((ByteArray × Bool × Unit) ⊕ (Unit))) :=
  bif (decide (t6 < (lLen t0))) then (rangeK t6 (lLen t0) (bif (sEq ((lAt (.agg (.pair .str (.pair .str .unit))) t0 t6).1) t1) then (rangeK t6 (lLen t0) (some (.inr (.inl ((lAt (.agg (.pair .str (.pair .str .unit))) t0 t6).2.1, true, ()))))) else (some (.inl (t0, t1, (w64 (t6 + 1)), ()))))) else (some (.inr (.inr (()))))
def f25_s4_u (k : Nat) (v : ((List (ByteArray × ByteArray × Unit)) × ByteArray × Int × Unit)) : Option (((List (ByteArray × ByteArray × Unit)) × ByteArray × Int × Unit) ⊕ ((ByteArray × Bool × Unit) ⊕ (Unit))) := f25_s4 k v.1 v.2.1 v.2.2.1
def f25_l4 (k : Nat) (t0 : (List (ByteArray × ByteArray × Unit))) (t1 : ByteArray) (t6 : Int) : Option ((ByteArray × Bool × Unit) ⊕ (Unit)) := iter (f25_s4_u k) k (t0, t1, t6, ())
def f25 (k : Nat) (a0 : (List (ByteArray × ByteArray × Unit))) (a1 : ByteArray) : Option (ByteArray × Bool) :=
  (f25_l4 k a0 a1 0).bind fun o1 => (match o1 with | .inl o1' => (some (o1'.1, o1'.2.1)) | .inr o1' => (some (sNil, false)))
def f25_e (k : Nat) : Ent := { f := 25, inp := [.data (.list (.agg (.pair .str (.pair .str .unit)))), .data .str], out := [.data .str, .data .bool], run := fun v => f25 k v.1 v.2.1 }
def f25_env (k : Nat) : Env := envOf []
def f25_b4 (k : Nat) : Sub := { key := 4, inp := ⟨[.data (.list (.agg (.pair .str (.pair .str .unit)))), .data .str, .dead, .dead, .dead, .dead, .data (.int .i64), .dead, .dead, .dead, .dead, .dead, .dead, .dead, .dead, .dead, .dead, .dead, .dead, .dead, .dead, .dead, .dead, .dead, .dead], [], [], []⟩, ways := [⟨.ret, ⟨[.dead, .dead, .dead, .dead, .data .str, .data .bool, .dead, .dead, .dead, .dead, .dead, .dead, .dead, .dead, .dead, .dead, .dead, .dead, .dead, .dead, .dead, .dead, .dead, .dead, .dead], [], [], []⟩⟩, ⟨.x 0, ⟨[.dead, .dead, .dead, .dead, .dead, .dead, .dead, .dead, .dead, .dead, .dead, .dead, .dead, .dead, .dead, .dead, .dead, .dead, .dead, .dead, .dead, .dead, .dead, .dead, .dead], [], [], []⟩⟩], run := fun v => iter (f25_s4_u k) k v }
theorem f25_b4_x (k : Nat) (v : ((List (ByteArray × ByteArray × Unit)) × ByteArray × Int × Unit)) : exec (lookT tab) (f25_env k) [] (loopAt 4 (bodyOf Tryd.f25)) (mkSt (f25_b4 k).inp v) (loopKs (f25_b4 k).inp (f25_b4 k).ways) = f25_s4_u k v := by kernel_rfl
theorem f25_b4_ok (k : Nat) (hT : TTOk Tryd.prog (lookT tab)) (hL : Lasting G) (hE : EnvSound Tryd.prog G (f25_env k)) : SubSound Tryd.prog G (f25_b4 k) (.loop (loopAt 4 (bodyOf Tryd.f25))) :=
  sub_loop (subs := []) hT hE (envOf_nat _) hMix hL (subs_nil _ _ _) (f25_s4_u k) k (fun _ => rfl) (fun v o h => (f25_b4_x k v).trans h)
theorem f25_x (k : Nat) (v : argsC (f25_e k).inp) : fexec (lookT tab) (f25_env k) [f25_b4 k] Tryd.f25 (bodyOf Tryd.f25) (mkArgs (f25_e k).inp v) (fun rs => getRes (f25_e k).out rs some) = (f25_e k).run v := by kernel_rfl
theorem f25_y : Tryd.f25.body = some (bodyOf Tryd.f25) := by kernel_rfl
theorem f25_z : (Tryd.f25.name == "runtime.NumGoroutine") = false := by kernel_rfl
theorem f25_n2 (k : Nat) : nodesAt (f25_b4 k).key (bodyOf Tryd.f25) = [(.loop (loopAt 4 (bodyOf Tryd.f25)))] := by kernel_rfl
theorem f25_ok (k : Nat) (hT : TTOk Tryd.prog (lookT tab)) (hL : Lasting G) : EntOk Tryd.prog G (f25_e k) := by
  have hE : EnvSound Tryd.prog G (f25_env k) := envOf_sound (ents_nil)
  exact ent_ok (subs := [f25_b4 k]) hT hE (envOf_nat _) hMix hL (subs_cons (f25_n2 k) (f25_b4_ok k hT hL hE) (subs_nil _ _ _)) (f25_e k) Tryd.func25 f25_y f25_z (f25_x k)
theorem f25_all (k : Nat) : EntOk Tryd.prog (fun w => w.ShapedOpen Tryd.prog) (f25_e k) := f25_ok k hTab (lasting_shaped _)

def f26_s4 (k : Nat) (t0 : (List (ByteArray × ByteArray × Unit))) (t5 : (List (ByteArray × ByteArray × Unit))) (t6 : Int) (t7 : Int) : Option (((List (ByteArray × ByteArray × Unit)) × (List (ByteArray × ByteArray × Unit)) × Int × Int × Unit) ⊕ ((Bool × Unit) ⊕ ((List (ByteArray × ByteArray × Unit)) × Unit))) :=
  bif (decide (t7 < t6)) then (rangeK t7 (lLen t5) ((f12 k ((lAt (.agg (.pair .str (.pair .str .unit))) t5 t7).1)).bind fun r4 => (bif (!r4) then (some (.inr (.inl (false, ())))) else ((f14 k ((lAt (.agg (.pair .str (.pair .str .unit))) t5 t7).2.1)).bind fun r5 => (bif (!r5) then (some (.inr (.inl (false, ())))) else (bif (decide (t7 > 0)) then (rangeK (w64 (t7 - 1)) (lLen t0) (bif (!(sLt ((lAt (.agg (.pair .str (.pair .str .unit))) t0 (w64 (t7 - 1))).1) ((lAt (.agg (.pair .str (.pair .str .unit))) t5 t7).1))) then (some (.inr (.inl (false, ())))) else (some (.inl (t0, t5, t6, (w64 (t7 + 1)), ()))))) else (some (.inl (t0, t5, t6, (w64 (t7 + 1)), ()))))))))) else (some (.inr (.inr (t0, ()))))
def f26_s4_u (k : Nat) (v : ((List (ByteArray × ByteArray × Unit)) × (List (ByteArray × ByteArray × Unit)) × Int × Int × Unit)) : Option (((List (ByteArray × ByteArray × Unit)) × (List (ByteArray × ByteArray × Unit)) × Int × Int × Unit) ⊕ ((Bool × Unit) ⊕ ((List (ByteArray × ByteArray × Unit)) × Unit))) := f26_s4 k v.1 v.2.1 v.2.2.1 v.2.2.2.1
def f26_l4 (k : Nat) (t0 : (List (ByteArray × ByteArray × Unit))) (t5 : (List (ByteArray × ByteArray × Unit))) (t6 : Int) (t7 : Int) : Option ((Bool × Unit) ⊕ ((List (ByteArray × ByteArray × Unit)) × Unit)) := iter (f26_s4_u k) k (t0, t5, t6, t7, ())
def f26 (k : Nat) (a0 : (List (ByteArray × ByteArray × Unit))) : Option Bool :=
  (f26_l4 k a0 a0 (lLen a0) 0).bind fun o6 => (match o6 with | .inl o6' => (some (o6'.1)) | .inr o6' => (some (decide ((lLen (o6'.1)) ≤ 16))))
def f26_e (k : Nat) : Ent := { f := 26, inp := [.data (.list (.agg (.pair .str (.pair .str .unit))))], out := [.data .bool], run := fun v => f26 k v.1 }
def f26_env (k : Nat) : Env := envOf [f12_e k, f14_e k]
def f26_b4 (k : Nat) : Sub := { key := 4, inp := ⟨[.data (.list (.agg (.pair .str (.pair .str .unit)))), .dead, .dead, .dead, .dead, .data (.list (.agg (.pair .str (.pair .str .unit)))), .data (.int .i64), .data (.int .i64), .dead, .dead, .dead, .dead, .dead, .dead, .dead, .dead, .dead, .dead, .dead, .dead, .dead, .dead, .dead, .dead, .dead, .dead, .dead, .dead, .dead, .dead, .dead, .dead, .dead, .dead, .dead, .dead, .dead, .dead, .dead, .dead, .dead], [], [], []⟩, ways := [⟨.ret, ⟨[.dead, .dead, .data .bool, .dead, .dead, .dead, .dead, .dead, .dead, .dead, .dead, .dead, .dead, .dead, .dead, .dead, .dead, .dead, .dead, .dead, .dead, .dead, .dead, .dead, .dead, .dead, .dead, .dead, .dead, .dead, .dead, .dead, .dead, .dead, .dead, .dead, .dead, .dead, .dead, .dead, .dead], [], [], []⟩⟩, ⟨.x 0, ⟨[.data (.list (.agg (.pair .str (.pair .str .unit)))), .dead, .dead, .dead, .dead, .dead, .dead, .dead, .dead, .dead, .dead, .dead, .dead, .dead, .dead, .dead, .dead, .dead, .dead, .dead, .dead, .dead, .dead, .dead, .dead, .dead, .dead, .dead, .dead, .dead, .dead, .dead, .dead, .dead, .dead, .dead, .dead, .dead, .dead, .dead, .dead], [], [], []⟩⟩], run := fun v => iter (f26_s4_u k) k v }
theorem f26_b4_x (k : Nat) (v : ((List (ByteArray × ByteArray × Unit)) × (List (ByteArray × ByteArray × Unit)) × Int × Int × Unit)) : exec (lookT tab) (f26_env k) [] (loopAt 4 (bodyOf Tryd.f26)) (mkSt (f26_b4 k).inp v) (loopKs (f26_b4 k).inp (f26_b4 k).ways) = f26_s4_u k v := by kernel_rfl
theorem f26_b4_ok (k : Nat) (hT : TTOk Tryd.prog (lookT tab)) (hL : Lasting G) (hE : EnvSound Tryd.prog G (f26_env k)) : SubSound Tryd.prog G (f26_b4 k) (.loop (loopAt 4 (bodyOf Tryd.f26))) :=
  sub_loop (subs := []) hT hE (envOf_nat _) hMix hL (subs_nil _ _ _) (f26_s4_u k) k (fun _ => rfl) (fun v o h => (f26_b4_x k v).trans h)
theorem f26_x (k : Nat) (v : argsC (f26_e k).inp) : fexec (lookT tab) (f26_env k) [f26_b4 k] Tryd.f26 (bodyOf Tryd.f26) (mkArgs (f26_e k).inp v) (fun rs => getRes (f26_e k).out rs some) = (f26_e k).run v := by kernel_rfl
theorem f26_y : Tryd.f26.body = some (bodyOf Tryd.f26) := by kernel_rfl
theorem f26_z : (Tryd.f26.name == "runtime.NumGoroutine") = false := by kernel_rfl
theorem f26_n7 (k : Nat) : nodesAt (f26_b4 k).key (bodyOf Tryd.f26) = [(.loop (loopAt 4 (bodyOf Tryd.f26)))] := by kernel_rfl
theorem f26_ok (k : Nat) (hT : TTOk Tryd.prog (lookT tab)) (hL : Lasting G) (h0 : EntOk Tryd.prog G (f12_e k)) (h1 : EntOk Tryd.prog G (f14_e k)) : EntOk Tryd.prog G (f26_e k) := by
  have hE : EnvSound Tryd.prog G (f26_env k) := envOf_sound (ents_cons h0 (ents_cons h1 (ents_nil)))
  exact ent_ok (subs := [f26_b4 k]) hT hE (envOf_nat _) hMix hL (subs_cons (f26_n7 k) (f26_b4_ok k hT hL hE) (subs_nil _ _ _)) (f26_e k) Tryd.func26 f26_y f26_z (f26_x k)
theorem f26_all (k : Nat) : EntOk Tryd.prog (fun w => w.ShapedOpen Tryd.prog) (f26_e k) := f26_ok k hTab (lasting_shaped _) (f12_all k) (f14_all k)

def f27_s8 (k : Nat) (t0 : (List (ByteArray × ByteArray × Unit))) (t3 : Int) : Option (((List (ByteArray × ByteArray × Unit)) × Int × Unit) ⊕ ((Bool × Unit) ⊕ (Unit))) :=
  bif (decide (t3 < (lLen t0))) then (rangeK t3 (lLen t0) ((f13 k ((lAt (.agg (.pair .str (.pair .str .unit))) t0 t3).1)).bind fun r5 => (bif (!r5) then (some (.inr (.inl (false, ())))) else (rangeK t3 (lLen t0) ((f15 k ((lAt (.agg (.pair .str (.pair .str .unit))) t0 t3).2.1) false).bind fun r6 => (bif (!r6) then (some (.inr (.inl (false, ())))) else (bif (decide (t3 > 0)) then (rangeK (w64 (t3 - 1)) (lLen t0) (rangeK t3 (lLen t0) ((f53 k ((lAt (.agg (.pair .str (.pair .str .unit))) t0 (w64 (t3 - 1))).1) ((lAt (.agg (.pair .str (.pair .str .unit))) t0 t3).1)).bind fun r7 => (bif (!r7) then (some (.inr (.inl (false, ())))) else (some (.inl (t0, (w64 (t3 + 1)), ()))))))) else (some (.inl (t0, (w64 (t3 + 1)), ())))))))))) else (some (.inr (.inr (()))))
def f27_s8_u (k : Nat) (v : ((List (ByteArray × ByteArray × Unit)) × Int × Unit)) : Option (((List (ByteArray × ByteArray × Unit)) × Int × Unit) ⊕ ((Bool × Unit) ⊕ (Unit))) := f27_s8 k v.1 v.2.1
def f27_l8 (k : Nat) (t0 : (List (ByteArray × ByteArray × Unit))) (t3 : Int) : Option ((Bool × Unit) ⊕ (Unit)) := iter (f27_s8_u k) k (t0, t3, ())
def f27 (k : Nat) (a0 : (List (ByteArray × ByteArray × Unit))) : Option Bool :=
  bif (decide ((lLen a0) > 16)) then (some false) else ((f27_l8 k a0 0).bind fun o8 => (match o8 with | .inl o8' => (some (o8'.1)) | .inr o8' => (some true)))
def f27_e (k : Nat) : Ent := { f := 27, inp := [.data (.list (.agg (.pair .str (.pair .str .unit))))], out := [.data .bool], run := fun v => f27 k v.1 }
def f27_env (k : Nat) : Env := envOf [f13_e k, f15_e k, f53_e k]
def f27_b8 (k : Nat) : Sub := { key := 8, inp := ⟨[.data (.list (.agg (.pair .str (.pair .str .unit)))), .dead, .dead, .data (.int .i64), .dead, .dead, .dead, .dead, .dead, .dead, .dead, .dead, .dead, .dead, .dead, .dead, .dead, .dead, .dead, .dead, .dead, .dead, .dead, .dead, .dead, .dead, .dead, .dead, .dead, .dead, .dead, .dead, .dead, .dead, .dead, .dead, .dead, .dead, .dead, .dead, .dead, .dead, .dead, .dead, .dead, .dead, .dead, .dead], [], [], []⟩, ways := [⟨.ret, ⟨[.dead, .dead, .data .bool, .dead, .dead, .dead, .dead, .dead, .dead, .dead, .dead, .dead, .dead, .dead, .dead, .dead, .dead, .dead, .dead, .dead, .dead, .dead, .dead, .dead, .dead, .dead, .dead, .dead, .dead, .dead, .dead, .dead, .dead, .dead, .dead, .dead, .dead, .dead, .dead, .dead, .dead, .dead, .dead, .dead, .dead, .dead, .dead, .dead], [], [], []⟩⟩, ⟨.x 0, ⟨[.dead, .dead, .dead, .dead, .dead, .dead, .dead, .dead, .dead, .dead, .dead, .dead, .dead, .dead, .dead, .dead, .dead, .dead, .dead, .dead, .dead, .dead, .dead, .dead, .dead, .dead, .dead, .dead, .dead, .dead, .dead, .dead, .dead, .dead, .dead, .dead, .dead, .dead, .dead, .dead, .dead, .dead, .dead, .dead, .dead, .dead, .dead, .dead], [], [], []⟩⟩], run := fun v => iter (f27_s8_u k) k v }
theorem f27_b8_x (k : Nat) (v : ((List (ByteArray × ByteArray × Unit)) × Int × Unit)) : exec (lookT tab) (f27_env k) [] (loopAt 8 (bodyOf Tryd.f27)) (mkSt (f27_b8 k).inp v) (loopKs (f27_b8 k).inp (f27_b8 k).ways) = f27_s8_u k v := by kernel_rfl
theorem f27_b8_ok (k : Nat) (hT : TTOk Tryd.prog (lookT tab)) (hL : Lasting G) (hE : EnvSound Tryd.prog G (f27_env k)) : SubSound Tryd.prog G (f27_b8 k) (.loop (loopAt 8 (bodyOf Tryd.f27))) :=
  sub_loop (subs := []) hT hE (envOf_nat _) hMix hL (subs_nil _ _ _) (f27_s8_u k) k (fun _ => rfl) (fun v o h => (f27_b8_x k v).trans h)
theorem f27_x (k : Nat) (v : argsC (f27_e k).inp) : fexec (lookT tab) (f27_env k) [f27_b8 k] Tryd.f27 (bodyOf Tryd.f27) (mkArgs (f27_e k).inp v) (fun rs => getRes (f27_e k).out rs some) = (f27_e k).run v := by kernel_rfl
theorem f27_y : Tryd.f27.body = some (bodyOf Tryd.f27) := by kernel_rfl
theorem f27_z : (Tryd.f27.name == "runtime.NumGoroutine") = false := by kernel_rfl
theorem f27_n9 (k : Nat) : nodesAt (f27_b8 k).key (bodyOf Tryd.f27) = [(.loop (loopAt 8 (bodyOf Tryd.f27)))] := by kernel_rfl
theorem f27_ok (k : Nat) (hT : TTOk Tryd.prog (lookT tab)) (hL : Lasting G) (h0 : EntOk Tryd.prog G (f13_e k)) (h1 : EntOk Tryd.prog G (f15_e k)) (h2 : EntOk Tryd.prog G (f53_e k)) : EntOk Tryd.prog G (f27_e k) := by
  have hE : EnvSound Tryd.prog G (f27_env k) := envOf_sound (ents_cons h0 (ents_cons h1 (ents_cons h2 (ents_nil))))
  exact ent_ok (subs := [f27_b8 k]) hT hE (envOf_nat _) hMix hL (subs_cons (f27_n9 k) (f27_b8_ok k hT hL hE) (subs_nil _ _ _)) (f27_e k) Tryd.func27 f27_y f27_z (f27_x k)
theorem f27_all (k : Nat) : EntOk Tryd.prog (fun w => w.ShapedOpen Tryd.prog) (f27_e k) := f27_ok k hTab (lasting_shaped _) (f13_all k) (f15_all k) (f53_all k)

def f16_s8 (k : Nat) (t0 : (List (ByteArray × ByteArray × Unit))) (t3 : Int) : Option (((List (ByteArray × ByteArray × Unit)) × Int × Unit) ⊕ ((Bool × Unit) ⊕ (Unit))) :=
  bif (decide (t3 < (lLen t0))) then (rangeK t3 (lLen t0) (bif (decide ((sLen ((lAt (.agg (.pair .str (.pair .str .unit))) t0 t3).1)) > 200)) then (some (.inr (.inl (true, ())))) else (rangeK t3 (lLen t0) (bif (decide ((sLen ((lAt (.agg (.pair .str (.pair .str .unit))) t0 t3).2.1)) > 200)) then (some (.inr (.inl (true, ())))) else (some (.inl (t0, (w64 (t3 + 1)), ()))))))) else (some (.inr (.inr (()))))
def f16_s8_u (k : Nat) (v : ((List (ByteArray × ByteArray × Unit)) × Int × Unit)) : Option (((List (ByteArray × ByteArray × Unit)) × Int × Unit) ⊕ ((Bool × Unit) ⊕ (Unit))) := f16_s8 k v.1 v.2.1
def f16_l8 (k : Nat) (t0 : (List (ByteArray × ByteArray × Unit))) (t3 : Int) : Option ((Bool × Unit) ⊕ (Unit)) := iter (f16_s8_u k) k (t0, t3, ())
def f16 (k : Nat) (a0 : (List (ByteArray × ByteArray × Unit))) : Option Bool :=
  bif (decide ((lLen a0) > 40)) then (some true) else ((f16_l8 k a0 0).bind fun o1 => (match o1 with | .inl o1' => (some (o1'.1)) | .inr o1' => (some false)))
def f16_e (k : Nat) : Ent := { f := 16, inp := [.data (.list (.agg (.pair .str (.pair .str .unit))))], out := [.data .bool], run := fun v => f16 k v.1 }
def f16_env (k : Nat) : Env := envOf []
def f16_b8 (k : Nat) : Sub := { key := 8, inp := ⟨[.data (.list (.agg (.pair .str (.pair .str .unit)))), .dead, .dead, .data (.int .i64), .dead, .dead, .dead, .dead, .dead, .dead, .dead, .dead, .dead, .dead, .dead, .dead, .dead, .dead, .dead, .dead, .dead, .dead, .dead, .dead, .dead, .dead, .dead, .dead, .dead], [], [], []⟩, ways := [⟨.ret, ⟨[.dead, .dead, .data .bool, .dead, .dead, .dead, .dead, .dead, .dead, .dead, .dead, .dead, .dead, .dead, .dead, .dead, .dead, .dead, .dead, .dead, .dead, .dead, .dead, .dead, .dead, .dead, .dead, .dead, .dead], [], [], []⟩⟩, ⟨.x 0, ⟨[.dead, .dead, .dead, .dead, .dead, .dead, .dead, .dead, .dead, .dead, .dead, .dead, .dead, .dead, .dead, .dead, .dead, .dead, .dead, .dead, .dead, .dead, .dead, .dead, .dead, .dead, .dead, .dead, .dead], [], [], []⟩⟩], run := fun v => iter (f16_s8_u k) k v }
theorem f16_b8_x (k : Nat) (v : ((List (ByteArray × ByteArray × Unit)) × Int × Unit)) : exec (lookT tab) (f16_env k) [] (loopAt 8 (bodyOf Tryd.f16)) (mkSt (f16_b8 k).inp v) (loopKs (f16_b8 k).inp (f16_b8 k).ways) = f16_s8_u k v := by kernel_rfl
theorem f16_b8_ok (k : Nat) (hT : TTOk Tryd.prog (lookT tab)) (hL : Lasting G) (hE : EnvSound Tryd.prog G (f16_env k)) : SubSound Tryd.prog G (f16_b8 k) (.loop (loopAt 8 (bodyOf Tryd.f16))) :=
  sub_loop (subs := []) hT hE (envOf_nat _) hMix hL (subs_nil _ _ _) (f16_s8_u k) k (fun _ => rfl) (fun v o h => (f16_b8_x k v).trans h)
theorem f16_x (k : Nat) (v : argsC (f16_e k).inp) : fexec (lookT tab) (f16_env k) [f16_b8 k] Tryd.f16 (bodyOf Tryd.f16) (mkArgs (f16_e k).inp v) (fun rs => getRes (f16_e k).out rs some) = (f16_e k).run v := by kernel_rfl
theorem f16_y : Tryd.f16.body = some (bodyOf Tryd.f16) := by kernel_rfl
theorem f16_z : (Tryd.f16.name == "runtime.NumGoroutine") = false := by kernel_rfl
theorem f16_n2 (k : Nat) : nodesAt (f16_b8 k).key (bodyOf Tryd.f16) = [(.loop (loopAt 8 (bodyOf Tryd.f16)))] := by kernel_rfl
theorem f16_ok (k : Nat) (hT : TTOk Tryd.prog (lookT tab)) (hL : Lasting G) : EntOk Tryd.prog G (f16_e k) := by
  have hE : EnvSound Tryd.prog G (f16_env k) := envOf_sound (ents_nil)
  exact ent_ok (subs := [f16_b8 k]) hT hE (envOf_nat _) hMix hL (subs_cons (f16_n2 k) (f16_b8_ok k hT hL hE) (subs_nil _ _ _)) (f16_e k) Tryd.func16 f16_y f16_z (f16_x k)
theorem f16_all (k : Nat) : EntOk Tryd.prog (fun w => w.ShapedOpen Tryd.prog) (f16_e k) := f16_ok k hTab (lasting_shaped _)

def f28_s6 (k : Nat) (t0 : (List (ByteArray × ByteArray × Unit))) (t1 : ByteArray) (t6 : Int) (h0 : (List (ByteArray × ByteArray × Unit))) : Option (((List (ByteArray × ByteArray × Unit)) × ByteArray × Int × (List (ByteArray × ByteArray × Unit)) × Unit) ⊕ ((List (ByteArray × ByteArray × Unit)) × Unit)) :=
  bif (decide (t6 < (lLen t0))) then (rangeK t6 (lLen t0) (bif (!(sEq ((lAt (.agg (.pair .str (.pair .str .unit))) t0 t6).1) t1)) then (rangeK t6 (lLen t0) (roomK (h0.length + [(lAt (.agg (.pair .str (.pair .str .unit))) t0 t6)].length) most (some (.inl (t0, t1, (w64 (t6 + 1)), (h0 ++ [(lAt (.agg (.pair .str (.pair .str .unit))) t0 t6)]), ()))))) else (some (.inl (t0, t1, (w64 (t6 + 1)), h0, ()))))) else (some (.inr (h0, ())))
def f28_s6_u (k : Nat) (v : ((List (ByteArray × ByteArray × Unit)) × ByteArray × Int × (List (ByteArray × ByteArray × Unit)) × Unit)) : Option (((List (ByteArray × ByteArray × Unit)) × ByteArray × Int × (List (ByteArray × ByteArray × Unit)) × Unit) ⊕ ((List (ByteArray × ByteArray × Unit)) × Unit)) := f28_s6 k v.1 v.2.1 v.2.2.1 v.2.2.2.1
def f28_l6 (k : Nat) (t0 : (List (ByteArray × ByteArray × Unit))) (t1 : ByteArray) (t6 : Int) (h0 : (List (ByteArray × ByteArray × Unit))) : Option ((List (ByteArray × ByteArray × Unit)) × Unit) := iter (f28_s6_u k) k (t0, t1, t6, h0, ())
def f28 (k : Nat) (a0 : (List (ByteArray × ByteArray × Unit))) (a1 : ByteArray) : Option (List (ByteArray × ByteArray × Unit)) :=
  (f28_l6 k a0 a1 0 []).bind fun o1 => (some o1.1)
def f28_e (k : Nat) : Ent := { f := 28, inp := [.data (.list (.agg (.pair .str (.pair .str .unit)))), .data .str], out := [.data (.list (.agg (.pair .str (.pair .str .unit))))], run := fun v => f28 k v.1 v.2.1 }
def f28_env (k : Nat) : Env := envOf []
def f28_b6 (k : Nat) : Sub := { key := 6, inp := ⟨[.data (.list (.agg (.pair .str (.pair .str .unit)))), .data .str, .dead, .dead, .dead, .osl 0, .data (.int .i64), .dead, .dead, .dead, .dead, .dead, .dead, .dead, .dead, .dead, .dead, .dead, .dead, .dead, .dead, .dead, .dead, .dead, .dead, .dead, .dead, .dead, .dead], [.row (.agg (.pair .str (.pair .str .unit)))], [], []⟩, ways := [⟨.x 0, ⟨[.dead, .dead, .dead, .dead, .dead, .osl 0, .dead, .dead, .dead, .dead, .dead, .dead, .dead, .dead, .dead, .dead, .dead, .dead, .dead, .dead, .dead, .dead, .dead, .dead, .dead, .dead, .dead, .dead, .dead], [.row (.agg (.pair .str (.pair .str .unit)))], [], []⟩⟩], run := fun v => iter (f28_s6_u k) k v }
theorem f28_b6_x (k : Nat) (v : ((List (ByteArray × ByteArray × Unit)) × ByteArray × Int × (List (ByteArray × ByteArray × Unit)) × Unit)) : exec (lookT tab) (f28_env k) [] (loopAt 6 (bodyOf Tryd.f28)) (mkSt (f28_b6 k).inp v) (loopKs (f28_b6 k).inp (f28_b6 k).ways) = f28_s6_u k v := by kernel_rfl
theorem f28_b6_ok (k : Nat) (hT : TTOk Tryd.prog (lookT tab)) (hL : Lasting G) (hE : EnvSound Tryd.prog G (f28_env k)) : SubSound Tryd.prog G (f28_b6 k) (.loop (loopAt 6 (bodyOf Tryd.f28))) :=
  sub_loop (subs := []) hT hE (envOf_nat _) hMix hL (subs_nil _ _ _) (f28_s6_u k) k (fun _ => rfl) (fun v o h => (f28_b6_x k v).trans h)
theorem f28_x (k : Nat) (v : argsC (f28_e k).inp) : fexec (lookT tab) (f28_env k) [f28_b6 k] Tryd.f28 (bodyOf Tryd.f28) (mkArgs (f28_e k).inp v) (fun rs => getRes (f28_e k).out rs some) = (f28_e k).run v := by kernel_rfl
theorem f28_y : Tryd.f28.body = some (bodyOf Tryd.f28) := by kernel_rfl
theorem f28_z : (Tryd.f28.name == "runtime.NumGoroutine") = false := by kernel_rfl
theorem f28_n2 (k : Nat) : nodesAt (f28_b6 k).key (bodyOf Tryd.f28) = [(.loop (loopAt 6 (bodyOf Tryd.f28)))] := by kernel_rfl
theorem f28_ok (k : Nat) (hT : TTOk Tryd.prog (lookT tab)) (hL : Lasting G) : EntOk Tryd.prog G (f28_e k) := by
  have hE : EnvSound Tryd.prog G (f28_env k) := envOf_sound (ents_nil)
  exact ent_ok (subs := [f28_b6 k]) hT hE (envOf_nat _) hMix hL (subs_cons (f28_n2 k) (f28_b6_ok k hT hL hE) (subs_nil _ _ _)) (f28_e k) Tryd.func28 f28_y f28_z (f28_x k)
theorem f28_all (k : Nat) : EntOk Tryd.prog (fun w => w.ShapedOpen Tryd.prog) (f28_e k) := f28_ok k hTab (lasting_shaped _)

def f22_s16 (k : Nat) (t1 : ByteArray) (t2 : ByteArray) (t8 : (List (ByteArray × ByteArray × Unit))) (t10 : Int) (h0 : (List (ByteArray × ByteArray × Unit))) : Option ((ByteArray × ByteArray × (List (ByteArray × ByteArray × Unit)) × Int × (List (ByteArray × ByteArray × Unit)) × Unit) ⊕ (ByteArray × ByteArray × (List (ByteArray × ByteArray × Unit)) × Int × (List (ByteArray × ByteArray × Unit)) × Unit)) :=
  bif (decide (t10 < (lLen t8))) then (rangeK t10 (lLen t8) ((f53 k ((lAt (.agg (.pair .str (.pair .str .unit))) t8 t10).1) t1).bind fun r6 => (bif r6 then (rangeK t10 (lLen t8) (roomK (h0.length + [(lAt (.agg (.pair .str (.pair .str .unit))) t8 t10)].length) most (some (.inl (t1, t2, t8, (w64 (t10 + 1)), (h0 ++ [(lAt (.agg (.pair .str (.pair .str .unit))) t8 t10)]), ()))))) else (some (.inr (t1, t2, t8, t10, h0, ())))))) else (some (.inr (t1, t2, t8, t10, h0, ())))
def f22_s16_u (k : Nat) (v : (ByteArray × ByteArray × (List (ByteArray × ByteArray × Unit)) × Int × (List (ByteArray × ByteArray × Unit)) × Unit)) : Option ((ByteArray × ByteArray × (List (ByteArray × ByteArray × Unit)) × Int × (List (ByteArray × ByteArray × Unit)) × Unit) ⊕ (ByteArray × ByteArray × (List (ByteArray × ByteArray × Unit)) × Int × (List (ByteArray × ByteArray × Unit)) × Unit)) := f22_s16 k v.1 v.2.1 v.2.2.1 v.2.2.2.1 v.2.2.2.2.1
def f22_l16 (k : Nat) (t1 : ByteArray) (t2 : ByteArray) (t8 : (List (ByteArray × ByteArray × Unit))) (t10 : Int) (h0 : (List (ByteArray × ByteArray × Unit))) : Option (ByteArray × ByteArray × (List (ByteArray × ByteArray × Unit)) × Int × (List (ByteArray × ByteArray × Unit)) × Unit) := iter (f22_s16_u k) k (t1, t2, t8, t10, h0, ())
def f22 (k : Nat) (a0 : (List (ByteArray × ByteArray × Unit))) (a1 : ByteArray) (a2 : ByteArray) : Option ((List (ByteArray × ByteArray × Unit)) × Int) :=
  (f27 k a0).bind fun r1 => (bif (!r1) then (some ([], 4)) else ((f13 k a1).bind fun r2 => (bif (!r2) then (some ([], 4)) else ((f15 k a2 false).bind fun r3 => (bif (!r3) then (some ([], 4)) else ((f28 k a0 a1).bind fun r4 => (bif (decide ((lLen r4) ≥ 16)) then (some ([], 5)) else ((f22_l16 k a1 a2 r4 0 []).bind fun o7 => (roomK (o7.2.2.2.2.1.length + [(o7.1, o7.2.1, ())].length) most (cutK o7.2.2.2.1 (lLen o7.2.2.1) (lLen o7.2.2.1) (roomK ((o7.2.2.2.2.1 ++ [(o7.1, o7.2.1, ())]).length + (lCut o7.2.2.1 o7.2.2.2.1 (lLen o7.2.2.1)).length) most (some (((o7.2.2.2.2.1 ++ [(o7.1, o7.2.1, ())]) ++ (lCut o7.2.2.1 o7.2.2.2.1 (lLen o7.2.2.1))), 0)))))))))))))
def f22_e (k : Nat) : Ent := { f := 22, inp := [.data (.list (.agg (.pair .str (.pair .str .unit)))), .data .str, .data .str], out := [.data (.list (.agg (.pair .str (.pair .str .unit)))), .data (.int .i64)], run := fun v => f22 k v.1 v.2.1 v.2.2.1 }
def f22_env (k : Nat) : Env := envOf [f27_e k, f13_e k, f15_e k, f28_e k, f53_e k]
def f22_b16 (k : Nat) : Sub := { key := 16, inp := ⟨[.dead, .data .str, .data .str, .dead, .dead, .dead, .dead, .dead, .data (.list (.agg (.pair .str (.pair .str .unit)))), .osl 0, .data (.int .i64), .dead, .dead, .dead, .dead, .dead, .dead, .dead, .dead, .dead, .dead, .dead, .dead, .dead, .dead, .dead, .dead, .dead, .dead, .dead, .dead, .dead, .dead, .dead, .dead, .dead, .dead, .dead, .dead, .dead, .dead, .dead, .dead, .dead, .dead, .dead, .dead, .dead, .dead, .dead, .dead, .dead, .dead, .dead, .dead, .dead, .dead, .dead, .dead, .dead, .dead, .dead, .dead, .dead], [.row (.agg (.pair .str (.pair .str .unit)))], [], []⟩, ways := [⟨.x 0, ⟨[.dead, .data .str, .data .str, .dead, .dead, .dead, .dead, .dead, .data (.list (.agg (.pair .str (.pair .str .unit)))), .osl 0, .data (.int .i64), .dead, .dead, .dead, .dead, .dead, .dead, .dead, .dead, .dead, .dead, .dead, .dead, .dead, .dead, .dead, .dead, .dead, .dead, .dead, .dead, .dead, .dead, .dead, .dead, .dead, .dead, .dead, .dead, .dead, .dead, .dead, .dead, .dead, .dead, .dead, .dead, .dead, .dead, .dead, .dead, .dead, .dead, .dead, .dead, .dead, .dead, .dead, .dead, .dead, .dead, .dead, .dead, .dead], [.row (.agg (.pair .str (.pair .str .unit)))], [], []⟩⟩], run := fun v => iter (f22_s16_u k) k v }
theorem f22_b16_x (k : Nat) (v : (ByteArray × ByteArray × (List (ByteArray × ByteArray × Unit)) × Int × (List (ByteArray × ByteArray × Unit)) × Unit)) : exec (lookT tab) (f22_env k) [] (loopAt 16 (bodyOf Tryd.f22)) (mkSt (f22_b16 k).inp v) (loopKs (f22_b16 k).inp (f22_b16 k).ways) = f22_s16_u k v := by kernel_rfl
theorem f22_b16_ok (k : Nat) (hT : TTOk Tryd.prog (lookT tab)) (hL : Lasting G) (hE : EnvSound Tryd.prog G (f22_env k)) : SubSound Tryd.prog G (f22_b16 k) (.loop (loopAt 16 (bodyOf Tryd.f22))) :=
  sub_loop (subs := []) hT hE (envOf_nat _) hMix hL (subs_nil _ _ _) (f22_s16_u k) k (fun _ => rfl) (fun v o h => (f22_b16_x k v).trans h)
theorem f22_x (k : Nat) (v : argsC (f22_e k).inp) : fexec (lookT tab) (f22_env k) [f22_b16 k] Tryd.f22 (bodyOf Tryd.f22) (mkArgs (f22_e k).inp v) (fun rs => getRes (f22_e k).out rs some) = (f22_e k).run v := by kernel_rfl
theorem f22_y : Tryd.f22.body = some (bodyOf Tryd.f22) := by kernel_rfl
theorem f22_z : (Tryd.f22.name == "runtime.NumGoroutine") = false := by kernel_rfl
theorem f22_n8 (k : Nat) : nodesAt (f22_b16 k).key (bodyOf Tryd.f22) = [(.loop (loopAt 16 (bodyOf Tryd.f22)))] := by kernel_rfl
theorem f22_ok (k : Nat) (hT : TTOk Tryd.prog (lookT tab)) (hL : Lasting G) (h0 : EntOk Tryd.prog G (f27_e k)) (h1 : EntOk Tryd.prog G (f13_e k)) (h2 : EntOk Tryd.prog G (f15_e k)) (h3 : EntOk Tryd.prog G (f28_e k)) (h4 : EntOk Tryd.prog G (f53_e k)) : EntOk Tryd.prog G (f22_e k) := by
  have hE : EnvSound Tryd.prog G (f22_env k) := envOf_sound (ents_cons h0 (ents_cons h1 (ents_cons h2 (ents_cons h3 (ents_cons h4 (ents_nil))))))
  exact ent_ok (subs := [f22_b16 k]) hT hE (envOf_nat _) hMix hL (subs_cons (f22_n8 k) (f22_b16_ok k hT hL hE) (subs_nil _ _ _)) (f22_e k) Tryd.func22 f22_y f22_z (f22_x k)
theorem f22_all (k : Nat) : EntOk Tryd.prog (fun w => w.ShapedOpen Tryd.prog) (f22_e k) := f22_ok k hTab (lasting_shaped _) (f27_all k) (f13_all k) (f15_all k) (f28_all k) (f53_all k)

def f18_s10 (k : Nat) (t0 : (List (ByteArray × ByteArray × Unit))) (t4 : ByteArray) (t5 : Int) : Option (((List (ByteArray × ByteArray × Unit)) × ByteArray × Int × Unit) ⊕ (ByteArray × Unit)) :=
  bif (decide (t5 < (lLen t0))) then (bif (decide (t5 > 0)) then (roomK (t4.size + (⟨#[44]⟩ : ByteArray).size) 9223372036854775807 (rangeK t5 (lLen t0) (roomK ((t4 ++ (⟨#[44]⟩ : ByteArray)).size + ((lAt (.agg (.pair .str (.pair .str .unit))) t0 t5).1).size) 9223372036854775807 (roomK (((t4 ++ (⟨#[44]⟩ : ByteArray)) ++ ((lAt (.agg (.pair .str (.pair .str .unit))) t0 t5).1)).size + (⟨#[61]⟩ : ByteArray).size) 9223372036854775807 (rangeK t5 (lLen t0) (roomK ((((t4 ++ (⟨#[44]⟩ : ByteArray)) ++ ((lAt (.agg (.pair .str (.pair .str .unit))) t0 t5).1)) ++ (⟨#[61]⟩ : ByteArray)).size + ((lAt (.agg (.pair .str (.pair .str .unit))) t0 t5).2.1).size) 9223372036854775807 (some (.inl (t0, ((((t4 ++ (⟨#[44]⟩ : ByteArray)) ++ ((lAt (.agg (.pair .str (.pair .str .unit))) t0 t5).1)) ++ (⟨#[61]⟩ : ByteArray)) ++ ((lAt (.agg (.pair .str (.pair .str .unit))) t0 t5).2.1)), (w64 (t5 + 1)), ()))))))))) else (rangeK t5 (lLen t0) (roomK (t4.size + ((lAt (.agg (.pair .str (.pair .str .unit))) t0 t5).1).size) 9223372036854775807 (roomK ((t4 ++ ((lAt (.agg (.pair .str (.pair .str .unit))) t0 t5).1)).size + (⟨#[61]⟩ : ByteArray).size) 9223372036854775807 (rangeK t5 (lLen t0) (roomK (((t4 ++ ((lAt (.agg (.pair .str (.pair .str .unit))) t0 t5).1)) ++ (⟨#[61]⟩ : ByteArray)).size + ((lAt (.agg (.pair .str (.pair .str .unit))) t0 t5).2.1).size) 9223372036854775807 (some (.inl (t0, (((t4 ++ ((lAt (.agg (.pair .str (.pair .str .unit))) t0 t5).1)) ++ (⟨#[61]⟩ : ByteArray)) ++ ((lAt (.agg (.pair .str (.pair .str .unit))) t0 t5).2.1)), (w64 (t5 + 1)), ()))))))))) else (some (.inr (t4, ())))
def f18_s10_u (k : Nat) (v : ((List (ByteArray × ByteArray × Unit)) × ByteArray × Int × Unit)) : Option (((List (ByteArray × ByteArray × Unit)) × ByteArray × Int × Unit) ⊕ (ByteArray × Unit)) := f18_s10 k v.1 v.2.1 v.2.2.1
def f18_l10 (k : Nat) (t0 : (List (ByteArray × ByteArray × Unit))) (t4 : ByteArray) (t5 : Int) : Option (ByteArray × Unit) := iter (f18_s10_u k) k (t0, t4, t5, ())
def f18 (k : Nat) (a0 : (List (ByteArray × ByteArray × Unit))) : Option (ByteArray × Int) :=
  (f27 k a0).bind fun r1 => (bif (!r1) then (some (sNil, 4)) else ((f18_l10 k a0 sNil 0).bind fun o2 => (some (o2.1, 0))))
def f18_e (k : Nat) : Ent := { f := 18, inp := [.data (.list (.agg (.pair .str (.pair .str .unit))))], out := [.data .str, .data (.int .i64)], run := fun v => f18 k v.1 }
def f18_env (k : Nat) : Env := envOf [f27_e k]
def f18_b10 (k : Nat) : Sub := { key := 10, inp := ⟨[.data (.list (.agg (.pair .str (.pair .str .unit)))), .dead, .dead, .dead, .data .str, .data (.int .i64), .dead, .dead, .dead, .dead, .dead, .dead, .dead, .dead, .dead, .dead, .dead, .dead, .dead, .dead, .dead, .dead, .dead, .dead, .dead, .dead, .dead, .dead, .dead, .dead, .dead, .dead, .dead, .dead], [], [], []⟩, ways := [⟨.x 0, ⟨[.dead, .dead, .dead, .dead, .data .str, .dead, .dead, .dead, .dead, .dead, .dead, .dead, .dead, .dead, .dead, .dead, .dead, .dead, .dead, .dead, .dead, .dead, .dead, .dead, .dead, .dead, .dead, .dead, .dead, .dead, .dead, .dead, .dead, .dead], [], [], []⟩⟩], run := fun v => iter (f18_s10_u k) k v }
theorem f18_b10_x (k : Nat) (v : ((List (ByteArray × ByteArray × Unit)) × ByteArray × Int × Unit)) : exec (lookT tab) (f18_env k) [] (loopAt 10 (bodyOf Tryd.f18)) (mkSt (f18_b10 k).inp v) (loopKs (f18_b10 k).inp (f18_b10 k).ways) = f18_s10_u k v := by kernel_rfl
theorem f18_b10_ok (k : Nat) (hT : TTOk Tryd.prog (lookT tab)) (hL : Lasting G) (hE : EnvSound Tryd.prog G (f18_env k)) : SubSound Tryd.prog G (f18_b10 k) (.loop (loopAt 10 (bodyOf Tryd.f18))) :=
  sub_loop (subs := []) hT hE (envOf_nat _) hMix hL (subs_nil _ _ _) (f18_s10_u k) k (fun _ => rfl) (fun v o h => (f18_b10_x k v).trans h)
theorem f18_x (k : Nat) (v : argsC (f18_e k).inp) : fexec (lookT tab) (f18_env k) [f18_b10 k] Tryd.f18 (bodyOf Tryd.f18) (mkArgs (f18_e k).inp v) (fun rs => getRes (f18_e k).out rs some) = (f18_e k).run v := by kernel_rfl
theorem f18_y : Tryd.f18.body = some (bodyOf Tryd.f18) := by kernel_rfl
theorem f18_z : (Tryd.f18.name == "runtime.NumGoroutine") = false := by kernel_rfl
theorem f18_n3 (k : Nat) : nodesAt (f18_b10 k).key (bodyOf Tryd.f18) = [(.loop (loopAt 10 (bodyOf Tryd.f18)))] := by kernel_rfl
theorem f18_ok (k : Nat) (hT : TTOk Tryd.prog (lookT tab)) (hL : Lasting G) (h0 : EntOk Tryd.prog G (f27_e k)) : EntOk Tryd.prog G (f18_e k) := by
  have hE : EnvSound Tryd.prog G (f18_env k) := envOf_sound (ents_cons h0 (ents_nil))
  exact ent_ok (subs := [f18_b10 k]) hT hE (envOf_nat _) hMix hL (subs_cons (f18_n3 k) (f18_b10_ok k hT hL hE) (subs_nil _ _ _)) (f18_e k) Tryd.func18 f18_y f18_z (f18_x k)
theorem f18_all (k : Nat) : EntOk Tryd.prog (fun w => w.ShapedOpen Tryd.prog) (f18_e k) := f18_ok k hTab (lasting_shaped _) (f27_all k)

def f19_s10 (k : Nat) (t13 : (List ByteArray)) (t14 : Int) (t15 : Int) (h0 : (List (ByteArray × ByteArray × Unit))) : Option (((List ByteArray) × Int × Int × (List (ByteArray × ByteArray × Unit)) × Unit) ⊕ (((List (ByteArray × ByteArray × Unit)) × Int × Unit) ⊕ ((List (ByteArray × ByteArray × Unit)) × Unit))) :=
  bif (decide (t15 < t14)) then (rangeK t15 (lLen t13) ((f49 k (lAt .str t13 t15) (⟨#[61]⟩ : ByteArray)).bind fun r5 => (bif (!r5.2.2) then (some (.inr (.inl ([], 4, ())))) else (bif (decide ((lLen h0) ≥ 16)) then (some (.inr (.inl ([], 4, ())))) else (roomK (h0.length + [(r5.1, r5.2.1, ())].length) most (some (.inl (t13, t14, (w64 (t15 + 1)), (h0 ++ [(r5.1, r5.2.1, ())]), ())))))))) else (some (.inr (.inr (h0, ()))))
def f19_s10_u (k : Nat) (v : ((List ByteArray) × Int × Int × (List (ByteArray × ByteArray × Unit)) × Unit)) : Option (((List ByteArray) × Int × Int × (List (ByteArray × ByteArray × Unit)) × Unit) ⊕ (((List (ByteArray × ByteArray × Unit)) × Int × Unit) ⊕ ((List (ByteArray × ByteArray × Unit)) × Unit))) := f19_s10 k v.1 v.2.1 v.2.2.1 v.2.2.2.1
def f19_l10 (k : Nat) (t13 : (List ByteArray)) (t14 : Int) (t15 : Int) (h0 : (List (ByteArray × ByteArray × Unit))) : Option (((List (ByteArray × ByteArray × Unit)) × Int × Unit) ⊕ ((List (ByteArray × ByteArray × Unit)) × Unit)) := iter (f19_s10_u k) k (t13, t14, t15, h0, ())
def f19 (k : Nat) (a0 : ByteArray) : Option ((List (ByteArray × ByteArray × Unit)) × Int) :=
  bif (sEq a0 sNil) then (some ([], 0)) else ((f48 k a0 (⟨#[44]⟩ : ByteArray)).bind fun r1 => ((f19_l10 k r1 (lLen r1) 0 []).bind fun o6 => (match o6 with | .inl o6' => (some (o6'.1, o6'.2.1)) | .inr o6' => ((f26 k (o6'.1)).bind fun r7 => (bif (!r7) then (some ([], 4)) else (some (o6'.1, 0)))))))
def f19_e (k : Nat) : Ent := { f := 19, inp := [.data .str], out := [.data (.list (.agg (.pair .str (.pair .str .unit)))), .data (.int .i64)], run := fun v => f19 k v.1 }
def f19_env (k : Nat) : Env := envOf [f48_e k, f49_e k, f26_e k]
def f19_b10 (k : Nat) : Sub := { key := 10, inp := ⟨[.dead, .dead, .dead, .dead, .osl 0, .dead, .dead, .dead, .dead, .dead, .dead, .dead, .dead, .data (.list .str), .data (.int .i64), .data (.int .i64), .dead, .dead, .dead, .dead, .dead, .dead, .dead, .dead, .dead, .dead, .dead, .dead, .dead, .dead, .dead, .dead, .dead, .dead, .dead, .dead, .dead, .dead, .dead, .dead, .dead, .dead, .dead], [.row (.agg (.pair .str (.pair .str .unit)))], [(4, (.agg (.pair .str (.pair .str .unit))))], []⟩, ways := [⟨.ret, ⟨[.dead, .dead, .data (.list (.agg (.pair .str (.pair .str .unit)))), .data (.int .i64), .dead, .dead, .dead, .dead, .dead, .dead, .dead, .dead, .dead, .dead, .dead, .dead, .dead, .dead, .dead, .dead, .dead, .dead, .dead, .dead, .dead, .dead, .dead, .dead, .dead, .dead, .dead, .dead, .dead, .dead, .dead, .dead, .dead, .dead, .dead, .dead, .dead, .dead, .dead], [], [], [(2, (.agg (.pair .str (.pair .str .unit))))]⟩⟩, ⟨.x 0, ⟨[.dead, .dead, .dead, .dead, .osl 0, .dead, .dead, .dead, .dead, .dead, .dead, .dead, .dead, .dead, .dead, .dead, .dead, .dead, .dead, .dead, .dead, .dead, .dead, .dead, .dead, .dead, .dead, .dead, .dead, .dead, .dead, .dead, .dead, .dead, .dead, .dead, .dead, .dead, .dead, .dead, .dead, .dead, .dead], [.row (.agg (.pair .str (.pair .str .unit)))], [], []⟩⟩], run := fun v => iter (f19_s10_u k) k v }
theorem f19_b10_x (k : Nat) (v : ((List ByteArray) × Int × Int × (List (ByteArray × ByteArray × Unit)) × Unit)) : exec (lookT tab) (f19_env k) [] (loopAt 10 (bodyOf Tryd.f19)) (mkSt (f19_b10 k).inp v) (loopKs (f19_b10 k).inp (f19_b10 k).ways) = f19_s10_u k v := by kernel_rfl
theorem f19_b10_ok (k : Nat) (hT : TTOk Tryd.prog (lookT tab)) (hL : Lasting G) (hE : EnvSound Tryd.prog G (f19_env k)) : SubSound Tryd.prog G (f19_b10 k) (.loop (loopAt 10 (bodyOf Tryd.f19))) :=
  sub_loop (subs := []) hT hE (envOf_nat _) hMix hL (subs_nil _ _ _) (f19_s10_u k) k (fun _ => rfl) (fun v o h => (f19_b10_x k v).trans h)
theorem f19_x (k : Nat) (v : argsC (f19_e k).inp) : fexec (lookT tab) (f19_env k) [f19_b10 k] Tryd.f19 (bodyOf Tryd.f19) (mkArgs (f19_e k).inp v) (fun rs => getRes (f19_e k).out rs some) = (f19_e k).run v := by kernel_rfl
theorem f19_y : Tryd.f19.body = some (bodyOf Tryd.f19) := by kernel_rfl
theorem f19_z : (Tryd.f19.name == "runtime.NumGoroutine") = false := by kernel_rfl
theorem f19_n8 (k : Nat) : nodesAt (f19_b10 k).key (bodyOf Tryd.f19) = [(.loop (loopAt 10 (bodyOf Tryd.f19)))] := by kernel_rfl
theorem f19_ok (k : Nat) (hT : TTOk Tryd.prog (lookT tab)) (hL : Lasting G) (h0 : EntOk Tryd.prog G (f48_e k)) (h1 : EntOk Tryd.prog G (f49_e k)) (h2 : EntOk Tryd.prog G (f26_e k)) : EntOk Tryd.prog G (f19_e k) := by
  have hE : EnvSound Tryd.prog G (f19_env k) := envOf_sound (ents_cons h0 (ents_cons h1 (ents_cons h2 (ents_nil))))
  exact ent_ok (subs := [f19_b10 k]) hT hE (envOf_nat _) hMix hL (subs_cons (f19_n8 k) (f19_b10_ok k hT hL hE) (subs_nil _ _ _)) (f19_e k) Tryd.func19 f19_y f19_z (f19_x k)
theorem f19_all (k : Nat) : EntOk Tryd.prog (fun w => w.ShapedOpen Tryd.prog) (f19_e k) := f19_ok k hTab (lasting_shaped _) (f48_all k) (f49_all k) (f26_all k)

def f9 (k : Nat) : Option Bool :=
  (f19 k (⟨#[97, 112, 112, 61, 119, 101, 98, 44, 122, 111, 110, 101, 61, 97]⟩ : ByteArray)).bind fun r1 => ((f24 k r1.1 (⟨#[122, 111, 110, 101]⟩ : ByteArray)).bind fun r2 => (bif (r1.2 == 0) then (bif ((lLen r1.1) == 2) then (bif (sEq r2.1 (⟨#[97]⟩ : ByteArray)) then (some r2.2) else (some false)) else (some false)) else (some false)))
def f9_e (k : Nat) : Ent := { f := 9, inp := [], out := [.data .bool], run := fun v => f9 k  }
def f9_env (k : Nat) : Env := envOf [f19_e k, f24_e k]
theorem f9_x (k : Nat) (v : argsC (f9_e k).inp) : fexec (lookT tab) (f9_env k) [] Tryd.f9 (bodyOf Tryd.f9) (mkArgs (f9_e k).inp v) (fun rs => getRes (f9_e k).out rs some) = (f9_e k).run v := by kernel_rfl
theorem f9_y : Tryd.f9.body = some (bodyOf Tryd.f9) := by kernel_rfl
theorem f9_z : (Tryd.f9.name == "runtime.NumGoroutine") = false := by kernel_rfl
theorem f9_ok (k : Nat) (hT : TTOk Tryd.prog (lookT tab)) (hL : Lasting G) (h0 : EntOk Tryd.prog G (f19_e k)) (h1 : EntOk Tryd.prog G (f24_e k)) : EntOk Tryd.prog G (f9_e k) := by
  have hE : EnvSound Tryd.prog G (f9_env k) := envOf_sound (ents_cons h0 (ents_cons h1 (ents_nil)))
  exact ent_ok (subs := []) hT hE (envOf_nat _) hMix hL (subs_nil _ _ _) (f9_e k) Tryd.func9 f9_y f9_z (f9_x k)
theorem f9_all (k : Nat) : EntOk Tryd.prog (fun w => w.ShapedOpen Tryd.prog) (f9_e k) := f9_ok k hTab (lasting_shaped _) (f19_all k) (f24_all k)

def f3 (k : Nat) (a0 : ByteArray) : Option Bool :=
  (f9 k).bind fun r1 => (bif (!r1) then (some false) else (bif (decide ((sLen a0) > 1000)) then (some true) else ((f10 k a0).bind fun r2 => ((f11 k a0).bind fun r3 => (bif (r2 == r3) then ((f12 k a0).bind fun r4 => ((f13 k a0).bind fun r5 => (bif (r4 == r5) then ((f14 k a0).bind fun r6 => ((f15 k a0 false).bind fun r7 => (some (r6 == r7)))) else (some false)))) else (some false))))))
def f3_e (k : Nat) : Ent := { f := 3, inp := [.data .str], out := [.data .bool], run := fun v => f3 k v.1 }
def f3_env (k : Nat) : Env := envOf [f9_e k, f10_e k, f11_e k, f12_e k, f13_e k, f14_e k, f15_e k]
theorem f3_x (k : Nat) (v : argsC (f3_e k).inp) : fexec (lookT tab) (f3_env k) [] Tryd.f3 (bodyOf Tryd.f3) (mkArgs (f3_e k).inp v) (fun rs => getRes (f3_e k).out rs some) = (f3_e k).run v := by kernel_rfl
theorem f3_y : Tryd.f3.body = some (bodyOf Tryd.f3) := by kernel_rfl
theorem f3_z : (Tryd.f3.name == "runtime.NumGoroutine") = false := by kernel_rfl
theorem f3_ok (k : Nat) (hT : TTOk Tryd.prog (lookT tab)) (hL : Lasting G) (h0 : EntOk Tryd.prog G (f9_e k)) (h1 : EntOk Tryd.prog G (f10_e k)) (h2 : EntOk Tryd.prog G (f11_e k)) (h3 : EntOk Tryd.prog G (f12_e k)) (h4 : EntOk Tryd.prog G (f13_e k)) (h5 : EntOk Tryd.prog G (f14_e k)) (h6 : EntOk Tryd.prog G (f15_e k)) : EntOk Tryd.prog G (f3_e k) := by
  have hE : EnvSound Tryd.prog G (f3_env k) := envOf_sound (ents_cons h0 (ents_cons h1 (ents_cons h2 (ents_cons h3 (ents_cons h4 (ents_cons h5 (ents_cons h6 (ents_nil))))))))
  exact ent_ok (subs := []) hT hE (envOf_nat _) hMix hL (subs_nil _ _ _) (f3_e k) Tryd.func3 f3_y f3_z (f3_x k)
theorem f3_all (k : Nat) : EntOk Tryd.prog (fun w => w.ShapedOpen Tryd.prog) (f3_e k) := f3_ok k hTab (lasting_shaped _) (f9_all k) (f10_all k) (f11_all k) (f12_all k) (f13_all k) (f14_all k) (f15_all k)

end Go.Proofs.YtjbaeojagkkbgaaDoor
