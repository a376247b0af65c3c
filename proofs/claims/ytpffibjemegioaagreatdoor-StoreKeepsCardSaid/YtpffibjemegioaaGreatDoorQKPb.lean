/-
  The code of the program does what the plain functions say: the second part.
-/
import Derived.Test.YtpffibjemegioaaGreatDoorQKPlain
import Derived.Test.YtpffibjemegioaaGreatDoorQKTab
set_option linter.unusedVariables false
namespace Go.Proofs.YtpffibjemegioaaGreatDoor
open Go Go.RowKit Go.PB
variable {G : Gv}
def f246p_env (k : Nat) : Env := envOf [f288_e k]
theorem f246p_x (k : Nat) : XX (lookT tab) (f246p_env k) [] Tryz.f246 (f246p_e k) := by intro v; kernel_rfl
theorem f246p_ok (k : Nat) (hL : Lasting G) (h0 : EO G (f288_e k)) : EO G (f246p_e k) := by
  have hE : ES G (f246p_env k) := envOf_sound (ents_cons h0 (ents_nil))
  exact ent_ok (subs := []) hTab hE (envOf_nat _) hMix hL (subs_nil _ _ _) (f246p_e k) Tryz.func246 (by kernel_rfl) (by kernel_rfl) (f246p_x k)
def f39_env (k : Nat) : Env := envOf []
theorem f39_x (k : Nat) : XX (lookT tab) (f39_env k) [] Tryz.f39 (f39_e k) := by intro v; kernel_rfl
theorem f39_ok (k : Nat) (hL : Lasting G) : EO G (f39_e k) := by
  have hE : ES G (f39_env k) := envOf_sound (ents_nil)
  exact ent_ok (subs := []) hTab hE (envOf_nat _) hMix hL (subs_nil _ _ _) (f39_e k) Tryz.func39 (by kernel_rfl) (by kernel_rfl) (f39_x k)
def f61_env (k : Nat) : Env := envOf []
def f61_b8 (k : Nat) : Sub := { key := 8, inp := ⟨(.data (.list (.int .i64)) :: (.data (.list (.int .i64)) :: (dd 10 (.data (.int .i64) :: (.data (.int .i64) :: (dd 12 [])))))), [], [], []⟩, ways := [⟨.ret, ⟨(dd 4 (.data .bool :: (dd 21 []))), [], [], []⟩⟩, ⟨.x 0, ⟨(dd 26 []), [], [], []⟩⟩], run := fun v => iter (f61_s8_u k) k v }
theorem f61_b8_x (k : Nat) : LX (lookT tab) (f61_env k) [] (bodyOf Tryz.f61) (f61_b8 k) (f61_s8_u k) := by intro v; kernel_rfl
theorem f61_b8_ok (k : Nat) (hL : Lasting G) (hE : ES G (f61_env k)) : SO G (f61_b8 k) (.loop (loopAt 8 (bodyOf Tryz.f61))) :=
  sub_loop (subs := []) hTab hE (envOf_nat _) hMix hL (subs_nil _ _ _) (f61_s8_u k) k (fun _ => rfl) (fun v o h => (f61_b8_x k v).trans h) (by kernel_rfl)
theorem f61_x (k : Nat) : XX (lookT tab) (f61_env k) [f61_b8 k] Tryz.f61 (f61_e k) := by intro v; kernel_rfl
theorem f61_ok (k : Nat) (hL : Lasting G) : EO G (f61_e k) := by
  have hE : ES G (f61_env k) := envOf_sound (ents_nil)
  exact ent_ok (subs := [f61_b8 k]) hTab hE (envOf_nat _) hMix hL (subs_cons (by kernel_rfl) (f61_b8_ok k hL hE) (subs_nil _ _ _)) (f61_e k) Tryz.func61 (by kernel_rfl) (by kernel_rfl) (f61_x k)
def f40_env (k : Nat) : Env := envOf []
theorem f40_x (k : Nat) : XX (lookT tab) (f40_env k) [] Tryz.f40 (f40_e k) := by intro v; kernel_rfl
theorem f40_ok (k : Nat) (hL : Lasting G) : EO G (f40_e k) := by
  have hE : ES G (f40_env k) := envOf_sound (ents_nil)
  exact ent_ok (subs := []) hTab hE (envOf_nat _) hMix hL (subs_nil _ _ _) (f40_e k) Tryz.func40 (by kernel_rfl) (by kernel_rfl) (f40_x k)
def f134_env (k : Nat) : Env := envOf [f93_e k]
def f134_b4 (k : Nat) : Sub := { key := 4, inp := ⟨(.data (.list .str) :: (.fn 93 :: (dd 5 (.data (.int .i64) :: (.data (.int .i64) :: (dd 10 [])))))), [], [], []⟩, ways := [⟨.ret, ⟨(dd 4 (.data (.int .i64) :: (dd 14 []))), [], [], []⟩⟩, ⟨.x 0, ⟨(dd 19 []), [], [], []⟩⟩], run := fun v => iter (f134_s4_u k) k v }
theorem f134_b4_x (k : Nat) : LX (lookT tab) (f134_env k) [] (bodyOf Tryz.f134) (f134_b4 k) (f134_s4_u k) := by intro v; kernel_rfl
theorem f134_b4_ok (k : Nat) (hL : Lasting G) (hE : ES G (f134_env k)) : SO G (f134_b4 k) (.loop (loopAt 4 (bodyOf Tryz.f134))) :=
  sub_loop (subs := []) hTab hE (envOf_nat _) hMix hL (subs_nil _ _ _) (f134_s4_u k) k (fun _ => rfl) (fun v o h => (f134_b4_x k v).trans h) (by kernel_rfl)
theorem f134_x (k : Nat) : XX (lookT tab) (f134_env k) [f134_b4 k] Tryz.f134 (f134_e k) := by intro v; kernel_rfl
theorem f134_ok (k : Nat) (hL : Lasting G) (h0 : EO G (f93_e k)) : EO G (f134_e k) := by
  have hE : ES G (f134_env k) := envOf_sound (ents_cons h0 (ents_nil))
  exact ent_ok (subs := [f134_b4 k]) hTab hE (envOf_nat _) hMix hL (subs_cons (by kernel_rfl) (f134_b4_ok k hL hE) (subs_nil _ _ _)) (f134_e k) Tryz.func134 (by kernel_rfl) (by kernel_rfl) (f134_x k)
def f42_env (k : Nat) : Env := envOf [f94_e k]
theorem f42_x (k : Nat) : XX (lookT tab) (f42_env k) [] Tryz.f42 (f42_e k) := by intro v; kernel_rfl
theorem f42_ok (k : Nat) (hL : Lasting G) (h0 : EO G (f94_e k)) : EO G (f42_e k) := by
  have hE : ES G (f42_env k) := envOf_sound (ents_cons h0 (ents_nil))
  exact ent_ok (subs := []) hTab hE (envOf_nat _) hMix hL (subs_nil _ _ _) (f42_e k) Tryz.func42 (by kernel_rfl) (by kernel_rfl) (f42_x k)
def f136_env (k : Nat) : Env := envOf []
def f136_b4 (k : Nat) : Sub := { key := 4, inp := ⟨(.dead :: (.data (.int .i32) :: (dd 6 (.iter 0 :: (dd 6 []))))), [.iter], [], []⟩, ways := [⟨.ret, ⟨(dd 4 (.data .bool :: (dd 10 []))), [], [], []⟩⟩, ⟨.x 0, ⟨(dd 15 []), [], [], []⟩⟩], run := fun v => iter (f136_s4_u k) k v }
theorem f136_b4_x (k : Nat) : LX (lookT tab) (f136_env k) [] (bodyOf Tryz.f136) (f136_b4 k) (f136_s4_u k) := by intro v; kernel_rfl
theorem f136_b4_ok (k : Nat) (hL : Lasting G) (hE : ES G (f136_env k)) : SO G (f136_b4 k) (.loop (loopAt 4 (bodyOf Tryz.f136))) :=
  sub_loop (subs := []) hTab hE (envOf_nat _) hMix hL (subs_nil _ _ _) (f136_s4_u k) k (fun _ => rfl) (fun v o h => (f136_b4_x k v).trans h) (by kernel_rfl)
theorem f136_x (k : Nat) : XX (lookT tab) (f136_env k) [f136_b4 k] Tryz.f136 (f136_e k) := by intro v; kernel_rfl
theorem f136_ok (k : Nat) (hL : Lasting G) : EO G (f136_e k) := by
  have hE : ES G (f136_env k) := envOf_sound (ents_nil)
  exact ent_ok (subs := [f136_b4 k]) hTab hE (envOf_nat _) hMix hL (subs_cons (by kernel_rfl) (f136_b4_ok k hL hE) (subs_nil _ _ _)) (f136_e k) Tryz.func136 (by kernel_rfl) (by kernel_rfl) (f136_x k)
def f96a_env (k : Nat) : Env := envOf [f137_e k, f136_e k]
def f96a_b8 (k : Nat) : Sub := { key := 8, inp := ⟨(.data .str :: (.fn 137 :: (.data .str :: (dd 11 (.iter 0 :: (dd 26 [])))))), [.iter], [], []⟩, ways := [⟨.ret, ⟨(dd 6 (.data .bool :: (dd 34 []))), [], [], []⟩⟩, ⟨.x 0, ⟨(dd 41 []), [], [], []⟩⟩], run := fun v => iter (f96a_s8_u k) k v }
theorem f96a_b8_x (k : Nat) : LX (lookT tab) (f96a_env k) [] (bodyOf Tryz.f96) (f96a_b8 k) (f96a_s8_u k) := by intro v; kernel_rfl
theorem f96a_b8_ok (k : Nat) (hL : Lasting G) (hE : ES G (f96a_env k)) : SO G (f96a_b8 k) (.loop (loopAt 8 (bodyOf Tryz.f96))) :=
  sub_loop (subs := []) hTab hE (envOf_nat _) hMix hL (subs_nil _ _ _) (f96a_s8_u k) k (fun _ => rfl) (fun v o h => (f96a_b8_x k v).trans h) (by kernel_rfl)
theorem f96a_x (k : Nat) : XX (lookT tab) (f96a_env k) [f96a_b8 k] Tryz.f96 (f96a_e k) := by intro v; kernel_rfl
theorem f96a_ok (k : Nat) (hL : Lasting G) (h0 : EO G (f137_e k)) (h1 : EO G (f136_e k)) : EO G (f96a_e k) := by
  have hE : ES G (f96a_env k) := envOf_sound (ents_cons h0 (ents_cons h1 (ents_nil)))
  exact ent_ok (subs := [f96a_b8 k]) hTab hE (envOf_nat _) hMix hL (subs_cons (by kernel_rfl) (f96a_b8_ok k hL hE) (subs_nil _ _ _)) (f96a_e k) Tryz.func96 (by kernel_rfl) (by kernel_rfl) (f96a_x k)
def f186_env (k : Nat) : Env := envOf [f143_e k, f246_e k, f183_e k]
def f186_b12 (k : Nat) : Sub := { key := 12, inp := ⟨(dd 5 (.data (.int .u32) :: (dd 9 (.data (.list .str) :: (.data (.int .i64) :: (.data (.int .i64) :: (dd 24 []))))))), [], [], []⟩, ways := [⟨.ret, ⟨(.dead :: (.dead :: (.data (.int .u32) :: (.data .bool :: (dd 38 []))))), [], [], []⟩⟩, ⟨.x 0, ⟨(dd 5 (.data (.int .u32) :: (dd 36 []))), [], [], []⟩⟩], run := fun v => iter (f186_s12_u k) k v }
theorem f186_b12_x (k : Nat) : LX (lookT tab) (f186_env k) [] (bodyOf Tryz.f186) (f186_b12 k) (f186_s12_u k) := by intro v; kernel_rfl
theorem f186_b12_ok (k : Nat) (hL : Lasting G) (hE : ES G (f186_env k)) : SO G (f186_b12 k) (.loop (loopAt 12 (bodyOf Tryz.f186))) :=
  sub_loop (subs := []) hTab hE (envOf_nat _) hMix hL (subs_nil _ _ _) (f186_s12_u k) k (fun _ => rfl) (fun v o h => (f186_b12_x k v).trans h) (by kernel_rfl)
theorem f186_x (k : Nat) : XX (lookT tab) (f186_env k) [f186_b12 k] Tryz.f186 (f186_e k) := by intro v; kernel_rfl
theorem f186_ok (k : Nat) (hL : Lasting G) (h0 : EO G (f143_e k)) (h1 : EO G (f246_e k)) (h2 : EO G (f183_e k)) : EO G (f186_e k) := by
  have hE : ES G (f186_env k) := envOf_sound (ents_cons h0 (ents_cons h1 (ents_cons h2 (ents_nil))))
  exact ent_ok (subs := [f186_b12 k]) hTab hE (envOf_nat _) hMix hL (subs_cons (by kernel_rfl) (f186_b12_ok k hL hE) (subs_nil _ _ _)) (f186_e k) Tryz.func186 (by kernel_rfl) (by kernel_rfl) (f186_x k)
def f251_env (k : Nat) : Env := envOf [f254_e k]
theorem f251_x (k : Nat) : XX (lookT tab) (f251_env k) [] Tryz.f251 (f251_e k) := by intro v; kernel_rfl
theorem f251_ok (k : Nat) (hL : Lasting G) (h0 : EO G (f254_e k)) : EO G (f251_e k) := by
  have hE : ES G (f251_env k) := envOf_sound (ents_cons h0 (ents_nil))
  exact ent_ok (subs := []) hTab hE (envOf_nat _) hMix hL (subs_nil _ _ _) (f251_e k) Tryz.func251 (by kernel_rfl) (by kernel_rfl) (f251_x k)
def f141_env (k : Nat) : Env := envOf [f185_e k, f186_e k, f187_e k, f181_e k, f188_e k, f189_e k]
theorem f141_x (k : Nat) : XX (lookT tab) (f141_env k) [] Tryz.f141 (f141_e k) := by intro v; kernel_rfl
theorem f141_ok (k : Nat) (hL : Lasting G) (h0 : EO G (f185_e k)) (h1 : EO G (f186_e k)) (h2 : EO G (f187_e k)) (h3 : EO G (f181_e k)) (h4 : EO G (f188_e k)) (h5 : EO G (f189_e k)) : EO G (f141_e k) := by
  have hE : ES G (f141_env k) := envOf_sound (ents_cons h0 (ents_cons h1 (ents_cons h2 (ents_cons h3 (ents_cons h4 (ents_cons h5 (ents_nil)))))))
  exact ent_ok (subs := []) hTab hE (envOf_nat _) hMix hL (subs_nil _ _ _) (f141_e k) Tryz.func141 (by kernel_rfl) (by kernel_rfl) (f141_x k)
def f190_env (k : Nat) : Env := envOf [f252_e k, f242_e k]
theorem f190_x (k : Nat) : XX (lookT tab) (f190_env k) [] Tryz.f190 (f190_e k) := by intro v; kernel_rfl
theorem f190_ok (k : Nat) (hL : Lasting G) (h0 : EO G (f252_e k)) (h1 : EO G (f242_e k)) : EO G (f190_e k) := by
  have hE : ES G (f190_env k) := envOf_sound (ents_cons h0 (ents_cons h1 (ents_nil)))
  exact ent_ok (subs := []) hTab hE (envOf_nat _) hMix hL (subs_nil _ _ _) (f190_e k) Tryz.func190 (by kernel_rfl) (by kernel_rfl) (f190_x k)
def f287_env (k : Nat) : Env := envOf [f311_e k, f251_e k]
theorem f287_x (k : Nat) : XX (lookT tab) (f287_env k) [] Tryz.f287 (f287_e k) := by intro v; kernel_rfl
theorem f287_ok (k : Nat) (hL : Lasting G) (h0 : EO G (f311_e k)) (h1 : EO G (f251_e k)) : EO G (f287_e k) := by
  have hE : ES G (f287_env k) := envOf_sound (ents_cons h0 (ents_cons h1 (ents_nil)))
  exact ent_ok (subs := []) hTab hE (envOf_nat _) hMix hL (subs_nil _ _ _) (f287_e k) Tryz.func287 (by kernel_rfl) (by kernel_rfl) (f287_x k)
def f243_env (k : Nat) : Env := envOf []
theorem f243_x (k : Nat) : XX (lookT tab) (f243_env k) [] Tryz.f243 (f243_e k) := by intro v; kernel_rfl
theorem f243_ok (k : Nat) (hL : Lasting G) : EO G (f243_e k) := by
  have hE : ES G (f243_env k) := envOf_sound (ents_nil)
  exact ent_ok (subs := []) hTab hE (envOf_nat _) hMix hL (subs_nil _ _ _) (f243_e k) Tryz.func243 (by kernel_rfl) (by kernel_rfl) (f243_x k)
def f138_env (k : Nat) : Env := envOf [f181_e k, f141_e k, f182_e k, f183_e k, f184_e k]
theorem f138_x (k : Nat) : XX (lookT tab) (f138_env k) [] Tryz.f138 (f138_e k) := by intro v; kernel_rfl
theorem f138_ok (k : Nat) (hL : Lasting G) (h0 : EO G (f181_e k)) (h1 : EO G (f141_e k)) (h2 : EO G (f182_e k)) (h3 : EO G (f183_e k)) (h4 : EO G (f184_e k)) : EO G (f138_e k) := by
  have hE : ES G (f138_env k) := envOf_sound (ents_cons h0 (ents_cons h1 (ents_cons h2 (ents_cons h3 (ents_cons h4 (ents_nil))))))
  exact ent_ok (subs := []) hTab hE (envOf_nat _) hMix hL (subs_nil _ _ _) (f138_e k) Tryz.func138 (by kernel_rfl) (by kernel_rfl) (f138_x k)
def f192_env (k : Nat) : Env := envOf [f254_e k]
def f192_b6 (k : Nat) : Sub := { key := 6, inp := ⟨(.dead :: (.ptr 0 [] :: (.ptr 1 [] :: (.ptr 2 [] :: (.dead :: (.data (.int .i64) :: (dd 15 []))))))), [.box (.agg (.pair .bool (.pair (.agg (.pair (.int .u64) (.pair (.int .u64) .unit))) .unit))), .box (.arr 8 (.int .u16)), .box (.arr 8 (.int .u16))], [], []⟩, ways := [⟨.x 0, ⟨(.dead :: (.dead :: (.ptr 1 [] :: (.ptr 2 [] :: (dd 17 []))))), [.none, .box (.arr 8 (.int .u16)), .box (.arr 8 (.int .u16))], [], []⟩⟩], run := fun v => iter (f192_s6_u k) k v }
theorem f192_b6_x (k : Nat) : LX (lookT tab) (f192_env k) [] (bodyOf Tryz.f192) (f192_b6 k) (f192_s6_u k) := by intro v; kernel_rfl
theorem f192_b6_ok (k : Nat) (hL : Lasting G) (hE : ES G (f192_env k)) : SO G (f192_b6 k) (.loop (loopAt 6 (bodyOf Tryz.f192))) :=
  sub_loop (subs := []) hTab hE (envOf_nat _) hMix hL (subs_nil _ _ _) (f192_s6_u k) k (fun _ => rfl) (fun v o h => (f192_b6_x k v).trans h) (by kernel_rfl)
theorem f192_x (k : Nat) : XX (lookT tab) (f192_env k) [f192_b6 k] Tryz.f192 (f192_e k) := by intro v; kernel_rfl
theorem f192_ok (k : Nat) (hL : Lasting G) (h0 : EO G (f254_e k)) : EO G (f192_e k) := by
  have hE : ES G (f192_env k) := envOf_sound (ents_cons h0 (ents_nil))
  exact ent_ok (subs := [f192_b6 k]) hTab hE (envOf_nat _) hMix hL (subs_cons (by kernel_rfl) (f192_b6_ok k hL hE) (subs_nil _ _ _)) (f192_e k) Tryz.func192 (by kernel_rfl) (by kernel_rfl) (f192_x k)
def f323_env (k : Nat) : Env := envOf [f327_e k]
theorem f323_x (k : Nat) : XX (lookT tab) (f323_env k) [] Tryz.f323 (f323_e k) := by intro v; kernel_rfl
theorem f323_ok (k : Nat) (hL : Lasting G) (h0 : EO G (f327_e k)) : EO G (f323_e k) := by
  have hE : ES G (f323_env k) := envOf_sound (ents_cons h0 (ents_nil))
  exact ent_ok (subs := []) hTab hE (envOf_nat _) hMix hL (subs_nil _ _ _) (f323_e k) Tryz.func323 (by kernel_rfl) (by kernel_rfl) (f323_x k)
def f289_env (k : Nat) : Env := envOf [f307_e k, f310_e k]
theorem f289_x (k : Nat) : XX (lookT tab) (f289_env k) [] Tryz.f289 (f289_e k) := by intro v; kernel_rfl
theorem f289_ok (k : Nat) (hL : Lasting G) (h0 : EO G (f307_e k)) (h1 : EO G (f310_e k)) : EO G (f289_e k) := by
  have hE : ES G (f289_env k) := envOf_sound (ents_cons h0 (ents_cons h1 (ents_nil)))
  exact ent_ok (subs := []) hTab hE (envOf_nat _) hMix hL (subs_nil _ _ _) (f289_e k) Tryz.func289 (by kernel_rfl) (by kernel_rfl) (f289_x k)
def f255_env (k : Nat) : Env := envOf [f289_e k]
theorem f255_x (k : Nat) : XX (lookT tab) (f255_env k) [] Tryz.f255 (f255_e k) := by intro v; kernel_rfl
theorem f255_ok (k : Nat) (hL : Lasting G) (h0 : EO G (f289_e k)) : EO G (f255_e k) := by
  have hE : ES G (f255_env k) := envOf_sound (ents_cons h0 (ents_nil))
  exact ent_ok (subs := []) hTab hE (envOf_nat _) hMix hL (subs_nil _ _ _) (f255_e k) Tryz.func255 (by kernel_rfl) (by kernel_rfl) (f255_x k)
def f142_env (k : Nat) : Env := envOf [f190_e k, f191_e k, f192_e k, f193_e k, f194_e k]
theorem f142_x (k : Nat) : XX (lookT tab) (f142_env k) [] Tryz.f142 (f142_e k) := by intro v; kernel_rfl
theorem f142_ok (k : Nat) (hL : Lasting G) (h0 : EO G (f190_e k)) (h1 : EO G (f191_e k)) (h2 : EO G (f192_e k)) (h3 : EO G (f193_e k)) (h4 : EO G (f194_e k)) : EO G (f142_e k) := by
  have hE : ES G (f142_env k) := envOf_sound (ents_cons h0 (ents_cons h1 (ents_cons h2 (ents_cons h3 (ents_cons h4 (ents_nil))))))
  exact ent_ok (subs := []) hTab hE (envOf_nat _) hMix hL (subs_nil _ _ _) (f142_e k) Tryz.func142 (by kernel_rfl) (by kernel_rfl) (f142_x k)
def f100_env (k : Nat) : Env := envOf [f138_e k, f139_e k]
theorem f100_x (k : Nat) : XX (lookT tab) (f100_env k) [] Tryz.f100 (f100_e k) := by intro v; kernel_rfl
theorem f100_ok (k : Nat) (hL : Lasting G) (h0 : EO G (f138_e k)) (h1 : EO G (f139_e k)) : EO G (f100_e k) := by
  have hE : ES G (f100_env k) := envOf_sound (ents_cons h0 (ents_cons h1 (ents_nil)))
  exact ent_ok (subs := []) hTab hE (envOf_nat _) hMix hL (subs_nil _ _ _) (f100_e k) Tryz.func100 (by kernel_rfl) (by kernel_rfl) (f100_x k)
def f102_env (k : Nat) : Env := envOf [f140_e k]
theorem f102_x (k : Nat) : XX (lookT tab) (f102_env k) [] Tryz.f102 (f102_e k) := by intro v; kernel_rfl
theorem f102_ok (k : Nat) (hL : Lasting G) (h0 : EO G (f140_e k)) : EO G (f102_e k) := by
  have hE : ES G (f102_env k) := envOf_sound (ents_cons h0 (ents_nil))
  exact ent_ok (subs := []) hTab hE (envOf_nat _) hMix hL (subs_nil _ _ _) (f102_e k) Tryz.func102 (by kernel_rfl) (by kernel_rfl) (f102_x k)
def f103_env (k : Nat) : Env := envOf [f141_e k, f142_e k]
theorem f103_x (k : Nat) : XX (lookT tab) (f103_env k) [] Tryz.f103 (f103_e k) := by intro v; kernel_rfl
theorem f103_ok (k : Nat) (hL : Lasting G) (h0 : EO G (f141_e k)) (h1 : EO G (f142_e k)) : EO G (f103_e k) := by
  have hE : ES G (f103_env k) := envOf_sound (ents_cons h0 (ents_cons h1 (ents_nil)))
  exact ent_ok (subs := []) hTab hE (envOf_nat _) hMix hL (subs_nil _ _ _) (f103_e k) Tryz.func103 (by kernel_rfl) (by kernel_rfl) (f103_x k)
def f50_env (k : Nat) : Env := envOf [f40_e k, f102_e k, f103_e k, f101_e k]
def f50_b14 (k : Nat) : Sub := { key := 14, inp := ⟨(.dead :: (.ptr 0 [] :: (dd 49 (.data (.list (.int .i64)) :: (.data (.int .i64) :: (.data (.int .i64) :: (dd 45 []))))))), [.box tO], [], []⟩, ways := [⟨.ret, ⟨(.dead :: (.dead :: (.data .bool :: (dd 96 [])))), [], [], []⟩⟩, ⟨.x 0, ⟨(.dead :: (.ptr 0 [] :: (dd 97 []))), [.box tO], [], []⟩⟩], run := fun v => iter (f50_s14_u k) k v }
def f50_b26 (k : Nat) : Sub := { key := 26, inp := ⟨(.dead :: (.ptr 0 [] :: (dd 72 (.data (.list .str) :: (.data (.int .i64) :: (.data (.int .i64) :: (dd 22 []))))))), [.box tO], [], []⟩, ways := [⟨.ret, ⟨(.dead :: (.dead :: (.data .bool :: (dd 96 [])))), [], [], []⟩⟩, ⟨.x 2, ⟨(dd 99 []), [], [], []⟩⟩], run := fun v => iter (f50_s26_u k) k v }
theorem f50_b14_x (k : Nat) : LX (lookT tab) (f50_env k) [] (bodyOf Tryz.f50) (f50_b14 k) (f50_s14_u k) := by intro v; kernel_rfl
theorem f50_b14_ok (k : Nat) (hL : Lasting G) (hE : ES G (f50_env k)) : SO G (f50_b14 k) (.loop (loopAt 14 (bodyOf Tryz.f50))) :=
  sub_loop (subs := []) hTab hE (envOf_nat _) hMix hL (subs_nil _ _ _) (f50_s14_u k) k (fun _ => rfl) (fun v o h => (f50_b14_x k v).trans h) (by kernel_rfl)
theorem f50_b26_x (k : Nat) : LX (lookT tab) (f50_env k) [] (bodyOf Tryz.f50) (f50_b26 k) (f50_s26_u k) := by intro v; kernel_rfl
theorem f50_b26_ok (k : Nat) (hL : Lasting G) (hE : ES G (f50_env k)) : SO G (f50_b26 k) (.loop (loopAt 26 (bodyOf Tryz.f50))) :=
  sub_loop (subs := []) hTab hE (envOf_nat _) hMix hL (subs_nil _ _ _) (f50_s26_u k) k (fun _ => rfl) (fun v o h => (f50_b26_x k v).trans h) (by kernel_rfl)
theorem f50_x (k : Nat) : XX (lookT tab) (f50_env k) [f50_b26 k, f50_b14 k] Tryz.f50 (f50_e k) := by intro v; kernel_rfl
theorem f50_ok (k : Nat) (hL : Lasting G) (h0 : EO G (f40_e k)) (h1 : EO G (f102_e k)) (h2 : EO G (f103_e k)) (h3 : EO G (f101_e k)) : EO G (f50_e k) := by
  have hE : ES G (f50_env k) := envOf_sound (ents_cons h0 (ents_cons h1 (ents_cons h2 (ents_cons h3 (ents_nil)))))
  exact ent_ok (subs := [f50_b26 k, f50_b14 k]) hTab hE (envOf_nat _) hMix hL (subs_cons (by kernel_rfl) (f50_b26_ok k hL hE) (subs_cons (by kernel_rfl) (f50_b14_ok k hL hE) (subs_nil _ _ _))) (f50_e k) Tryz.func50 (by kernel_rfl) (by kernel_rfl) (f50_x k)
def f146_env (k : Nat) : Env := envOf [f200_e k, f201_e k]
theorem f146_x (k : Nat) : XX (lookT tab) (f146_env k) [] Tryz.f146 (f146_e k) := by intro v; kernel_rfl
theorem f146_ok (k : Nat) (hL : Lasting G) (h0 : EO G (f200_e k)) (h1 : EO G (f201_e k)) : EO G (f146_e k) := by
  have hE : ES G (f146_env k) := envOf_sound (ents_cons h0 (ents_cons h1 (ents_nil)))
  exact ent_ok (subs := []) hTab hE (envOf_nat _) hMix hL (subs_nil _ _ _) (f146_e k) Tryz.func146 (by kernel_rfl) (by kernel_rfl) (f146_x k)
def f51_env (k : Nat) : Env := envOf [f104_e k, f105_e k]
theorem f51_x (k : Nat) : XX (lookT tab) (f51_env k) [] Tryz.f51 (f51_e k) := by intro v; kernel_rfl
theorem f51_ok (k : Nat) (hL : Lasting G) (h0 : EO G (f104_e k)) (h1 : EO G (f105_e k)) : EO G (f51_e k) := by
  have hE : ES G (f51_env k) := envOf_sound (ents_cons h0 (ents_cons h1 (ents_nil)))
  exact ent_ok (subs := []) hTab hE (envOf_nat _) hMix hL (subs_nil _ _ _) (f51_e k) Tryz.func51 (by kernel_rfl) (by kernel_rfl) (f51_x k)
def f77_m : List (Nat × TT) := [(36, (.opt tS)), (94, (.map tK tO)), (96, tS)]
theorem f77_t : TTOk Tryz.prog (lookTM tab f77_m [96]) := lookTM_ok hTabB (by kernel_rfl)
def f77_env (k : Nat) : Env := envOf [f79_e k, f11_e k]
theorem f77_x (k : Nat) : XX (lookTM tab f77_m [96]) (f77_env k) [] Tryz.f77 (f77_e k) := by intro v; kernel_rfl
theorem f77_ok (k : Nat) (hL : Lasting G) (h0 : EO G (f79_e k)) (h1 : EO G (f11_e k)) : EO G (f77_e k) := by
  have hE : ES G (f77_env k) := envOf_sound (ents_cons h0 (ents_cons h1 (ents_nil)))
  exact ent_ok (subs := []) f77_t hE (envOf_nat _) hMix hL (subs_nil _ _ _) (f77_e k) Tryz.func77 (by kernel_rfl) (by kernel_rfl) (f77_x k)
def f115_env (k : Nat) : Env := envOf [f156_e k, f59_e k]
def f115_b4 (k : Nat) : Sub := { key := 4, inp := ⟨(.dead :: (.dead :: (.ptr 0 [] :: (.ptr 1 [] :: (dd 4 (.data (.list .str) :: (.data (.int .i64) :: (.data (.int .i64) :: (dd 58 []))))))))), [.box tO, .box tO], [], []⟩, ways := [⟨.ret, ⟨(dd 4 (.data .bool :: (dd 64 []))), [], [], []⟩⟩, ⟨.x 0, ⟨(.dead :: (.dead :: (.ptr 0 [] :: (.ptr 1 [] :: (dd 65 []))))), [.box tO, .box tO], [], []⟩⟩], run := fun v => iter (f115_s4_u k) k v }
theorem f115_b4_x (k : Nat) : LX (lookT tab) (f115_env k) [] (bodyOf Tryz.f115) (f115_b4 k) (f115_s4_u k) := by intro v; kernel_rfl
theorem f115_b4_ok (k : Nat) (hL : Lasting G) (hE : ES G (f115_env k)) : SO G (f115_b4 k) (.loop (loopAt 4 (bodyOf Tryz.f115))) :=
  sub_loop (subs := []) hTab hE (envOf_nat _) hMix hL (subs_nil _ _ _) (f115_s4_u k) k (fun _ => rfl) (fun v o h => (f115_b4_x k v).trans h) (by kernel_rfl)
theorem f115_x (k : Nat) : XX (lookT tab) (f115_env k) [f115_b4 k] Tryz.f115 (f115_e k) := by intro v; kernel_rfl
theorem f115_ok (k : Nat) (hL : Lasting G) (h0 : EO G (f156_e k)) (h1 : EO G (f59_e k)) : EO G (f115_e k) := by
  have hE : ES G (f115_env k) := envOf_sound (ents_cons h0 (ents_cons h1 (ents_nil)))
  exact ent_ok (subs := [f115_b4 k]) hTab hE (envOf_nat _) hMix hL (subs_cons (by kernel_rfl) (f115_b4_ok k hL hE) (subs_nil _ _ _)) (f115_e k) Tryz.func115 (by kernel_rfl) (by kernel_rfl) (f115_x k)
def f37_env (k : Nat) : Env := envOf []
def f37_b8 (k : Nat) : Sub := { key := 8, inp := ⟨(.data (.list (.agg (.pair .str (.pair .str .unit)))) :: (.dead :: (.dead :: (.data (.int .i64) :: (dd 25 []))))), [], [], []⟩, ways := [⟨.ret, ⟨(.dead :: (.dead :: (.data .bool :: (dd 26 [])))), [], [], []⟩⟩, ⟨.x 0, ⟨(dd 29 []), [], [], []⟩⟩], run := fun v => iter (f37_s8_u k) k v }
theorem f37_b8_x (k : Nat) : LX (lookT tab) (f37_env k) [] (bodyOf Tryz.f37) (f37_b8 k) (f37_s8_u k) := by intro v; kernel_rfl
theorem f37_b8_ok (k : Nat) (hL : Lasting G) (hE : ES G (f37_env k)) : SO G (f37_b8 k) (.loop (loopAt 8 (bodyOf Tryz.f37))) :=
  sub_loop (subs := []) hTab hE (envOf_nat _) hMix hL (subs_nil _ _ _) (f37_s8_u k) k (fun _ => rfl) (fun v o h => (f37_b8_x k v).trans h) (by kernel_rfl)
theorem f37_x (k : Nat) : XX (lookT tab) (f37_env k) [f37_b8 k] Tryz.f37 (f37_e k) := by intro v; kernel_rfl
theorem f37_ok (k : Nat) (hL : Lasting G) : EO G (f37_e k) := by
  have hE : ES G (f37_env k) := envOf_sound (ents_nil)
  exact ent_ok (subs := [f37_b8 k]) hTab hE (envOf_nat _) hMix hL (subs_cons (by kernel_rfl) (f37_b8_ok k hL hE) (subs_nil _ _ _)) (f37_e k) Tryz.func37 (by kernel_rfl) (by kernel_rfl) (f37_x k)
def f20_m : List (Nat × TT) := [(36, (.opt tS)), (94, (.map tK tO)), (96, tS)]
theorem f20_t : TTOk Tryz.prog (lookTM tab f20_m [96]) := lookTM_ok hTabB (by kernel_rfl)
def f20_env (k : Nat) : Env := envOf [f10_e k, f38_e k]
theorem f20_x (k : Nat) : XX (lookTM tab f20_m [96]) (f20_env k) [] Tryz.f20 (f20_e k) := by intro v; kernel_rfl
theorem f20_ok (k : Nat) (hL : Lasting G) (h0 : EO G (f10_e k)) (h1 : EO G (f38_e k)) : EO G (f20_e k) := by
  have hE : ES G (f20_env k) := envOf_sound (ents_cons h0 (ents_cons h1 (ents_nil)))
  exact ent_ok (subs := []) f20_t hE (envOf_nat _) hMix hL (subs_nil _ _ _) (f20_e k) Tryz.func20 (by kernel_rfl) (by kernel_rfl) (f20_x k)
def f22_m : List (Nat × TT) := [(36, (.opt tS)), (94, (.map tK tO)), (96, tS)]
theorem f22_t : TTOk Tryz.prog (lookTM tab f22_m [96]) := lookTM_ok hTabB (by kernel_rfl)
def f22_env (k : Nat) : Env := envOf [f67_e k, f68_e k, f72_e k]
theorem f22_x (k : Nat) : XX (lookTM tab f22_m [96]) (f22_env k) [] Tryz.f22 (f22_e k) := by intro v; kernel_rfl
theorem f22_ok (k : Nat) (hL : Lasting G) (h0 : EO G (f67_e k)) (h1 : EO G (f68_e k)) (h2 : EO G (f72_e k)) : EO G (f22_e k) := by
  have hE : ES G (f22_env k) := envOf_sound (ents_cons h0 (ents_cons h1 (ents_cons h2 (ents_nil))))
  exact ent_ok (subs := []) f22_t hE (envOf_nat _) hMix hL (subs_nil _ _ _) (f22_e k) Tryz.func22 (by kernel_rfl) (by kernel_rfl) (f22_x k)
end Go.Proofs.YtpffibjemegioaaGreatDoor
namespace Go.Proofs.YtpffibjemegioaaGreatDoor
open Go Go.RowKit Go.PB
variable {G : Gv}
def f19_m : List (Nat × TT) := [(36, (.opt tS)), (94, (.map tK tO)), (96, tS)]
theorem f19_t : TTOk Tryz.prog (lookTM tab f19_m [96]) := lookTM_ok hTabB (by kernel_rfl)
def f19_env (k : Nat) : Env := envOf []
theorem f19_x (k : Nat) : XX (lookTM tab f19_m [96]) (f19_env k) [] Tryz.f19 (f19_e k) := by intro v; kernel_rfl
theorem f19_ok (k : Nat) (hL : Lasting G) : EO G (f19_e k) := by
  have hE : ES G (f19_env k) := envOf_sound (ents_nil)
  exact ent_ok (subs := []) f19_t hE (envOf_nat _) hMix hL (subs_nil _ _ _) (f19_e k) Tryz.func19 (by kernel_rfl) (by kernel_rfl) (f19_x k)
def f60_env (k : Nat) : Env := envOf []
def f60_b8 (k : Nat) : Sub := { key := 8, inp := ⟨(.data (.list (.agg (.pair .str (.pair .str .unit)))) :: (.data (.list (.agg (.pair .str (.pair .str .unit)))) :: (dd 10 (.data (.int .i64) :: (.data (.int .i64) :: (dd 12 [])))))), [], [], []⟩, ways := [⟨.ret, ⟨(dd 4 (.data .bool :: (dd 21 []))), [], [], []⟩⟩, ⟨.x 0, ⟨(dd 26 []), [], [], []⟩⟩], run := fun v => iter (f60_s8_u k) k v }
theorem f60_b8_x (k : Nat) : LX (lookT tab) (f60_env k) [] (bodyOf Tryz.f60) (f60_b8 k) (f60_s8_u k) := by intro v; kernel_rfl
theorem f60_b8_ok (k : Nat) (hL : Lasting G) (hE : ES G (f60_env k)) : SO G (f60_b8 k) (.loop (loopAt 8 (bodyOf Tryz.f60))) :=
  sub_loop (subs := []) hTab hE (envOf_nat _) hMix hL (subs_nil _ _ _) (f60_s8_u k) k (fun _ => rfl) (fun v o h => (f60_b8_x k v).trans h) (by kernel_rfl)
theorem f60_x (k : Nat) : XX (lookT tab) (f60_env k) [f60_b8 k] Tryz.f60 (f60_e k) := by intro v; kernel_rfl
theorem f60_ok (k : Nat) (hL : Lasting G) : EO G (f60_e k) := by
  have hE : ES G (f60_env k) := envOf_sound (ents_nil)
  exact ent_ok (subs := [f60_b8 k]) hTab hE (envOf_nat _) hMix hL (subs_cons (by kernel_rfl) (f60_b8_ok k hL hE) (subs_nil _ _ _)) (f60_e k) Tryz.func60 (by kernel_rfl) (by kernel_rfl) (f60_x k)
def f93_env (k : Nat) : Env := envOf []
theorem f93_x (k : Nat) : XX (lookT tab) (f93_env k) [] Tryz.f93 (f93_e k) := by intro v; kernel_rfl
theorem f93_ok (k : Nat) (hL : Lasting G) : EO G (f93_e k) := by
  have hE : ES G (f93_env k) := envOf_sound (ents_nil)
  exact ent_ok (subs := []) hTab hE (envOf_nat _) hMix hL (subs_nil _ _ _) (f93_e k) Tryz.func93 (by kernel_rfl) (by kernel_rfl) (f93_x k)
def f92_env (k : Nat) : Env := envOf [f134_e k]
theorem f92_x (k : Nat) : XX (lookT tab) (f92_env k) [] Tryz.f92 (f92_e k) := by intro v; kernel_rfl
theorem f92_ok (k : Nat) (hL : Lasting G) (h0 : EO G (f134_e k)) : EO G (f92_e k) := by
  have hE : ES G (f92_env k) := envOf_sound (ents_cons h0 (ents_nil))
  exact ent_ok (subs := []) hTab hE (envOf_nat _) hMix hL (subs_nil _ _ _) (f92_e k) Tryz.func92 (by kernel_rfl) (by kernel_rfl) (f92_x k)
def f41_env (k : Nat) : Env := envOf [f92_e k]
theorem f41_x (k : Nat) : XX (lookT tab) (f41_env k) [] Tryz.f41 (f41_e k) := by intro v; kernel_rfl
theorem f41_ok (k : Nat) (hL : Lasting G) (h0 : EO G (f92_e k)) : EO G (f41_e k) := by
  have hE : ES G (f41_env k) := envOf_sound (ents_cons h0 (ents_nil))
  exact ent_ok (subs := []) hTab hE (envOf_nat _) hMix hL (subs_nil _ _ _) (f41_e k) Tryz.func41 (by kernel_rfl) (by kernel_rfl) (f41_x k)
def f135_env (k : Nat) : Env := envOf [f95_e k]
def f135_b4 (k : Nat) : Sub := { key := 4, inp := ⟨(.data (.list (.agg (.pair .str (.pair .str .unit)))) :: (.fn 95 :: (dd 5 (.data (.int .i64) :: (.data (.int .i64) :: (dd 10 [])))))), [], [], []⟩, ways := [⟨.ret, ⟨(dd 4 (.data (.int .i64) :: (dd 14 []))), [], [], []⟩⟩, ⟨.x 0, ⟨(dd 19 []), [], [], []⟩⟩], run := fun v => iter (f135_s4_u k) k v }
theorem f135_b4_x (k : Nat) : LX (lookT tab) (f135_env k) [] (bodyOf Tryz.f135) (f135_b4 k) (f135_s4_u k) := by intro v; kernel_rfl
theorem f135_b4_ok (k : Nat) (hL : Lasting G) (hE : ES G (f135_env k)) : SO G (f135_b4 k) (.loop (loopAt 4 (bodyOf Tryz.f135))) :=
  sub_loop (subs := []) hTab hE (envOf_nat _) hMix hL (subs_nil _ _ _) (f135_s4_u k) k (fun _ => rfl) (fun v o h => (f135_b4_x k v).trans h) (by kernel_rfl)
theorem f135_x (k : Nat) : XX (lookT tab) (f135_env k) [f135_b4 k] Tryz.f135 (f135_e k) := by intro v; kernel_rfl
theorem f135_ok (k : Nat) (hL : Lasting G) (h0 : EO G (f95_e k)) : EO G (f135_e k) := by
  have hE : ES G (f135_env k) := envOf_sound (ents_cons h0 (ents_nil))
  exact ent_ok (subs := [f135_b4 k]) hTab hE (envOf_nat _) hMix hL (subs_cons (by kernel_rfl) (f135_b4_ok k hL hE) (subs_nil _ _ _)) (f135_e k) Tryz.func135 (by kernel_rfl) (by kernel_rfl) (f135_x k)
def f46_env (k : Nat) : Env := envOf [f96_e k]
theorem f46_x (k : Nat) : XX (lookT tab) (f46_env k) [] Tryz.f46 (f46_e k) := by intro v; kernel_rfl
theorem f46_ok (k : Nat) (hL : Lasting G) (h0 : EO G (f96_e k)) : EO G (f46_e k) := by
  have hE : ES G (f46_env k) := envOf_sound (ents_cons h0 (ents_nil))
  exact ent_ok (subs := []) hTab hE (envOf_nat _) hMix hL (subs_nil _ _ _) (f46_e k) Tryz.func46 (by kernel_rfl) (by kernel_rfl) (f46_x k)
def f137_env (k : Nat) : Env := envOf [f97_e k]
theorem f137_x (k : Nat) : XX (lookT tab) (f137_env k) [] Tryz.f137 (f137_e k) := by intro v; kernel_rfl
theorem f137_ok (k : Nat) (hL : Lasting G) (h0 : EO G (f97_e k)) : EO G (f137_e k) := by
  have hE : ES G (f137_env k) := envOf_sound (ents_cons h0 (ents_nil))
  exact ent_ok (subs := []) hTab hE (envOf_nat _) hMix hL (subs_nil _ _ _) (f137_e k) Tryz.func137 (by kernel_rfl) (by kernel_rfl) (f137_x k)
def f98_env (k : Nat) : Env := envOf [f96a_e k]
theorem f98_x (k : Nat) : XX (lookT tab) (f98_env k) [] Tryz.f98 (f98_e k) := by intro v; kernel_rfl
theorem f98_ok (k : Nat) (hL : Lasting G) (h0 : EO G (f96a_e k)) : EO G (f98_e k) := by
  have hE : ES G (f98_env k) := envOf_sound (ents_cons h0 (ents_nil))
  exact ent_ok (subs := []) hTab hE (envOf_nat _) hMix hL (subs_nil _ _ _) (f98_e k) Tryz.func98 (by kernel_rfl) (by kernel_rfl) (f98_x k)
def f47_env (k : Nat) : Env := envOf [f98_e k, f99_e k]
def f47_b4 (k : Nat) : Sub := { key := 4, inp := ⟨(.data (.list (.agg (.pair .str (.pair .str .unit)))) :: (dd 4 (.data (.list (.agg (.pair .str (.pair .str .unit)))) :: (.data (.int .i64) :: (.data (.int .i64) :: (dd 33 [])))))), [], [], []⟩, ways := [⟨.ret, ⟨(.dead :: (.dead :: (.data .bool :: (dd 38 [])))), [], [], []⟩⟩, ⟨.x 0, ⟨(.data (.list (.agg (.pair .str (.pair .str .unit)))) :: (dd 40 [])), [], [], []⟩⟩], run := fun v => iter (f47_s4_u k) k v }
theorem f47_b4_x (k : Nat) : LX (lookT tab) (f47_env k) [] (bodyOf Tryz.f47) (f47_b4 k) (f47_s4_u k) := by intro v; kernel_rfl
theorem f47_b4_ok (k : Nat) (hL : Lasting G) (hE : ES G (f47_env k)) : SO G (f47_b4 k) (.loop (loopAt 4 (bodyOf Tryz.f47))) :=
  sub_loop (subs := []) hTab hE (envOf_nat _) hMix hL (subs_nil _ _ _) (f47_s4_u k) k (fun _ => rfl) (fun v o h => (f47_b4_x k v).trans h) (by kernel_rfl)
theorem f47_x (k : Nat) : XX (lookT tab) (f47_env k) [f47_b4 k] Tryz.f47 (f47_e k) := by intro v; kernel_rfl
theorem f47_ok (k : Nat) (hL : Lasting G) (h0 : EO G (f98_e k)) (h1 : EO G (f99_e k)) : EO G (f47_e k) := by
  have hE : ES G (f47_env k) := envOf_sound (ents_cons h0 (ents_cons h1 (ents_nil)))
  exact ent_ok (subs := [f47_b4 k]) hTab hE (envOf_nat _) hMix hL (subs_cons (by kernel_rfl) (f47_b4_ok k hL hE) (subs_nil _ _ _)) (f47_e k) Tryz.func47 (by kernel_rfl) (by kernel_rfl) (f47_x k)
def f248_env (k : Nat) : Env := envOf []
theorem f248_x (k : Nat) : XX (lookT tab) (f248_env k) [] Tryz.f248 (f248_e k) := by intro v; kernel_rfl
theorem f248_ok (k : Nat) (hL : Lasting G) : EO G (f248_e k) := by
  have hE : ES G (f248_env k) := envOf_sound (ents_nil)
  exact ent_ok (subs := []) hTab hE (envOf_nat _) hMix hL (subs_nil _ _ _) (f248_e k) Tryz.func248 (by kernel_rfl) (by kernel_rfl) (f248_x k)
def f250_env (k : Nat) : Env := envOf []
theorem f250_x (k : Nat) : XX (lookT tab) (f250_env k) [] Tryz.f250 (f250_e k) := by intro v; kernel_rfl
theorem f250_ok (k : Nat) (hL : Lasting G) : EO G (f250_e k) := by
  have hE : ES G (f250_env k) := envOf_sound (ents_nil)
  exact ent_ok (subs := []) hTab hE (envOf_nat _) hMix hL (subs_nil _ _ _) (f250_e k) Tryz.func250 (by kernel_rfl) (by kernel_rfl) (f250_x k)
def f189_m : List (Nat × TT) := [(129, (.data (.agg (.pair .bool (.pair (.agg (.pair (.int .u64) (.pair (.int .u64) .unit))) .unit)))))]
theorem f189_t : TTOk Tryz.prog (lookTM tab f189_m [129]) := lookTM_ok hTabB (by kernel_rfl)
def f189_env (k : Nat) : Env := envOf [f249_e k]
def f189_b8 (k : Nat) : Sub := { key := 8, inp := ⟨(.data (.list (.int .u16)) :: (.data (.list (.int .u16)) :: (.dead :: (.dead :: (.tv 0 [] :: (.tv 1 [] :: (.fnv 249 [(1, [])] :: (dd 6 (.data (.list (.int .u16)) :: (.data (.int .i64) :: (.data (.int .i64) :: (dd 29 [])))))))))))), [.vt (.own (.data (.agg (.pair .bool (.pair (.agg (.pair (.int .u64) (.pair (.int .u64) .unit))) .unit))))), .vt (.own (.data (.agg (.pair .bool (.pair (.agg (.pair (.int .u64) (.pair (.int .u64) .unit))) .unit)))))], [], []⟩, ways := [⟨.x 0, ⟨(.data (.list (.int .u16)) :: (.data (.list (.int .u16)) :: (.dead :: (.dead :: (.tv 0 [] :: (.tv 1 [] :: (.fnv 249 [(1, [])] :: (dd 38 [])))))))), [.vt (.own (.data (.agg (.pair .bool (.pair (.agg (.pair (.int .u64) (.pair (.int .u64) .unit))) .unit))))), .vt (.own (.data (.agg (.pair .bool (.pair (.agg (.pair (.int .u64) (.pair (.int .u64) .unit))) .unit)))))], [], []⟩⟩], run := fun v => iter (f189_s8_u k) k v }
def f189_b18 (k : Nat) : Sub := { key := 18, inp := ⟨(.dead :: (.data (.list (.int .u16)) :: (.dead :: (.dead :: (.tv 0 [] :: (.tv 1 [] :: (.fnv 249 [(1, [])] :: (dd 21 (.data (.int .i64) :: (.data (.int .i64) :: (dd 15 []))))))))))), [.vt (.own (.data (.agg (.pair .bool (.pair (.agg (.pair (.int .u64) (.pair (.int .u64) .unit))) .unit))))), .vt (.own (.data (.agg (.pair .bool (.pair (.agg (.pair (.int .u64) (.pair (.int .u64) .unit))) .unit)))))], [], []⟩, ways := [⟨.x 2, ⟨(.dead :: (.data (.list (.int .u16)) :: (.dead :: (.dead :: (.tv 0 [] :: (.tv 1 [] :: (.fnv 249 [(1, [])] :: (dd 38 [])))))))), [.vt (.own (.data (.agg (.pair .bool (.pair (.agg (.pair (.int .u64) (.pair (.int .u64) .unit))) .unit))))), .vt (.own (.data (.agg (.pair .bool (.pair (.agg (.pair (.int .u64) (.pair (.int .u64) .unit))) .unit)))))], [], []⟩⟩], run := fun v => iter (f189_s18_u k) k v }
def f189_b26 (k : Nat) : Sub := { key := 26, inp := ⟨(dd 4 (.tv 0 [] :: (.tv 1 [] :: (.fnv 249 [(1, [])] :: (dd 27 (.data (.list (.int .u16)) :: (.data (.int .i64) :: (.data (.int .i64) :: (dd 8 []))))))))), [.vt (.own (.data (.agg (.pair .bool (.pair (.agg (.pair (.int .u64) (.pair (.int .u64) .unit))) .unit))))), .vt (.own (.data (.agg (.pair .bool (.pair (.agg (.pair (.int .u64) (.pair (.int .u64) .unit))) .unit)))))], [], []⟩, ways := [⟨.x 4, ⟨(dd 4 (.tv 0 [] :: (.tv 1 [] :: (dd 39 [])))), [.vt (.own (.data (.agg (.pair .bool (.pair (.agg (.pair (.int .u64) (.pair (.int .u64) .unit))) .unit))))), .vt (.own (.data (.agg (.pair .bool (.pair (.agg (.pair (.int .u64) (.pair (.int .u64) .unit))) .unit)))))], [], []⟩⟩], run := fun v => iter (f189_s26_u k) k v }
theorem f189_b8_x (k : Nat) : LX (lookTM tab f189_m [129]) (f189_env k) [] (bodyOf Tryz.f189) (f189_b8 k) (f189_s8_u k) := by intro v; kernel_rfl
theorem f189_b8_ok (k : Nat) (hL : Lasting G) (hE : ES G (f189_env k)) : SO G (f189_b8 k) (.loop (loopAt 8 (bodyOf Tryz.f189))) :=
  sub_loop (subs := []) f189_t hE (envOf_nat _) hMix hL (subs_nil _ _ _) (f189_s8_u k) k (fun _ => rfl) (fun v o h => (f189_b8_x k v).trans h) (by kernel_rfl)
theorem f189_b18_x (k : Nat) : LX (lookTM tab f189_m [129]) (f189_env k) [] (bodyOf Tryz.f189) (f189_b18 k) (f189_s18_u k) := by intro v; kernel_rfl
theorem f189_b18_ok (k : Nat) (hL : Lasting G) (hE : ES G (f189_env k)) : SO G (f189_b18 k) (.loop (loopAt 18 (bodyOf Tryz.f189))) :=
  sub_loop (subs := []) f189_t hE (envOf_nat _) hMix hL (subs_nil _ _ _) (f189_s18_u k) k (fun _ => rfl) (fun v o h => (f189_b18_x k v).trans h) (by kernel_rfl)
theorem f189_b26_x (k : Nat) : LX (lookTM tab f189_m [129]) (f189_env k) [] (bodyOf Tryz.f189) (f189_b26 k) (f189_s26_u k) := by intro v; kernel_rfl
theorem f189_b26_ok (k : Nat) (hL : Lasting G) (hE : ES G (f189_env k)) : SO G (f189_b26 k) (.loop (loopAt 26 (bodyOf Tryz.f189))) :=
  sub_loop (subs := []) f189_t hE (envOf_nat _) hMix hL (subs_nil _ _ _) (f189_s26_u k) k (fun _ => rfl) (fun v o h => (f189_b26_x k v).trans h) (by kernel_rfl)
theorem f189_x (k : Nat) : XX (lookTM tab f189_m [129]) (f189_env k) [f189_b26 k, f189_b18 k, f189_b8 k] Tryz.f189 (f189_e k) := by intro v; kernel_rfl
theorem f189_ok (k : Nat) (hL : Lasting G) (h0 : EO G (f249_e k)) : EO G (f189_e k) := by
  have hE : ES G (f189_env k) := envOf_sound (ents_cons h0 (ents_nil))
  exact ent_ok (subs := [f189_b26 k, f189_b18 k, f189_b8 k]) f189_t hE (envOf_nat _) hMix hL (subs_cons (by kernel_rfl) (f189_b26_ok k hL hE) (subs_cons (by kernel_rfl) (f189_b18_ok k hL hE) (subs_cons (by kernel_rfl) (f189_b8_ok k hL hE) (subs_nil _ _ _)))) (f189_e k) Tryz.func189 (by kernel_rfl) (by kernel_rfl) (f189_x k)
def f193_env (k : Nat) : Env := envOf []
def f193_b12 (k : Nat) : Sub := { key := 12, inp := ⟨(.dead :: (.ptr 0 [] :: (.dead :: (.dead :: (.data (.int .i64) :: (.data (.int .i64) :: (.data (.int .i64) :: (.data (.int .i64) :: (dd 32 []))))))))), [.box (.arr 8 (.int .u16))], [], []⟩, ways := [⟨.x 2, ⟨(.dead :: (.ptr 0 [] :: (.dead :: (.dead :: (.data (.int .i64) :: (.data (.int .i64) :: (.data (.int .i64) :: (.data (.int .i64) :: (dd 32 []))))))))), [.box (.arr 8 (.int .u16))], [], []⟩⟩], run := fun v => iter (f193_s12_u k) k v }
def f193_b6 (k : Nat) : Sub := { key := 6, inp := ⟨(.dead :: (.ptr 0 [] :: (.dead :: (.dead :: (.data (.int .i64) :: (.data (.int .i64) :: (.data (.int .i64) :: (dd 33 [])))))))), [.box (.arr 8 (.int .u16))], [], []⟩, ways := [⟨.x 0, ⟨(dd 4 (.data (.int .i64) :: (.data (.int .i64) :: (dd 34 [])))), [], [], []⟩⟩], run := fun v => iter (f193_s6_u k) k v }
theorem f193_b12_x (k : Nat) : LX (lookT tab) (f193_env k) [] (bodyOf Tryz.f193) (f193_b12 k) (f193_s12_u k) := by intro v; kernel_rfl
theorem f193_b12_ok (k : Nat) (hL : Lasting G) (hE : ES G (f193_env k)) : SO G (f193_b12 k) (.loop (loopAt 12 (bodyOf Tryz.f193))) :=
  sub_loop (subs := []) hTab hE (envOf_nat _) hMix hL (subs_nil _ _ _) (f193_s12_u k) k (fun _ => rfl) (fun v o h => (f193_b12_x k v).trans h) (by kernel_rfl)
theorem f193_b6_x (k : Nat) : LX (lookT tab) (f193_env k) [f193_b12 k] (bodyOf Tryz.f193) (f193_b6 k) (f193_s6_u k) := by intro v; kernel_rfl
theorem f193_b6_ok (k : Nat) (hL : Lasting G) (hE : ES G (f193_env k)) : SO G (f193_b6 k) (.loop (loopAt 6 (bodyOf Tryz.f193))) :=
  sub_loop (subs := [f193_b12 k]) hTab hE (envOf_nat _) hMix hL (subs_cons (by kernel_rfl) (f193_b12_ok k hL hE) (subs_nil _ _ _)) (f193_s6_u k) k (fun _ => rfl) (fun v o h => (f193_b6_x k v).trans h) (by kernel_rfl)
theorem f193_x (k : Nat) : XX (lookT tab) (f193_env k) [f193_b6 k, f193_b12 k] Tryz.f193 (f193_e k) := by intro v; kernel_rfl
theorem f193_ok (k : Nat) (hL : Lasting G) : EO G (f193_e k) := by
  have hE : ES G (f193_env k) := envOf_sound (ents_nil)
  exact ent_ok (subs := [f193_b6 k, f193_b12 k]) hTab hE (envOf_nat _) hMix hL (subs_cons (by kernel_rfl) (f193_b6_ok k hL hE) (subs_cons (by kernel_rfl) (f193_b12_ok k hL hE) (subs_nil _ _ _))) (f193_e k) Tryz.func193 (by kernel_rfl) (by kernel_rfl) (f193_x k)
def f139_env (k : Nat) : Env := envOf [f184_e k, f142_e k, f183_e k]
theorem f139_x (k : Nat) : XX (lookT tab) (f139_env k) [] Tryz.f139 (f139_e k) := by intro v; kernel_rfl
theorem f139_ok (k : Nat) (hL : Lasting G) (h0 : EO G (f184_e k)) (h1 : EO G (f142_e k)) (h2 : EO G (f183_e k)) : EO G (f139_e k) := by
  have hE : ES G (f139_env k) := envOf_sound (ents_cons h0 (ents_cons h1 (ents_cons h2 (ents_nil))))
  exact ent_ok (subs := []) hTab hE (envOf_nat _) hMix hL (subs_nil _ _ _) (f139_e k) Tryz.func139 (by kernel_rfl) (by kernel_rfl) (f139_x k)
def f49_env (k : Nat) : Env := envOf [f100_e k, f101_e k]
def f49_b6 (k : Nat) : Sub := { key := 6, inp := ⟨(.dead :: (.ptr 0 [] :: (.dead :: (.ptr 1 [] :: (dd 5 (.data (.list .str) :: (.data (.int .i64) :: (.data (.int .i64) :: (dd 37 []))))))))), [.box tO, .box (.arr 2 (.int .i64))], [], []⟩, ways := [⟨.ret, ⟨(.dead :: (.dead :: (.data .bool :: (dd 46 [])))), [], [], []⟩⟩, ⟨.x 0, ⟨(.dead :: (.ptr 0 [] :: (.dead :: (.ptr 1 [] :: (dd 45 []))))), [.box tO, .box (.arr 2 (.int .i64))], [], []⟩⟩], run := fun v => iter (f49_s6_u k) k v }
theorem f49_b6_x (k : Nat) : LX (lookT tab) (f49_env k) [] (bodyOf Tryz.f49) (f49_b6 k) (f49_s6_u k) := by intro v; kernel_rfl
theorem f49_b6_ok (k : Nat) (hL : Lasting G) (hE : ES G (f49_env k)) : SO G (f49_b6 k) (.loop (loopAt 6 (bodyOf Tryz.f49))) :=
  sub_loop (subs := []) hTab hE (envOf_nat _) hMix hL (subs_nil _ _ _) (f49_s6_u k) k (fun _ => rfl) (fun v o h => (f49_b6_x k v).trans h) (by kernel_rfl)
theorem f49_x (k : Nat) : XX (lookT tab) (f49_env k) [f49_b6 k] Tryz.f49 (f49_e k) := by intro v; kernel_rfl
theorem f49_ok (k : Nat) (hL : Lasting G) (h0 : EO G (f100_e k)) (h1 : EO G (f101_e k)) : EO G (f49_e k) := by
  have hE : ES G (f49_env k) := envOf_sound (ents_cons h0 (ents_cons h1 (ents_nil)))
  exact ent_ok (subs := [f49_b6 k]) hTab hE (envOf_nat _) hMix hL (subs_cons (by kernel_rfl) (f49_b6_ok k hL hE) (subs_nil _ _ _)) (f49_e k) Tryz.func49 (by kernel_rfl) (by kernel_rfl) (f49_x k)
def f236_env (k : Nat) : Env := envOf []
theorem f236_x (k : Nat) : XX (lookT tab) (f236_env k) [] Tryz.f236 (f236_e k) := by intro v; kernel_rfl
theorem f236_ok (k : Nat) (hL : Lasting G) : EO G (f236_e k) := by
  have hE : ES G (f236_env k) := envOf_sound (ents_nil)
  exact ent_ok (subs := []) hTab hE (envOf_nat _) hMix hL (subs_nil _ _ _) (f236_e k) Tryz.func236 (by kernel_rfl) (by kernel_rfl) (f236_x k)
def f237_env (k : Nat) : Env := envOf [f99_e k]
def f237_b4 (k : Nat) : Sub := { key := 4, inp := ⟨(.data (.list .str) :: (dd 4 (.data (.list .str) :: (.data (.int .i64) :: (.data (.int .i64) :: (dd 29 [])))))), [], [], []⟩, ways := [⟨.ret, ⟨(.dead :: (.dead :: (.data .bool :: (dd 34 [])))), [], [], []⟩⟩, ⟨.x 0, ⟨(.data (.list .str) :: (dd 36 [])), [], [], []⟩⟩], run := fun v => iter (f237_s4_u k) k v }
theorem f237_b4_x (k : Nat) : LX (lookT tab) (f237_env k) [] (bodyOf Tryz.f237) (f237_b4 k) (f237_s4_u k) := by intro v; kernel_rfl
theorem f237_b4_ok (k : Nat) (hL : Lasting G) (hE : ES G (f237_env k)) : SO G (f237_b4 k) (.loop (loopAt 4 (bodyOf Tryz.f237))) :=
  sub_loop (subs := []) hTab hE (envOf_nat _) hMix hL (subs_nil _ _ _) (f237_s4_u k) k (fun _ => rfl) (fun v o h => (f237_b4_x k v).trans h) (by kernel_rfl)
theorem f237_x (k : Nat) : XX (lookT tab) (f237_env k) [f237_b4 k] Tryz.f237 (f237_e k) := by intro v; kernel_rfl
theorem f237_ok (k : Nat) (hL : Lasting G) (h0 : EO G (f99_e k)) : EO G (f237_e k) := by
  have hE : ES G (f237_env k) := envOf_sound (ents_cons h0 (ents_nil))
  exact ent_ok (subs := [f237_b4 k]) hTab hE (envOf_nat _) hMix hL (subs_cons (by kernel_rfl) (f237_b4_ok k hL hE) (subs_nil _ _ _)) (f237_e k) Tryz.func237 (by kernel_rfl) (by kernel_rfl) (f237_x k)
def f177_env (k : Nat) : Env := envOf [f235_e k]
theorem f177_x (k : Nat) : XX (lookT tab) (f177_env k) [] Tryz.f177 (f177_e k) := by intro v; kernel_rfl
theorem f177_ok (k : Nat) (hL : Lasting G) (h0 : EO G (f235_e k)) : EO G (f177_e k) := by
  have hE : ES G (f177_env k) := envOf_sound (ents_cons h0 (ents_nil))
  exact ent_ok (subs := []) hTab hE (envOf_nat _) hMix hL (subs_nil _ _ _) (f177_e k) Tryz.func177 (by kernel_rfl) (by kernel_rfl) (f177_x k)
def f198_env (k : Nat) : Env := envOf [f199_e k]
theorem f198_x (k : Nat) : XX (lookT tab) (f198_env k) [] Tryz.f198 (f198_e k) := by intro v; kernel_rfl
theorem f198_ok (k : Nat) (hL : Lasting G) (h0 : EO G (f199_e k)) : EO G (f198_e k) := by
  have hE : ES G (f198_env k) := envOf_sound (ents_cons h0 (ents_nil))
  exact ent_ok (subs := []) hTab hE (envOf_nat _) hMix hL (subs_nil _ _ _) (f198_e k) Tryz.func198 (by kernel_rfl) (by kernel_rfl) (f198_x k)
def f200_env (k : Nat) : Env := envOf [f184_e k, f242_e k]
theorem f200_x (k : Nat) : XX (lookT tab) (f200_env k) [] Tryz.f200 (f200_e k) := by intro v; kernel_rfl
theorem f200_ok (k : Nat) (hL : Lasting G) (h0 : EO G (f184_e k)) (h1 : EO G (f242_e k)) : EO G (f200_e k) := by
  have hE : ES G (f200_env k) := envOf_sound (ents_cons h0 (ents_cons h1 (ents_nil)))
  exact ent_ok (subs := []) hTab hE (envOf_nat _) hMix hL (subs_nil _ _ _) (f200_e k) Tryz.func200 (by kernel_rfl) (by kernel_rfl) (f200_x k)
def f201_env (k : Nat) : Env := envOf [f247_e k, f251_e k]
theorem f201_x (k : Nat) : XX (lookT tab) (f201_env k) [] Tryz.f201 (f201_e k) := by intro v; kernel_rfl
theorem f201_ok (k : Nat) (hL : Lasting G) (h0 : EO G (f247_e k)) (h1 : EO G (f251_e k)) : EO G (f201_e k) := by
  have hE : ES G (f201_env k) := envOf_sound (ents_cons h0 (ents_cons h1 (ents_nil)))
  exact ent_ok (subs := []) hTab hE (envOf_nat _) hMix hL (subs_nil _ _ _) (f201_e k) Tryz.func201 (by kernel_rfl) (by kernel_rfl) (f201_x k)
def f105_env (k : Nat) : Env := envOf [f100_e k, f146_e k, f147_e k]
theorem f105_x (k : Nat) : XX (lookT tab) (f105_env k) [] Tryz.f105 (f105_e k) := by intro v; kernel_rfl
theorem f105_ok (k : Nat) (hL : Lasting G) (h0 : EO G (f100_e k)) (h1 : EO G (f146_e k)) (h2 : EO G (f147_e k)) : EO G (f105_e k) := by
  have hE : ES G (f105_env k) := envOf_sound (ents_cons h0 (ents_cons h1 (ents_cons h2 (ents_nil))))
  exact ent_ok (subs := []) hTab hE (envOf_nat _) hMix hL (subs_nil _ _ _) (f105_e k) Tryz.func105 (by kernel_rfl) (by kernel_rfl) (f105_x k)
def f113_m : List (Nat × TT) := [(36, (.opt tS)), (94, (.map tK tO)), (96, tS)]
theorem f113_t : TTOk Tryz.prog (lookTM tab f113_m [96]) := lookTM_ok hTabB (by kernel_rfl)
def f113_env (k : Nat) : Env := envOf [f17_e k]
theorem f113_x (k : Nat) : XX (lookTM tab f113_m [96]) (f113_env k) [] Tryz.f113 (f113_e k) := by intro v; kernel_rfl
theorem f113_ok (k : Nat) (hL : Lasting G) (h0 : EO G (f17_e k)) : EO G (f113_e k) := by
  have hE : ES G (f113_env k) := envOf_sound (ents_cons h0 (ents_nil))
  exact ent_ok (subs := []) f113_t hE (envOf_nat _) hMix hL (subs_nil _ _ _) (f113_e k) Tryz.func113 (by kernel_rfl) (by kernel_rfl) (f113_x k)
def f114_env (k : Nat) : Env := envOf []
theorem f114_x (k : Nat) : XX (lookT tab) (f114_env k) [] Tryz.f114 (f114_e k) := by intro v; kernel_rfl
theorem f114_ok (k : Nat) (hL : Lasting G) : EO G (f114_e k) := by
  have hE : ES G (f114_env k) := envOf_sound (ents_nil)
  exact ent_ok (subs := []) hTab hE (envOf_nat _) hMix hL (subs_nil _ _ _) (f114_e k) Tryz.func114 (by kernel_rfl) (by kernel_rfl) (f114_x k)
def f210_env (k : Nat) : Env := envOf []
def f210_b4 (k : Nat) : Sub := { key := 4, inp := ⟨(.data (.list .str) :: (.data .str :: (dd 5 (.data (.int .i64) :: (.data (.int .i64) :: (dd 10 [])))))), [], [], []⟩, ways := [⟨.ret, ⟨(dd 4 (.data (.int .i64) :: (dd 14 []))), [], [], []⟩⟩, ⟨.x 0, ⟨(dd 19 []), [], [], []⟩⟩], run := fun v => iter (f210_s4_u k) k v }
theorem f210_b4_x (k : Nat) : LX (lookT tab) (f210_env k) [] (bodyOf Tryz.f210) (f210_b4 k) (f210_s4_u k) := by intro v; kernel_rfl
theorem f210_b4_ok (k : Nat) (hL : Lasting G) (hE : ES G (f210_env k)) : SO G (f210_b4 k) (.loop (loopAt 4 (bodyOf Tryz.f210))) :=
  sub_loop (subs := []) hTab hE (envOf_nat _) hMix hL (subs_nil _ _ _) (f210_s4_u k) k (fun _ => rfl) (fun v o h => (f210_b4_x k v).trans h) (by kernel_rfl)
theorem f210_x (k : Nat) : XX (lookT tab) (f210_env k) [f210_b4 k] Tryz.f210 (f210_e k) := by intro v; kernel_rfl
theorem f210_ok (k : Nat) (hL : Lasting G) : EO G (f210_e k) := by
  have hE : ES G (f210_env k) := envOf_sound (ents_nil)
  exact ent_ok (subs := [f210_b4 k]) hTab hE (envOf_nat _) hMix hL (subs_cons (by kernel_rfl) (f210_b4_ok k hL hE) (subs_nil _ _ _)) (f210_e k) Tryz.func210 (by kernel_rfl) (by kernel_rfl) (f210_x k)
def f116_env (k : Nat) : Env := envOf [f15_e k]
theorem f116_x (k : Nat) : XX (lookT tab) (f116_env k) [] Tryz.f116 (f116_e k) := by intro v; kernel_rfl
theorem f116_ok (k : Nat) (hL : Lasting G) (h0 : EO G (f15_e k)) : EO G (f116_e k) := by
  have hE : ES G (f116_env k) := envOf_sound (ents_cons h0 (ents_nil))
  exact ent_ok (subs := []) hTab hE (envOf_nat _) hMix hL (subs_nil _ _ _) (f116_e k) Tryz.func116 (by kernel_rfl) (by kernel_rfl) (f116_x k)
def f24_m : List (Nat × TT) := [(36, (.opt tS)), (94, (.map tK tO)), (96, tS)]
theorem f24_t : TTOk Tryz.prog (lookTM tab f24_m [96]) := lookTM_ok hTabB (by kernel_rfl)
def f24_env (k : Nat) : Env := envOf []
theorem f24_x (k : Nat) : XX (lookTM tab f24_m [96]) (f24_env k) [] Tryz.f24 (f24_e k) := by intro v; kernel_rfl
theorem f24_ok (k : Nat) (hL : Lasting G) : EO G (f24_e k) := by
  have hE : ES G (f24_env k) := envOf_sound (ents_nil)
  exact ent_ok (subs := []) f24_t hE (envOf_nat _) hMix hL (subs_nil _ _ _) (f24_e k) Tryz.func24 (by kernel_rfl) (by kernel_rfl) (f24_x k)
def f38_env (k : Nat) : Env := envOf []
def f38_b8 (k : Nat) : Sub := { key := 8, inp := ⟨(.data (.list .str) :: (.dead :: (.dead :: (.data (.int .i64) :: (dd 15 []))))), [], [], []⟩, ways := [⟨.ret, ⟨(.dead :: (.dead :: (.data .bool :: (dd 16 [])))), [], [], []⟩⟩, ⟨.x 0, ⟨(dd 19 []), [], [], []⟩⟩], run := fun v => iter (f38_s8_u k) k v }
theorem f38_b8_x (k : Nat) : LX (lookT tab) (f38_env k) [] (bodyOf Tryz.f38) (f38_b8 k) (f38_s8_u k) := by intro v; kernel_rfl
theorem f38_b8_ok (k : Nat) (hL : Lasting G) (hE : ES G (f38_env k)) : SO G (f38_b8 k) (.loop (loopAt 8 (bodyOf Tryz.f38))) :=
  sub_loop (subs := []) hTab hE (envOf_nat _) hMix hL (subs_nil _ _ _) (f38_s8_u k) k (fun _ => rfl) (fun v o h => (f38_b8_x k v).trans h) (by kernel_rfl)
theorem f38_x (k : Nat) : XX (lookT tab) (f38_env k) [f38_b8 k] Tryz.f38 (f38_e k) := by intro v; kernel_rfl
theorem f38_ok (k : Nat) (hL : Lasting G) : EO G (f38_e k) := by
  have hE : ES G (f38_env k) := envOf_sound (ents_nil)
  exact ent_ok (subs := [f38_b8 k]) hTab hE (envOf_nat _) hMix hL (subs_cons (by kernel_rfl) (f38_b8_ok k hL hE) (subs_nil _ _ _)) (f38_e k) Tryz.func38 (by kernel_rfl) (by kernel_rfl) (f38_x k)
def f25_m : List (Nat × TT) := [(36, (.opt tS)), (94, (.map tK tO)), (96, tS)]
theorem f25_t : TTOk Tryz.prog (lookTM tab f25_m [96]) := lookTM_ok hTabB (by kernel_rfl)
def f25_env (k : Nat) : Env := envOf [f17_e k]
theorem f25_x (k : Nat) : XX (lookTM tab f25_m [96]) (f25_env k) [] Tryz.f25 (f25_e k) := by intro v; kernel_rfl
theorem f25_ok (k : Nat) (hL : Lasting G) (h0 : EO G (f17_e k)) : EO G (f25_e k) := by
  have hE : ES G (f25_env k) := envOf_sound (ents_cons h0 (ents_nil))
  exact ent_ok (subs := []) f25_t hE (envOf_nat _) hMix hL (subs_nil _ _ _) (f25_e k) Tryz.func25 (by kernel_rfl) (by kernel_rfl) (f25_x k)
def f26_env (k : Nat) : Env := envOf []
def f26_b4 (k : Nat) : Sub := { key := 4, inp := ⟨(.data (.list .str) :: (.data .str :: (dd 3 (.data (.int .i64) :: (dd 12 []))))), [], [], []⟩, ways := [⟨.ret, ⟨(dd 4 (.data .bool :: (dd 13 []))), [], [], []⟩⟩, ⟨.x 0, ⟨(dd 18 []), [], [], []⟩⟩], run := fun v => iter (f26_s4_u k) k v }
theorem f26_b4_x (k : Nat) : LX (lookT tab) (f26_env k) [] (bodyOf Tryz.f26) (f26_b4 k) (f26_s4_u k) := by intro v; kernel_rfl
theorem f26_b4_ok (k : Nat) (hL : Lasting G) (hE : ES G (f26_env k)) : SO G (f26_b4 k) (.loop (loopAt 4 (bodyOf Tryz.f26))) :=
  sub_loop (subs := []) hTab hE (envOf_nat _) hMix hL (subs_nil _ _ _) (f26_s4_u k) k (fun _ => rfl) (fun v o h => (f26_b4_x k v).trans h) (by kernel_rfl)
theorem f26_x (k : Nat) : XX (lookT tab) (f26_env k) [f26_b4 k] Tryz.f26 (f26_e k) := by intro v; kernel_rfl
theorem f26_ok (k : Nat) (hL : Lasting G) : EO G (f26_e k) := by
  have hE : ES G (f26_env k) := envOf_sound (ents_nil)
  exact ent_ok (subs := [f26_b4 k]) hTab hE (envOf_nat _) hMix hL (subs_cons (by kernel_rfl) (f26_b4_ok k hL hE) (subs_nil _ _ _)) (f26_e k) Tryz.func26 (by kernel_rfl) (by kernel_rfl) (f26_x k)
end Go.Proofs.YtpffibjemegioaaGreatDoor
