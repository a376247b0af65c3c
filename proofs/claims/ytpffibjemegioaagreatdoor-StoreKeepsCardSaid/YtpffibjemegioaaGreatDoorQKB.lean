/-
  The interpreter of the translation's code, and the proof that it is sound: part 2.
-/
import Derived.Test.YtpffibjemegioaaGreatDoorQKA
import Derived.Great.BuildSlice
import Derived.Lib.ConvBytes
import Derived.Laws.BytesArg
import Derived.Laws.AppendOwn
set_option linter.unusedVariables false
namespace Go.PB
open Go Go.RowKit
/-! ## 1. Skeletons otherwise at a path -/
def compSkSet : TT → Skel → Nat → Skel → Skel
  | .pair _ _, .pair _ b, 0, s => .pair s b
  | .pair _ b, .pair a u, n + 1, s => .pair a (compSkSet b u n s)
  | _, sk, _, _ => sk
def skSet : List Nat → TT → Skel → Skel → Skel
  | [], _, _, s => s
  | f :: p, .agg τ, sk, s => match compSk τ sk f with | some (u, s0) => compSkSet τ sk f (skSet p u s0 s) | none => sk
  | _ :: p, .own τ, sk, s => match sk with | .own b s0 => .own b (skSet p τ s0 s) | _ => sk
  | _ :: p, .opt τ, sk, s => match sk with | .own b s0 => .own b (skSet p τ s0 s) | _ => sk
  | _ :: _, _, sk, _ => sk
def Swap (l l' m m' : List Nat) : Prop := ∃ o, l.Perm (m ++ o) ∧ l'.Perm (m' ++ o)
theorem Swap.refl (m m' : List Nat) : Swap m m' m m' := ⟨[], by simp, by simp⟩
theorem Swap.right {l l' m m' : List Nat} (h : Swap l l' m m') (k : List Nat) : Swap (l ++ k) (l' ++ k) m m' := by
  obtain ⟨o, h1, h2⟩ := h
  exact ⟨o ++ k, by rw [← List.append_assoc]; exact h1.append_right k, by rw [← List.append_assoc]; exact h2.append_right k⟩
theorem Swap.left {l l' m m' : List Nat} (h : Swap l l' m m') (k : List Nat) : Swap (k ++ l) (k ++ l') m m' := by
  obtain ⟨o, h1, h2⟩ := h
  refine ⟨k ++ o, ?_, ?_⟩
  · exact (h1.append_left k).trans (by rw [← List.append_assoc, ← List.append_assoc]; exact (List.perm_append_comm).append_right o)
  · exact (h2.append_left k).trans (by rw [← List.append_assoc, ← List.append_assoc]; exact (List.perm_append_comm).append_right o)
theorem Swap.cons {l l' m m' : List Nat} (h : Swap l l' m m') (b : Nat) : Swap (b :: l) (b :: l') m m' := h.left [b]
theorem Swap.trans {l l' m m' n n' : List Nat} (h : Swap l l' m m') (h' : Swap m m' n n') : Swap l l' n n' := by
  obtain ⟨o, h1, h2⟩ := h
  obtain ⟨q, h3, h4⟩ := h'
  exact ⟨q ++ o, h1.trans (by rw [← List.append_assoc]; exact h3.append_right o), h2.trans (by rw [← List.append_assoc]; exact h4.append_right o)⟩
theorem Swap.sub {l l' m m' : List Nat} (h : Swap l l' m m') : ∀ b ∈ m, b ∈ l := by
  obtain ⟨o, h1, _⟩ := h
  exact fun b hb => h1.mem_iff.2 (List.mem_append_left o hb)
theorem Swap.mem' {l l' m m' : List Nat} (h : Swap l l' m m') (hn : l.Nodup) : ∀ b ∈ l', b ∈ m' ∨ (b ∈ l ∧ b ∉ m) := by
  obtain ⟨o, h1, h2⟩ := h
  intro b hb
  rcases List.mem_append.1 (h2.mem_iff.1 hb) with h | h
  · exact .inl h
  · refine .inr ⟨h1.mem_iff.2 (List.mem_append_right m h), fun hm => ?_⟩
    have := (h1.nodup_iff.1 hn)
    exact (List.nodup_append.1 this).2.2 b hm b h rfl
theorem Swap.nodup {l l' m m' : List Nat} (h : Swap l l' m m') (hn : l.Nodup) (hm : m'.Nodup) (hd : ∀ b ∈ m', b ∈ l → b ∈ m) : l'.Nodup := by
  obtain ⟨o, h1, h2⟩ := h
  have hno := List.nodup_append.1 (h1.nodup_iff.1 hn)
  refine h2.nodup_iff.2 (List.nodup_append.2 ⟨hm, hno.2.1, fun a ha b hb e => ?_⟩)
  subst e
  exact hno.2.2 a (hd a ha (h1.mem_iff.2 (List.mem_append_right m hb))) a hb rfl
/-! ## 2. Fields of a chain -/
def CompRe (τ : TT) (x : τ.C) (f off : Nat) (u : TT) (y : u.C) (u1 : TT) (y1 : u1.C) (τ1 : TT) (x1 : τ1.C) : Prop :=
  ∀ (w : World) (ok : Nat → Prop) (sk : Skel) (cs : List Value), TCells w ok τ x sk cs → sk.blocks.Nodup → ∃ s c1 c2 c3, compSk τ sk f = some (u, s) ∧ cs = c1 ++ (c2 ++ c3) ∧ c1.length = off ∧ TCells w ok u y s c2 ∧
    (∀ s1, Swap sk.blocks (compSkSet τ sk f s1).blocks s.blocks s1.blocks) ∧
    ∀ (w1 : World) (ok1 : Nat → Prop) (s1 : Skel) (d : List Value), (∀ b, ok b → ok1 b ∧ w1.heap[b]? = w.heap[b]?) → (∀ b ∈ sk.blocks, b ∉ s.blocks → w1.heap[b]? = w.heap[b]?) → TCells w1 ok1 u1 y1 s1 d →
      TCells w1 ok1 τ1 x1 (compSkSet τ sk f s1) (c1 ++ (d ++ c3))
theorem compMod_inv {R : Type} : ∀ {τ : TT} {x : τ.C} {f : Nat} {g : (τ' : TT) → τ'.C → ((τ'' : TT) → τ''.C → Option R) → Option R} {K : (τ' : TT) → τ'.C → Option R} {r : R}, TT.compMod τ x f g K = some r →
    ∃ u y k off, g u y k = some r ∧ TT.compOff τ f = some (off, u) ∧ (∀ u1 y1 r', k u1 y1 = some r' → ∃ τ1 x1, K τ1 x1 = some r' ∧ CompRe τ x f off u y u1 y1 τ1 x1 ∧ (u1 = u → τ1 = τ)) ∧ ∀ (S : Type) (K2 : (τ' : TT) → τ'.C → Option S), TT.compK τ x f K2 = K2 u y
  | .pair a b, x, 0, g, K, r, h => by
    refine ⟨a, x.1, _, 0, h, rfl, fun u1 y1 r' hk => ⟨_, _, hk, ?_, fun e => by rw [e]⟩, fun _ _ => rfl⟩
    rintro w ok sk cs ⟨s1, s2, c1, c2, rfl, rfl, h1, h2⟩ hn
    refine ⟨s1, [], c1, c2, rfl, by simp, rfl, h1, fun s => (Swap.refl _ _).right _, fun w1 ok1 s d hok hb hd => ⟨s, s2, d, c2, rfl, by simp, hd, ?_⟩⟩
    exact TCells.mono hok b x.2 s2 c2 (fun k hk => hb k (List.mem_append_right _ hk) (fun hk' => (List.nodup_append.1 hn).2.2 k hk' k hk rfl)) h2
  | .pair a b, x, n + 1, g, K, r, h => by
    obtain ⟨u, y, k, off, h1, h2, h3, h3'⟩ := compMod_inv (τ := b) (x := x.2) (f := n) h
    refine ⟨u, y, k, a.width + off, h1, by simp [TT.compOff, h2], fun u1 y1 r' hk => ?_, fun S K2 => h3' S K2⟩
    obtain ⟨τ1, x1, h4, h5, h6⟩ := h3 u1 y1 r' hk
    refine ⟨_, _, h4, ?_, fun e => by rw [h6 e]⟩
    rintro w ok sk cs ⟨s1, s2, c1, c2, rfl, rfl, g1, g2⟩ hn
    have hn' := List.nodup_append.1 hn
    obtain ⟨s, d1, d2, d3, e1, e2, e3, e4, e5, e6⟩ := h5 w ok s2 c2 g2 hn'.2.1
    refine ⟨s, c1 ++ d1, d2, d3, by simp [compSk, e1], by rw [e2]; simp, by simp [e3, TCells.length _ _ _ _ g1], e4, fun s' => (e5 s').left _, fun w1 ok1 s' d hok hb hd => ?_⟩
    refine ⟨s1, _, c1, d1 ++ (d ++ d3), rfl, by simp, ?_, e6 w1 ok1 s' d hok (fun k hk hk' => hb k (List.mem_append_right _ hk) hk') hd⟩
    refine TCells.mono hok a x.1 s1 c1 (fun k hk => hb k (List.mem_append_left _ hk) (fun hk' => ?_)) g1
    exact hn'.2.2 k hk k ((e5 .leaf).sub k hk') rfl
  | .data _, _, _, _, _, _, h => by simp [TT.compMod] at h
  | .vec _, _, _, _, _, _, h => by simp [TT.compMod] at h
  | .map _ _, _, _, _, _, _, h => by simp [TT.compMod] at h
  | .own _, _, _, _, _, _, h => by simp [TT.compMod] at h
  | .opt _, _, _, _, _, _, h => by simp [TT.compMod] at h
  | .hole, _, _, _, _, _, h => by simp [TT.compMod] at h
  | .unit, _, _, _, _, _, h => by simp [TT.compMod] at h
  | .agg _, _, _, _, _, _, h => by simp [TT.compMod] at h
/-! ## 3. Places -/
def Foc (w : World) (ok : Nat → Prop) (sk : Skel) (cs : List Value) (sk' : Skel) (cs' : List Value) (τ'' : TT) (x'' : τ''.C) (τ1 : TT) (x1 : τ1.C) (cur ad : Option (Nat × Nat)) (up : Skel → Skel) : Prop :=
  (∃ c1 c3, cs = c1 ++ (cs' ++ c3) ∧ ad = cur.map (fun a => (a.1, a.2 + c1.length)) ∧
    ∀ (w1 : World) (ok1 : Nat → Prop) (s1 : Skel) (d : List Value), (∀ b, ok b → ok1 b ∧ w1.heap[b]? = w.heap[b]?) → (∀ b ∈ sk.blocks, b ∉ sk'.blocks → w1.heap[b]? = w.heap[b]?) → TCells w1 ok1 τ'' x'' s1 d → d.length = cs'.length →
      TCells w1 ok1 τ1 x1 (up s1) (c1 ++ (d ++ c3)) ∧ Swap sk.blocks (up s1).blocks sk'.blocks s1.blocks) ∨
  (∃ b cc T c1 c3, b ∈ sk.blocks ∧ b ∉ sk'.blocks ∧ w.heap[b]? = some (.cells cc T (0, 0)) ∧ cc.toList = c1 ++ (cs' ++ c3) ∧ ad = some (b, c1.length) ∧
    ∀ (w1 : World) (ok1 : Nat → Prop) (s1 : Skel) (d : List Value), (∀ b, ok b → ok1 b ∧ w1.heap[b]? = w.heap[b]?) → (∀ k ∈ sk.blocks, k ∉ sk'.blocks → k ≠ b → w1.heap[k]? = w.heap[k]?) →
      w1.heap[b]? = some (.cells (c1 ++ (d ++ c3)).toArray T (0, 0)) → TCells w1 ok1 τ'' x'' s1 d → d.length = cs'.length → TCells w1 ok1 τ1 x1 (up s1) cs ∧ Swap sk.blocks (up s1).blocks sk'.blocks s1.blocks)
def Re (p : List Nat) (τ : TT) (x : τ.C) (τ' : TT) (x' : τ'.C) (τ'' : TT) (x'' : τ''.C) (τ1 : TT) (x1 : τ1.C) : Prop :=
  ∀ (w : World) (ok : Nat → Prop) (sk : Skel) (cs : List Value), TCells w ok τ x sk cs → sk.blocks.Nodup → ∃ sk' cs', skAt p τ sk = some sk' ∧ TCells w ok τ' x' sk' cs' ∧ (∀ b ∈ sk'.blocks, b ∈ sk.blocks) ∧
    ∀ cur, Foc w ok sk cs sk' cs' τ'' x'' τ1 x1 cur (addrAt p τ sk cur) (skSet p τ sk)
theorem map_zero (cur : Option (Nat × Nat)) : cur = cur.map (fun a => (a.1, a.2 + ([] : List Value).length)) := by cases cur <;> simp
theorem Re.nil (τ : TT) (x : τ.C) (τ'' : TT) (x'' : τ''.C) : Re [] τ x τ x τ'' x'' τ'' x'' := fun w ok sk cs h hn =>
  ⟨sk, cs, rfl, h, fun _ hb => hb, fun cur => .inl ⟨[], [], by simp, map_zero cur, fun w1 ok1 s1 d hok hb hd hl => ⟨by simpa [skSet] using hd, Swap.refl _ _⟩⟩⟩
theorem addrAt_agg {f : Nat} {p : List Nat} {τ u : TT} {sk s : Skel} {off : Nat} (h1 : compSk τ sk f = some (u, s)) (h2 : TT.compOff τ f = some (off, u)) (cur : Option (Nat × Nat)) : addrAt (f :: p) (.agg τ) sk cur = addrAt p u s (cur.map fun a => (a.1, a.2 + off)) := by
  show (match compSk τ sk f, TT.compOff τ f with | some (u, s), some (o, _) => addrAt p u s (cur.map fun (a : Nat × Nat) => (a.1, a.2 + o)) | _, _ => none) = _
  rw [h1, h2]
theorem Re.comp {f : Nat} {p : List Nat} {τ u : TT} {x : τ.C} {y : u.C} {off : Nat} {τ' : TT} {x' : τ'.C} {τ'' : TT} {x'' : τ''.C} {u1 : TT} {y1 : u1.C} {τ1 : TT} {x1 : τ1.C} (ho : TT.compOff τ f = some (off, u))
    (hc : CompRe τ x f off u y u1 y1 τ1 x1) (hr : Re p u y τ' x' τ'' x'' u1 y1) : Re (f :: p) (.agg τ) x τ' x' τ'' x'' (.agg τ1) x1 := by
  intro w ok sk cs h hn
  obtain ⟨s, c1, c2, c3, e1, rfl, e3, e4, e5, e6⟩ := hc w ok sk cs h hn
  have hsub : ∀ b ∈ s.blocks, b ∈ sk.blocks := (e5 .leaf).sub
  have hns : s.blocks.Nodup := by
    obtain ⟨o, g1, _⟩ := e5 .leaf
    exact (List.nodup_append.1 (g1.nodup_iff.1 hn)).1
  obtain ⟨sk', cs', k1, k2, k3, k4⟩ := hr w ok s c2 e4 hns
  have hup : ∀ s1, skSet (f :: p) (.agg τ) sk s1 = compSkSet τ sk f (skSet p u s s1) := fun s1 => by simp only [skSet, e1]
  refine ⟨sk', cs', by simp only [skAt, e1]; exact k1, k2, fun b hb => hsub b (k3 b hb), fun cur => ?_⟩
  rw [addrAt_agg e1 ho cur]
  rcases k4 (cur.map fun a => (a.1, a.2 + off)) with ⟨d1, d3, g1, g2, g3⟩ | ⟨b, cc, T, d1, d3, g1, g1', g2, g3, g4, g5⟩
  · refine .inl ⟨c1 ++ d1, d3 ++ c3, by rw [g1]; simp, ?_, fun w1 ok1 s1 d hok hb hd hl => ?_⟩
    · rw [g2]; cases cur <;> simp [e3, Nat.add_assoc]
    · obtain ⟨q1, q2⟩ := g3 w1 ok1 s1 d hok (fun k hk hk' => hb k (hsub k hk) hk') hd hl
      have := e6 w1 ok1 _ _ hok (fun k hk hk' => hb k hk (fun hk2 => hk' (k3 k hk2))) q1
      rw [hup]
      exact ⟨show TCells w1 ok1 τ1 x1 _ _ by simpa using this, (e5 _).trans q2⟩
  · refine .inr ⟨b, cc, T, d1, d3, hsub b g1, g1', g2, g3, g4, fun w1 ok1 s1 d hok hb hw hd hl => ?_⟩
    obtain ⟨q1, q2⟩ := g5 w1 ok1 s1 d hok (fun k hk hk' hne => hb k (hsub k hk) hk' hne) hw hd hl
    have := e6 w1 ok1 _ _ hok (fun k hk hk' => hb k hk (fun hk2 => hk' (k3 k hk2)) (fun e => hk' (e ▸ g1))) q1
    rw [hup]
    exact ⟨this, (e5 _).trans q2⟩
theorem Re.deref {p : List Nat} {τ : TT} {x : τ.C} {τ' : TT} {x' : τ'.C} {τ'' : TT} {x'' : τ''.C} {τ1 : TT} {x1 : τ1.C} (hr : Re p τ x τ' x' τ'' x'' τ1 x1)
    {w : World} {ok : Nat → Prop} {b0 : Nat} {cc : Array Value} {T : TypeId} {s : Skel} {sk : Skel} {cs : List Value} (esk : sk = .own b0 s) (h3 : w.heap[b0]? = some (.cells cc T (0, 0))) (h4 : TCells w ok τ x s cc.toList) (hn : sk.blocks.Nodup)
    {up : Skel → Skel} (hup : ∀ s1, up s1 = .own b0 (skSet p τ s s1)) {W : TT} {X : W.C} (hW : ∀ (w1 : World) (ok1 : Nat → Prop) (s1 : Skel) (c1 : Array Value), w1.heap[b0]? = some (.cells c1 T (0, 0)) → TCells w1 ok1 τ1 x1 s1 c1.toList → TCells w1 ok1 W X (.own b0 s1) cs) :
    ∃ sk' cs', skAt p τ s = some sk' ∧ TCells w ok τ' x' sk' cs' ∧ (∀ b ∈ sk'.blocks, b ∈ sk.blocks) ∧ ∀ cur, Foc w ok sk cs sk' cs' τ'' x'' W X cur (addrAt p τ s (some (b0, 0))) up := by
  subst esk
  have hn' := List.nodup_cons.1 hn
  obtain ⟨sk', cs', k1, k2, k3, k4⟩ := hr w ok s cc.toList h4 hn'.2
  refine ⟨sk', cs', k1, k2, fun b hb => List.mem_cons_of_mem _ (k3 b hb), fun cur => .inr ?_⟩
  rcases k4 (some (b0, 0)) with ⟨d1, d3, g1, g2, g3⟩ | ⟨b, cc', T', d1, d3, g1, g1', g2, g3, g4, g5⟩
  · refine ⟨b0, cc, T, d1, d3, List.mem_cons_self, fun hb => hn'.1 (k3 _ hb), h3, g1, by rw [g2]; simp, fun w1 ok1 s1 d hok hb hw hd hl => ?_⟩
    obtain ⟨q1, q2⟩ := g3 w1 ok1 s1 d hok (fun k hk hk' => hb k (List.mem_cons_of_mem _ hk) hk' (fun e => hn'.1 (e ▸ hk))) hd hl
    rw [hup]
    exact ⟨hW w1 ok1 _ _ hw q1, q2.cons _⟩
  · refine ⟨b, cc', T', d1, d3, List.mem_cons_of_mem _ g1, g1', g2, g3, g4, fun w1 ok1 s1 d hok hb hw hd hl => ?_⟩
    obtain ⟨q1, q2⟩ := g5 w1 ok1 s1 d hok (fun k hk hk' hne => hb k (List.mem_cons_of_mem _ hk) hk' hne) hw hd hl
    rw [hup]
    exact ⟨hW w1 ok1 _ cc (by rw [hb b0 List.mem_cons_self (fun hb' => hn'.1 (k3 _ hb')) (fun e => hn'.1 (e ▸ g1))]; exact h3) q1, q2.cons _⟩
theorem Re.own {f : Nat} {p : List Nat} {τ : TT} {x : τ.C} {τ' : TT} {x' : τ'.C} {τ'' : TT} {x'' : τ''.C} {τ1 : TT} {x1 : τ1.C} (hr : Re p τ x τ' x' τ'' x'' τ1 x1) : Re (f :: p) (.own τ) x τ' x' τ'' x'' (.own τ1) x1 := by
  rintro w ok sk cs ⟨b, cc, T, s, rfl, rfl, h3, h4⟩ hn
  exact hr.deref (W := .own τ1) (X := x1) rfl h3 h4 hn (up := skSet (f :: p) (.own τ) (.own b s)) (fun s1 => rfl) (fun w1 ok1 s1 c1 hw hc => ⟨b, c1, T, s1, rfl, rfl, hw, hc⟩)
theorem Re.opt {f : Nat} {p : List Nat} {τ : TT} {x : τ.C} {τ' : TT} {x' : τ'.C} {τ'' : TT} {x'' : τ''.C} {τ1 : TT} {x1 : τ1.C} (hr : Re p τ x τ' x' τ'' x'' τ1 x1) : Re (f :: p) (.opt τ) (some x) τ' x' τ'' x'' (.opt τ1) (some x1) := by
  rintro w ok sk cs ⟨b, cc, T, s, rfl, rfl, h3, h4⟩ hn
  exact hr.deref (W := .opt τ1) (X := some x1) rfl h3 h4 hn (up := skSet (f :: p) (.opt τ) (.own b s)) (fun s1 => rfl) (fun w1 ok1 s1 c1 hw hc => ⟨b, c1, T, s1, rfl, rfl, hw, hc⟩)
theorem append_inj3 {α : Type} {a b c a' b' c' : List α} (h : a ++ (b ++ c) = a' ++ (b' ++ c')) (h1 : a.length = a'.length) (h2 : b.length = b'.length) : a = a' ∧ b = b' ∧ c = c' := by
  obtain ⟨e1, e2⟩ := List.append_inj h h1
  obtain ⟨e3, e4⟩ := List.append_inj e2 h2
  exact ⟨e1, e3, e4⟩
theorem Re.data {p : List Nat} {f : Nat} {t : Ty} {x : t.C} {t' : Ty} {y : t'.C} {off : Nat} (hp : Ty.pathOff (f :: p) t = some (off, t'))
    (hg : ∀ {w : World} {ok : Nat → Prop} {cs : List Value}, Cells w ok t x cs → ∃ c1 c2 c3, cs = c1 ++ (c2 ++ c3) ∧ c1.length = off ∧ Cells w ok t' y c2) {z : t'.C} {x1 : t.C}
    (hs : ∀ {w : World} {ok : Nat → Prop} {cs : List Value}, Cells w ok t x cs → ∃ c1 c2 c3, cs = c1 ++ (c2 ++ c3) ∧ c1.length = off ∧ c2.length = t'.width ∧ ∀ d, Cells w ok t' z d → Cells w ok t x1 (c1 ++ (d ++ c3))) :
    Re (f :: p) (.data t) x (.data t') y (.data t') z (.data t) x1 := by
  rintro w ok sk cs ⟨rfl, hc⟩ hn
  obtain ⟨c1, c2, c3, rfl, hl, h2⟩ := hg hc
  refine ⟨.leaf, c2, rfl, ⟨rfl, h2⟩, fun b hb => hb, fun cur => .inl ⟨c1, c3, rfl, ?_, fun w1 ok1 s1 d hok hb hd hl' => ?_⟩⟩
  · simp only [addrAt, hp]; cases cur <;> simp [hl]
  · obtain ⟨rfl, hd⟩ := hd
    obtain ⟨d1, d2, d3, e, g1, g2, g3⟩ := hs (Cells.mono hok t x _ hc)
    obtain ⟨rfl, rfl, rfl⟩ := append_inj3 e (by rw [hl, g1]) (by rw [g2]; exact Cells.length _ _ _ h2)
    exact ⟨⟨rfl, g3 d hd⟩, Swap.refl _ _⟩
theorem getK_pair {S : Type} (p : List Nat) (t : Ty) (x : t.C) (G : (t' : Ty) → t'.C → Option S) : Ty.getK p t x G = (Ty.getK p t x (fun t' y => some (⟨t', y⟩ : (t : Ty) × t.C))).bind fun q => G q.1 q.2 :=
  getK_nat _ _ _ _ _ _ (fun _ _ => rfl)
theorem modK_inv {R : Type} : ∀ {p : List Nat} {τ : TT} {x : τ.C} {g : (τ' : TT) → τ'.C → ((τ'' : TT) → τ''.C → Option R) → Option R} {K : (τ' : TT) → τ'.C → Option R} {r : R}, TT.modK p τ x g K = some r →
    ∃ τ' x' k, g τ' x' k = some r ∧ TT.getK p τ x (fun τ' y => some (⟨τ', y⟩ : (τ : TT) × τ.C)) = some ⟨τ', x'⟩ ∧ ∀ τ'' x'' r', k τ'' x'' = some r' → ∃ τ1 x1, K τ1 x1 = some r' ∧ Re p τ x τ' x' τ'' x'' τ1 x1 ∧ (τ'' = τ' → τ1 = τ) ∧ (p ≠ [] → τ1.isAgg = τ.isAgg) ∧ (p = [] → τ1 = τ'')
  | [], τ, x, g, K, r, h => ⟨τ, x, K, h, rfl, fun τ'' x'' r' hk => ⟨τ'', x'', hk, Re.nil _ _ _ _, fun e => e, fun h => absurd rfl h, fun _ => rfl⟩⟩
  | f :: p, .agg τ, x, g, K, r, h => by
    obtain ⟨u, y, k, off, h1, h2, h3, h3'⟩ := compMod_inv h
    obtain ⟨τ', x', k', h4, h4', h5⟩ := modK_inv h1
    refine ⟨τ', x', k', h4, by show TT.compK τ x f _ = _; rw [h3']; exact h4', fun τ'' x'' r' hk => ?_⟩
    obtain ⟨u1, y1, h6, h7, h7', _⟩ := h5 τ'' x'' r' hk
    obtain ⟨τ1, x1, h8, h9, h9'⟩ := h3 u1 y1 r' h6
    exact ⟨_, _, h8, Re.comp h2 h9 h7, fun e => by rw [h9' (h7' e)], fun _ => rfl, fun e => by cases e⟩
  | f :: p, .own τ, x, g, K, r, h => by
    obtain ⟨τ', x', k', h4, h4', h5⟩ := modK_inv (p := p) (τ := τ) (x := x) h
    refine ⟨τ', x', k', h4, h4', fun τ'' x'' r' hk => ?_⟩
    obtain ⟨u1, y1, h6, h7, h7', _⟩ := h5 τ'' x'' r' hk
    exact ⟨_, _, h6, Re.own h7, fun e => by rw [h7' e], fun _ => rfl, fun e => by cases e⟩
  | f :: p, .opt τ, none, g, K, r, h => by simp [TT.modK] at h
  | f :: p, .opt τ, some x, g, K, r, h => by
    obtain ⟨τ', x', k', h4, h4', h5⟩ := modK_inv (p := p) (τ := τ) (x := x) h
    refine ⟨τ', x', k', h4, h4', fun τ'' x'' r' hk => ?_⟩
    obtain ⟨u1, y1, h6, h7, h7', _⟩ := h5 τ'' x'' r' hk
    exact ⟨_, _, h6, Re.opt h7, fun e => by rw [h7' e], fun _ => rfl, fun e => by cases e⟩
  | f :: p, .data t, x, g, K, r, h => by
    have h0 := h
    simp only [TT.modK] at h0
    rw [getK_pair] at h0
    obtain ⟨⟨t', y⟩, hp, h1⟩ := Option.bind_eq_some_iff.1 h0
    obtain ⟨t2, y2, off, e, h2, h3⟩ := getK_inv hp
    simp only [Option.some.injEq, Sigma.mk.injEq] at e
    obtain ⟨rfl, e⟩ := e
    obtain rfl := eq_of_heq e
    refine ⟨.data t2, y2, _, h1, ?_, fun τ'' x'' r' hk => ?_⟩
    · simp only [TT.getK]
      rw [getK_pair, hp]
      rfl
    cases τ'' with
    | data t'' =>
      obtain ⟨off', x1, h4, h5, h6⟩ := setK_inv hk
      rw [h2] at h5
      simp only [Option.some.injEq, Prod.mk.injEq] at h5
      obtain ⟨rfl, rfl⟩ := h5
      exact ⟨_, _, h4, Re.data h2 h3 h6, fun _ => rfl, fun _ => rfl, fun e => by cases e⟩
    | _ => simp at hk
  | f :: p, .vec _, x, g, K, r, h => by simp [TT.modK] at h
  | f :: p, .map _ _, x, g, K, r, h => by simp [TT.modK] at h
  | f :: p, .hole, x, g, K, r, h => by simp [TT.modK] at h
  | f :: p, .unit, x, g, K, r, h => by simp [TT.modK] at h
  | f :: p, .pair _ _, x, g, K, r, h => by simp [TT.modK] at h
/-! ## 4. Skeletons that stay -/
theorem compSkSet_same : ∀ {τ : TT} {sk s : Skel} {f : Nat} {u : TT}, compSk τ sk f = some (u, s) → compSkSet τ sk f s = sk
  | .pair a b, .pair s1 s2, s, 0, u, h => by simp only [compSk, Option.some.injEq, Prod.mk.injEq] at h; rw [← h.2]; rfl
  | .pair a b, .pair s1 s2, s, n + 1, u, h => by simp only [compSk] at h; simp only [compSkSet]; rw [compSkSet_same h]
  | .data _, _, _, _, _, h => by simp [compSk] at h
  | .vec _, _, _, _, _, h => by simp [compSk] at h
  | .map _ _, _, _, _, _, h => by simp [compSk] at h
  | .own _, _, _, _, _, h => by simp [compSk] at h
  | .opt _, _, _, _, _, h => by simp [compSk] at h
  | .hole, _, _, _, _, h => by simp [compSk] at h
  | .unit, _, _, _, _, h => by simp [compSk] at h
  | .agg _, _, _, _, _, h => by simp [compSk] at h
  | .pair _ _, .leaf, _, _, _, h => by simp [compSk] at h
  | .pair _ _, .vec _, _, _, _, h => by simp [compSk] at h
  | .pair _ _, .map _, _, _, _, h => by simp [compSk] at h
  | .pair _ _, .own _ _, _, _, _, h => by simp [compSk] at h
  | .pair _ _, .nil, _, _, _, h => by simp [compSk] at h
theorem skSet_same : ∀ {p : List Nat} {τ : TT} {sk s : Skel}, skAt p τ sk = some s → skSet p τ sk s = sk
  | [], τ, sk, s, h => by simp only [skAt, Option.some.injEq] at h; rw [← h]; rfl
  | f :: p, .agg τ, sk, s, h => by
    simp only [skAt] at h
    simp only [skSet]
    split at h
    · rename_i u s0 e; rw [e]; simp only; rw [skSet_same h, compSkSet_same e]
    · simp at h
  | _ :: p, .own τ, sk, s, h => by
    simp only [skAt] at h
    simp only [skSet]
    split at h
    · rename_i b s0; simp only; rw [skSet_same h]
    · simp at h
  | _ :: p, .opt τ, sk, s, h => by
    simp only [skAt] at h
    simp only [skSet]
    split at h
    · rename_i b s0; simp only; rw [skSet_same h]
    · simp at h
  | _ :: _, .data _, _, _, _ => rfl
  | _ :: _, .vec _, _, _, _ => rfl
  | _ :: _, .map _ _, _, _, _ => rfl
  | _ :: _, .hole, _, _, _ => rfl
  | _ :: _, .unit, _, _, _ => rfl
  | _ :: _, .pair _ _, _, _, _ => rfl
theorem Re.inner {p : List Nat} {τ : TT} {x : τ.C} {τ' : TT} {x' : τ'.C} {τ'' : TT} {x'' : τ''.C} {τ1 : TT} {x1 : τ1.C} (hr : Re p τ x τ' x' τ'' x'' τ1 x1) {w : World} {ok : Nat → Prop} {sk : Skel} {cs : List Value} (h : TCells w ok τ x sk cs) (hn : sk.blocks.Nodup) :
    ∃ sk' cs', skAt p τ sk = some sk' ∧ TCells w ok τ' x' sk' cs' ∧ (∀ b ∈ sk'.blocks, b ∈ sk.blocks) ∧
      ∀ (w1 : World) (ok1 : Nat → Prop) (s1 : Skel), (∀ b, ok b → ok1 b ∧ w1.heap[b]? = w.heap[b]?) → (∀ b ∈ sk.blocks, b ∉ sk'.blocks → w1.heap[b]? = w.heap[b]?) → TCells w1 ok1 τ'' x'' s1 cs' →
        TCells w1 ok1 τ1 x1 (skSet p τ sk s1) cs ∧ Swap sk.blocks (skSet p τ sk s1).blocks sk'.blocks s1.blocks := by
  obtain ⟨sk', cs', h1, h2, h3, h4⟩ := hr w ok sk cs h hn
  refine ⟨sk', cs', h1, h2, h3, fun w1 ok1 s1 hok hb hd => ?_⟩
  rcases h4 none with ⟨c1, c3, rfl, g2, g3⟩ | ⟨b, cc, T, c1, c3, g1, g1', g2, g3, g4, g5⟩
  · exact g3 w1 ok1 s1 cs' hok hb hd rfl
  · refine g5 w1 ok1 s1 cs' hok (fun k hk hk' _ => hb k hk hk') ?_ hd rfl
    rw [hb b g1 g1', g2, ← g3]
/-! ## 5. What stands at a place -/
def HasAt (p : List Nat) (τ : TT) (x : τ.C) (τ' : TT) (x' : τ'.C) : Prop :=
  ∀ (w : World) (ok : Nat → Prop) (sk : Skel) (cs : List Value), TCells w ok τ x sk cs → sk.blocks.Nodup → ∃ sk' cs', skAt p τ sk = some sk' ∧ TCells w ok τ' x' sk' cs' ∧ (∀ b ∈ sk'.blocks, b ∈ sk.blocks) ∧
    ∀ cur, ((∃ c1 c3, cs = c1 ++ (cs' ++ c3) ∧ addrAt p τ sk cur = cur.map (fun a => (a.1, a.2 + c1.length))) ∨
      ∃ b cc T c1 c3, b ∈ sk.blocks ∧ b ∉ sk'.blocks ∧ w.heap[b]? = some (.cells cc T (0, 0)) ∧ cc.toList = c1 ++ (cs' ++ c3) ∧ addrAt p τ sk cur = some (b, c1.length))
theorem compK_id {R : Type} : ∀ {τ : TT} {x : τ.C} {f : Nat} {K : (τ' : TT) → τ'.C → Option R} {r : R}, TT.compK τ x f K = some r →
    ∃ u y off, K u y = some r ∧ TT.compOff τ f = some (off, u) ∧ CompRe τ x f off u y u y τ x
  | .pair a b, x, 0, K, r, h => by
    refine ⟨a, x.1, 0, h, rfl, ?_⟩
    rintro w ok sk cs ⟨s1, s2, c1, c2, rfl, rfl, h1, h2⟩ hn
    refine ⟨s1, [], c1, c2, rfl, by simp, rfl, h1, fun s => (Swap.refl _ _).right _, fun w1 ok1 s d hok hb hd => ⟨s, s2, d, c2, rfl, by simp, hd, ?_⟩⟩
    exact TCells.mono hok b x.2 s2 c2 (fun k hk => hb k (List.mem_append_right _ hk) (fun hk' => (List.nodup_append.1 hn).2.2 k hk' k hk rfl)) h2
  | .pair a b, x, n + 1, K, r, h => by
    obtain ⟨u, y, off, h1, h2, h5⟩ := compK_id (τ := b) (x := x.2) (f := n) h
    refine ⟨u, y, a.width + off, h1, by simp [TT.compOff, h2], ?_⟩
    rintro w ok sk cs ⟨s1, s2, c1, c2, rfl, rfl, g1, g2⟩ hn
    have hn' := List.nodup_append.1 hn
    obtain ⟨s, d1, d2, d3, e1, e2, e3, e4, e5, e6⟩ := h5 w ok s2 c2 g2 hn'.2.1
    refine ⟨s, c1 ++ d1, d2, d3, by simp [compSk, e1], by rw [e2]; simp, by simp [e3, TCells.length _ _ _ _ g1], e4, fun s' => (e5 s').left _, fun w1 ok1 s' d hok hb hd => ?_⟩
    refine ⟨s1, _, c1, d1 ++ (d ++ d3), rfl, by simp, ?_, e6 w1 ok1 s' d hok (fun k hk hk' => hb k (List.mem_append_right _ hk) hk') hd⟩
    refine TCells.mono hok a x.1 s1 c1 (fun k hk => hb k (List.mem_append_left _ hk) (fun hk' => ?_)) g1
    exact hn'.2.2 k hk k ((e5 .leaf).sub k hk') rfl
  | .data _, _, _, _, _, h => by simp [TT.compK] at h
  | .vec _, _, _, _, _, h => by simp [TT.compK] at h
  | .map _ _, _, _, _, _, h => by simp [TT.compK] at h
  | .own _, _, _, _, _, h => by simp [TT.compK] at h
  | .opt _, _, _, _, _, h => by simp [TT.compK] at h
  | .hole, _, _, _, _, h => by simp [TT.compK] at h
  | .unit, _, _, _, _, h => by simp [TT.compK] at h
  | .agg _, _, _, _, _, h => by simp [TT.compK] at h
theorem HasAt.deref {p : List Nat} {τ : TT} {x : τ.C} {τ' : TT} {x' : τ'.C} (hr : HasAt p τ x τ' x') {w : World} {ok : Nat → Prop} {b0 : Nat} {cc : Array Value} {T : TypeId} {s : Skel} {cs : List Value} (h3 : w.heap[b0]? = some (.cells cc T (0, 0)))
    (h4 : TCells w ok τ x s cc.toList) (hn : (Skel.own b0 s).blocks.Nodup) : ∃ sk' cs', skAt p τ s = some sk' ∧ TCells w ok τ' x' sk' cs' ∧ (∀ b ∈ sk'.blocks, b ∈ (Skel.own b0 s).blocks) ∧
    ∀ cur : Option (Nat × Nat), ((∃ c1 c3, cs = c1 ++ (cs' ++ c3) ∧ addrAt p τ s (some (b0, 0)) = cur.map (fun a => (a.1, a.2 + c1.length))) ∨
      ∃ b cc T c1 c3, b ∈ (Skel.own b0 s).blocks ∧ b ∉ sk'.blocks ∧ w.heap[b]? = some (.cells cc T (0, 0)) ∧ cc.toList = c1 ++ (cs' ++ c3) ∧ addrAt p τ s (some (b0, 0)) = some (b, c1.length)) := by
  have hn' := List.nodup_cons.1 hn
  obtain ⟨sk', cs', k1, k2, k3, k4⟩ := hr w ok s cc.toList h4 hn'.2
  refine ⟨sk', cs', k1, k2, fun b hb => List.mem_cons_of_mem _ (k3 b hb), fun cur => .inr ?_⟩
  rcases k4 (some (b0, 0)) with ⟨d1, d3, g1, g2⟩ | ⟨b, cc', T', d1, d3, g1, g1', g2, g3, g4⟩
  · exact ⟨b0, cc, T, d1, d3, List.mem_cons_self, fun hb => hn'.1 (k3 _ hb), h3, g1, by rw [g2]; simp⟩
  · exact ⟨b, cc', T', d1, d3, List.mem_cons_of_mem _ g1, g1', g2, g3, g4⟩
theorem getT_inv {R : Type} : ∀ {p : List Nat} {τ : TT} {x : τ.C} {K : (τ' : TT) → τ'.C → Option R} {r : R}, TT.getK p τ x K = some r → ∃ τ' x', K τ' x' = some r ∧ HasAt p τ x τ' x'
  | [], τ, x, K, r, h => ⟨τ, x, h, fun w ok sk cs h hn => ⟨sk, cs, rfl, h, fun _ hb => hb, fun cur => .inl ⟨[], [], by simp, map_zero cur⟩⟩⟩
  | f :: p, .agg τ, x, K, r, h => by
    obtain ⟨u, y, off, h1, h2, h3⟩ := compK_id h
    obtain ⟨τ', x', h4, h5⟩ := getT_inv h1
    refine ⟨τ', x', h4, fun w ok sk cs h hn => ?_⟩
    obtain ⟨s, c1, c2, c3, e1, rfl, e3, e4, e5, e6⟩ := h3 w ok sk cs h hn
    have hsub : ∀ b ∈ s.blocks, b ∈ sk.blocks := (e5 .leaf).sub
    have hns : s.blocks.Nodup := by
      obtain ⟨o, g1, _⟩ := e5 .leaf
      exact (List.nodup_append.1 (g1.nodup_iff.1 hn)).1
    obtain ⟨sk', cs', k1, k2, k3, k4⟩ := h5 w ok s c2 e4 hns
    refine ⟨sk', cs', by simp only [skAt, e1]; exact k1, k2, fun b hb => hsub b (k3 b hb), fun cur => ?_⟩
    rw [addrAt_agg e1 h2 cur]
    rcases k4 (cur.map fun a => (a.1, a.2 + off)) with ⟨d1, d3, g1, g2⟩ | ⟨b, cc, T, d1, d3, g1, g1', g2, g3, g4⟩
    · refine .inl ⟨c1 ++ d1, d3 ++ c3, by rw [g1]; simp, ?_⟩
      rw [g2]; cases cur <;> simp [e3, Nat.add_assoc]
    · exact .inr ⟨b, cc, T, d1, d3, hsub b g1, g1', g2, g3, g4⟩
  | f :: p, .own τ, x, K, r, h => by
    obtain ⟨τ', x', h4, h5⟩ := getT_inv (p := p) (τ := τ) (x := x) h
    refine ⟨τ', x', h4, ?_⟩
    rintro w ok sk cs ⟨b, cc, T, s, rfl, rfl, h3, h4⟩ hn
    exact h5.deref h3 h4 hn
  | f :: p, .opt τ, none, K, r, h => by simp [TT.getK] at h
  | f :: p, .opt τ, some x, K, r, h => by
    obtain ⟨τ', x', h4, h5⟩ := getT_inv (p := p) (τ := τ) (x := x) h
    refine ⟨τ', x', h4, ?_⟩
    rintro w ok sk cs ⟨b, cc, T, s, rfl, rfl, h3, h4⟩ hn
    exact h5.deref h3 h4 hn
  | f :: p, .data t, x, K, r, h => by
    obtain ⟨t', y, off, h1, h2, h3⟩ := getK_inv h
    refine ⟨.data t', y, h1, ?_⟩
    rintro w ok sk cs ⟨rfl, hc⟩ hn
    obtain ⟨c1, c2, c3, rfl, hl, h2'⟩ := h3 hc
    refine ⟨.leaf, c2, rfl, ⟨rfl, h2'⟩, fun b hb => hb, fun cur => .inl ⟨c1, c3, rfl, ?_⟩⟩
    simp only [addrAt, h2]; cases cur <;> simp [hl]
  | f :: p, .vec _, x, K, r, h => by simp [TT.getK] at h
  | f :: p, .map _ _, x, K, r, h => by simp [TT.getK] at h
  | f :: p, .hole, x, K, r, h => by simp [TT.getK] at h
  | f :: p, .unit, x, K, r, h => by simp [TT.getK] at h
  | f :: p, .pair _ _, x, K, r, h => by simp [TT.getK] at h
end Go.PB
namespace Go.PB
open Go Go.RowKit
section
variable {F : Fr} {P : Program} {w0 w w' : World} {st : St} {a : Act} {ρ : Nat → Loc} {R : Type}
theorem append_room (w : World) (t ty e : TypeId) (i : TypeInfo) (ht : P.underlying t = some (.slice e)) (hi : P.info? e = some i)
    (g sLen sCap : Nat) (cur : Array Value) (T : TypeId) (hg : w.heap[g]? = some (.cells cur T (0, 0)))
    (ad : Addr) (m c : Nat) (news : List Value) (hl : news.length = m * i.size) (hnews : ∀ j u, news[j]? = some u → w.cell? (ad.add j) = some u) (h1 : ∀ u ∈ news, u.oneCell' = true)
    (hroom : sLen + m ≤ sCap) (hfit : sLen * i.size + news.length ≤ cur.size) :
    (Builtin.append_ #[t, t] ty #[.slice (some ⟨g, 0, none⟩) sLen sCap, .slice (some ad) m c]).run P w =
      .ok (.slice (some ⟨g, 0, none⟩) (sLen + m) sCap) (w.setRow g (cur.toList.take (sLen * i.size) ++ news ++ cur.toList.drop (sLen * i.size + news.length)).toArray) := by
  have hf := run_firstCells_some (P := P) w i.size m ad m c news hl hnews
  have hst := run_storeCells_at P g (sLen * i.size) T news 0 cur w hg (by simpa using hfit) h1
  simp only [Nat.add_zero] at hst
  simp [Builtin.append_, run_underlying ht, sizeOf, typeInfo, hi, Builtin.lenOf, hroom, hf, Addr.add_lit, hst]
theorem append_none (w : World) (t ty e : TypeId) (i : TypeInfo) (ht : P.underlying t = some (.slice e)) (hi : P.info? e = some i) (A : Option Addr) (hA : ∀ x, A = some x → x.spot = none) (n cap : Nat) (hn : n ≤ cap) (A' : Option Addr) (c : Nat) :
    (Builtin.append_ #[t, t] ty #[.slice A n cap, .slice A' 0 c]).run P w = .ok (.slice A n cap) w := by
  cases A' <;> cases A <;> simp [Builtin.append_, run_underlying ht, sizeOf, typeInfo, hi, Builtin.lenOf, Builtin.firstCells, loadCells, loadCellsFrom, storeCells, hn]
theorem alloc_drew_heap (w : World) (o : Obj) : (w.drew.alloc o).heap = (w.alloc o).heap := rfl
theorem Open.same (h : Open F w0 st a w ρ) (hb : Near F.kept w0 w') (he : w'.heap = w.heap) : Open F w0 st a w' ρ := by
  have hblk : ∀ b, b < w.heap.size → w'.heap[b]? = w.heap[b]? := fun b _ => by rw [he]
  have hsz : w.heap.size ≤ w'.heap.size := by rw [he]; exact Nat.le_refl _
  have hno : ∀ id b, st.heap.length ≤ id → (hget st.heap id).owns = true → b ∈ (ρ id).bs → False := fun id b hid ho _ => by
    rw [hget_ge _ id hid] at ho; simp [AObj.owns] at ho
  exact ⟨h.defers, h.size, hb, hrel_ext h.hrel h.base hsz hblk (Nat.le_refl _) (fun _ _ => ⟨rfl, rfl⟩) (fun id h1 h2 => by omega) (fun id b h1 h2 h3 => (hno id b h1 h2 h3).elim) (fun id id' b h1 _ h2 _ h3 _ => (hno id b h1 h2 h3).elim),
    fun i => VRel.keeps (keeps_ext (fun id b ho hb => (h.hrel.own id b ho hb).2) hsz hblk (Nat.le_refl _) (fun _ _ => ⟨rfl, rfl⟩) (fun id b h1 h2 h3 => (hno id b h1 h2 h3).elim)) _ _ (h.vals i)⟩
theorem listK_inv {h : List AObj} {u : AVal} {x : Value} {t : Ty} {K : List t.C → Option R} {r : R} (hobj : ∀ id, id < h.length → ORel w ρ (okOf F w ρ h) id (hget h id)) (hx : VRel w ρ h (okOf F w ρ h) u x) (hk : listK (res h u) t K = some r) :
    ∃ m : List t.C, K m = some r ∧ ∃ A c, x = .slice A m.length c ∧ (m = [] ∨ ∃ b o cc, A = some ⟨b, o, none⟩ ∧ RowC (Cells w (okOf F w ρ h) t) m cc ∧ ∀ j v, cc[j]? = some v → w.cell? ⟨b, o + j, none⟩ = some v) := by
  unfold listK at hk
  split at hk
  · rename_i t' l ex
    obtain ⟨e, hk⟩ := castK_inv hk
    injection e with e
    subst e
    obtain ⟨A, c, hv, _, h1⟩ := (res_data hx ex).list_inv
    refine ⟨l, hk, A, c, hv, ?_⟩
    rcases h1 with h1 | ⟨b, o, cc, h1, h2, h3, h4⟩
    · exact .inl h1
    · exact .inr ⟨b, o, cc, h1, h3, h4⟩
  · rename_i id ver t' l ex
    obtain ⟨e, hk⟩ := castK_inv hk
    injection e with e
    subst e
    obtain ⟨hl, ho, _, hx'⟩ := row_osl hx ex
    have hob := hobj id hl
    rw [ho] at hob
    rcases hx' with ⟨hn, rfl⟩ | ⟨b, c, cs, T, hb, rfl, hrow, hsz, hlc⟩
    · rcases hob with ⟨_, rfl⟩ | ⟨b, _, _, _, _, hb, _⟩
      · exact ⟨[], hk, none, 0, rfl, .inl rfl⟩
      · rw [hn] at hb; cases hb
    · rcases hob with ⟨hn, _⟩ | ⟨b', cs', T', cc, rest, hb', hrow', ecc, hrc⟩
      · rw [hn] at hb; cases hb
      · obtain rfl : b = b' := by rw [hb] at hb'; simpa using hb'
        refine ⟨l, hk, _, c, rfl, .inr ⟨b, 0, cc, rfl, hrc, fun j v hj => ?_⟩⟩
        rw [Nat.zero_add, cell_of_row w b j cs' T' _ hrow', ← Array.getElem?_toList, ecc, List.getElem?_append_left (List.getElem?_eq_some_iff.1 hj).1]; exact hj
  · rename_i ex
    obtain rfl := res_nils ex
    obtain rfl : x = .slice none 0 0 := hx
    exact ⟨[], hk, none, 0, rfl, .inl rfl⟩
  · simp at hk
theorem Open.append {tt : Tab} (hT : TTOk P tt) (h : Open F w0 st a w ρ) {ty tyo : TypeId} {te : Ty} (hty : tt ty = some (.list te)) {s x : Operand} {K : Out → Option R} {r : R}
    (hk : appendK te (res st.heap (PB.ev st.tmps s)) (res st.heap (PB.ev st.tmps x)) K = some r) :
    ∃ out val w', K out = some r ∧ (Builtin.append_ #[ty, ty] tyo #[a.eval s, a.eval x]).run P w = .ok val w' ∧ ∀ dst, Rel F w0 (st.after dst out) (a.put dst val) w' := by
  obtain ⟨_, e, he, hte⟩ := hT _ _ hty
  obtain ⟨i, z, hi, hsize, hpos, hbytes, hz, hzc, _⟩ := hte.info
  have hzs : z.cells.size = te.width := by
    have h1 : z.cells.size = z.cells.toList.length := by simp
    rw [h1, hzc]
    exact Cells.length _ _ _ (cells_zero w (fun _ => True) te)
  have hs := h.ev s
  have hx := h.ev x
  unfold appendK at hk
  split at hk
  · rename_i id ver t l es
    obtain ⟨e1, hk1⟩ := sameK_inv hk; clear hk; subst e1
    obtain ⟨m, hk2, A, c, hxv, hm⟩ := listK_inv h.hrel.obj hx hk1
    obtain ⟨hroom, hk3⟩ := roomK_inv hk2
    have hmost : l.length + m.length ≤ 4294967296 := hroom
    obtain ⟨hl, ho, e2, hsv⟩ := row_osl hs es
    have hob := h.hrel.obj id hl
    rw [ho] at hob
    -- the references to the old row are stale
    have stale : ∀ (w' : World) (ρ' : Nat → Loc) (ok' : Nat → Prop) (v : Nat) (val : Value), SlRel w ρ (okOf F w ρ st.heap) id v val (hget st.heap id) → SlRel w' ρ' ok' id v val (.row (ver + 1) t (l ++ m)) := by
      intro w' ρ' ok' v val hsl
      rw [ho] at hsl
      exact ⟨by have := hsl.1; omega, fun e => by have := hsl.1; omega⟩
    have stale' : ∀ (ρ' : Nat → Loc) (v j : Nat) (p : List Nat) (val : Value), ElRel ρ id v j p val (hget st.heap id) → ElRel ρ' id v j p val (.row (ver + 1) t (l ++ m)) := by
      intro ρ' v j p val hsl
      rw [ho] at hsl
      exact ⟨by have := hsl.1; omega, fun e => by have := hsl.1; omega⟩
    have stay : ∀ val, a.eval s = val → ((ρ id).bs = [] ∧ val = .slice none 0 0 ∧ l ++ m = []) ∨ (∃ b c cs T cc rest, (ρ id).bs = [b] ∧ val = .slice (some ⟨b, 0, none⟩) (l ++ m).length c ∧ w.heap[b]? = some (.cells cs T (0, 0)) ∧ cs.size = c * t.width ∧ (l ++ m).length ≤ c ∧ cs.toList = cc ++ rest ∧ RowC (Cells w (okOf F w ρ st.heap) t) (l ++ m) cc) →
        ∀ dst, Rel F w0 (st.after dst (.upd (.osl id (ver + 1)) id (.row (ver + 1) t (l ++ m)))) (a.put dst val) w := by
      intro val _ hval dst
      have ch : Changes w ρ st.heap id (.row (ver + 1) t (l ++ m)) w ρ := ⟨hl, by rw [ho]; rfl, rfl, Nat.le_refl _, fun _ _ _ => rfl, fun _ _ => rfl, fun _ hr => .inl hr⟩
      refine h.upd ch h.below (fun v val hsl => stale _ _ _ v val hsl) (fun _ _ _ => trivial) (fun v j p val hsl => stale' _ v j p val hsl) (fun _ _ => trivial) ?_ ?_ dst
      · rcases hval with ⟨h1, _, h2⟩ | ⟨b, c, cs, T, cc, rest, h1, _, h3, _, _, h6, h7⟩
        · exact .inl ⟨h1, h2⟩
        · exact .inr ⟨b, cs, T, cc, rest, h1, h3, h6, RowC.mono (fun x cs => Cells.mono (fun k hk => ch.dat k hk) t x cs) _ cc h7⟩
      · refine ⟨by rw [length_hset]; exact hl, ?_⟩
        rw [hget_hset_self hl]
        refine ⟨Nat.le_refl _, fun _ => ?_⟩
        rcases hval with ⟨h1, h2, _⟩ | ⟨b, c, cs, T, cc, rest, h1, h2, h3, h4, h5, _, _⟩
        · exact .inl ⟨h1, h2⟩
        · exact .inr ⟨b, c, cs, T, h1, h2, h3, h4, h5⟩
    -- a new block: what it holds, and what it is
    have move : ∀ (w1 : World) (cs : Array Value) (T : TypeId) (cap : Nat) (cc rest : List Value), w1.heap = (w.alloc (.cells cs T)).heap → Below w.heap.size w w1 → cs.size = cap * t.width → (l ++ m).length ≤ cap → cs.toList = cc ++ rest → RowC (Cells w (okOf F w ρ st.heap) t) (l ++ m) cc →
        ∀ dst, Rel F w0 (st.after dst (.upd (.osl id (ver + 1)) id (.row (ver + 1) t (l ++ m)))) (a.put dst (.slice (some ⟨w.heap.size, 0, none⟩) (l ++ m).length cap)) w1 := by
      intro w1 cs T cap cc rest hw1 hbel hcs hcap hcc hrow dst
      have hnewb : w1.heap[w.heap.size]? = some (.cells cs T (0, 0)) := by rw [hw1]; exact heap_alloc_new w _
      have hsz1 : w1.heap.size = w.heap.size + 1 := by rw [hw1]; simp
      have ch : Changes w ρ st.heap id (.row (ver + 1) t (l ++ m)) w1 (newρ ρ id w.heap.size) :=
        ⟨hl, by rw [ho]; rfl, rfl, hbel.size, fun b hb _ => hbel.block b hb, fun i hi => by simp [newρ, hi], fun b hb => .inr (by simp [newρ] at hb; omega)⟩
      refine h.upd ch (h.near hbel) (fun v val hsl => stale _ _ _ v val hsl) (fun _ _ _ => trivial) (fun v j p val hsl => stale' _ v j p val hsl) (fun _ _ => trivial) ?_ ?_ dst
      · exact .inr ⟨w.heap.size, cs, T, cc, rest, by simp [newρ], hnewb, hcc, RowC.mono (fun x cs => Cells.mono (fun k hk => ch.dat k hk) t x cs) _ cc hrow⟩
      · refine ⟨by rw [length_hset]; exact hl, ?_⟩
        rw [hget_hset_self hl]
        exact ⟨Nat.le_refl _, fun _ => .inr ⟨w.heap.size, cap, cs, T, by simp [newρ], rfl, hnewb, hcs, hcap⟩⟩
    rcases hm with rfl | ⟨xb, xo, cm, hA, hcm, hcell⟩
    · -- nothing is appended
      rcases hsv with ⟨hn, hval⟩ | ⟨b, cap, cs, T, hb, hval, hrow, hsz, hlc⟩
      · refine ⟨_, .slice none 0 0, w, hk3, ?_, stay _ hval (.inl ⟨hn, rfl, ?_⟩)⟩
        · rw [hval, hxv]; exact append_none w ty tyo e i he hi none (by simp) 0 0 (Nat.le_refl _) A c
        · rcases hob with ⟨_, h0⟩ | ⟨b, _, _, _, _, hb, _⟩
          · simp [h0]
          · rw [hn] at hb; cases hb
      · rcases hob with ⟨hn, _⟩ | ⟨b', cs', T', cc, rest, hb', hrow', ecc, hrc⟩
        · rw [hn] at hb; cases hb
        · obtain rfl : b = b' := by rw [hb] at hb'; simpa using hb'
          rw [hrow] at hrow'
          simp only [Option.some.injEq, Obj.cells.injEq] at hrow'
          obtain ⟨rfl, rfl, _⟩ := hrow'
          refine ⟨_, _, w, hk3, ?_, stay _ hval (.inr ⟨b, cap, cs, T, cc, rest, hb, by simp, hrow, hsz, by simpa using hlc, ecc, by simpa using hrc⟩)⟩
          rw [hval, hxv]; exact append_none w ty tyo e i he hi _ (by simp) _ cap hlc A c
    · have hcml := RowC.length (fun x cs => Cells.length t x cs) m cm hcm
      have hone := RowC.one m cm hcm
      have hcell' : ∀ j u, cm[j]? = some u → w.cell? ((⟨xb, xo, none⟩ : Addr).add j) = some u := fun j u hj => by rw [addr_add]; exact hcell j u hj
      have fits : ∀ old, old < l.length + m.length → Builtin.nextslicecap (l.length + m.length) old * i.bytes ≤ 281474976710656 := fun old ho => growslice_fits ho (by
        have : (l.length + m.length) * i.bytes ≤ 4294967296 * 4096 := Nat.mul_le_mul hmost hbytes
        omega)
      have grown : ∀ (old : Nat), old < l.length + m.length → ∀ cl : List Value, cl.length = l.length * t.width → RowC (Cells w (okOf F w ρ st.heap) t) l cl → ∀ dst, Rel F w0 (st.after dst (.upd (.osl id (ver + 1)) id (.row (ver + 1) t (l ++ m))))
          (a.put dst (.slice (some ⟨w.heap.size, 0, none⟩) (l.length + m.length) (grownCap w (l.length + m.length) old e))) (w.drew.alloc (.cells (cl.toArray ++ cm.toArray ++ Builtin.zeroCells z.cells (grownCap w (l.length + m.length) old e - (l.length + m.length))) e)) := by
        intro old hold cl hcl hrc dst
        have hge := grownCap_ge w (l.length + m.length) old e
        have := move (w.drew.alloc (.cells (cl.toArray ++ cm.toArray ++ Builtin.zeroCells z.cells (grownCap w (l.length + m.length) old e - (l.length + m.length))) e)) _ e (grownCap w (l.length + m.length) old e) (cl ++ cm) _ rfl
          ⟨rfl, rfl, rfl, by simp, fun k hk => heap_alloc_old w.drew _ k hk⟩ (by
            simp only [Array.size_append, List.size_toArray, size_zeroCells, hzs, hcl, hcml, ← Nat.add_mul]
            congr 1; omega) (by simpa using hge) (by simp only [Array.toList_append]; rfl) (RowC.append l m cl cm hrc hcm) dst
        rw [List.length_append] at this
        exact this
      rcases hsv with ⟨hn, hval⟩ | ⟨b, cap, cs, T, hb, hval, hrow, hsz, hlc⟩
      · have hl0 : l = [] := by
          rcases hob with ⟨_, h0⟩ | ⟨b, _, _, _, _, hb, _⟩
          · exact h0
          · rw [hn] at hb; cases hb
        subst hl0
        by_cases hm0 : m = []
        · subst hm0
          refine ⟨_, .slice none 0 0, w, hk3, ?_, stay _ hval (.inl ⟨hn, rfl, rfl⟩)⟩
          rw [hval, hxv]; exact append_none w ty tyo e i he hi none (by simp) 0 0 (Nat.le_refl _) A c
        · have hmpos : 0 < m.length := List.length_pos_iff.2 hm0
          have hr := run_append_nil (P := P) w ty tyo e i z he hi hz ⟨xb, xo, none⟩ m.length c cm (by rw [hsize]; exact hcml) hcell' hmpos (by have : m.length ≤ 4294967296 := (by simpa using hmost); omega) (by
            have : m.length * i.bytes ≤ 4294967296 * 4096 := Nat.mul_le_mul (by simpa using hmost) hbytes
            omega)
          have hg := grown 0 (by simpa using hmpos) [] (by simp) rfl
          simp only [List.length_nil, Nat.zero_add] at hg
          refine ⟨_, _, _, hk3, by rw [hval, hxv, hA]; exact hr, fun dst => ?_⟩
          have := hg dst
          simpa using this
      · rcases hob with ⟨hn, _⟩ | ⟨b', cs', T', cc, rest, hb', hrow', ecc, hrc⟩
        · rw [hn] at hb; cases hb
        obtain rfl : b = b' := by rw [hb] at hb'; simpa using hb'
        rw [hrow] at hrow'
        simp only [Option.some.injEq, Obj.cells.injEq] at hrow'
        obtain ⟨rfl, rfl, _⟩ := hrow'
        have hccl := RowC.length (fun x cs => Cells.length t x cs) l cc hrc
        by_cases hfit : l.length + m.length ≤ cap
        · have hfit' : l.length * i.size + cm.length ≤ cs.size := by rw [hcml, hsize, hsz, ← Nat.add_mul]; exact Nat.mul_le_mul_right _ hfit
          have hr := append_room (P := P) w ty tyo e i he hi b l.length cap cs T hrow ⟨xb, xo, none⟩ m.length c cm (by rw [hsize]; exact hcml) hcell' hone hfit hfit'
          have htake : cs.toList.take (l.length * i.size) = cc := by rw [ecc, hsize, ← hccl, List.take_left]
          rw [htake] at hr
          have hown := h.hrel.own id b (by rw [ho]; rfl) (in1 hb)
          refine ⟨_, _, _, hk3, by rw [hval, hxv, hA]; exact hr, fun dst => ?_⟩
          have ch : Changes w ρ st.heap id (.row (ver + 1) t (l ++ m)) (w.setRow b (cc ++ cm ++ cs.toList.drop (l.length * i.size + cm.length)).toArray) ρ :=
            ⟨hl, by rw [ho]; rfl, rfl, by simp, fun k hk hne => setRow_other w b k _ (fun e => hne (by rw [e]; exact in1 hb)), fun _ _ => rfl, fun _ hr => .inl hr⟩
          refine h.upd ch (below_setRow h.below hown.1 _) (fun v val hsl => stale _ _ _ v val hsl) (fun _ _ _ => trivial) (fun v j p val hsl => stale' _ v j p val hsl) (fun _ _ => trivial) ?_ ?_ dst
          · exact .inr ⟨b, _, T, cc ++ cm, cs.toList.drop (l.length * i.size + cm.length), hb, setRow_heap w b cs _ T _ hrow, rfl, RowC.mono (fun x cs => Cells.mono (fun k hk => ch.dat k hk) t x cs) _ _ (RowC.append l m cc cm hrc hcm)⟩
          · refine ⟨by rw [length_hset]; exact hl, ?_⟩
            rw [hget_hset_self hl]
            refine ⟨Nat.le_refl _, fun _ => .inr ⟨b, cap, _, T, hb, by rw [List.length_append], setRow_heap w b cs _ T _ hrow, ?_, by rw [List.length_append]; exact hfit⟩⟩
            rw [← hsz]
            have : cs.size = cs.toList.length := by simp
            simp only [List.size_toArray, List.length_append, List.length_drop]
            rw [hccl, ← hsize]
            omega
        · have holds : ∀ j u, cc[j]? = some u → w.cell? ((⟨b, 0, none⟩ : Addr).add j) = some u := fun j u hj => by
            rw [addr_add, Nat.zero_add, cell_of_row w b j cs T _ hrow, ← Array.getElem?_toList, ecc, List.getElem?_append_left (List.getElem?_eq_some_iff.1 hj).1]; exact hj
          have hr := run_append_grow (P := P) w ty tyo e i z he hi hz ⟨b, 0, none⟩ l.length cap cc (by rw [hsize]; exact hccl) holds ⟨xb, xo, none⟩ m.length c cm (by rw [hsize]; exact hcml) hcell' (by omega) (by omega) (fits cap (by omega))
          refine ⟨_, _, _, hk3, by rw [hval, hxv, hA]; exact hr, fun dst => ?_⟩
          exact grown cap (by omega) cc hccl hrc dst
  · rename_i es
    have es' := res_nils es
    rw [es'] at hs
    have hval : a.eval s = .slice none 0 0 := hs
    obtain ⟨m, hk2, A, c, hxv, hm⟩ := listK_inv h.hrel.obj hx hk
    obtain ⟨hroom, hk3⟩ := roomK_inv hk2
    have hmost : m.length ≤ 4294967296 := hroom
    by_cases hm0 : m = []
    · subst hm0
      refine ⟨_, .slice none 0 0, w, hk3, ?_, fun dst => ?_⟩
      · rw [hval, hxv]; exact append_none w ty tyo e i he hi none (by simp) 0 0 (Nat.le_refl _) A c
      · have hsame : ∀ id, id < st.heap.length → hget (st.heap ++ [.row 0 te []]) id = hget st.heap id ∧ (fun i => if i = st.heap.length then Loc.nil else ρ i) id = ρ id := fun id hid => by
          rw [hget_append, if_neg (by omega)]; simp; omega
        have hno : ∀ id b, st.heap.length ≤ id → (hget (st.heap ++ [.row 0 te []]) id).owns = true → b ∈ ((fun i => if i = st.heap.length then Loc.nil else ρ i) id).bs → False := fun id b hid hown hr => by
          by_cases e : id = st.heap.length
          · simp [e, Loc.nil] at hr
          · rw [hget_ge _ id (by simp; omega)] at hown; simp [AObj.owns] at hown
        refine Rel.put (ρ := ρ) (ρ' := fun i => if i = st.heap.length then Loc.nil else ρ i) h.defers h.size h.vals h.below
          (hrel_ext h.hrel h.base (Nat.le_refl _) (fun _ _ => rfl) (by simp) hsame ?_ (fun id b h1 h2 h3 => (hno id b h1 h2 h3).elim) (fun id id' b h1 _ h2 _ h3 _ => (hno id b h1 h2 h3).elim))
          (keeps_ext (fun id b ho hb => (h.hrel.own id b ho hb).2) (Nat.le_refl _) (fun _ _ => rfl) (by simp) hsame (fun id b h1 h2 h3 => (hno id b h1 h2 h3).elim)) ?_ dst
        · intro id h1 h2
          obtain rfl : id = st.heap.length := by simp at h2; omega
          rw [hget_append, if_pos rfl]
          exact .inl ⟨by simp [Loc.nil], rfl⟩
        · refine ⟨by simp, ?_⟩
          rw [hget_append, if_pos rfl]
          exact ⟨Nat.le_refl _, fun _ => .inl ⟨by simp [Loc.nil], rfl⟩⟩
    · rcases hm with hm | ⟨xb, xo, cm, hA, hcm, hcell⟩
      · exact absurd hm hm0
      have hmpos : 0 < m.length := List.length_pos_iff.2 hm0
      have hcml := RowC.length (fun x cs => Cells.length te x cs) m cm hcm
      have hcell' : ∀ j u, cm[j]? = some u → w.cell? ((⟨xb, xo, none⟩ : Addr).add j) = some u := fun j u hj => by rw [addr_add]; exact hcell j u hj
      have hr := run_append_nil (P := P) w ty tyo e i z he hi hz ⟨xb, xo, none⟩ m.length c cm (by rw [hsize]; exact hcml) hcell' hmpos (by omega) (by
        have : m.length * i.bytes ≤ 4294967296 * 4096 := Nat.mul_le_mul hmost hbytes
        omega)
      refine ⟨_, _, _, hk3, by rw [hval, hxv, hA]; exact hr, fun dst => ?_⟩
      have hge := grownCap_ge w m.length 0 e
      -- one draw, then a new block
      have hd : Open F w0 st a w.drew ρ := h.same h.below.drew rfl
      have hcm := RowC.mono (fun x cs => Cells.mono (w := w) (ok := okOf F w ρ st.heap) (w' := w.drew) (ok' := okOf F w.drew ρ st.heap) (fun b hb => ⟨hb, rfl⟩) te x cs) m cm hcm
      refine hd.push (o := .row 0 te m) ?_ ?_ dst
      · exact .inr ⟨w.heap.size, _, e, cm, _, by simp [newρ], heap_alloc_new w.drew _, by simp only [Array.toList_append]; rfl, RowC.mono (fun x cs => Cells.mono (fun b hb => hd.dat_push _ _ b hb) te x cs) m cm hcm⟩
      · refine ⟨by simp, ?_⟩
        rw [hget_append, if_pos rfl]
        exact ⟨Nat.le_refl _, fun _ => .inr ⟨w.heap.size, _, _, e, by simp [newρ], rfl, heap_alloc_new w.drew _, by
          simp only [Array.size_append, List.size_toArray, size_zeroCells, hzs, hcml, ← Nat.add_mul]
          congr 1; omega, hge⟩⟩
  · simp at hk
end
end Go.PB
namespace Go.PB
open Go Go.RowKit
theorem Cells.plain {w w' : World} {ok ok' : Nat → Prop} : ∀ (t : Ty) (x : t.C) (cs : List Value), t.refs = false → Cells w ok t x cs → Cells w' ok' t x cs
  | .int _, _, _, _, h => h
  | .bool, _, _, _, h => h
  | .err, _, _, _, h => h
  | .str, _, _, _, h => h
  | .unit, _, _, _, h => h
  | .list _, _, _, hr, _ => by simp [Ty.refs] at hr
  | .pair a b, x, _, hr, ⟨c1, c2, e, h1, h2⟩ => by
    simp only [Ty.refs, Bool.or_eq_false_iff] at hr
    exact ⟨c1, c2, e, Cells.plain a x.1 c1 hr.1 h1, Cells.plain b x.2 c2 hr.2 h2⟩
  | .agg t, x, cs, hr, h => Cells.plain t x cs hr h
  | .arr _ t, l, cs, hr, h => ⟨h.1, RowC.mono (fun x cs => Cells.plain t x cs hr) l cs h.2⟩
section
variable {F : Fr} {P : Program} {G : Gv} {w0 w w' : World} {st : St} {a : Act} {ρ : Nat → Loc} {h : List AObj} {R : Type}
theorem Open.freeze (ho : Open F w0 st a w ρ) {id ver : Nat} {t : Ty} {l : List t.C} (he : hget st.heap id = .row ver t l) : Open F w0 ⟨st.tmps, hset st.heap id (.frow ver t l)⟩ a w ρ := by
  have hl : id < st.heap.length := by
    rcases Nat.lt_or_ge id st.heap.length with h | h
    · exact h
    · rw [hget_ge _ _ h] at he; cases he
  have hself : hget (hset st.heap id (.frow ver t l)) id = .frow ver t l := hget_hset_self hl
  have hne : ∀ i, i ≠ id → hget (hset st.heap id (.frow ver t l)) i = hget st.heap i := fun i hi => hget_hset_ne hi
  have owns' : ∀ i, (hget (hset st.heap id (.frow ver t l)) i).owns = true → i ≠ id ∧ (hget st.heap i).owns = true := fun i hi => by
    by_cases e : i = id
    · subst e; rw [hself] at hi; simp [AObj.owns] at hi
    · exact ⟨e, by rw [hne i e] at hi; exact hi⟩
  have live : ∀ b, liveOf w ρ st.heap b → liveOf w ρ (hset st.heap id (.frow ver t l)) b ∧ w.heap[b]? = w.heap[b]? := fun b hb => ⟨⟨hb.1, fun i hi hr => hb.2 i (owns' i hi).2 hr⟩, rfl⟩
  have dat : ∀ b, okOf F w ρ st.heap b → okOf F w ρ (hset st.heap id (.frow ver t l)) b ∧ w.heap[b]? = w.heap[b]? := fun b hb => ⟨⟨hb.1, (live b hb.2).1⟩, rfl⟩
  have hob := ho.hrel.obj id hl
  rw [he] at hob
  have k : Keeps w ρ st.heap (okOf F w ρ st.heap) w ρ (hset st.heap id (.frow ver t l)) (okOf F w ρ (hset st.heap id (.frow ver t l))) := by
    refine ⟨dat, live, by rw [length_hset]; exact Nat.le_refl _, ?_, ?_, ?_, ?_, fun i hi => ?_, fun i s u t x val hi hv => ?_⟩
    · intro i v val hi hs
      by_cases e : i = id
      · subst e
        rw [he] at hs; rw [hself]
        intro ev
        rcases hs.2 ev with ⟨h1, rfl⟩ | ⟨b, c, cs, T, h1, rfl, h3, h4, h5⟩
        · rcases hob with ⟨_, h0⟩ | ⟨b, _, _, _, _, hb, _⟩
          · exact ⟨none, 0, by rw [h0]; rfl, by rw [h0]; exact Nat.le_refl _, .inl h0⟩
          · rw [h1] at hb; cases hb
        · rcases hob with ⟨h0, _⟩ | ⟨b', cs', T', cc, rest, hb, hrow, ecc, hrc⟩
          · rw [h1] at h0; cases h0
          · obtain rfl : b = b' := by rw [h1] at hb; simpa using hb
            refine ⟨_, c, rfl, h5, .inr ⟨b, 0, cc, rfl, ⟨ho.hrel.base b (ho.hrel.own i b (by rw [he]; rfl) (in1 h1)).1, lt_of_heap hrow, fun j hj hr => ?_⟩, RowC.mono (fun x cs => Cells.mono dat t x cs) l cc hrc, fun j u hj => ?_⟩⟩
            · exact (owns' j hj).1 (ho.hrel.inj j i b (owns' j hj).2 (by rw [he]; rfl) hr (in1 h1))
            · rw [Nat.zero_add, cell_of_row w b j cs' T' _ hrow, ← Array.getElem?_toList, ecc, List.getElem?_append_left (List.getElem?_eq_some_iff.1 hj).1]; exact hj
      · rw [hne i e]
        cases hoi : hget st.heap i with
        | row v' t l => rw [hoi] at hs; exact hs
        | frow v' t l => rw [hoi] at hs; exact fun e => SliceW.mono dat (hs e)
        | none => trivial
        | box t x => trivial
        | fbox t x => trivial
        | vt v0 τ0 x0 => trivial
        | iter s p => trivial
    · intro i p val hi hs
      by_cases e : i = id
      · subst e; rw [hself]; trivial
      · rw [hne i e]; exact PtRel.mono dat hs
    · intro i v j p val hi hs
      by_cases e : i = id
      · subst e; rw [hself]; trivial
      · rw [hne i e]; exact hs
    · intro i val hi hs
      by_cases e : i = id
      · subst e; rw [hself]; trivial
      · rw [hne i e]; exact hs
    · by_cases e : i = id
      · subst e; rw [hself]; exact trs_none rfl
      · rw [hne i e]; exact trs_rho rfl
    · by_cases e : i = id
      · subst e; rw [hself]; exact le_none rfl
      · rw [hne i e]; exact LeRel.mono dat rfl (fun _ _ _ => rfl) hv
  refine ⟨ho.defers, ho.size, ho.below, ⟨ho.hrel.base, ho.hrel.kb, by rw [length_hset]; exact ho.hrel.nle, fun k hk hv => by
    by_cases e : k = id
    · subst e; rw [hself] at hv; cases hv
    · rw [hne k e] at hv; exact ho.hrel.arg k hk hv, fun i hi => ?_, fun i b hi hr => ho.hrel.own i b (owns' i hi).2 hr, fun i j b hi hj hr hr' => ho.hrel.inj i j b (owns' i hi).2 (owns' j hj).2 hr hr'⟩, fun i => VRel.keeps k _ _ (ho.vals i)⟩
  show ORel w ρ _ i (hget (hset st.heap id (.frow ver t l)) i)
  by_cases e : i = id
  · subst e; rw [hself]; trivial
  · rw [hne i e]
    exact ORel.keeps dat rfl (fun _ _ _ => rfl) (ho.hrel.obj i (by simpa [length_hset] using hi))
theorem Open.freezeBox (ho : Open F w0 st a w ρ) {id : Nat} {t : Ty} {x : t.C} (he : hget st.heap id = .box t x) : Open F w0 ⟨st.tmps, hset st.heap id (.fbox t x)⟩ a w ρ := by
  have hl : id < st.heap.length := by
    rcases Nat.lt_or_ge id st.heap.length with h | h
    · exact h
    · rw [hget_ge _ _ h] at he; cases he
  have hself : hget (hset st.heap id (.fbox t x)) id = .fbox t x := hget_hset_self hl
  have hne : ∀ i, i ≠ id → hget (hset st.heap id (.fbox t x)) i = hget st.heap i := fun i hi => hget_hset_ne hi
  have owns' : ∀ i, (hget (hset st.heap id (.fbox t x)) i).owns = true → i ≠ id ∧ (hget st.heap i).owns = true := fun i hi => by
    by_cases e : i = id
    · subst e; rw [hself] at hi; simp [AObj.owns] at hi
    · exact ⟨e, by rw [hne i e] at hi; exact hi⟩
  have live : ∀ b, liveOf w ρ st.heap b → liveOf w ρ (hset st.heap id (.fbox t x)) b ∧ w.heap[b]? = w.heap[b]? := fun b hb => ⟨⟨hb.1, fun i hi hr => hb.2 i (owns' i hi).2 hr⟩, rfl⟩
  have dat : ∀ b, okOf F w ρ st.heap b → okOf F w ρ (hset st.heap id (.fbox t x)) b ∧ w.heap[b]? = w.heap[b]? := fun b hb => ⟨⟨hb.1, (live b hb.2).1⟩, rfl⟩
  have hob := ho.hrel.obj id hl
  rw [he] at hob
  have k : Keeps w ρ st.heap (okOf F w ρ st.heap) w ρ (hset st.heap id (.fbox t x)) (okOf F w ρ (hset st.heap id (.fbox t x))) := by
    refine ⟨dat, live, by rw [length_hset]; exact Nat.le_refl _, ?_, ?_, ?_, ?_, fun i hi => ?_, fun i s u t x val hi hv => ?_⟩
    · intro i v val hi hs
      by_cases e : i = id
      · subst e; rw [hself]; trivial
      · rw [hne i e]
        cases hoi : hget st.heap i with
        | row v' t l => rw [hoi] at hs; exact hs
        | frow v' t l => rw [hoi] at hs; exact fun e => SliceW.mono dat (hs e)
        | none => trivial
        | box t x => trivial
        | fbox t x => trivial
        | vt v0 τ0 x0 => trivial
        | iter s p => trivial
    · intro i p val hi hs
      by_cases e : i = id
      · subst e
        rw [he] at hs; rw [hself]
        intro ep
        obtain ⟨b, off, t', h1, h2, rfl⟩ := hs
        obtain ⟨b', cs, T, h1', hrow, hc⟩ := hob
        obtain rfl : b = b' := by rw [h1] at h1'; simpa using h1'
        subst ep
        simp only [Ty.pathOff, Option.some.injEq, Prod.mk.injEq] at h2
        obtain ⟨rfl, rfl⟩ := h2
        refine ⟨b, cs.toList, rfl, ⟨ho.hrel.base b (ho.hrel.own i b (by rw [he]; rfl) (in1 h1)).1, lt_of_heap hrow, fun j hj hr => ?_⟩, Cells.mono dat t x _ hc, fun j u hj => ?_⟩
        · exact (owns' j hj).1 (ho.hrel.inj j i b (owns' j hj).2 (by rw [he]; rfl) hr (in1 h1))
        · rw [Nat.zero_add, cell_of_row w b j cs T _ hrow, ← Array.getElem?_toList]; exact hj
      · rw [hne i e]; exact PtRel.mono dat hs
    · intro i v j p val hi hs
      by_cases e : i = id
      · subst e; rw [hself]; trivial
      · rw [hne i e]; exact hs
    · intro i val hi hs
      by_cases e : i = id
      · subst e; rw [hself]; trivial
      · rw [hne i e]; exact hs
    · by_cases e : i = id
      · subst e; rw [hself]; exact trs_none rfl
      · rw [hne i e]; exact trs_rho rfl
    · by_cases e : i = id
      · subst e; rw [hself]; exact le_none rfl
      · rw [hne i e]; exact LeRel.mono dat rfl (fun _ _ _ => rfl) hv
  refine ⟨ho.defers, ho.size, ho.below, ⟨ho.hrel.base, ho.hrel.kb, by rw [length_hset]; exact ho.hrel.nle, fun k hk hv => by
    by_cases e : k = id
    · subst e; rw [hself] at hv; cases hv
    · rw [hne k e] at hv; exact ho.hrel.arg k hk hv, fun i hi => ?_, fun i b hi hr => ho.hrel.own i b (owns' i hi).2 hr, fun i j b hi hj hr hr' => ho.hrel.inj i j b (owns' i hi).2 (owns' j hj).2 hr hr'⟩, fun i => VRel.keeps k _ _ (ho.vals i)⟩
  show ORel w ρ _ i (hget (hset st.heap id (.fbox t x)) i)
  by_cases e : i = id
  · subst e; rw [hself]; trivial
  · rw [hne i e]
    exact ORel.keeps dat rfl (fun _ _ _ => rfl) (ho.hrel.obj i (by simpa [length_hset] using hi))
def RowsIn (h : List AObj) : List RVal → Prop
  | [] => True
  | .row id v t l :: r => (hget h id = .row v t l ∨ hget h id = .frow v t l) ∧ RowsIn h r
  | .box id t x _ :: r => hget h id = .box t x ∧ r = []
  | _ :: r => RowsIn h r
theorem hset_same {h : List AObj} {id : Nat} {o : AObj} (he : hget h id = o) : hset h id o = h := by
  induction h generalizing id with
  | nil => rfl
  | cons x h ih =>
    cases id with
    | zero => simp [hget] at he; simp [hset, he]
    | succ n => simp [hget] at he; simp [hset, ih he]
theorem RowsIn.set {h : List AObj} {id ver : Nat} {t : Ty} {l : List t.C} (he : hget h id = .row ver t l ∨ hget h id = .frow ver t l) : ∀ {rs : List RVal}, RowsIn h rs → RowsIn (hset h id (.frow ver t l)) rs
  | [], _ => trivial
  | .row id' v' t' l' :: r, ⟨h1, h2⟩ => by
    refine ⟨?_, RowsIn.set he h2⟩
    by_cases e : id' = id
    · subst e
      have hl : id' < h.length := by
        rcases Nat.lt_or_ge id' h.length with h | h
        · exact h
        · rw [hget_ge _ _ h] at he; rcases he with he | he <;> cases he
      rw [hget_hset_self hl]
      right
      rcases he with he | he <;> rcases h1 with h1 | h1 <;> rw [he] at h1
      · injection h1 with e1 e2 e3; subst e1 e2; obtain rfl := eq_of_heq e3; rfl
      · cases h1
      · cases h1
      · exact h1
    · rw [hget_hset_ne e]; exact h1
  | .data .. :: r, h2 => RowsIn.set (rs := r) he h2
  | .box id' t' x' _ :: r, ⟨h1, h2⟩ => by
    refine ⟨?_, h2⟩
    rw [hget_hset_ne (fun e => by subst e; rcases he with he | he <;> rw [he] at h1 <;> cases h1)]; exact h1
  | .fbox .. :: r, h2 => RowsIn.set (rs := r) he h2
  | .rptr .. :: r, h2 => RowsIn.set (rs := r) he h2
  | .elem .. :: r, h2 => RowsIn.set (rs := r) he h2
  | .iter .. :: r, h2 => RowsIn.set (rs := r) he h2
  | .tr .. :: r, h2 => RowsIn.set (rs := r) he h2
  | .ad .. :: r, h2 => RowsIn.set (rs := r) he h2
  | .elt .. :: r, h2 => RowsIn.set (rs := r) he h2
  | .lease .. :: r, h2 => RowsIn.set (rs := r) he h2
  | .tree .. :: r, h2 => RowsIn.set (rs := r) he h2
  | .fn .. :: r, h2 => RowsIn.set (rs := r) he h2
  | .tnil :: r, h2 => RowsIn.set (rs := r) he h2
  | .tcons .. :: r, h2 => RowsIn.set (rs := r) he h2
  | .nils :: r, h2 => RowsIn.set (rs := r) he h2
  | .nilp :: r, h2 => RowsIn.set (rs := r) he h2
  | .dead :: r, h2 => RowsIn.set (rs := r) he h2
theorem Open.freezeAll : ∀ {rs : List RVal} {st : St}, Open F w0 st a w ρ → RowsIn st.heap rs → Open F w0 ⟨st.tmps, freezeRows rs st.heap⟩ a w ρ
  | [], _, ho, _ => ho
  | .row id v t l :: r, st, ho, ⟨h1, h2⟩ => by
    rcases h1 with h1 | h1
    · exact Open.freezeAll (st := ⟨st.tmps, hset st.heap id (.frow v t l)⟩) (ho.freeze h1) (RowsIn.set (.inl h1) h2)
    · show Open F w0 ⟨st.tmps, freezeRows r (hset st.heap id (.frow v t l))⟩ a w ρ
      rw [hset_same h1]
      exact Open.freezeAll ho h2
  | .data .. :: r, _, ho, h2 => Open.freezeAll (rs := r) ho h2
  | .box id t x _ :: r, st, ho, ⟨h1, h2⟩ => by
    subst h2
    exact ho.freezeBox h1
  | .fbox .. :: r, _, ho, h2 => Open.freezeAll (rs := r) ho h2
  | .rptr .. :: r, _, ho, h2 => Open.freezeAll (rs := r) ho h2
  | .elem .. :: r, _, ho, h2 => Open.freezeAll (rs := r) ho h2
  | .iter .. :: r, _, ho, h2 => Open.freezeAll (rs := r) ho h2
  | .tr .. :: r, _, ho, h2 => Open.freezeAll (rs := r) ho h2
  | .ad .. :: r, _, ho, h2 => Open.freezeAll (rs := r) ho h2
  | .elt .. :: r, _, ho, h2 => Open.freezeAll (rs := r) ho h2
  | .lease .. :: r, _, ho, h2 => Open.freezeAll (rs := r) ho h2
  | .tree .. :: r, _, ho, h2 => Open.freezeAll (rs := r) ho h2
  | .fn .. :: r, _, ho, h2 => Open.freezeAll (rs := r) ho h2
  | .tnil :: r, _, ho, h2 => Open.freezeAll (rs := r) ho h2
  | .tcons .. :: r, _, ho, h2 => Open.freezeAll (rs := r) ho h2
  | .nils :: r, _, ho, h2 => Open.freezeAll (rs := r) ho h2
  | .nilp :: r, _, ho, h2 => Open.freezeAll (rs := r) ho h2
  | .dead :: r, _, ho, h2 => Open.freezeAll (rs := r) ho h2
end
end Go.PB
namespace Go.PB
open Go Go.RowKit
section
variable {F : Fr} {P : Program} {G : Gv} {w0 w w' : World} {st : St} {a : Act} {ρ : Nat → Loc} {R : Type}
/-! ## What is handed over -/
def okArgs (F : Fr) (w : World) (ρ : Nat → Loc) (h : List AObj) (rs : List RVal) (b : Nat) : Prop :=
  okOf F w ρ h b ∨ (∃ id ver t l, RVal.row id ver t l ∈ rs ∧ hget h id = .row ver t l ∧ b ∈ (ρ id).bs) ∨ ∃ id g t x, RVal.lease id g t x ∈ rs ∧ (hget h id).isVt = true ∧ b ∈ (ρ id).bs
inductive Zip (F : Fr) (w : World) (ρ : Nat → Loc) (h : List AObj) : List RVal → List Value → Prop
  | nil : Zip F w ρ h [] []
  | cons (u : AVal) (v : Value) {rs : List RVal} {vs : List Value} : VRel w ρ h (okOf F w ρ h) u v → Zip F w ρ h rs vs → Zip F w ρ h (res h u :: rs) (v :: vs)
theorem Zip.append {h : List AObj} : ∀ {rs rs' : List RVal} {vs vs' : List Value}, Zip F w ρ h rs vs → Zip F w ρ h rs' vs' → Zip F w ρ h (rs ++ rs') (vs ++ vs')
  | _, _, _, _, .nil, h' => h'
  | _, _, _, _, .cons u v h1 h2, h' => .cons u v h1 (Zip.append h2 h')
theorem zip_args (h : Open F w0 st a w ρ) : ∀ l : List Operand, Zip F w ρ st.heap (l.map fun x => res st.heap (PB.ev st.tmps x)) (l.map a.eval)
  | [] => .nil
  | x :: l => .cons _ _ (h.ev x) (zip_args h l)
theorem zip_caps {h : List AObj} : ∀ (c : AVal) (vs : List Value), VList w ρ h (okOf F w ρ h) c vs → Zip F w ρ h (res h c).flat vs
  | .tnil, vs, hv => by simp only [VList] at hv; subst hv; exact .nil
  | .tcons a b, _, ⟨v, vs', e, h1, h2⟩ => by subst e; exact .cons a v h1 (zip_caps b vs' h2)
  | .data .., _, hv => hv.elim
  | .osl .., _, hv => hv.elim
  | .ptr .., _, hv => hv.elim
  | .rptr .., _, hv => hv.elim
  | .eptr .., _, hv => hv.elim
  | .iter .., _, hv => hv.elim
  | .fn .., _, hv => hv.elim
  | .nils, _, hv => hv.elim
  | .nilp, _, hv => hv.elim
  | .undef, _, hv => hv.elim
  | .dead, _, hv => hv.elim
theorem box_rptr {h : List AObj} {okA : Nat → Prop} (hH : ∀ id, id < h.length → ORel w ρ (okOf F w ρ h) id (hget h id)) (hok : ∀ b, okOf F w ρ h b → okA b) {id : Nat} {p : List Nat} {t : Ty} {x : t.C} {val : Value}
    (hv : VRel w ρ h (okOf F w ρ h) (.ptr id p) val) (ho : hget h id = .box t x) {t' : Ty} {y : t'.C} (hg : (Ty.getK p t x fun t' y => some (⟨t', y⟩ : (t : Ty) × t.C)) = some ⟨t', y⟩) : ARel w okA (.rptr t' y) val := by
  obtain ⟨hl, hpt⟩ := hv
  rw [ho] at hpt
  obtain ⟨t2, y2, off, e2, hpo, hparts⟩ := getK_inv hg
  simp only [Option.some.injEq, Sigma.mk.injEq] at e2
  obtain ⟨rfl, e2⟩ := e2
  obtain rfl := eq_of_heq e2
  obtain ⟨b, off', t3, hb, hoff, rfl⟩ := hpt
  rw [hpo] at hoff
  simp only [Option.some.injEq, Prod.mk.injEq] at hoff
  obtain ⟨rfl, rfl⟩ := hoff
  have hob := hH id hl
  rw [ho] at hob
  obtain ⟨b', cs, T, hb', hrow, hcs⟩ := hob
  obtain rfl : b = b' := by rw [hb] at hb'; simpa using hb'
  obtain ⟨c1, c2, c3, ecs, hl1, h2⟩ := hparts hcs
  refine ⟨b, off, c2, rfl, lt_of_heap hrow, Cells.mono (fun b hb => ⟨hok b hb, rfl⟩) _ _ _ h2, fun j u hj => ?_⟩
  rw [cell_of_row w b _ cs T _ hrow, ← Array.getElem?_toList, ecs]
  have hlt : j < c2.length := (List.getElem?_eq_some_iff.1 hj).1
  rw [List.getElem?_append_right (by omega), hl1, Nat.add_sub_cancel_left, List.getElem?_append_left hlt]; exact hj
theorem arel_caps {h : List AObj} {okA : Nat → Prop} (hH : ∀ id, id < h.length → ORel w ρ (okOf F w ρ h) id (hget h id)) (hok : ∀ b, okOf F w ρ h b → okA b) (hlt : ∀ b, liveOf w ρ h b → b < w.heap.size) :
    ∀ (c : AVal), (∀ (val : Value), VRel w ρ h (okOf F w ρ h) c val → ARel w okA (borrowC (res h c)) val) ∧ (∀ (vs : List Value), VList w ρ h (okOf F w ρ h) c vs → ARel.AList w okA (borrowC (res h c)) vs) := by
  intro c
  induction c with
  | data t x => exact ⟨fun val hv => DVal.mono (fun b hb => ⟨hok b hb, rfl⟩) hv, fun vs hv => hv.elim⟩
  | tnil => exact ⟨fun _ _ => trivial, fun vs hv => hv⟩
  | tcons a b iha ihb => exact ⟨fun _ _ => trivial, fun vs ⟨v, vs', e, h1, h2⟩ => ⟨v, vs', e, iha.1 v h1, ihb.2 vs' h2⟩⟩
  | rptr t x =>
    refine ⟨fun val ⟨b, o, cs, e, hb, hc, hj⟩ => ⟨b, o, cs, e, hlt b hb, Cells.mono (fun b hb => ⟨hok b hb, rfl⟩) _ _ _ hc, hj⟩, fun vs hv => hv.elim⟩
  | ptr id p =>
    refine ⟨fun val hv => ?_, fun vs hv => hv.elim⟩
    simp only [res]
    cases ho : hget h id with
    | box t x =>
      simp only [borrowC]
      split
      · rename_i t' y hg; exact box_rptr hH hok hv ho hg
      · trivial
    | _ => trivial
  | fn f c ih =>
    refine ⟨fun val ⟨vs, e, hv⟩ => ?_, fun vs hv => hv.elim⟩
    cases c with
    | tnil => exact ⟨vs, e, hv⟩
    | data t x => exact hv.elim
    | _ => simp only [res]; first | trivial | (split <;> trivial) | (split <;> (try split) <;> trivial)
  | osl id ver =>
    refine ⟨fun val hv => ?_, fun vs hv => hv.elim⟩
    simp only [res]
    cases ho : hget h id with
    | row v' t l => simp only []; cases hc : (ver == v') <;> trivial
    | frow v' t l =>
      cases hc : (ver == v') with
      | true =>
        have : res h (.osl id ver) = .data (.list t) l := by simp [res, ho, hc]
        simp only [hc, cond_true, borrowC]
        exact DVal.mono (fun b hb => ⟨hok b hb, rfl⟩) (res_data hv this)
      | false => simp only [hc, cond_false, borrowC]; trivial
    | _ => trivial
  | eptr id v i p =>
    refine ⟨fun val hv => ?_, fun vs hv => hv.elim⟩
    simp only [res]
    cases ho : hget h id with
    | row v' t l => simp only []; cases hc : (v == v') <;> trivial
    | _ => trivial
  | iter id =>
    refine ⟨fun val hv => ?_, fun vs hv => hv.elim⟩
    simp only [res]
    cases ho : hget h id <;> trivial
  | nils => exact ⟨fun _ _ => trivial, fun vs hv => hv.elim⟩
  | nilp => exact ⟨fun _ _ => trivial, fun vs hv => hv.elim⟩
  | tv id ver p => exact ⟨fun val hv => by rcases res_tv_cases h id ver p with e | ⟨_, _, _, e⟩ <;> rw [e] <;> trivial, fun vs hv => hv.elim⟩
  | ad id ver p => exact ⟨fun val hv => by rcases res_ad_cases h id ver p with e | ⟨_, _, _, e⟩ <;> rw [e] <;> trivial, fun vs hv => hv.elim⟩
  | elt id ver p i q => exact ⟨fun val hv => by rcases res_elt_cases h id ver p i q with e | ⟨_, _, _, e⟩ <;> rw [e] <;> trivial, fun vs hv => hv.elim⟩
  | lease id s u t x => exact ⟨fun val hv => by rcases res_lease_cases h id s u t x with e | ⟨_, e⟩ <;> rw [e] <;> trivial, fun vs hv => hv.elim⟩
  | undef => exact ⟨fun _ _ => trivial, fun vs hv => hv.elim⟩
  | dead => exact ⟨fun _ _ => trivial, fun vs hv => hv.elim⟩
theorem arel_borrow {h : List AObj} {okA : Nat → Prop} (hH : HRel F w0.heap.size w ρ h) (hok : ∀ b, okOf F w ρ h b → okA b) {u : AVal} {val : Value} (hv : VRel w ρ h (okOf F w ρ h) u val)
    (hrow : ∀ id ver t l b, res h u = .row id ver t l → hget h id = .row ver t l → b ∈ (ρ id).bs → okA b) (hle : ∀ id g t x b, res h u = .lease id g t x → (hget h id).isVt = true → b ∈ (ρ id).bs → okA b) : ARel w okA (borrow (res h u)) val := by
  have hlt : ∀ b, liveOf w ρ h b → b < w.heap.size := fun b hb => hb.1
  cases hu : res h u with
  | data t x => exact DVal.mono (fun b hb => ⟨hok b hb, rfl⟩) (res_data hv hu)
  | row id ver t l =>
    obtain ⟨hl, ho, rfl, hx'⟩ := row_osl hv hu
    have hob := hH.obj id hl
    rw [ho] at hob
    rcases hx' with ⟨hn, rfl⟩ | ⟨b, c, cs, T, hb, rfl, hr, hsz, hlc⟩
    · rcases hob with ⟨_, rfl⟩ | ⟨b, _, _, _, _, hb, _⟩
      · exact dval_list ⟨none, 0, rfl, Nat.le_refl _, .inl rfl⟩
      · rw [hn] at hb; cases hb
    · rcases hob with ⟨hn, _⟩ | ⟨b', cs', T', cc, rest, hb', hr', ecc, hrc⟩
      · rw [hn] at hb; cases hb
      · obtain rfl : b = b' := by rw [hb] at hb'; simpa using hb'
        refine dval_list ⟨_, c, rfl, hlc, .inr ⟨b, 0, cc, rfl, hrow id ver t l b hu ho (in1 hb), RowC.mono (fun x cs => Cells.mono (fun b hb => ⟨hok b hb, rfl⟩) t x cs) l cc hrc, fun j v hj => ?_⟩⟩
        rw [Nat.zero_add, cell_of_row w b j cs' T' _ hr', ← Array.getElem?_toList, ecc, List.getElem?_append_left (List.getElem?_eq_some_iff.1 hj).1]; exact hj
  | box id t x p =>
    obtain ⟨rfl, ho⟩ := res_box hu
    simp only [borrow]
    split
    · rename_i t' y hg; exact box_rptr hH.obj hok hv ho hg
    · trivial
  | elem id ver t l i p =>
    obtain ⟨rfl, ho⟩ := res_elem hu
    simp only [borrow]
    cases hil : decide (i < l.length) with
    | false => trivial
    | true =>
      simp only [cond_true]
      split
      · rename_i t' y hg
        obtain ⟨hl, hpt⟩ := hv
        rw [ho] at hpt
        obtain ⟨hil', b, off', t3, hb, hoff, rfl⟩ := hpt.2 rfl
        obtain ⟨t2, y2, off, e2, hpo, hparts⟩ := getK_inv hg
        simp only [Option.some.injEq, Sigma.mk.injEq] at e2
        obtain ⟨rfl, e2⟩ := e2
        obtain rfl := eq_of_heq e2
        rw [hpo] at hoff
        simp only [Option.some.injEq, Prod.mk.injEq] at hoff
        obtain ⟨rfl, rfl⟩ := hoff
        have hob := hH.obj id hl
        rw [ho] at hob
        rcases hob with ⟨hn, _⟩ | ⟨b', cs, T, cc, rest, hb', hr, hcs, hrc⟩
        · rw [hn] at hb; cases hb
        · obtain rfl : b = b' := by rw [hb] at hb'; simpa using hb'
          obtain ⟨ce, hce, hcl, hgt⟩ := RowC.get (fun x cs => Cells.length t x cs) t.zero l cc i hrc hil'
          obtain ⟨c1, c2, c3, ecs, hl1, h2⟩ := hparts hce
          refine ⟨b, i * t.width + off, c2, rfl, lt_of_heap hr, Cells.mono (fun b hb => ⟨hok b hb, rfl⟩) _ _ _ h2, fun j u hj => ?_⟩
          have hlt : j < c2.length := (List.getElem?_eq_some_iff.1 hj).1
          have h3 : ce[off + j]? = some u := by
            rw [ecs, List.getElem?_append_right (by omega), hl1, Nat.add_sub_cancel_left, List.getElem?_append_left hlt]; exact hj
          have h4 := hgt _ _ h3
          rw [cell_of_row w b _ cs T _ hr, ← Array.getElem?_toList, hcs, Nat.add_assoc, List.getElem?_append_left (List.getElem?_eq_some_iff.1 h4).1]; exact h4
      · trivial
  | rptr t x =>
    obtain ⟨rfl, b, o, cs, e, hb, hc, hj⟩ := res_rptr hv hu
    exact ⟨b, o, cs, e, hlt b hb, Cells.mono (fun b hb => ⟨hok b hb, rfl⟩) _ _ _ hc, hj⟩
  | iter id s pos => trivial
  | fbox t x p => trivial
  | tr id ver p τ x => simp only [borrow]; split <;> trivial
  | ad id ver p τ x => trivial
  | elt id ver p τ x i q => trivial
  | lease id g t x =>
    obtain ⟨s0, u0, rfl, hvt, hd, _⟩ := res_lease hv hu
    exact DVal.mono (fun b hb => ⟨hb.elim (hok b) (fun hb => hle id g t x b hu hvt hb), rfl⟩) hd
  | tree τ x => trivial
  | fn f c =>
    obtain ⟨c', rfl, rfl⟩ := res_fn hu
    obtain ⟨vs, e, hvs⟩ := hv
    exact ⟨vs, e, (arel_caps hH.obj hok hlt c').2 vs hvs⟩
  | tnil => trivial
  | tcons a b => trivial
  | nils => rw [res_nils hu] at hv; exact hv
  | nilp =>
    have : u = .nilp := by
      cases u with
      | nilp => rfl
      | ptr id p => simp only [res] at hu; split at hu <;> simp at hu
      | osl id ver => simp only [res] at hu; split at hu <;> (try (cases hc : (ver == ‹Nat›) <;> simp [hc] at hu)) <;> simp at hu
      | eptr id v i p => simp only [res] at hu; split at hu <;> (try (cases hc : (v == ‹Nat›) <;> simp [hc] at hu)) <;> simp at hu
      | iter id => simp only [res] at hu; split at hu <;> simp at hu
      | tv id ver p => rcases res_tv_cases _ id ver p with e' | ⟨_, _, _, e'⟩ <;> rw [e'] at hu <;> simp at hu
      | ad id ver p => rcases res_ad_cases _ id ver p with e' | ⟨_, _, _, e'⟩ <;> rw [e'] at hu <;> simp at hu
      | elt id ver p i q => rcases res_elt_cases _ id ver p i q with e' | ⟨_, _, _, e'⟩ <;> rw [e'] at hu <;> simp at hu
      | lease id s u t x => rcases res_lease_cases _ id s u t x with e' | ⟨_, e'⟩ <;> rw [e'] at hu <;> simp at hu
      | _ => simp [res] at hu
    rw [this] at hv; exact hv
  | dead => trivial
theorem args_rel {h : List AObj} {okA : Nat → Prop} (hH : HRel F w0.heap.size w ρ h) (hok : ∀ b, okOf F w ρ h b → okA b) : ∀ {rs : List RVal} {vs : List Value}, Zip F w ρ h rs vs →
    (∀ id ver t l b, RVal.row id ver t l ∈ rs → hget h id = .row ver t l → b ∈ (ρ id).bs → okA b) → (∀ id g t x b, RVal.lease id g t x ∈ rs → (hget h id).isVt = true → b ∈ (ρ id).bs → okA b) → ArgsRel w okA (rs.map borrow) vs
  | _, _, .nil, _, _ => rfl
  | _, _, .cons u v h1 h2, hr, hl => ⟨v, _, rfl, arel_borrow hH hok h1 (fun id ver t l b e ho hb => hr id ver t l b (by rw [← e]; exact List.mem_cons_self) ho hb) (fun id g t x b e ho hb => hl id g t x b (by rw [← e]; exact List.mem_cons_self) ho hb),
    args_rel hH hok h2 (fun id ver t l b hm => hr id ver t l b (List.mem_cons_of_mem _ hm)) (fun id g t x b hm => hl id g t x b (List.mem_cons_of_mem _ hm))⟩
theorem rowsIn_of_zip {h : List AObj} : ∀ {rs : List RVal} {vs : List Value}, Zip F w ρ h rs vs → RowsIn h (rowsOf rs)
  | _, _, .nil => trivial
  | _, _, .cons u v h1 h2 => by
    have ih := rowsIn_of_zip h2
    cases hu : res h u with
    | row id ver t l => exact ⟨.inl (res_row hu).2, ih⟩
    | _ => exact ih
theorem mem_rowsOf {id ver : Nat} {t : Ty} {l : List t.C} : ∀ {rs : List RVal}, RVal.row id ver t l ∈ rs → RVal.row id ver t l ∈ rowsOf rs
  | r :: rs, h => by
    rcases List.mem_cons.1 h with e | e
    · rw [← e]; exact List.mem_cons_self
    · have := mem_rowsOf e
      cases r <;> first | exact this | exact List.mem_cons_of_mem _ this
theorem freezeRows_owns {h : List AObj} (hi : Nat) : ∀ {rs : List RVal} {h : List AObj}, (hget (freezeRows rs h) hi).owns = true → (hget h hi).owns = true ∧ ∀ ver t l, RVal.row hi ver t l ∈ rs → hi < h.length → False
  | [], _, ho => ⟨ho, fun _ _ _ hm => by cases hm⟩
  | .row id v t l :: r, h, ho => by
    obtain ⟨h1, h2⟩ := freezeRows_owns hi (rs := r) (h := hset h id (.frow v t l)) ho
    by_cases e : hi = id ∧ id < h.length
    · obtain ⟨rfl, hl⟩ := e
      rw [hget_hset_self hl] at h1; simp [AObj.owns] at h1
    · refine ⟨by rw [hget_hset] at h1; rw [if_neg (fun e' => e ⟨e'.1.symm, e'.2⟩)] at h1; exact h1, fun ver t' l' hm hl => ?_⟩
      rcases List.mem_cons.1 hm with e' | e'
      · injection e' with e1; exact e ⟨e1, e1 ▸ hl⟩
      · exact h2 ver t' l' e' (by rw [length_hset]; exact hl)
  | .data .. :: r, h, ho => ⟨(freezeRows_owns hi (rs := r) (h := h) ho).1, fun v t l hm hl => (freezeRows_owns hi (rs := r) (h := h) ho).2 v t l ((List.mem_cons.1 hm).resolve_left (fun e => by cases e)) hl⟩
  | .box id t x _ :: r, h, ho => by
    obtain ⟨h1, h2⟩ := freezeRows_owns hi (rs := r) (h := hset h id (.fbox t x)) ho
    by_cases e : hi = id ∧ id < h.length
    · obtain ⟨rfl, hl⟩ := e
      rw [hget_hset_self hl] at h1; simp [AObj.owns] at h1
    · refine ⟨by rw [hget_hset] at h1; rw [if_neg (fun e' => e ⟨e'.1.symm, e'.2⟩)] at h1; exact h1, fun ver t' l' hm hl => ?_⟩
      exact h2 ver t' l' ((List.mem_cons.1 hm).resolve_left (fun e => by cases e)) (by rw [length_hset]; exact hl)
  | .fbox .. :: r, h, ho => ⟨(freezeRows_owns hi (rs := r) (h := h) ho).1, fun v t l hm hl => (freezeRows_owns hi (rs := r) (h := h) ho).2 v t l ((List.mem_cons.1 hm).resolve_left (fun e => by cases e)) hl⟩
  | .rptr .. :: r, h, ho => ⟨(freezeRows_owns hi (rs := r) (h := h) ho).1, fun v t l hm hl => (freezeRows_owns hi (rs := r) (h := h) ho).2 v t l ((List.mem_cons.1 hm).resolve_left (fun e => by cases e)) hl⟩
  | .elem .. :: r, h, ho => ⟨(freezeRows_owns hi (rs := r) (h := h) ho).1, fun v t l hm hl => (freezeRows_owns hi (rs := r) (h := h) ho).2 v t l ((List.mem_cons.1 hm).resolve_left (fun e => by cases e)) hl⟩
  | .iter .. :: r, h, ho => ⟨(freezeRows_owns hi (rs := r) (h := h) ho).1, fun v t l hm hl => (freezeRows_owns hi (rs := r) (h := h) ho).2 v t l ((List.mem_cons.1 hm).resolve_left (fun e => by cases e)) hl⟩
  | .tr .. :: r, h, ho => ⟨(freezeRows_owns hi (rs := r) (h := h) ho).1, fun v t l hm hl => (freezeRows_owns hi (rs := r) (h := h) ho).2 v t l ((List.mem_cons.1 hm).resolve_left (fun e => by cases e)) hl⟩
  | .ad .. :: r, h, ho => ⟨(freezeRows_owns hi (rs := r) (h := h) ho).1, fun v t l hm hl => (freezeRows_owns hi (rs := r) (h := h) ho).2 v t l ((List.mem_cons.1 hm).resolve_left (fun e => by cases e)) hl⟩
  | .elt .. :: r, h, ho => ⟨(freezeRows_owns hi (rs := r) (h := h) ho).1, fun v t l hm hl => (freezeRows_owns hi (rs := r) (h := h) ho).2 v t l ((List.mem_cons.1 hm).resolve_left (fun e => by cases e)) hl⟩
  | .lease .. :: r, h, ho => ⟨(freezeRows_owns hi (rs := r) (h := h) ho).1, fun v t l hm hl => (freezeRows_owns hi (rs := r) (h := h) ho).2 v t l ((List.mem_cons.1 hm).resolve_left (fun e => by cases e)) hl⟩
  | .tree .. :: r, h, ho => ⟨(freezeRows_owns hi (rs := r) (h := h) ho).1, fun v t l hm hl => (freezeRows_owns hi (rs := r) (h := h) ho).2 v t l ((List.mem_cons.1 hm).resolve_left (fun e => by cases e)) hl⟩
  | .fn .. :: r, h, ho => ⟨(freezeRows_owns hi (rs := r) (h := h) ho).1, fun v t l hm hl => (freezeRows_owns hi (rs := r) (h := h) ho).2 v t l ((List.mem_cons.1 hm).resolve_left (fun e => by cases e)) hl⟩
  | .tnil :: r, h, ho => ⟨(freezeRows_owns hi (rs := r) (h := h) ho).1, fun v t l hm hl => (freezeRows_owns hi (rs := r) (h := h) ho).2 v t l ((List.mem_cons.1 hm).resolve_left (fun e => by cases e)) hl⟩
  | .tcons .. :: r, h, ho => ⟨(freezeRows_owns hi (rs := r) (h := h) ho).1, fun v t l hm hl => (freezeRows_owns hi (rs := r) (h := h) ho).2 v t l ((List.mem_cons.1 hm).resolve_left (fun e => by cases e)) hl⟩
  | .nils :: r, h, ho => ⟨(freezeRows_owns hi (rs := r) (h := h) ho).1, fun v t l hm hl => (freezeRows_owns hi (rs := r) (h := h) ho).2 v t l ((List.mem_cons.1 hm).resolve_left (fun e => by cases e)) hl⟩
  | .nilp :: r, h, ho => ⟨(freezeRows_owns hi (rs := r) (h := h) ho).1, fun v t l hm hl => (freezeRows_owns hi (rs := r) (h := h) ho).2 v t l ((List.mem_cons.1 hm).resolve_left (fun e => by cases e)) hl⟩
  | .dead :: r, h, ho => ⟨(freezeRows_owns hi (rs := r) (h := h) ho).1, fun v t l hm hl => (freezeRows_owns hi (rs := r) (h := h) ho).2 v t l ((List.mem_cons.1 hm).resolve_left (fun e => by cases e)) hl⟩
theorem hasLease_mem {id : Nat} {g : Lg} {t : Ty} {x : t.C} : ∀ {rs : List RVal}, RVal.lease id g t x ∈ rs → hasLease rs = true
  | r :: rs, h => by
    rcases List.mem_cons.1 h with e | e
    · rw [← e]; rfl
    · have := hasLease_mem e
      cases r <;> first | exact this | rfl
theorem okArgs_frozen {h : List AObj} (hH : HRel F w0.heap.size w ρ h) {rs : List RVal} (hnl : hasLease rs = false) {b : Nat} (hb : okArgs F w ρ h rs b) : okOf F w ρ (freezeRows (rowsOf rs) h) b := by
  rcases hb with hb | ⟨id, ver, t, l, hm, ho, hr⟩ | ⟨id, g, t, x, hm, _⟩
  · exact ⟨hb.1, hb.2.1, fun i hi => hb.2.2 i (freezeRows_owns (h := h) i hi).1⟩
  · refine ⟨hH.base b (hH.own id b (by rw [ho]; rfl) hr).1, (hH.own id b (by rw [ho]; rfl) hr).2, fun i hi hri => ?_⟩
    obtain ⟨h1, h2⟩ := freezeRows_owns (h := h) i hi
    obtain rfl := hH.inj i id b h1 (by rw [ho]; rfl) hri hr
    have hl : i < h.length := by
      rcases Nat.lt_or_ge i h.length with h' | h'
      · exact h'
      · rw [hget_ge _ _ h'] at ho; cases ho
    exact h2 ver t l (mem_rowsOf hm) hl
  · rw [hasLease_mem hm] at hnl; cases hnl
end
end Go.PB
namespace Go.PB
open Go Go.RowKit
section
variable {F : Fr} {w0 w w' : World} {st : St} {a : Act} {ρ ρ' : Nat → Loc} {h' : List AObj}
def Trs (ρ ρ' : Nat → Loc) (id : Nat) (o o' : AObj) : Prop :=
  (∀ ver p val, AtRel ρ id ver p val o → AtRel ρ' id ver p val o') ∧ (∀ ver p val, AdRel ρ id ver p val o → AdRel ρ' id ver p val o') ∧ (∀ ver p i q val, EtRel ρ id ver p i q val o → EtRel ρ' id ver p i q val o')
structure Turn (F : Fr) (S : Nat → Prop) (w : World) (ρ : Nat → Loc) (h : List AObj) (w' : World) (ρ' : Nat → Loc) (h' : List AObj) : Prop where
  len : h.length ≤ h'.length
  other : ∀ id, id < h.length → ¬ S id → hget h' id = hget h id ∧ ρ' id = ρ id
  isNew : ∀ id, h.length ≤ id → id < h'.length → S id
  size : w.heap.size ≤ w'.heap.size
  blk : ∀ b, b < w.heap.size → (∀ id, S id → (hget h id).owns = true → b ∉ (ρ id).bs) → w'.heap[b]? = w.heap[b]?
  own : ∀ id b, S id → (hget h' id).owns = true → b ∈ (ρ' id).bs → b < w'.heap.size ∧ (w.heap.size ≤ b ∨ ∃ id0, S id0 ∧ (hget h id0).owns = true ∧ b ∈ (ρ id0).bs)
  inj : ∀ id id' b, S id → S id' → (hget h' id).owns = true → (hget h' id').owns = true → b ∈ (ρ' id).bs → b ∈ (ρ' id').bs → id = id'
  obj : (∀ b, okOf F w ρ h b → okOf F w' ρ' h' b ∧ w'.heap[b]? = w.heap[b]?) → ∀ id, S id → id < h'.length → ORel w' ρ' (okOf F w' ρ' h') id (hget h' id)
  root : ∀ id, S id → id < h.length → (hget h' id).isVt = true → (hget h id).isVt = true ∧ (ρ' id).cs = (ρ id).cs
  refs : ∀ id, S id → id < h.length → hget h' id = .none ∨ ((hget h' id).isVt = true ∧ Trs ρ ρ' id (hget h id) (hget h' id) ∧ ∀ (ok ok' : Nat → Prop) s u t x val, LeRel w ρ ok id s u t x val (hget h id) → LeRel w' ρ' ok' id s u t x val (hget h' id))
theorem owns_lt {h : List AObj} {id : Nat} (ho : (hget h id).owns = true) : id < h.length := by
  rcases Nat.lt_or_ge id h.length with hl | hl
  · exact hl
  · rw [hget_ge _ _ hl] at ho; simp [AObj.owns] at ho
variable {S : Nat → Prop}
theorem Turn.mem {h h' : List AObj} (t : Turn F S w ρ h w' ρ' h') (b : Nat) (id : Nat) (ho : (hget h' id).owns = true) (hb : b ∈ (ρ' id).bs) : w.heap.size ≤ b ∨ ∃ id0, (hget h id0).owns = true ∧ b ∈ (ρ id0).bs := by
  by_cases hs : S id
  · rcases (t.own id b hs ho hb).2 with h1 | ⟨id0, _, h2, h3⟩
    · exact .inl h1
    · exact .inr ⟨id0, h2, h3⟩
  · rcases Nat.lt_or_ge id h.length with hl | hl
    · rw [(t.other id hl hs).1] at ho; rw [(t.other id hl hs).2] at hb; exact .inr ⟨id, ho, hb⟩
    · exact absurd (t.isNew id hl (owns_lt ho)) hs
theorem Turn.live {h h' : List AObj} (t : Turn F S w ρ h w' ρ' h') (b : Nat) (hb : liveOf w ρ h b) : liveOf w' ρ' h' b ∧ w'.heap[b]? = w.heap[b]? := by
  refine ⟨⟨Nat.lt_of_lt_of_le hb.1 t.size, fun id ho hm => ?_⟩, t.blk b hb.1 fun id _ ho => hb.2 id ho⟩
  rcases t.mem b id ho hm with h1 | ⟨id0, h1, h2⟩
  · have := hb.1; omega
  · exact hb.2 id0 h1 h2
theorem Turn.dat {h h' : List AObj} (t : Turn F S w ρ h w' ρ' h') (b : Nat) (hb : okOf F w ρ h b) : okOf F w' ρ' h' b ∧ w'.heap[b]? = w.heap[b]? :=
  ⟨⟨hb.1, (t.live b hb.2).1⟩, (t.live b hb.2).2⟩
theorem Turn.kept {B : Nat} {h h' : List AObj} (t : Turn F S w ρ h w' ρ' h') (hH : HRel F B w ρ h) (id : Nat) (hs : ¬ S id) (ho : (hget h id).owns = true) (b : Nat) (hb : b ∈ (ρ id).bs) : w'.heap[b]? = w.heap[b]? :=
  t.blk b (hH.own id b ho hb).2 fun id' hs' ho' hb' => hs (by rw [hH.inj id id' b ho ho' hb hb']; exact hs')
theorem Turn.hrel {B : Nat} {h h' : List AObj} (t : Turn F S w ρ h w' ρ' h') (hB : B ≤ w.heap.size) (hH : HRel F B w ρ h) : HRel F B w' ρ' h' := by
  refine ⟨hH.base, hH.kb, Nat.le_trans hH.nle t.len, fun k hk hv => ?_, fun id hl => ?_, fun id b ho hb => ?_, fun id id' b ho ho' hb hb' => ?_⟩
  · have hkl := Nat.lt_of_lt_of_le hk hH.nle
    by_cases hs : S k
    · obtain ⟨h1, h2⟩ := t.root k hs hkl hv
      rw [h2]; exact hH.arg k hk h1
    · rw [(t.other k hkl hs).1] at hv; rw [(t.other k hkl hs).2]; exact hH.arg k hk hv
  · by_cases hs : S id
    · exact t.obj t.dat id hs hl
    · rcases Nat.lt_or_ge id h.length with hl' | hl'
      · rw [(t.other id hl' hs).1]
        exact ORel.keeps t.dat (t.other id hl' hs).2 (fun b ho hb => t.kept hH id hs ho b hb) (hH.obj id hl')
      · exact absurd (t.isNew id hl' hl) hs
  · by_cases hs : S id
    · obtain ⟨h1, h2⟩ := t.own id b hs ho hb
      refine ⟨?_, h1⟩
      rcases h2 with h2 | ⟨id0, _, h3, h4⟩
      · exact fun hk => by have := hH.kb b hk; omega
      · exact (hH.own id0 b h3 h4).1
    · have hl := owns_lt ho
      rcases Nat.lt_or_ge id h.length with hl' | hl'
      · rw [(t.other id hl' hs).1] at ho; rw [(t.other id hl' hs).2] at hb
        have := hH.own id b ho hb
        exact ⟨this.1, Nat.lt_of_lt_of_le this.2 t.size⟩
      · exact absurd (t.isNew id hl' hl) hs
  · have old : ∀ i, ¬ S i → (hget h' i).owns = true → b ∈ (ρ' i).bs → (hget h i).owns = true ∧ b ∈ (ρ i).bs := fun i hs ho hb => by
      rcases Nat.lt_or_ge i h.length with hl' | hl'
      · rw [(t.other i hl' hs).1] at ho; rw [(t.other i hl' hs).2] at hb; exact ⟨ho, hb⟩
      · exact absurd (t.isNew i hl' (owns_lt ho)) hs
    have mix : ∀ i j, S i → ¬ S j → (hget h' i).owns = true → (hget h' j).owns = true → b ∈ (ρ' i).bs → b ∈ (ρ' j).bs → False := fun i j hs hs' ho ho' hb hb' => by
      obtain ⟨h1, h2⟩ := old j hs' ho' hb'
      rcases (t.own i b hs ho hb).2 with h3 | ⟨id0, h3, h4, h5⟩
      · have := (hH.own j b h1 h2).2; omega
      · exact hs' (by rw [hH.inj j id0 b h1 h4 h2 h5]; exact h3)
    by_cases hs : S id <;> by_cases hs' : S id'
    · exact t.inj id id' b hs hs' ho ho' hb hb'
    · exact (mix id id' hs hs' ho ho' hb hb').elim
    · exact (mix id' id hs' hs ho' ho hb' hb).elim
    · obtain ⟨h1, h2⟩ := old id hs ho hb
      obtain ⟨h3, h4⟩ := old id' hs' ho' hb'
      exact hH.inj id id' b h1 h3 h2 h4
theorem Turn.keeps {B : Nat} {h h' : List AObj} (t : Turn F S w ρ h w' ρ' h') (hH : HRel F B w ρ h) : Keeps w ρ h (okOf F w ρ h) w' ρ' h' (okOf F w' ρ' h') := by
  have vt : ∀ o : AObj, o.isVt = true → ∃ v τ x, o = .vt v τ x := fun o ho => by cases o <;> first | exact ⟨_, _, _, rfl⟩ | simp [AObj.isVt] at ho
  refine ⟨t.dat, t.live, t.len, ?_, ?_, ?_, ?_, ?_, ?_⟩
  · intro id ver val hl hs
    by_cases hS : S id
    · rcases t.refs id hS hl with e | ⟨e, _⟩
      · rw [e]; trivial
      · obtain ⟨v, τ, x, e⟩ := vt _ e; rw [e]; trivial
    · obtain ⟨e1, e2⟩ := t.other id hl hS
      rw [e1]
      cases ho : hget h id with
      | row v' t' l =>
        rw [ho] at hs
        refine ⟨hs.1, fun e => ?_⟩
        rcases hs.2 e with ⟨h1, h2⟩ | ⟨b, c, cs, T, h1, h2, h3, h4, h5⟩
        · exact .inl ⟨by rw [e2]; exact h1, h2⟩
        · exact .inr ⟨b, c, cs, T, by rw [e2]; exact h1, h2, by rw [t.kept hH id hS (by rw [ho]; rfl) b (in1 h1)]; exact h3, h4, h5⟩
      | frow v' t' l => rw [ho] at hs; exact fun e => SliceW.mono t.dat (hs e)
      | _ => trivial
  · intro id p val hl hs
    by_cases hS : S id
    · rcases t.refs id hS hl with e | ⟨e, _⟩
      · rw [e]; trivial
      · obtain ⟨v, τ, x, e⟩ := vt _ e; rw [e]; trivial
    · obtain ⟨e1, e2⟩ := t.other id hl hS
      rw [e1]
      cases ho : hget h id with
      | box t' x => rw [ho] at hs; obtain ⟨b, off, t2, h1, h2, h3⟩ := hs; exact ⟨b, off, t2, by rw [e2]; exact h1, h2, h3⟩
      | fbox t' x => rw [ho] at hs; exact fun e => FbRel.mono t.dat (hs e)
      | _ => trivial
  · intro id ver i p val hl hs
    by_cases hS : S id
    · rcases t.refs id hS hl with e | ⟨e, _⟩
      · rw [e]; trivial
      · obtain ⟨v, τ, x, e⟩ := vt _ e; rw [e]; trivial
    · obtain ⟨e1, e2⟩ := t.other id hl hS
      rw [e1]
      cases ho : hget h id with
      | row v' t' l => rw [ho] at hs; refine ⟨hs.1, fun e => ?_⟩; obtain ⟨hi, b, off, t2, h1, h2, h3⟩ := hs.2 e; exact ⟨hi, b, off, t2, by rw [e2]; exact h1, h2, h3⟩
      | _ => trivial
  · intro id val hl hs
    by_cases hS : S id
    · rcases t.refs id hS hl with e | ⟨e, _⟩
      · rw [e]; trivial
      · obtain ⟨v, τ, x, e⟩ := vt _ e; rw [e]; trivial
    · obtain ⟨e1, e2⟩ := t.other id hl hS
      rw [e1]
      cases ho : hget h id with
      | iter s p => rw [ho] at hs; obtain ⟨b, h1, h2⟩ := hs; exact ⟨b, by rw [e2]; exact h1, h2⟩
      | _ => trivial
  · intro id hl
    by_cases hS : S id
    · rcases t.refs id hS hl with e | ⟨_, e, _⟩
      · rw [e]; exact trs_none rfl
      · exact e
    · obtain ⟨e1, e2⟩ := t.other id hl hS
      rw [e1]; exact trs_rho e2
  · intro id s u ty x val hl hv
    by_cases hS : S id
    · rcases t.refs id hS hl with e | ⟨_, _, e⟩
      · rw [e]; exact le_none rfl
      · exact e _ _ s u ty x val hv
    · obtain ⟨e1, e2⟩ := t.other id hl hS
      rw [e1]
      exact LeRel.mono t.dat e2 (fun hvt b hb => t.kept hH id hS (isVt_owns hvt) b hb) hv
theorem Open.turn (h : Open F w0 st a w ρ) (t : Turn F S w ρ st.heap w' ρ' h') (hb : Near F.kept w0 w') {v : AVal} {val : Value} (hv : VRel w' ρ' h' (okOf F w' ρ' h') v val) (dst : Option Tmp) :
    Rel F w0 ⟨putD st.tmps dst v, h'⟩ (a.put dst val) w' :=
  Rel.put h.defers h.size h.vals hb (t.hrel h.base h.hrel) (t.keeps h.hrel) hv dst
theorem Open.nearS (h : Open F w0 st a w ρ) (hos : w'.os = w.os) (htp : w'.tape = w.tape) (hout : w'.output = w.output) (hsz : w.heap.size ≤ w'.heap.size)
    (hblk : ∀ b, b < w.heap.size → (∀ id, S id → (hget st.heap id).owns = true → b ∉ (ρ id).bs) → w'.heap[b]? = w.heap[b]?) : Near F.kept w0 w' :=
  h.below.trans ⟨hos, htp, hout, hsz, fun k hk => hblk k (Nat.lt_of_lt_of_le (h.hrel.kb k hk) h.base) fun id _ ho hb => (h.hrel.own id k ho hb).1 hk⟩
end
end Go.PB
namespace Go.PB
open Go Go.RowKit
/-! ## 1. Types -/
section
variable {P : Program} {w : World}
theorem MtOk.size {ty : TypeId} : ∀ {τ : TT}, MtOk P τ ty → 0 < τ.width ∧ (sizeOf ty).run P w = .ok τ.width w
  | .data t, h => ⟨TyOk.pos h, TyOk.run_sizeOf h⟩
  | .vec t, h => ⟨Nat.one_pos, TyOk.run_sizeOf (t := .list t) h⟩
  | .map k v, ⟨⟨i, z, h1, h2, h3, _⟩, _⟩ => ⟨h3, by simp [Go.sizeOf, typeInfo, h1, h2]⟩
  | .opt τ, ⟨⟨i, z, h1, h2, h3, _⟩, _⟩ => ⟨h3, by simp [Go.sizeOf, typeInfo, h1, h2]⟩
  | .agg τ, ⟨⟨i, z, h1, h2, h3, _⟩, _⟩ => ⟨h3, by simp [Go.sizeOf, typeInfo, h1, h2]⟩
  | .own _, h => by simp [MtOk] at h
  | .hole, h => by simp [MtOk] at h
  | .unit, h => by simp [MtOk] at h
  | .pair _ _, h => by simp [MtOk] at h
theorem MtOk.run_isAgg {ty : TypeId} : ∀ {τ : TT}, MtOk P τ ty → (isAgg ty).run P w = .ok τ.isAgg w
  | .data t, h => TyOk.run_isAgg h
  | .vec t, h => TyOk.run_isAgg (t := .list t) h
  | .map k v, ⟨_, kt, vt, h, _⟩ => by simp [Go.isAgg, Go.underlying, h, TT.isAgg]
  | .opt τ, ⟨_, e, h⟩ => by simp [Go.isAgg, Go.underlying, h, TT.isAgg]
  | .agg τ, ⟨_, fs, h, _⟩ => by simp [Go.isAgg, Go.underlying, h, TT.isAgg]
  | .own _, h => by simp [MtOk] at h
  | .hole, h => by simp [MtOk] at h
  | .unit, h => by simp [MtOk] at h
  | .pair _ _, h => by simp [MtOk] at h
theorem one_ok {tt : Tab} (hT : TTOk P tt) {t : TypeId} (h : tt.one t = true) : (sizeOf t).run P w = .ok 1 w ∧ (isAgg t).run P w = .ok false w := by
  unfold Tab.one at h
  split at h
  · rename_i τ e
    have := hT.mt _ _ e
    simp only [Bool.and_eq_true, Bool.not_eq_true'] at h
    exact ⟨by rw [← Nat.eq_of_beq_eq_true h.1]; exact (MtOk.size this).2, by rw [← h.2]; exact MtOk.run_isAgg this⟩
  · split at h
    · rename_i u e
      have := hT.ty _ _ e
      simp only [Bool.and_eq_true, Bool.not_eq_true'] at h
      exact ⟨by rw [← Nat.eq_of_beq_eq_true h.1]; exact this.run_sizeOf, by rw [← h.2]; exact this.run_isAgg⟩
    · simp at h
theorem MChain.comp : ∀ {τ : TT} {base : Nat} {fs : List Field} {f off : Nat} {u : TT}, MChain P τ base fs → TT.compOff τ f = some (off, u) → ∃ fd, fs[f]? = some fd ∧ fd.offset = base + off ∧ MtOk P u fd.type
  | .pair a b, base, fd :: fs, 0, off, u, ⟨h1, h2, h3⟩, h => by
    simp only [TT.compOff, Option.some.injEq, Prod.mk.injEq] at h
    obtain ⟨rfl, rfl⟩ := h
    exact ⟨fd, rfl, by simpa using h1, h2⟩
  | .pair a b, base, fd :: fs, n + 1, off, u, ⟨h1, h2, h3⟩, h => by
    simp only [TT.compOff] at h
    split at h
    · rename_i o t e
      simp only [Option.some.injEq, Prod.mk.injEq] at h
      obtain ⟨rfl, rfl⟩ := h
      obtain ⟨fd', g1, g2, g3⟩ := MChain.comp h3 e
      exact ⟨fd', by simpa using g1, by omega, g3⟩
    · simp at h
  | .pair a b, _, [], _, _, _, h, _ => by simp [MChain] at h
  | .unit, _, _, _, _, _, _, h => by simp [TT.compOff] at h
  | .data _, _, _, _, _, _, _, h => by simp [TT.compOff] at h
  | .vec _, _, _, _, _, _, _, h => by simp [TT.compOff] at h
  | .map _ _, _, _, _, _, _, _, h => by simp [TT.compOff] at h
  | .own _, _, _, _, _, _, _, h => by simp [TT.compOff] at h
  | .opt _, _, _, _, _, _, _, h => by simp [TT.compOff] at h
  | .hole, _, _, _, _, _, _, h => by simp [TT.compOff] at h
  | .agg _, _, _, _, _, _, _, h => by simp [TT.compOff] at h
theorem off_ok {tt : Tab} (hT : TTOk P tt) {s : TypeId} {f o : Nat} (h : tt.off s f = some o) : ∃ fs fd, P.underlying s = some (.struct fs) ∧ fs[f]? = some fd ∧ fd.offset = o ∧ ∀ (w : World) b c, (fieldPlace ⟨b, c, none⟩ fd).run P w = .ok ⟨b, c + o, none⟩ w := by
  have fin : ∀ (fs : Array Field) (fd : Field) (k : Nat), P.underlying s = some (.struct fs) → fs[f]? = some fd → fd.offset = o → 0 < k → (∀ w : World, (sizeOf fd.type).run P w = .ok k w) → ∃ fs fd, P.underlying s = some (.struct fs) ∧ fs[f]? = some fd ∧ fd.offset = o ∧ ∀ (w : World) b c, (fieldPlace ⟨b, c, none⟩ fd).run P w = .ok ⟨b, c + o, none⟩ w := by
    intro fs fd k h1 h2 h3 h4 h5
    refine ⟨fs, fd, h1, h2, h3, fun w b c => ?_⟩
    have hne : k ≠ 0 := by omega
    simp [fieldPlace, h5 w, hne, addr_add, h3]
  have plain : ∀ (t : Ty) (ho : (t.compOff f).map (·.1) = some o), TyOk P (.agg t) s → ∃ fs fd, P.underlying s = some (.struct fs) ∧ fs[f]? = some fd ∧ fd.offset = o ∧ ∀ (w : World) b c, (fieldPlace ⟨b, c, none⟩ fd).run P w = .ok ⟨b, c + o, none⟩ w := by
    intro t ho ht
    obtain ⟨q, h1, h2⟩ := Option.map_eq_some_iff.1 ho
    obtain ⟨_, fs, hfs, hch⟩ := ht
    obtain ⟨fd, hfd, hfo, hft⟩ := ChainOk.comp hch (t' := q.2) (off := q.1) h1
    rw [Array.getElem?_toList] at hfd
    exact fin fs fd _ hfs hfd (by rw [hfo, Nat.zero_add, h2]) hft.pos fun w => hft.run_sizeOf
  unfold Tab.off at h
  split at h
  · rename_i τ e
    have hm := hT.mt _ _ e
    unfold TT.off at h
    split at h
    · rename_i σ
      obtain ⟨q, h1, h2⟩ := Option.map_eq_some_iff.1 h
      obtain ⟨_, fs, hfs, hch⟩ := hm
      obtain ⟨fd, hfd, hfo, hft⟩ := MChain.comp hch (u := q.2) (off := q.1) h1
      rw [Array.getElem?_toList] at hfd
      exact fin fs fd _ hfs hfd (by rw [hfo, Nat.zero_add, h2]) (MtOk.size (w := default) hft).1 fun w => (MtOk.size hft).2
    · rename_i t; exact plain t h hm
    · simp at h
  · split at h
    · rename_i t e; exact plain t h (hT.ty _ _ e)
    · simp at h
theorem sameOff_inv {R : Type} {a b : Option Nat} {K : Option R} {r : R} (h : sameOff a b K = some r) : ∃ o, a = some o ∧ b = some o ∧ K = some r := by
  unfold sameOff at h
  split at h
  · rename_i x y
    cases hb : Nat.beq x y with
    | false => rw [hb] at h; simp at h
    | true => rw [hb] at h; exact ⟨x, rfl, by rw [Nat.eq_of_beq_eq_true hb], h⟩
  · simp at h
end
/-! ## 2. Places -/
section
variable {F : Fr} {P : Program} {G : Gv} {env : Env} {w0 w w' : World} {st : St} {a : Act} {ρ : Nat → Loc} {h : List AObj} {ok : Nat → Prop} {R : Type} {tt : Tab}
theorem res_tr {v : AVal} {id : Nat} {ver : Ver} {p : List Nat} {τ : TT} {x : τ.C} (e : res h v = .tr id ver p τ x) : ∃ v0, v = .tv id v0 p ∧ hget h id = .vt ver τ x ∧ (v0 = ver.s ∨ (isNil p && τ.fixed) = true) := by
  cases v with
  | tv id' v' p' =>
    simp only [res] at e
    cases ho : hget h id' with
    | vt v1 τ1 x1 =>
      rw [ho] at e; simp only at e
      cases hc : (v' == v1.s || (isNil p' && τ1.fixed)) with
      | false => rw [hc] at e; simp at e
      | true =>
        rw [hc] at e
        simp only [cond_true, RVal.tr.injEq] at e
        obtain ⟨rfl, rfl, rfl, rfl, e⟩ := e
        obtain rfl := eq_of_heq e
        rw [Bool.or_eq_true] at hc
        exact ⟨v', rfl, ho, hc.imp (by simp) id⟩
    | _ => rw [ho] at e; simp at e
  | osl id ver => simp only [res] at e; split at e <;> (try (cases hc : (ver == ‹Nat›) <;> simp [hc] at e)) <;> simp at e
  | ptr id p => simp only [res] at e; split at e <;> simp at e
  | eptr id v i p => simp only [res] at e; split at e <;> (try (cases hc : (v == ‹Nat›) <;> simp [hc] at e)) <;> simp at e
  | iter id => simp only [res] at e; split at e <;> simp at e
  | ad id ver p => rcases res_ad_cases _ id ver p with e' | ⟨_, _, _, e'⟩ <;> rw [e'] at e <;> simp at e
  | elt id ver p i q => rcases res_elt_cases _ id ver p i q with e' | ⟨_, _, _, e'⟩ <;> rw [e'] at e <;> simp at e
  | lease id s u t x => rcases res_lease_cases _ id s u t x with e' | ⟨_, e'⟩ <;> rw [e'] at e <;> simp at e
  | _ => simp [res] at e
theorem res_ad {v : AVal} {id : Nat} {ver : Ver} {p : List Nat} {τ : TT} {x : τ.C} (e : res h v = .ad id ver p τ x) : v = .ad id ver.s p ∧ hget h id = .vt ver τ x := by
  cases v with
  | ad id' v' p' =>
    simp only [res] at e
    cases ho : hget h id' with
    | vt v1 τ1 x1 =>
      rw [ho] at e; simp only at e
      cases hc : (v' == v1.s) with
      | false => rw [hc] at e; simp at e
      | true =>
        rw [hc] at e
        simp only [cond_true, RVal.ad.injEq] at e
        obtain ⟨rfl, rfl, rfl, rfl, e⟩ := e
        obtain rfl := eq_of_heq e
        obtain rfl : v' = v1.s := by simpa using hc
        exact ⟨rfl, ho⟩
    | _ => rw [ho] at e; simp at e
  | osl id ver => simp only [res] at e; split at e <;> (try (cases hc : (ver == ‹Nat›) <;> simp [hc] at e)) <;> simp at e
  | ptr id p => simp only [res] at e; split at e <;> simp at e
  | eptr id v i p => simp only [res] at e; split at e <;> (try (cases hc : (v == ‹Nat›) <;> simp [hc] at e)) <;> simp at e
  | iter id => simp only [res] at e; split at e <;> simp at e
  | tv id ver p => rcases res_tv_cases _ id ver p with e' | ⟨_, _, _, e'⟩ <;> rw [e'] at e <;> simp at e
  | elt id ver p i q => rcases res_elt_cases _ id ver p i q with e' | ⟨_, _, _, e'⟩ <;> rw [e'] at e <;> simp at e
  | lease id s u t x => rcases res_lease_cases _ id s u t x with e' | ⟨_, e'⟩ <;> rw [e'] at e <;> simp at e
  | _ => simp [res] at e
theorem res_elt {v : AVal} {id : Nat} {ver : Ver} {p : List Nat} {τ : TT} {x : τ.C} {i : Nat} {q : List Nat} (e : res h v = .elt id ver p τ x i q) : v = .elt id ver.s p i q ∧ hget h id = .vt ver τ x := by
  cases v with
  | elt id' v' p' i' q' =>
    simp only [res] at e
    cases ho : hget h id' with
    | vt v1 τ1 x1 =>
      rw [ho] at e; simp only at e
      cases hc : (v' == v1.s) with
      | false => rw [hc] at e; simp at e
      | true =>
        rw [hc] at e
        simp only [cond_true, RVal.elt.injEq] at e
        obtain ⟨rfl, rfl, rfl, rfl, e, rfl, rfl⟩ := e
        obtain rfl := eq_of_heq e
        obtain rfl : v' = v1.s := by simpa using hc
        exact ⟨rfl, ho⟩
    | _ => rw [ho] at e; simp at e
  | osl id ver => simp only [res] at e; split at e <;> (try (cases hc : (ver == ‹Nat›) <;> simp [hc] at e)) <;> simp at e
  | ptr id p => simp only [res] at e; split at e <;> simp at e
  | eptr id v i p => simp only [res] at e; split at e <;> (try (cases hc : (v == ‹Nat›) <;> simp [hc] at e)) <;> simp at e
  | iter id => simp only [res] at e; split at e <;> simp at e
  | tv id ver p => rcases res_tv_cases _ id ver p with e' | ⟨_, _, _, e'⟩ <;> rw [e'] at e <;> simp at e
  | ad id ver p => rcases res_ad_cases _ id ver p with e' | ⟨_, _, _, e'⟩ <;> rw [e'] at e <;> simp at e
  | lease id s u t x => rcases res_lease_cases _ id s u t x with e' | ⟨_, e'⟩ <;> rw [e'] at e <;> simp at e
  | _ => simp [res] at e
theorem comp_same : ∀ {τ : TT} {sk s : Skel} {f off : Nat} {u u' : TT}, compSk τ sk f = some (u', s) → TT.compOff τ f = some (off, u) → u' = u
  | .pair a b, .pair s1 s2, s, 0, off, u, u', e, k => by
    simp only [compSk, Option.some.injEq, Prod.mk.injEq] at e
    simp only [TT.compOff, Option.some.injEq, Prod.mk.injEq] at k
    rw [← e.1, ← k.2]
  | .pair a b, .pair s1 s2, s, n + 1, off, u, u', e, k => by
    simp only [compSk] at e
    simp only [TT.compOff] at k
    split at k
    · rename_i o t ee
      simp only [Option.some.injEq, Prod.mk.injEq] at k
      rw [← k.2]
      exact comp_same e ee
    · simp at k
  | .data _, _, _, _, _, _, _, h, _ => by simp [compSk] at h
  | .vec _, _, _, _, _, _, _, h, _ => by simp [compSk] at h
  | .map _ _, _, _, _, _, _, _, h, _ => by simp [compSk] at h
  | .own _, _, _, _, _, _, _, h, _ => by simp [compSk] at h
  | .opt _, _, _, _, _, _, _, h, _ => by simp [compSk] at h
  | .hole, _, _, _, _, _, _, h, _ => by simp [compSk] at h
  | .unit, _, _, _, _, _, _, h, _ => by simp [compSk] at h
  | .agg _, _, _, _, _, _, _, h, _ => by simp [compSk] at h
  | .pair _ _, .leaf, _, _, _, _, _, h, _ => by simp [compSk] at h
  | .pair _ _, .vec _, _, _, _, _, _, h, _ => by simp [compSk] at h
  | .pair _ _, .map _, _, _, _, _, _, h, _ => by simp [compSk] at h
  | .pair _ _, .own _ _, _, _, _, _, _, h, _ => by simp [compSk] at h
  | .pair _ _, .nil, _, _, _, _, _, h, _ => by simp [compSk] at h
theorem addrAt_snoc {f : Nat} : ∀ {p : List Nat} {τ τ' : TT} {x : τ.C} {x' : τ'.C} {sk sk' : Skel}, TT.getK p τ x (fun τ' y => some (⟨τ', y⟩ : (τ : TT) × τ.C)) = some ⟨τ', x'⟩ → skAt p τ sk = some sk' → (∀ t, τ' ≠ .data t ∨ ∃ u, t = .agg u) →
    ∀ cur, addrAt (p ++ [f]) τ sk cur = addrAt [f] τ' sk' (addrAt p τ sk cur)
  | [], τ, τ', x, x', sk, sk', h1, h2, _, cur => by
    simp only [TT.getK, Option.some.injEq, Sigma.mk.injEq] at h1
    obtain ⟨rfl, _⟩ := h1
    simp only [skAt, Option.some.injEq] at h2
    subst h2
    rfl
  | g :: p, .agg τ, τ', x, x', sk, sk', h1, h2, h3, cur => by
    obtain ⟨u, y, off, k1, k2, _⟩ := compK_id h1
    simp only [skAt] at h2
    split at h2
    · rename_i u' s e
      have eu : u' = u := comp_same e k2
      subst eu
      rw [List.cons_append, addrAt_agg e k2, addrAt_agg e k2]
      exact addrAt_snoc k1 h2 h3 _
    · simp at h2
  | g :: p, .own τ, τ', x, x', sk, sk', h1, h2, h3, cur => by
    simp only [skAt] at h2
    split at h2
    · rename_i b s
      exact addrAt_snoc (p := p) (τ := τ) (x := x) h1 h2 h3 _
    · simp at h2
  | g :: p, .opt τ, τ', none, x', sk, sk', h1, h2, h3, cur => by simp [TT.getK] at h1
  | g :: p, .opt τ, τ', some x, x', sk, sk', h1, h2, h3, cur => by
    simp only [skAt] at h2
    split at h2
    · rename_i b s
      exact addrAt_snoc (p := p) (τ := τ) (x := x) h1 h2 h3 _
    · simp at h2
  | g :: p, .data t, τ', x, x', sk, sk', h1, h2, h3, cur => by
    obtain ⟨t', y, off, k1, k2, _⟩ := getK_inv h1
    simp only [Option.some.injEq, Sigma.mk.injEq] at k1
    obtain ⟨rfl, _⟩ := k1
    simp only [skAt, Option.some.injEq] at h2
    subst h2
    rcases h3 t' with h3 | ⟨u, rfl⟩
    · exact absurd rfl h3
    simp only [List.cons_append, addrAt, k2]
    cases hc : Ty.compOff u f with
    | none =>
      have e1 : Ty.pathOff [f] (.agg u) = none := by simp [Ty.pathOff, hc]
      rw [e1]
      cases hq : Ty.pathOff (g :: (p ++ [f])) t with
      | none => rfl
      | some q =>
        obtain ⟨o', t'', h5, _⟩ := pathOff_snoc_inv (p := g :: p) (f := f) k2 hq
        rw [hc] at h5; cases h5
    | some q =>
      obtain ⟨o', t''⟩ := q
      have e1 : Ty.pathOff [f] (.agg u) = some (o', t'') := by simp [Ty.pathOff, hc]
      have e2 : Ty.pathOff (g :: (p ++ [f])) t = some (off + o', t'') := pathOff_snoc (p := g :: p) k2 hc
      rw [e1, e2]
      cases cur <;> simp [Nat.add_assoc]
  | _ :: _, .vec _, _, _, _, _, _, h1, _, _, _ => by simp [TT.getK] at h1
  | _ :: _, .map _ _, _, _, _, _, _, h1, _, _, _ => by simp [TT.getK] at h1
  | _ :: _, .hole, _, _, _, _, _, h1, _, _, _ => by simp [TT.getK] at h1
  | _ :: _, .unit, _, _, _, _, _, h1, _, _, _ => by simp [TT.getK] at h1
  | _ :: _, .pair _ _, _, _, _, _, _, h1, _, _, _ => by simp [TT.getK] at h1
end
end Go.PB
namespace Go.PB
open Go Go.RowKit
/-! ## 1. Naturality -/
def pairT (τ : TT) (x : τ.C) : Option ((τ : TT) × τ.C) := some ⟨τ, x⟩
theorem getT_pair {R : Type} {p : List Nat} {τ : TT} {x : τ.C} {K : (τ' : TT) → τ'.C → Option R} {r : R} (hk : TT.getK p τ x K = some r) : ∃ τ' x', TT.getK p τ x pairT = some ⟨τ', x'⟩ ∧ K τ' x' = some r := by
  rw [getT_nat (S := (τ : TT) × τ.C) (fun q => K q.1 q.2) p τ x pairT K (fun _ _ => rfl)] at hk
  obtain ⟨⟨τ', x'⟩, h1, h2⟩ := Option.bind_eq_some_iff.1 hk
  exact ⟨τ', x', h1, h2⟩
theorem getT_code : ∀ {p : List Nat} {τ τ' : TT} {x : τ.C} {x' : τ'.C}, TT.getK p τ x pairT = some ⟨τ', x'⟩ → TT.codeAt p τ = some τ'
  | [], τ, τ', x, x', h => by
    simp only [TT.getK, pairT, Option.some.injEq, Sigma.mk.injEq] at h
    simp [TT.codeAt, h.1]
  | f :: p, .agg τ, τ', x, x', h => by
    obtain ⟨u, y, off, h1, h2, _⟩ := compK_id h
    simp only [TT.codeAt, h2]
    exact getT_code h1
  | f :: p, .own τ, τ', x, x', h => getT_code (p := p) (τ := τ) (x := x) h
  | f :: p, .opt τ, τ', none, x', h => by simp [TT.getK] at h
  | f :: p, .opt τ, τ', some x, x', h => getT_code (p := p) (τ := τ) (x := x) h
  | f :: p, .data t, τ', x, x', h => by
    obtain ⟨t', y, off, h1, h2, _⟩ := getK_inv h
    simp only [pairT, Option.some.injEq, Sigma.mk.injEq] at h1
    simp [TT.codeAt, h2, h1.1]
  | _ :: _, .vec _, _, _, _, h => by simp [TT.getK] at h
  | _ :: _, .map _ _, _, _, _, h => by simp [TT.getK] at h
  | _ :: _, .hole, _, _, _, h => by simp [TT.getK] at h
  | _ :: _, .unit, _, _, _, h => by simp [TT.getK] at h
  | _ :: _, .pair _ _, _, _, _, h => by simp [TT.getK] at h
section
variable {F : Fr} {P : Program} {G : Gv} {env : Env} {w0 w w' : World} {st : St} {a : Act} {ρ : Nat → Loc} {h : List AObj} {ok : Nat → Prop} {R : Type} {tt : Tab}
/-! ## 2. What stands at a path -/
structure Look (w : World) (ok : Nat → Prop) (l : Loc) (p : List Nat) (τ : TT) (x : τ.C) (τ' : TT) (x' : τ'.C) (sk' : Skel) (cs' : List Value) : Prop where
  whole : TCells w ok τ x l.sk l.cs
  bs : l.bs = l.sk.blocks
  nodup : l.sk.blocks.Nodup
  get : TT.getK p τ x pairT = some ⟨τ', x'⟩
  sk : skAt p τ l.sk = some sk'
  part : TCells w ok τ' x' sk' cs'
  sub : ∀ b ∈ sk'.blocks, b ∈ l.bs
  loc : (∃ c1 c3, l.cs = c1 ++ (cs' ++ c3) ∧ addrAt p τ l.sk none = none) ∨
    ∃ b cc T c1 c3, b ∈ l.bs ∧ b ∉ sk'.blocks ∧ w.heap[b]? = some (.cells cc T (0, 0)) ∧ cc.toList = c1 ++ (cs' ++ c3) ∧ addrAt p τ l.sk none = some (b, c1.length)
theorem look (hobj : ∀ id, id < h.length → ORel w ρ ok id (hget h id)) {id : Nat} {ver : Ver} {p : List Nat} {τ : TT} {x : τ.C} (hl : id < h.length) (ho : hget h id = .vt ver τ x) {K : (τ' : TT) → τ'.C → Option R} {r : R} (hk : TT.getK p τ x K = some r) :
    ∃ τ' x' sk' cs', K τ' x' = some r ∧ Look w ok (ρ id) p τ x τ' x' sk' cs' := by
  have hob := hobj id hl
  rw [ho] at hob
  obtain ⟨h1, h2, h3⟩ := hob
  obtain ⟨τ', x', hp, hK⟩ := getT_pair hk
  obtain ⟨τ2, x2, e, hhas⟩ := getT_inv hp
  simp only [pairT, Option.some.injEq, Sigma.mk.injEq] at e
  obtain ⟨rfl, e⟩ := e
  obtain rfl := eq_of_heq e
  obtain ⟨sk', cs', k1, k2, k3, k4⟩ := hhas w ok _ _ h3 (by rw [← h1]; exact h2)
  refine ⟨_, _, sk', cs', hK, h3, h1, by rw [← h1]; exact h2, hp, k1, k2, fun b hb => by rw [h1]; exact k3 b hb, ?_⟩
  rcases k4 none with ⟨c1, c3, g1, g2⟩ | ⟨b, cc, T, c1, c3, g1, g1', g2, g3, g4⟩
  · exact .inl ⟨c1, c3, g1, by simpa using g2⟩
  · exact .inr ⟨b, cc, T, c1, c3, by rw [h1]; exact g1, g1', g2, g3, g4⟩
theorem ref_val {τ : TT} {x : τ.C} {sk : Skel} {cs : List Value} (hr : τ.isRef = true) (h : TCells w ok τ x sk cs) : ∃ v, cs = [v] ∧ skVal sk = some v := by
  cases τ with
  | own τ => obtain ⟨b, cc, T, s, rfl, rfl, _⟩ := h; exact ⟨_, rfl, rfl⟩
  | opt τ =>
    cases x with
    | none => obtain ⟨rfl, rfl⟩ := h; exact ⟨_, rfl, rfl⟩
    | some x => obtain ⟨b, cc, T, s, rfl, rfl, _⟩ := h; exact ⟨_, rfl, rfl⟩
  | map k v => obtain ⟨b, es, clk, rfl, rfl, _⟩ := h; exact ⟨_, rfl, rfl⟩
  | vec t => obtain ⟨v, rfl, rfl, _⟩ := h; exact ⟨_, rfl, rfl⟩
  | _ => simp [TT.isRef] at hr
theorem val_of_ref {l : Loc} {p : List Nat} {τ τ' : TT} {x : τ.C} {x' : τ'.C} {sk' : Skel} {cs' : List Value} (k : Look w ok l p τ x τ' x' sk' cs') (hr : τ'.isRef = true) {val : Value} (hv : ValAt l τ p val) : cs' = [val] ∧ skVal sk' = some val := by
  obtain ⟨v, e1, e2⟩ := ref_val hr k.part
  cases p with
  | nil =>
    have e3 := k.get
    simp only [TT.getK, pairT, Option.some.injEq, Sigma.mk.injEq] at e3
    obtain ⟨rfl, _⟩ := e3
    have e4 := k.sk
    simp only [skAt, Option.some.injEq] at e4
    have hna : τ.isAgg = false := by cases τ <;> first | rfl | simp [TT.isRef] at hr
    have h1 := hv.2 hna
    obtain ⟨v', g1, g2⟩ := ref_val hr k.whole
    rw [h1] at g1
    obtain rfl : val = v' := by simpa using g1
    rw [e4] at g2
    rw [g2] at e2
    obtain rfl : val = v := Option.some.inj e2
    exact ⟨e1, g2⟩
  | cons f p =>
    obtain ⟨s, h1, h2⟩ := hv
    rw [k.sk] at h1
    obtain rfl := Option.some.inj h1
    rw [h2] at e2
    obtain rfl := Option.some.inj e2
    exact ⟨e1, h2⟩
theorem ref_at {l : Loc} {p : List Nat} {τ τ' : TT} {x : τ.C} {x' : τ'.C} {sk' : Skel} {cs' : List Value} (k : Look w ok l p τ x τ' x' sk' cs') (hr : τ'.isRef = true) {val : Value} (e : cs' = [val]) : ValAt l τ p val := by
  obtain ⟨v, e1, e2⟩ := ref_val hr k.part
  obtain rfl : val = v := by rw [e] at e1; simpa using e1
  cases p with
  | nil =>
    have e3 := k.get
    simp only [TT.getK, pairT, Option.some.injEq, Sigma.mk.injEq] at e3
    obtain ⟨rfl, _⟩ := e3
    have hna : τ.isAgg = false := by cases τ <;> first | rfl | simp [TT.isRef] at hr
    refine ⟨fun h => absurd (hna.symm.trans h) (by simp), fun _ => ?_⟩
    have e4 := k.sk
    simp only [skAt, Option.some.injEq] at e4
    obtain ⟨v', g1, g2⟩ := ref_val hr k.whole
    rw [e4] at g2; rw [g2] at e2
    rw [g1, Option.some.inj e2]
  | cons f p => exact ⟨sk', k.sk, e2⟩
theorem tv_val {id v0 : Nat} {ver : Ver} {p : List Nat} {τ : TT} {x : τ.C} {val : Value} (hv : VRel w ρ h ok (.tv id v0 p) val) (ho : hget h id = .vt ver τ x) (hc : v0 = ver.s ∨ (isNil p && τ.fixed) = true) : id < h.length ∧ ValAt (ρ id) τ p val := by
  obtain ⟨hl, hv⟩ := hv
  rw [ho] at hv
  exact ⟨hl, hv.2 hc⟩
theorem ptr_ok (hobj : ∀ id, id < h.length → ORel w ρ ok id (hget h id)) {u : AVal} {val : Value} (hv : VRel w ρ h ok u val) {K : (id : Nat) → (ver : Ver) → (p : List Nat) → (τ : TT) → τ.C → Option R} {r : R} (hk : ptrK (res h u) K = some r) :
    ∃ id ver p τ x, K id ver p τ x = some r ∧ id < h.length ∧ hget h id = .vt ver τ x ∧ ∃ b o, addrAt p τ (ρ id).sk none = some (b, o) ∧ val = .pointer (some ⟨b, o, none⟩) := by
  unfold ptrK at hk
  split at hk
  · rename_i id ver p τ x e
    obtain ⟨rfl, ho⟩ := res_ad e
    obtain ⟨hl, ha⟩ := hv
    rw [ho] at ha
    exact ⟨id, ver, p, τ, x, hk, hl, ho, ha.2 rfl⟩
  · rename_i id ver p τ x e
    obtain ⟨v0, rfl, ho, hc⟩ := res_tr e
    obtain ⟨hl, hval⟩ := tv_val hv ho hc
    obtain ⟨τ', x', sk', cs', hK, k⟩ := look hobj hl ho hk
    have fin : ∀ (b : Nat) (s : Skel), sk' = .own b s → skVal sk' = some val → (∀ t, τ' ≠ .data t) → (∃ σ, τ' = .own σ ∨ τ' = .opt σ) → ∃ b o, addrAt (p ++ [0]) τ (ρ id).sk none = some (b, o) ∧ val = .pointer (some ⟨b, o, none⟩) := by
      intro b s e1 e2 e3 ⟨σ, e4⟩
      subst e1
      refine ⟨b, 0, ?_, by simpa [skVal] using e2.symm⟩
      rw [addrAt_snoc k.get k.sk (fun t => .inl (e3 t))]
      rcases e4 with e4 | e4 <;> subst e4 <;> rfl
    split at hK
    · rename_i σ y
      obtain ⟨e1, e2⟩ := val_of_ref k rfl hval
      obtain ⟨b, cc, T, s, e3, _⟩ := k.part
      exact ⟨id, ver, p ++ [0], τ, x, hK, hl, ho, fin b s e3 e2 (by simp) ⟨σ, .inl rfl⟩⟩
    · rename_i σ y
      split at hK
      · rename_i y
        obtain ⟨e1, e2⟩ := val_of_ref k rfl hval
        obtain ⟨b, cc, T, s, e3, _⟩ := k.part
        exact ⟨id, ver, p ++ [0], τ, x, hK, hl, ho, fin b s e3 e2 (by simp) ⟨σ, .inr rfl⟩⟩
      · simp at hK
    · simp at hK
  · simp at hk
/-! ## 3. Addresses -/
theorem fieldAddrX_yield (hT : TTOk P tt) (hobj : ∀ id, id < h.length → ORel w ρ ok id (hget h id)) {s : TypeId} {f : Nat} {u : AVal} {val : Value} (hv : VRel w ρ h ok u val) {K : Out → Option R} {r : R} (hk : fieldAddrX tt s f (res h u) K = some r) :
    Yield P w ρ h ok K r (Instr.fieldAt s val f) := by
  unfold fieldAddrX at hk
  split at hk
  · rename_i id ver p τ x i q e
    obtain ⟨rfl, ho⟩ := res_elt e
    obtain ⟨hl, hp⟩ := hv
    rw [ho] at hp
    obtain ⟨t, b, o, n, c, off, t', hg, g1, hil, g2, rfl⟩ := hp.2 rfl
    obtain ⟨τ', x', sk', cs', hK, k⟩ := look hobj hl ho hk
    have e1 := getT_code k.get
    rw [hg] at e1
    obtain rfl : TT.vec t = τ' := Option.some.inj e1
    simp only at hK
    split at hK
    · rename_i t0 hty
      obtain ⟨o', u, hpo, e2, hK⟩ := atPath_inv hK; subst e2
      obtain ⟨q', hq, hK⟩ := hasPath_inv hK
      obtain ⟨o2, t2, hc, hq2⟩ := pathOff_snoc_inv hpo hq
      obtain ⟨_, fs, hfs, hch⟩ := hT _ _ hty
      obtain ⟨fd, hfd, hfo, hft⟩ := ChainOk.comp hch hc
      rw [Array.getElem?_toList] at hfd
      rw [g2] at hpo
      simp only [Option.some.injEq, Prod.mk.injEq] at hpo
      obtain ⟨rfl, rfl⟩ := hpo
      have hne : t2.width ≠ 0 := Nat.pos_iff_ne_zero.1 hft.pos
      refine ⟨_, .pointer (some ⟨b, o + (i * t.width + off) + fd.offset, none⟩), hK, ⟨hl, ?_⟩, ?_⟩
      · rw [ho]
        exact ⟨Nat.le_refl _, fun _ => ⟨t, b, o, n, c, off + o2, t2, hg, g1, hil, by rw [hq, hq2], by simp [hfo, Nat.add_assoc]⟩⟩
      · simp [Instr.fieldAt, Go.underlying, hfs, hfd, Instr.sureAddr, fieldPlace, hft.run_sizeOf, hne, addr_add]
    · simp at hK
  · rename_i hne
    obtain ⟨id, ver, p, τ, x, hK, hl, ho, b, o, had, rfl⟩ := ptr_ok hobj hv hk
    obtain ⟨τ', x', sk', cs', hK, k⟩ := look hobj hl ho hK
    obtain ⟨of_, ho1, ho2, hK⟩ := sameOff_inv hK
    obtain ⟨fs, fd, hfs, hfd, hfo, hrun⟩ := off_ok hT ho1
    unfold fieldAddrX.hasField at hK
    split at hK
    · rename_i hg
      refine ⟨_, .pointer (some ⟨b, o + of_, none⟩), hK, ⟨hl, ?_⟩, ?_⟩
      · rw [ho]
        refine ⟨Nat.le_refl _, fun _ => ⟨b, o + of_, ?_, rfl⟩⟩
        unfold TT.off at ho2
        split at ho2
        · rename_i σ
          rw [addrAt_snoc k.get k.sk (by simp), had]
          obtain ⟨q, h1, h2⟩ := Option.map_eq_some_iff.1 ho2
          obtain ⟨oq, uq⟩ := q
          subst h2
          obtain ⟨s', hs'⟩ : ∃ s', compSk σ sk' f = some (uq, s') := by
            have hpart := k.part
            clear k hrun hfo ho1 hK hg
            have : ∀ (σ : TT) (x' : σ.C) (sk' : Skel) (cs' : List Value) (f oq : Nat) (uq : TT), TCells w ok σ x' sk' cs' → TT.compOff σ f = some (oq, uq) → ∃ s', compSk σ sk' f = some (uq, s') := by
              intro σ
              induction σ with
              | pair a b _ ihb =>
                rintro x' sk' cs' f oq uq ⟨s1, s2, c1, c2, rfl, rfl, g1, g2⟩ hc
                cases f with
                | zero =>
                  simp only [TT.compOff, Option.some.injEq, Prod.mk.injEq] at hc
                  exact ⟨s1, by simp [compSk, hc.2]⟩
                | succ f =>
                  simp only [TT.compOff] at hc
                  split at hc
                  · rename_i o t e
                    simp only [Option.some.injEq, Prod.mk.injEq] at hc
                    obtain ⟨s', hs'⟩ := ihb _ _ _ _ _ _ g2 e
                    exact ⟨s', by simp [compSk, hs', hc.2]⟩
                  · simp at hc
              | _ => intro _ _ _ _ _ _ _ hc; simp [TT.compOff] at hc
            exact this σ x' sk' cs' f oq uq hpart h1
          rw [addrAt_agg hs' h1]
          rfl
        · rename_i t
          rw [addrAt_snoc k.get k.sk (fun t' => by
            by_cases e : (TT.data (.agg t)) = .data t'
            · injection e with e; exact .inr ⟨t, e.symm⟩
            · exact .inl e), had]
          obtain ⟨q, h1, h2⟩ := Option.map_eq_some_iff.1 ho2
          subst h2
          simp only [addrAt, Ty.pathOff, h1]
          rfl
        · simp at ho2
      · simp [Instr.fieldAt, Go.underlying, hfs, hfd, Instr.sureAddr, hrun]
    · simp at hK
/-! ## 4. Loads -/
theorem run_load1 (hT : TTOk P tt) {t : TypeId} (h1 : tt.one t = true) {b o : Nat} {v : Value} (hc : w.cell? ⟨b, o, none⟩ = some v) : (Instr.loadAt t (.pointer (some ⟨b, o, none⟩))).run P w = .ok v w := by
  obtain ⟨_, h2⟩ := one_ok (w := w) hT h1
  simp [Instr.loadAt, Instr.sureAddr, loadVar, h2, Go.load, Sem.run, hc]
theorem Look.cell {l : Loc} {p : List Nat} {τ τ' : TT} {x : τ.C} {x' : τ'.C} {sk' : Skel} {cs' : List Value} (k : Look w ok l p τ x τ' x' sk' cs') {b o : Nat} (ha : addrAt p τ l.sk none = some (b, o)) :
    b ∈ l.bs ∧ b ∉ sk'.blocks ∧ ∃ cc T c1 c3, w.heap[b]? = some (.cells cc T (0, 0)) ∧ cc.toList = c1 ++ (cs' ++ c3) ∧ c1.length = o ∧ ∀ j u, cs'[j]? = some u → w.cell? ⟨b, o + j, none⟩ = some u := by
  rcases k.loc with ⟨c1, c3, _, h2⟩ | ⟨b', cc, T, c1, c3, g1, g1', g2, g3, g4⟩
  · rw [h2] at ha; cases ha
  · rw [g4] at ha
    simp only [Option.some.injEq, Prod.mk.injEq] at ha
    obtain ⟨rfl, rfl⟩ := ha
    refine ⟨g1, g1', cc, T, c1, c3, g2, g3, rfl, fun j u hj => ?_⟩
    rw [cell_of_row w b' _ cc T _ g2, ← Array.getElem?_toList, g3]
    have hlt : j < cs'.length := (List.getElem?_eq_some_iff.1 hj).1
    rw [List.getElem?_append_right (by omega), Nat.add_sub_cancel_left, List.getElem?_append_left hlt]; exact hj
theorem run_loadAgg {t : TypeId} {b o : Nat} {cs : List Value} (h1 : (isAgg t).run P w = .ok true w) (h2 : (sizeOf t).run P w = .ok cs.length w) (hcell : ∀ j u, cs[j]? = some u → w.cell? ⟨b, o + j, none⟩ = some u) :
    (Instr.loadAt t (.pointer (some ⟨b, o, none⟩))).run P w = .ok (.agg cs.toArray) w := by
  have hadd : ∀ j u, cs[j]? = some u → w.cell? ((⟨b, o, none⟩ : Addr).add j) = some u := fun j u hj => by
    have := hcell j u hj
    unfold Addr.add
    split
    · rename_i h0; subst h0; simpa using this
    · exact this
  have hl := run_loadCells_list (P := P) (w := w) ⟨b, o, none⟩ cs hadd
  simp [Instr.loadAt, Instr.sureAddr, loadVar, h1, h2, hl]
theorem toD_inv {w : World} {ok : Nat → Prop} : ∀ {τ : TT} {x : τ.C} {sk : Skel} {cs : List Value} {R : Type} {K : (t : Ty) → t.C → Option R} {r : R}, toD τ x K = some r → TCells w ok τ x sk cs →
    ∃ t y, K t y = some r ∧ Cells w (fun b => ok b ∨ b ∈ sk.blocks) t y cs ∧ t.isAgg = τ.isAgg
  | .data t, x, sk, cs, R, K, r, hk, ⟨_, h⟩ => ⟨t, x, hk, Cells.mono (fun b hb => ⟨.inl hb, rfl⟩) t x cs h, rfl⟩
  | .vec t, l, sk, cs, R, K, r, hk, ⟨v, h1, h2, h3⟩ => by
    refine ⟨.list t, l, hk, ⟨v, h2, ?_⟩, rfl⟩
    subst h1
    rcases h3 with ⟨rfl, rfl⟩ | ⟨b, o, c, cs', T, pre, cc, rest, rfl, g2, g3, g4, g5, g6, g7⟩
    · exact ⟨none, 0, rfl, Nat.le_refl _, .inl rfl⟩
    · refine ⟨_, c, rfl, g6, .inr ⟨b, o, cc, rfl, .inr (by simp [Skel.blocks, vecBs]), RowC.mono (fun x cs h => Cells.mono (fun b hb => ⟨.inl hb, rfl⟩) t x cs h) _ _ g7, fun j u hj => ?_⟩⟩
      have hlt : j < cc.length := (List.getElem?_eq_some_iff.1 hj).1
      rw [cell_of_row w b _ cs' T _ g2, ← Array.getElem?_toList, g3, List.getElem?_append_right (by omega), g4, Nat.add_sub_cancel_left, List.getElem?_append_left hlt]; exact hj
  | .unit, _, sk, cs, R, K, r, hk, ⟨_, h⟩ => ⟨.unit, (), hk, h, rfl⟩
  | .pair a b, x, sk, cs, R, K, r, hk, ⟨s1, s2, c1, c2, h1, h2, h3, h4⟩ => by
    obtain ⟨t, y, k1, k2, _⟩ := toD_inv (τ := a) hk h3
    obtain ⟨u, z, k3, k4, _⟩ := toD_inv (τ := b) k1 h4
    subst h1
    exact ⟨.pair t u, (y, z), k3, ⟨c1, c2, h2, Cells.mono (fun b hb => ⟨hb.imp id (fun h => by simp [Skel.blocks, h]), rfl⟩) _ _ _ k2, Cells.mono (fun b hb => ⟨hb.imp id (fun h => by simp [Skel.blocks, h]), rfl⟩) _ _ _ k4⟩, rfl⟩
  | .agg τ, x, sk, cs, R, K, r, hk, h => by
    obtain ⟨t, y, k1, k2, _⟩ := toD_inv (τ := τ) hk h
    exact ⟨.agg t, y, k1, k2, rfl⟩
  | .map _ _, _, _, _, _, _, _, hk, _ => by simp [toD] at hk
  | .own _, _, _, _, _, _, _, hk, _ => by simp [toD] at hk
  | .opt _, _, _, _, _, _, _, hk, _ => by simp [toD] at hk
  | .hole, _, _, _, _, _, _, hk, _ => by simp [toD] at hk
theorem readK_yield (hT : TTOk P tt) (hobj : ∀ id, id < h.length → ORel w ρ ok id (hget h id)) {t : TypeId} {id : Nat} {ver : Ver} {p : List Nat} {τ : TT} {x : τ.C} (hl : id < h.length) (ho : hget h id = .vt ver τ x) {b o : Nat}
    (ha : addrAt p τ (ρ id).sk none = some (b, o)) {K : Out → Option R} {r : R} (hk : readK tt t id ver p τ x K = some r) : Yield P w ρ h ok K r (Instr.loadAt t (.pointer (some ⟨b, o, none⟩))) := by
  obtain ⟨τ', x', sk', cs', hK, k⟩ := look hobj hl ho hk
  obtain ⟨hbl, _, cc, T, c1, c3, g1, g2, g3, hcell⟩ := k.cell ha
  have ha' := ha
  have ref : τ'.isRef = true → tt.one t = true → K (.q (.tv id ver.s p)) = some r → Yield P w ρ h ok K r (Instr.loadAt t (.pointer (some ⟨b, o, none⟩))) := by
    intro hr h1 hK
    obtain ⟨v, e1, e2⟩ := ref_val hr k.part
    refine ⟨_, v, hK, ⟨hl, ?_⟩, run_load1 hT h1 (by simpa using hcell 0 v (by rw [e1]; rfl))⟩
    rw [ho]
    exact ⟨Nat.le_refl _, fun _ => ref_at k hr e1⟩
  split at hK
  · rename_i t' y
    split at hK
    · rename_i t0 hty
      obtain ⟨e, hK⟩ := castK_inv hK
      subst e
      obtain ⟨e1, hc⟩ := k.part
      obtain ⟨val, hrun, hd⟩ := run_loadVar (P := P) (hT _ _ hty) b o hc hcell
      exact ⟨_, val, hK, hd, by simp [Instr.loadAt, Instr.sureAddr, hrun]⟩
    · simp at hK
  · rename_i σ y
    split at hK
    · cases h1 : tt.one t with
      | false => rw [h1] at hK; simp at hK
      | true =>
        rw [h1] at hK
        obtain ⟨_, e⟩ := k.part
        exact ⟨_, .pointer none, hK, rfl, run_load1 hT h1 (by simpa using hcell 0 (.pointer none) (by rw [e]; rfl))⟩
    · cases h1 : tt.one t with
      | false => rw [h1] at hK; simp at hK
      | true => rw [h1] at hK; exact ref rfl h1 hK
  · cases h1 : tt.one t with
    | false => rw [h1] at hK; simp at hK
    | true => rw [h1] at hK; exact ref rfl h1 hK
  · cases h1 : tt.one t with
    | false => rw [h1] at hK; simp at hK
    | true => rw [h1] at hK; exact ref rfl h1 hK
  · cases h1 : tt.one t with
    | false => rw [h1] at hK; simp at hK
    | true => rw [h1] at hK; exact ref rfl h1 hK
  · rename_i σ y
    split at hK
    · rename_i t0 hty
      obtain ⟨t', z, hK, hc, hag⟩ := toD_inv hK k.part
      obtain ⟨e, hK⟩ := castK_inv hK
      subst e
      have ht := hT _ _ hty
      have ha : t'.isAgg = true := hag
      have hrun := run_loadAgg (P := P) (t := t) (by rw [ht.run_isAgg, ha]) (by rw [ht.run_sizeOf, Cells.length _ _ _ hc]) hcell
      refine ⟨_, .agg cs'.toArray, hK, ⟨hl, ?_⟩, hrun⟩
      rw [ho]
      refine ⟨Nat.le_refl _, Nat.le_refl _, fun _ => ⟨?_, b, o, cc, T, c1, c3, ha', hbl, g1, by simpa [Value.cells] using g2, g3⟩⟩
      exact DVal.mono (fun b hb => ⟨hb.imp (fun h => h) (k.sub b), rfl⟩) ((dval_of_cells hc ht.isVal).1 ha)
    · simp at hK
  · simp at hK
theorem elem_cells {p : List Nat} {τ : TT} {x : τ.C} {l : Loc} {t : Ty} {xs : List t.C} {sk' : Skel} {cs' : List Value} (k : Look w ok l p τ x (.vec t) xs sk' cs') {b o n c i : Nat} (hs : skAt p τ l.sk = some (.vec (.slice (some ⟨b, o, none⟩) n c))) (hi : i < n) :
    n = xs.length ∧ b ∈ l.bs ∧ ∃ cs T c1 c2 c3, w.heap[b]? = some (.cells cs T (0, 0)) ∧ cs.toList = c1 ++ (c2 ++ c3) ∧ c1.length = o + i * t.width ∧ Cells w ok t (xs.getD i t.zero) c2 ∧
      ∀ y c', Cells w ok t y c' → ∃ pre cc rest, c1 ++ (c' ++ c3) = pre ++ (cc ++ rest) ∧ pre.length = o ∧ RowC (Cells w ok t) (xs.set i y) cc ∧ cc.length = xs.length * t.width := by
  rw [k.sk] at hs
  obtain rfl := Option.some.inj hs
  obtain ⟨v, e1, e2, hv⟩ := k.part
  injection e1 with e1
  subst e1
  rcases hv with ⟨hv, hl0⟩ | ⟨b', o', c', cs, T, pre, cc, rest, hv, h2, h3, h4, h5, h6, h7⟩
  · cases hv
  · injection hv with hv1 hv2 hv3
    simp only [Option.some.injEq, Addr.mk.injEq, and_true] at hv1
    obtain ⟨rfl, rfl⟩ := hv1
    refine ⟨hv2, k.sub b (by simp [Skel.blocks, vecBs]), ?_⟩
    obtain ⟨d1, d2, d3, e, hl1, hc, hset⟩ := RowC.set (fun x cs => Cells.length t x cs) t.zero xs cc i h7 (hv2 ▸ hi)
    refine ⟨cs, T, pre ++ d1, d2, d3 ++ rest, h2, by rw [h3, e]; simp, by simp [h4, hl1], hc, fun y c' hc' => ⟨pre, d1 ++ (c' ++ d3), rest, by simp, h4, hset y c' hc', ?_⟩⟩
    have := RowC.length (fun x cs => Cells.length t x cs) _ _ (hset y c' hc')
    simpa using this
theorem loadX_yield (hT : TTOk P tt) (hobj : ∀ id, id < h.length → ORel w ρ ok id (hget h id)) {t : TypeId} {u : AVal} {val : Value} (hv : VRel w ρ h ok u val) {K : Out → Option R} {r : R} (hk : loadX tt t (res h u) K = some r) :
    Yield P w ρ h ok K r (Instr.loadAt t val) := by
  unfold loadX at hk
  split at hk
  · rename_i id ver p τ x i q e
    obtain ⟨rfl, ho⟩ := res_elt e
    obtain ⟨hl, hp⟩ := hv
    rw [ho] at hp
    obtain ⟨t1, b, o, n, c, off, t', hg, g1, hil, g2, rfl⟩ := hp.2 rfl
    obtain ⟨τ', l, sk', cs', hK, k⟩ := look hobj hl ho hk
    have e1 := getT_code k.get
    rw [hg] at e1
    obtain rfl : TT.vec t1 = τ' := Option.some.inj e1
    simp only at hK
    split at hK
    · rename_i t0 hty
      obtain ⟨t2, z, off', hK, hpo, hparts⟩ := getK_inv hK
      obtain ⟨e, hK⟩ := castK_inv hK
      subst e
      rw [g2] at hpo
      simp only [Option.some.injEq, Prod.mk.injEq] at hpo
      obtain ⟨rfl, rfl⟩ := hpo
      obtain ⟨_, _, cs, T, c1, c2, c3, k1, k2, k3, k4, _⟩ := elem_cells k g1 hil
      obtain ⟨d1, d2, d3, e2, e3, e4⟩ := hparts k4
      obtain ⟨val, hrun, hd⟩ := run_loadVar (P := P) (hT _ _ hty) b (o + (i * t1.width + off)) e4 (fun j u hj => by
        rw [cell_of_row w b _ cs T _ k1, ← Array.getElem?_toList, k2, e2]
        have hlt : j < d2.length := (List.getElem?_eq_some_iff.1 hj).1
        rw [List.getElem?_append_right (by omega), List.getElem?_append_left (by simp; omega), List.getElem?_append_right (by omega), List.getElem?_append_left (by omega)]
        rw [← hj]; congr 1; omega)
      exact ⟨_, val, hK, hd, by simp [Instr.loadAt, Instr.sureAddr, hrun]⟩
    · simp at hK
  · obtain ⟨id, ver, p, τ, x, hK, hl, ho, b, o, had, rfl⟩ := ptr_ok hobj hv hk
    exact readK_yield hT hobj hl ho had hK
/-! ## 5. Slices and maps that are read -/
theorem isSlice_ok (hT : TTOk P tt) {t : TypeId} (h : tt.isSlice t = true) : ∃ e, P.underlying t = some (.slice e) := by
  unfold Tab.isSlice at h
  split at h
  · rename_i u e; obtain ⟨_, e', he, _⟩ := hT.ty _ _ e; exact ⟨e', he⟩
  · split at h
    · rename_i u e; obtain ⟨_, e', he, _⟩ := hT.mt _ _ e; exact ⟨e', he⟩
    · simp at h
theorem MapC.length {k v : Ty} : ∀ {l : List (k.C × v.C)} {es : List MapEntry}, MapC w ok k v l es → es.length = l.length
  | [], es, h => by simp only [MapC] at h; subst h; rfl
  | _ :: l, _, ⟨e, r, h1, _, _, h4⟩ => by subst h1; simp [MapC.length h4]
theorem lenX_yield (hT : TTOk P tt) (hobj : ∀ id, id < h.length → ORel w ρ ok id (hget h id)) {t tyo : TypeId} {u : AVal} {val : Value} (hv : VRel w ρ h ok u val) {K : Out → Option R} {r : R} (hk : lenX tt t (res h u) K = some r) :
    Yield P w ρ h ok K r (Builtin.len_ #[t] tyo #[val]) := by
  unfold lenX at hk
  split at hk
  · rename_i id ver p τ x e
    obtain ⟨v0, rfl, ho, hc⟩ := res_tr e
    obtain ⟨hl, hval⟩ := tv_val hv ho hc
    obtain ⟨τ', x', sk', cs', hK, k⟩ := look hobj hl ho hk
    split at hK
    · rename_i t1 l
      cases hs : tt.isSlice t with
      | false => rw [hs] at hK; simp at hK
      | true =>
        rw [hs] at hK
        obtain ⟨e, he⟩ := isSlice_ok hT hs
        obtain ⟨e1, e2⟩ := val_of_ref k rfl hval
        obtain ⟨v, g1, g2, g3⟩ := k.part
        subst g1
        simp only [skVal, Option.some.injEq] at e2
        subst e2
        rcases g3 with ⟨rfl, rfl⟩ | ⟨b, o, c, cs, T, pre, cc, rest, rfl, _⟩
        · exact ⟨_, _, hK, dval_int _ _ _ _, by simp [Builtin.len_, Go.underlying, he, goInt]⟩
        · exact ⟨_, _, hK, dval_int _ _ _ _, by simp [Builtin.len_, Go.underlying, he, goInt]⟩
    · rename_i k1 v1 l
      split at hK
      · rename_i k2 v2 hty
        obtain ⟨_, kt, vt, hu, _, _⟩ := hT.mt _ _ hty
        obtain ⟨e1, e2⟩ := val_of_ref k rfl hval
        obtain ⟨b, es, clk, g1, g2, g3, g4, g5⟩ := k.part
        subst g1
        simp only [skVal, Option.some.injEq] at e2
        subst e2
        have hlen : es.size = l.length := by have := g4.length; simpa using this
        exact ⟨_, _, hK, dval_int _ _ _ _, by simp [Builtin.len_, Go.underlying, hu, goInt, getObj, Sem.run, g3, hlen]⟩
      · simp at hK
    · simp at hK
  · simp at hk
theorem indexAddrX_yield (hT : TTOk P tt) (hobj : ∀ id, id < h.length → ORel w ρ ok id (hget h id)) {t : TypeId} {u ui : AVal} {val ival : Value} (hv : VRel w ρ h ok u val) (hi : VRel w ρ h ok ui ival) {K : Out → Option R} {r : R} (hk : indexAddrX tt t (res h u) (res h ui) K = some r) :
    Yield P w ρ h ok K r (Instr.indexAt t val ival) := by
  unfold indexAddrX at hk
  split at hk
  · rename_i id ver p τ x kk i e ei
    obtain ⟨v0, rfl, ho, hc⟩ := res_tr e
    obtain rfl := (res_data hi ei).int_inv
    obtain ⟨hl, hval⟩ := tv_val hv ho hc
    obtain ⟨τ', x', sk', cs', hK, k⟩ := look hobj hl ho hk
    split at hK
    · rename_i t1 l
      split at hK
      · rename_i t0 hty
        obtain ⟨e, hK2⟩ := sameK_inv hK
        clear hK
        subst e
        obtain ⟨hr, hK⟩ := rangeK_inv hK2
        obtain ⟨_, e, he, hte⟩ := hT _ _ hty
        obtain ⟨e1, e2⟩ := val_of_ref k rfl hval
        obtain ⟨v, g1, g2, g3⟩ := k.part
        subst g1
        simp only [skVal, Option.some.injEq] at e2
        subst e2
        rcases g3 with ⟨rfl, rfl⟩ | ⟨b, o, c, cs, T, pre, cc, rest, rfl, _⟩
        · simp at hr; omega
        · refine ⟨_, .pointer (some ⟨b, o + i.toNat * t1.width, none⟩), hK, ⟨hl, ?_⟩, ?_⟩
          · rw [ho]
            exact ⟨Nat.le_refl _, fun _ => ⟨t1, b, o, l.length, c, 0, t1, getT_code k.get, k.sk, by omega, rfl, rfl⟩⟩
          · simp [Instr.indexAt, asIntOf, Go.underlying, he, hr, hte.run_sizeOf, addr_add]
      · simp at hK
    · simp at hK
  · simp at hk
end
end Go.PB
namespace Go.PB
open Go Go.RowKit
section
variable {F : Fr} {P : Program} {G : Gv} {env : Env} {w0 w w' : World} {st : St} {a : Act} {ρ : Nat → Loc} {R : Type} {tt : Tab}
theorem vt_lt {h : List AObj} {id : Nat} {ver : Ver} {τ : TT} {x : τ.C} (ho : hget h id = .vt ver τ x) : id < h.length := owns_lt (by rw [ho]; rfl)
theorem vt_orel {h : List AObj} {ok : Nat → Prop} (hobj : ∀ id, id < h.length → ORel w ρ ok id (hget h id)) {id : Nat} {ver : Ver} {τ : TT} {x : τ.C} (ho : hget h id = .vt ver τ x) :
    (ρ id).bs = (ρ id).sk.blocks ∧ (ρ id).sk.blocks.Nodup ∧ TCells w ok τ x (ρ id).sk (ρ id).cs := by
  have := hobj id (vt_lt ho)
  rw [ho] at this
  exact ⟨this.1, by rw [← this.1]; exact this.2.1, this.2.2⟩
theorem Open.flat (h : Open F w0 st a w ρ) {id : Nat} {ver : Ver} {τ : TT} {x x1 : τ.C} (ho : hget st.heap id = .vt ver τ x) (hos : w'.os = w.os) (htp : w'.tape = w.tape) (hout : w'.output = w.output) (hsz : w.heap.size ≤ w'.heap.size)
    (hblk : ∀ b, b < w.heap.size → b ∉ (ρ id).bs → w'.heap[b]? = w.heap[b]?)
    (hcells : (∀ b, okOf F w ρ st.heap b → okOf F w' ρ (hset st.heap id (.vt ver.wr τ x1)) b ∧ w'.heap[b]? = w.heap[b]?) → TCells w' (okOf F w' ρ (hset st.heap id (.vt ver.wr τ x1))) τ x1 (ρ id).sk (ρ id).cs)
    {v : AVal} {val : Value} (hv : VRel w' ρ (hset st.heap id (.vt ver.wr τ x1)) (okOf F w' ρ (hset st.heap id (.vt ver.wr τ x1))) v val) (dst : Option Tmp) :
    Rel F w0 (st.after dst (.gen [(id, .vt ver.wr τ x1)] v)) (a.put dst val) w' := by
  have hl := vt_lt ho
  obtain ⟨g1, g2, g3⟩ := vt_orel h.hrel.obj ho
  have hown : (hget st.heap id).owns = true := by rw [ho]; rfl
  have hself : hget (hset st.heap id (.vt ver.wr τ x1)) id = .vt ver.wr τ x1 := hget_hset_self hl
  have hblk' : ∀ b, b < w.heap.size → (∀ id', id' = id → (hget st.heap id').owns = true → b ∉ (ρ id').bs) → w'.heap[b]? = w.heap[b]? := fun b hb hn => hblk b hb (hn id rfl hown)
  have t : Turn F (fun i => i = id) w ρ st.heap w' ρ (hset st.heap id (.vt ver.wr τ x1)) := by
    refine ⟨by rw [length_hset]; exact Nat.le_refl _, fun i _ hi => ⟨hget_hset_ne hi, rfl⟩, fun i h1 h2 => absurd h2 (by rw [length_hset]; omega), hsz, hblk', fun i b hi _ hb => ?_, fun i j b hi hj _ _ _ _ => by rw [hi, hj], fun hd i hi _ => ?_, fun i hi _ _ => ?_, fun i hi _ => .inr ?_⟩
    · subst hi; exact ⟨Nat.lt_of_lt_of_le (h.hrel.own i b hown hb).2 hsz, .inr ⟨i, rfl, hown, hb⟩⟩
    · subst hi; rw [hself]; exact ⟨g1, by rw [g1]; exact g2, hcells hd⟩
    · subst hi; exact ⟨by rw [ho]; rfl, rfl⟩
    · subst hi; rw [hself, ho]; exact ⟨rfl, ⟨fun _ _ _ k => k, fun _ _ _ k => k, fun _ _ _ _ _ k => k⟩, fun _ _ s u t x val k => ⟨k.1, Nat.le_succ_of_le k.2.1, fun hc => absurd k.2.1 (by rw [hc.2]; exact Nat.not_succ_le_self _)⟩⟩
  exact h.turn t (h.nearS (S := fun i => i = id) hos htp hout hsz hblk') hv dst
theorem trs_stale {ρ' : Nat → Loc} {id : Nat} {ver : Ver} {τ τ1 : TT} {x : τ.C} {x1 : τ1.C} (hcs : (ρ' id).cs = (ρ id).cs) (hag : τ1.isAgg = τ.isAgg) : Trs ρ ρ' id (.vt ver τ x) (.vt ver.up τ1 x1) := by
  refine ⟨fun v p val hv => ⟨Nat.le_succ_of_le hv.1, fun hc => ?_⟩, fun v p val hv => ⟨Nat.le_succ_of_le hv.1, fun hc => ?_⟩, fun v p i q val hv => ⟨Nat.le_succ_of_le hv.1, fun hc => ?_⟩⟩
  · rcases hc with hc | hc
    · exact absurd hv.1 (by rw [hc]; exact Nat.not_succ_le_self _)
    · cases p with
      | nil =>
        have := hv.2 (.inr rfl)
        exact ⟨fun e => by rw [hcs]; exact this.1 (by rw [← hag]; exact e), fun e => by rw [hcs]; exact this.2 (by rw [← hag]; exact e)⟩
      | cons f p => simp [isNil] at hc
  · exact absurd hv.1 (by rw [hc]; exact Nat.not_succ_le_self _)
  · exact absurd hv.1 (by rw [hc]; exact Nat.not_succ_le_self _)
def setρ (ρ : Nat → Loc) (id : Nat) (l : Loc) (i : Nat) : Loc := if i = id then l else ρ i
def newObj? (o : Option AObj) : List AObj := match o with | some o => [o] | none => []
def setρ2 (ρ : Nat → Loc) (id : Nat) (l : Loc) (n : Nat) (l2 : Loc) (i : Nat) : Loc := if i = id then l else if i = n then l2 else ρ i
structure Reshape (w : World) (ρ : Nat → Loc) (h : List AObj) (id : Nat) (gone : Option Nat) (w' : World) (sk1 : Skel) (l2 : Loc) : Prop where
  size : w.heap.size ≤ w'.heap.size
  goes : ∀ g, gone = some g → g ≠ id ∧ (hget h g).owns = true
  blk : ∀ b, b < w.heap.size → b ∉ (ρ id).bs → (∀ g, gone = some g → b ∉ (ρ g).bs) → w'.heap[b]? = w.heap[b]?
  nodup : sk1.blocks.Nodup
  own : ∀ b, (b ∈ sk1.blocks ∨ b ∈ l2.bs) → b < w'.heap.size ∧ (w.heap.size ≤ b ∨ b ∈ (ρ id).bs ∨ ∃ g, gone = some g ∧ b ∈ (ρ g).bs)
  apart : ∀ b ∈ sk1.blocks, b ∉ l2.bs
theorem Open.reshape (h : Open F w0 st a w ρ) {id : Nat} {ver : Ver} {τ τ1 : TT} {x : τ.C} {x1 : τ1.C} {gone : Option Nat} {new : Option AObj} {l2 : Loc} {sk1 : Skel} (ho : hget st.heap id = .vt ver τ x) (c : Reshape w ρ st.heap id gone w' sk1 l2)
    (hag : τ1.isAgg = τ.isAgg) {h' : List AObj} (hh : h' = (match gone with | some g => hset (hset st.heap id (.vt ver.up τ1 x1)) g .none | none => hset st.heap id (.vt ver.up τ1 x1)) ++ newObj? new)
    (hos : w'.os = w.os) (htp : w'.tape = w.tape) (hout : w'.output = w.output)
    (hcells : (∀ b, okOf F w ρ st.heap b → okOf F w' (setρ2 ρ id ⟨sk1.blocks, (ρ id).cs, sk1⟩ st.heap.length l2) h' b ∧ w'.heap[b]? = w.heap[b]?) →
      TCells w' (okOf F w' (setρ2 ρ id ⟨sk1.blocks, (ρ id).cs, sk1⟩ st.heap.length l2) h') τ1 x1 sk1 (ρ id).cs ∧
      ∀ o, new = some o → ORel w' (setρ2 ρ id ⟨sk1.blocks, (ρ id).cs, sk1⟩ st.heap.length l2) (okOf F w' (setρ2 ρ id ⟨sk1.blocks, (ρ id).cs, sk1⟩ st.heap.length l2) h') st.heap.length o)
    {v : AVal} {val : Value} (hv : hget h' id = .vt ver.up τ1 x1 → (∀ o, new = some o → st.heap.length < h'.length ∧ hget h' st.heap.length = o) → h'.length ≥ st.heap.length →
      VRel w' (setρ2 ρ id ⟨sk1.blocks, (ρ id).cs, sk1⟩ st.heap.length l2) h' (okOf F w' (setρ2 ρ id ⟨sk1.blocks, (ρ id).cs, sk1⟩ st.heap.length l2) h') v val) (dst : Option Tmp) :
    Rel F w0 ⟨putD st.tmps dst v, h'⟩ (a.put dst val) w' := by
  have hl := vt_lt ho
  have hown : (hget st.heap id).owns = true := by rw [ho]; rfl
  have hgl : ∀ g, gone = some g → g < st.heap.length := fun g e => owns_lt (c.goes g e).2
  have hne : id ≠ st.heap.length := by omega
  have base : ∃ h0, h' = h0 ++ newObj? new ∧ h0.length = st.heap.length ∧ hget h0 id = .vt ver.up τ1 x1 ∧ (∀ g, gone = some g → hget h0 g = .none) ∧ ∀ i, i ≠ id → (∀ g, gone = some g → i ≠ g) → hget h0 i = hget st.heap i := by
    cases gone with
    | none =>
      simp only at hh
      exact ⟨_, hh, by simp [length_hset], hget_hset_self hl, fun g e => (by cases e), fun i h1 _ => hget_hset_ne h1⟩
    | some g =>
      simp only at hh
      refine ⟨_, hh, by simp [length_hset], ?_, fun g' e => ?_, fun i h1 h2 => ?_⟩
      · rw [hget_hset_ne (fun e => (c.goes g rfl).1 e.symm)]; exact hget_hset_self hl
      · obtain rfl := Option.some.inj e; exact hget_hset_self (by rw [length_hset]; exact hgl g rfl)
      · rw [hget_hset_ne (h2 g rfl), hget_hset_ne h1]
  obtain ⟨h0, e0, hlen, hself, hgone, hoth⟩ := base
  subst e0
  have old : ∀ i, i < st.heap.length → hget (h0 ++ newObj? new) i = hget h0 i := fun i hi => hget_append_lt _ _ _ (by rw [hlen]; exact hi)
  have hnew : ∀ o, new = some o → st.heap.length < (h0 ++ newObj? new).length ∧ hget (h0 ++ newObj? new) st.heap.length = o := fun o e => by
    subst e
    have := hget_append_ge h0 [o] 0
    rw [Nat.add_zero, hlen] at this
    exact ⟨by simp [newObj?, hlen], by simpa [newObj?, hget] using this⟩
  have hnlen : ∀ i, st.heap.length ≤ i → i < (h0 ++ newObj? new).length → i = st.heap.length ∧ ∃ o, new = some o := fun i h1 h2 => by
    cases new with
    | none => simp [newObj?] at h2; omega
    | some o => simp [newObj?] at h2; exact ⟨by omega, o, rfl⟩
  have hblk' : ∀ b, b < w.heap.size → (∀ i, (i = id ∨ gone = some i ∨ i = st.heap.length) → (hget st.heap i).owns = true → b ∉ (ρ i).bs) → w'.heap[b]? = w.heap[b]? := fun b hb hn =>
    c.blk b hb (hn id (.inl rfl) hown) fun g e => hn g (.inr (.inl e)) (c.goes g e).2
  have hS : ∀ i, (i = id ∨ gone = some i ∨ i = st.heap.length) → ∀ b, (hget (h0 ++ newObj? new) i).owns = true → b ∈ (setρ2 ρ id ⟨sk1.blocks, (ρ id).cs, sk1⟩ st.heap.length l2 i).bs → (i = id ∧ b ∈ sk1.blocks) ∨ (i = st.heap.length ∧ b ∈ l2.bs) := by
    intro i hi b ho' hb
    by_cases e : i = id
    · subst e; simp [setρ2] at hb; exact .inl ⟨rfl, hb⟩
    · by_cases e' : i = st.heap.length
      · subst e'; simp [setρ2, e] at hb; exact .inr ⟨rfl, hb⟩
      · rcases hi with hi | hi | hi
        · exact absurd hi e
        · rw [old i (hgl i hi), hgone i hi] at ho'; simp [AObj.owns] at ho'
        · exact absurd hi e'
  have t : Turn F (fun i => i = id ∨ gone = some i ∨ i = st.heap.length) w ρ st.heap w' (setρ2 ρ id ⟨sk1.blocks, (ρ id).cs, sk1⟩ st.heap.length l2) (h0 ++ newObj? new) := by
    refine ⟨by simp [hlen], fun i hi hs => ?_, fun i h1 h2 => .inr (.inr (hnlen i h1 h2).1), c.size, hblk', fun i b hi ho' hb => ?_, fun i j b hi hj ho' ho'' hb hb' => ?_, fun hd i hi hil => ?_, fun i hi hil hvt => ?_, fun i hi hil => ?_⟩
    · simp only [not_or] at hs
      exact ⟨by rw [old i hi]; exact hoth i hs.1 fun g e e' => hs.2.1 (by rw [e, e']), by simp [setρ2, hs.1, hs.2.2]⟩
    · have hb' : b ∈ sk1.blocks ∨ b ∈ l2.bs := (hS i hi b ho' hb).imp (·.2) (·.2)
      obtain ⟨g1, g2⟩ := c.own b hb'
      refine ⟨g1, g2.imp (fun h => h) ?_⟩
      rintro (g2 | ⟨g, g3, g4⟩)
      · exact ⟨id, .inl rfl, hown, g2⟩
      · exact ⟨g, .inr (.inl g3), (c.goes g g3).2, g4⟩
    · rcases hS i hi b ho' hb with ⟨e1, k1⟩ | ⟨e1, k1⟩ <;> rcases hS j hj b ho'' hb' with ⟨e2, k2⟩ | ⟨e2, k2⟩
      · rw [e1, e2]
      · exact absurd k2 (c.apart b k1)
      · exact absurd k1 (c.apart b k2)
      · rw [e1, e2]
    · obtain ⟨hc1, hc2⟩ := hcells hd
      by_cases e : i = id
      · subst e
        rw [old i hl, hself]
        have hr : setρ2 ρ i ⟨sk1.blocks, (ρ i).cs, sk1⟩ st.heap.length l2 i = ⟨sk1.blocks, (ρ i).cs, sk1⟩ := by simp [setρ2]
        exact ⟨by rw [hr], by rw [hr]; exact c.nodup, by rw [hr]; exact hc1⟩
      · by_cases e' : i = st.heap.length
        · subst e'
          obtain ⟨_, o, eo⟩ := hnlen _ (Nat.le_refl _) hil
          rw [(hnew o eo).2]; exact hc2 o eo
        · rcases hi with hi | hi | hi
          · exact absurd hi e
          · rw [old i (hgl i hi), hgone i hi]; trivial
          · exact absurd hi e'
    · rcases hi with hi | hi | hi
      · subst hi; exact ⟨by rw [ho]; rfl, by simp [setρ2]⟩
      · rw [old i (hgl i hi), hgone i hi] at hvt; cases hvt
      · omega
    · rcases hi with hi | hi | hi
      · subst hi
        rw [old i hl, hself, ho]
        exact .inr ⟨rfl, trs_stale (by simp [setρ2]) hag, fun _ _ s u t x val k => ⟨Nat.le_succ_of_le k.1, Nat.le_succ_of_le k.2.1, fun hc => absurd k.2.1 (by rw [hc.2]; exact Nat.not_succ_le_self _)⟩⟩
      · exact .inl (by rw [old i (hgl i hi), hgone i hi])
      · omega
  exact h.turn t (h.nearS (S := fun i => i = id ∨ gone = some i ∨ i = st.heap.length) hos htp hout c.size hblk') (hv (by rw [old id hl]; exact hself) hnew (by simp [hlen])) dst
/-! ## Stores -/
theorem run_store1 (hT : TTOk P tt) {t : TypeId} (h1 : tt.one t = true) {b off : Nat} {cur : Array Value} {T : TypeId} (hrow : w.heap[b]? = some (.cells cur T (0, 0))) {c1 c2 c3 : List Value} (e : cur.toList = c1 ++ (c2 ++ c3)) (hl : c1.length = off) (hw : c2.length = 1)
    {v : Value} (hv : v.cells.toList = [v]) (hone : v.oneCell' = true) : (Instr.storeAt t (.pointer (some ⟨b, off, none⟩)) v).run P w = .ok () (w.setRow b (c1 ++ ([v] ++ c3)).toArray) := by
  obtain ⟨hs, _⟩ := one_ok (w := w) hT h1
  have hsz : v.cells.size = 1 := by have : v.cells.toList.length = 1 := by rw [hv]; rfl
                                    simpa using this
  have hst := run_storeCells_at P b off T v.cells.toList 0 cur w hrow (by
    have : cur.size = (c1 ++ (c2 ++ c3)).length := by rw [← e]; simp
    rw [this, hv]; simp; omega) (fun u hu => by
    rw [hv] at hu
    obtain rfl : u = v := by simpa using hu
    exact hone)
  have e2 : cur.toList.take off ++ v.cells.toList ++ cur.toList.drop (off + v.cells.toList.length) = c1 ++ ([v] ++ c3) := by
    rw [e, hv, ← hl, List.take_left, List.append_assoc]
    congr 2
    rw [show ([v] : List Value).length = c2.length by rw [hw]; rfl, List.drop_length_add_append, List.drop_left]
  simp only [Nat.add_zero, e2] at hst
  simp [Instr.storeAt, Instr.sureAddr, storeVar, hs, hsz, hst]
theorem Re.mem {p : List Nat} {τ : TT} {x : τ.C} {τ' : TT} {x' : τ'.C} {τ'' : TT} {x'' : τ''.C} {τ1 : TT} {x1 : τ1.C} (hr : Re p τ x τ' x' τ'' x'' τ1 x1) {ok : Nat → Prop} {sk : Skel} {cs : List Value} (h : TCells w ok τ x sk cs) (hn : sk.blocks.Nodup) {b o : Nat} (ha : addrAt p τ sk none = some (b, o)) :
    ∃ sk' cs' cc T c1 c3, skAt p τ sk = some sk' ∧ TCells w ok τ' x' sk' cs' ∧ (∀ b ∈ sk'.blocks, b ∈ sk.blocks) ∧ b ∈ sk.blocks ∧ b ∉ sk'.blocks ∧ w.heap[b]? = some (.cells cc T (0, 0)) ∧ cc.toList = c1 ++ (cs' ++ c3) ∧ c1.length = o ∧
      ∀ (w1 : World) (ok1 : Nat → Prop) (s1 : Skel) (d : List Value), (∀ b, ok b → ok1 b ∧ w1.heap[b]? = w.heap[b]?) → (∀ k ∈ sk.blocks, k ∉ sk'.blocks → k ≠ b → w1.heap[k]? = w.heap[k]?) →
        w1.heap[b]? = some (.cells (c1 ++ (d ++ c3)).toArray T (0, 0)) → TCells w1 ok1 τ'' x'' s1 d → d.length = cs'.length → TCells w1 ok1 τ1 x1 (skSet p τ sk s1) cs ∧ Swap sk.blocks (skSet p τ sk s1).blocks sk'.blocks s1.blocks := by
  obtain ⟨sk', cs', h1, h2, h3, h4⟩ := hr w ok sk cs h hn
  rcases h4 none with ⟨c1, c3, g1, g2, _⟩ | ⟨b', cc, T, c1, c3, g1, g1', g2, g3, g4, g5⟩
  · rw [g2] at ha; simp at ha
  · rw [g4] at ha
    simp only [Option.some.injEq, Prod.mk.injEq] at ha
    obtain ⟨rfl, rfl⟩ := ha
    exact ⟨sk', cs', cc, T, c1, c3, h1, h2, h3, g1, g1', g2, g3, rfl, g5⟩
theorem Open.storeData (hT : TTOk P tt) (h : Open F w0 st a w ρ) {id : Nat} {ver : Ver} {p : List Nat} {τ : TT} {x : τ.C} (ho : hget st.heap id = .vt ver τ x) {b o : Nat} (ha : addrAt p τ (ρ id).sk none = some (b, o)) {ty : TypeId} {t : Ty} (hty : tt ty = some t) {x' z : t.C} {x1 : τ.C}
    (hre : Re p τ x (.data t) x' (.data t) z τ x1) {val : Value} (hz : DVal w (okOf F w ρ st.heap) t z val) :
    ∃ w', (Instr.storeAt ty (.pointer (some ⟨b, o, none⟩)) val).run P w = .ok () w' ∧ ∀ dst, Rel F w0 (st.after dst (.gen [(id, .vt ver.wr τ x1)] .undef)) (a.put dst undef) w' := by
  obtain ⟨g1, g2, g3⟩ := vt_orel h.hrel.obj ho
  obtain ⟨sk', cs', cc, T, c1, c3, k1, ⟨rfl, k2⟩, k3, k4, k5, k6, k7, k8, k9⟩ := hre.mem g3 g2 ha
  have hrun := run_storeAt (P := P) (hT _ _ hty) k6 k7 k8 (Cells.length _ _ _ k2) hz.1
  have hzl := Cells.length _ _ _ hz.1
  refine ⟨_, hrun, fun dst => h.flat (v := .undef) (val := Go.undef) (x1 := x1) (w' := w.setRow b (c1 ++ (val.cells.toList ++ c3)).toArray) ho rfl rfl rfl (by simp) (fun k hk hn => setRow_other w b k _ (fun e => hn (by rw [g1, e]; exact k4))) (fun hd => ?_) (show Go.undef = Go.undef from rfl) dst⟩
  have := (k9 (w.setRow b (c1 ++ (val.cells.toList ++ c3)).toArray) _ .leaf val.cells.toList hd (fun k hk _ hne => setRow_other w b k _ hne) (setRow_heap w b cc _ T _ k6) ⟨rfl, Cells.mono hd _ _ _ hz.1⟩ (by rw [hzl, Cells.length _ _ _ k2])).1
  rwa [skSet_same k1] at this
theorem Open.storeElem (hT : TTOk P tt) (h : Open F w0 st a w ρ) {id : Nat} {ver : Ver} {p : List Nat} {τ : TT} {x : τ.C} (ho : hget st.heap id = .vt ver τ x) {u : Ty} {l : List u.C} {b o n c i off : Nat} {t' : Ty} {q : List Nat}
    (hs : skAt p τ (ρ id).sk = some (.vec (.slice (some ⟨b, o, none⟩) n c))) (hi : i < n) (hq : Ty.pathOff q u = some (off, t')) {ty : TypeId} {t : Ty} (hty : tt ty = some t) {z : t.C} {e : u.C} {K : u.C → Option R} {r : R} (hset : Ty.setK q u (l.getD i u.zero) t z K = some r) (hK : ∀ e', K e' = some r → e' = e)
    {x1 : τ.C} (hre : Re p τ x (.vec u) l (.vec u) (l.set i e) τ x1) {val : Value} (hz : DVal w (okOf F w ρ st.heap) t z val) :
    ∃ w', (Instr.storeAt ty (.pointer (some ⟨b, o + (i * u.width + off), none⟩)) val).run P w = .ok () w' ∧ ∀ dst, Rel F w0 (st.after dst (.gen [(id, .vt ver.wr τ x1)] .undef)) (a.put dst undef) w' := by
  obtain ⟨g1, g2, g3⟩ := vt_orel h.hrel.obj ho
  obtain ⟨sk', cs', k1, k2, k3, k4⟩ := hre.inner g3 g2
  rw [k1] at hs
  obtain rfl := Option.some.inj hs
  obtain ⟨v, e1, e2, hv⟩ := k2
  injection e1 with e1
  subst e1
  rcases hv with ⟨hv, _⟩ | ⟨b', o', c', cs, T, pre, cc, rest, hv, h2, h3, h4, h5, h6, h7⟩
  · cases hv
  injection hv with hv1 hv2 hv3
  simp only [Option.some.injEq, Addr.mk.injEq, and_true] at hv1
  obtain ⟨rfl, rfl⟩ := hv1
  subst hv2 hv3
  obtain ⟨off', e', hKe, hpo, hparts⟩ := setK_inv hset
  obtain rfl := hK _ hKe
  rw [hq] at hpo
  simp only [Option.some.injEq, Prod.mk.injEq] at hpo
  obtain ⟨rfl, rfl⟩ := hpo
  obtain ⟨d1, d2, d3, ecc, hd1, hd2, hdset⟩ := RowC.set (fun x cs => Cells.length u x cs) u.zero l cc i h7 hi
  obtain ⟨f1, f2, f3, ed2, hf1, hf2, hfset⟩ := hparts hd2
  have eall : cs.toList = (pre ++ d1 ++ f1) ++ (f2 ++ (f3 ++ (d3 ++ rest))) := by rw [h3, ecc, ed2]; simp
  have hrun := run_storeAt (P := P) (off := o + (i * u.width + off)) (hT _ _ hty) h2 eall (by simp [h4, hd1, hf1]) hf2 hz.1
  have hzl := Cells.length _ _ _ hz.1
  have hb : b ∈ (ρ id).bs := by rw [g1]; exact k3 b (by simp [Skel.blocks, vecBs])
  refine ⟨_, hrun, fun dst => h.flat (v := .undef) (val := Go.undef) (x1 := x1) (w' := w.setRow b ((pre ++ d1 ++ f1) ++ (val.cells.toList ++ (f3 ++ (d3 ++ rest)))).toArray) ho rfl rfl rfl (by simp) (fun k hk hn => setRow_other w b k _ (fun e => hn (by rw [e]; exact hb))) (fun hd => ?_) (show Go.undef = Go.undef from rfl) dst⟩
  have hnew := hdset e' (f1 ++ (val.cells.toList ++ f3)) (hfset _ hz.1)
  have hlen : (f1 ++ (val.cells.toList ++ f3)).length = d2.length := by rw [ed2]; simp [hzl, hf2]
  have := (k4 (w.setRow b ((pre ++ d1 ++ f1) ++ (val.cells.toList ++ (f3 ++ (d3 ++ rest)))).toArray) _ _ hd (fun k hk hn => setRow_other w b k _ (fun e => hn (by rw [e]; simp [Skel.blocks, vecBs]))) ⟨_, rfl, e2, .inr ⟨b, o, c, _, T, pre, d1 ++ ((f1 ++ (val.cells.toList ++ f3)) ++ d3), rest, by simp, setRow_heap w b cs _ T _ h2, by simp, h4, ?_, by simpa using h6, ?_⟩⟩).1
  · rwa [skSet_same k1] at this
  · rw [← h5]
    have : cs.size = cs.toList.length := by simp
    rw [this, eall]; simp [hzl, hf2]
  · exact RowC.mono (fun x cs => Cells.mono hd u x cs) _ _ hnew
end
end Go.PB
namespace Go.PB
open Go Go.RowKit
/-! ## 1. Several objects set -/
theorem hget_hsets_ne : ∀ {ups : List (Nat × AObj)} {h : List AObj} {i : Nat}, i ∉ upIds ups → hget (hsets ups h) i = hget h i
  | [], _, _, _ => rfl
  | p :: ups, h, i, hn => by
    simp only [upIds, List.mem_cons, not_or] at hn
    simp only [hsets]
    rw [hget_hsets_ne hn.2, hget_hset_ne hn.1]
theorem hget_hsets_mem : ∀ {ups : List (Nat × AObj)} {h : List AObj} {i : Nat} {o : AObj}, (upIds ups).Nodup → (i, o) ∈ ups → i < h.length → hget (hsets ups h) i = o
  | p :: ups, h, i, o, hn, hm, hl => by
    simp only [upIds, List.nodup_cons] at hn
    simp only [hsets]
    rcases List.mem_cons.1 hm with e | e
    · subst e
      rw [hget_hsets_ne hn.1, hget_hset_self hl]
    · exact hget_hsets_mem hn.2 e (by rw [length_hset]; exact hl)
theorem memUp_iff {id : Nat} : ∀ {ups : List (Nat × AObj)}, memUp id ups = false → id ∉ upIds ups
  | [], _ => by simp [upIds]
  | p :: ups, h => by
    simp only [memUp, Bool.or_eq_false_iff] at h
    simp only [upIds, List.mem_cons, not_or]
    exact ⟨fun e => by rw [e] at h; simp at h, memUp_iff h.2⟩
section
variable {F : Fr} {P : Program} {G : Gv} {env : Env} {w0 w w' : World} {st : St} {a : Act} {ρ : Nat → Loc} {R : Type} {tt : Tab}
/-! ## 2. The trees that are handed over -/
structure HU where
  i : Nat
  id : Nat
  ver : Ver
  p : List Nat
  τ : TT
  x : τ.C
  τ' : TT
  x' : τ'.C
  sk' : Skel
  cs' : List Value
  v : Value
  τ1 : TT
  x1 : τ1.C
  T : TT
  X : T.C
structure HU.Ok (u : HU) (w : World) (ok : Nat → Prop) (ρ : Nat → Loc) (h : List AObj) : Prop where
  at_ : hget h u.id = .vt u.ver u.τ u.x
  lk : Look w ok (ρ u.id) u.p u.τ u.x u.τ' u.x' u.sk' u.cs'
  vl : (u.τ'.isAgg = true → u.v = .agg u.cs'.toArray) ∧ (u.τ'.isAgg = false → u.cs' = [u.v])
  re : ∀ (w1 : World) (ok1 : Nat → Prop) (s1 : Skel), (∀ b, ok b → ok1 b ∧ w1.heap[b]? = w.heap[b]?) → (∀ b ∈ (ρ u.id).sk.blocks, b ∉ u.sk'.blocks → w1.heap[b]? = w.heap[b]?) → TCells w1 ok1 u.τ1 u.x1 s1 u.cs' →
    TCells w1 ok1 u.T u.X (skSet u.p u.τ (ρ u.id).sk s1) (ρ u.id).cs ∧ Swap (ρ u.id).sk.blocks (skSet u.p u.τ (ρ u.id).sk s1).blocks u.sk'.blocks s1.blocks
  agg1 : u.τ1.isAgg = u.τ'.isAgg
  agg : u.T.isAgg = u.τ.isAgg
theorem Re.look {ok : Nat → Prop} {l : Loc} {p : List Nat} {τ τ' τ1 T : TT} {x : τ.C} {x' : τ'.C} {x1 : τ1.C} {X : T.C} (hr : Re p τ x τ' x' τ1 x1 T X) (hw : TCells w ok τ x l.sk l.cs) (hb : l.bs = l.sk.blocks) (hn : l.sk.blocks.Nodup) (hg : TT.getK p τ x pairT = some ⟨τ', x'⟩) :
    ∃ sk' cs', Look w ok l p τ x τ' x' sk' cs' ∧ ∀ (w1 : World) (ok1 : Nat → Prop) (s1 : Skel), (∀ b, ok b → ok1 b ∧ w1.heap[b]? = w.heap[b]?) → (∀ b ∈ l.sk.blocks, b ∉ sk'.blocks → w1.heap[b]? = w.heap[b]?) → TCells w1 ok1 τ1 x1 s1 cs' →
      TCells w1 ok1 T X (skSet p τ l.sk s1) l.cs ∧ Swap l.sk.blocks (skSet p τ l.sk s1).blocks sk'.blocks s1.blocks := by
  obtain ⟨sk', cs', h1, h2, h3, h4⟩ := hr w ok l.sk l.cs hw hn
  rcases h4 none with ⟨c1, c3, g1, g2, g3⟩ | ⟨b, cc, T', c1, c3, g1, g1', g2, g3, g4, g5⟩
  · refine ⟨sk', cs', ⟨hw, hb, hn, hg, h1, h2, fun b hb' => by rw [hb]; exact h3 b hb', .inl ⟨c1, c3, g1, by simpa using g2⟩⟩, fun w1 ok1 s1 hok hbl hd => ?_⟩
    have := g3 w1 ok1 s1 cs' hok hbl hd rfl
    rw [← g1] at this; exact this
  · refine ⟨sk', cs', ⟨hw, hb, hn, hg, h1, h2, fun b hb' => by rw [hb]; exact h3 b hb', .inr ⟨b, cc, T', c1, c3, by rw [hb]; exact g1, g1', g2, g3, g4⟩⟩, fun w1 ok1 s1 hok hbl hd => ?_⟩
    refine g5 w1 ok1 s1 cs' hok (fun k hk hk' _ => hbl k hk hk') ?_ hd rfl
    rw [hbl b g1 g1', g2, ← g3]
theorem val_cells {ok : Nat → Prop} {l : Loc} {p : List Nat} {τ τ' : TT} {x : τ.C} {x' : τ'.C} {sk' : Skel} {cs' : List Value} (k : Look w ok l p τ x τ' x' sk' cs') {v : Value} (hr : (isNil p || τ'.isRef) = true) (hv : ValAt l τ p v) : (τ'.isAgg = true → v = .agg cs'.toArray) ∧ (τ'.isAgg = false → cs' = [v]) := by
  cases p with
  | nil =>
    have e3 := k.get
    simp only [TT.getK, pairT, Option.some.injEq, Sigma.mk.injEq] at e3
    obtain ⟨rfl, _⟩ := e3
    have hcs : l.cs = cs' := by
      rcases k.loc with ⟨c1, c3, h1, _⟩ | ⟨b, cc, T, c1, c3, _, _, _, _, h2⟩
      · have h2 := TCells.length _ _ _ _ k.whole
        have h3 := TCells.length _ _ _ _ k.part
        have h4 : c1.length + (cs'.length + c3.length) = cs'.length := by
          have h5 : l.cs.length = c1.length + (cs'.length + c3.length) := by rw [h1]; simp
          omega
        have : c1 = [] := List.length_eq_zero_iff.1 (by omega)
        have : c3 = [] := List.length_eq_zero_iff.1 (by omega)
        subst_vars; simpa using h1
      · simp [addrAt] at h2
    rw [← hcs]
    exact hv
  | cons f p =>
    have hr' : τ'.isRef = true := by simpa [isNil] using hr
    have hna : τ'.isAgg = false := by cases τ' <;> first | rfl | simp [TT.isRef] at hr'
    exact ⟨fun h => absurd (hna.symm.trans h) (by simp), fun _ => (val_of_ref k hr' hv).1⟩
theorem compSk_sub : ∀ {τ : TT} {sk s : Skel} {f : Nat} {u : TT}, compSk τ sk f = some (u, s) → s.blocks.Sublist sk.blocks
  | .pair a b, .pair s1 s2, s, 0, u, h => by
    simp only [compSk, Option.some.injEq, Prod.mk.injEq] at h
    rw [← h.2]; exact List.sublist_append_left _ _
  | .pair a b, .pair s1 s2, s, n + 1, u, h => by
    simp only [compSk] at h
    exact (compSk_sub h).trans (List.sublist_append_right _ _)
  | .data _, _, _, _, _, h => by simp [compSk] at h
  | .vec _, _, _, _, _, h => by simp [compSk] at h
  | .map _ _, _, _, _, _, h => by simp [compSk] at h
  | .own _, _, _, _, _, h => by simp [compSk] at h
  | .opt _, _, _, _, _, h => by simp [compSk] at h
  | .hole, _, _, _, _, h => by simp [compSk] at h
  | .unit, _, _, _, _, h => by simp [compSk] at h
  | .agg _, _, _, _, _, h => by simp [compSk] at h
  | .pair _ _, .leaf, _, _, _, h => by simp [compSk] at h
  | .pair _ _, .vec _, _, _, _, h => by simp [compSk] at h
  | .pair _ _, .map _, _, _, _, h => by simp [compSk] at h
  | .pair _ _, .own _ _, _, _, _, h => by simp [compSk] at h
  | .pair _ _, .nil, _, _, _, h => by simp [compSk] at h
theorem skAt_sub : ∀ {p : List Nat} {τ : TT} {sk s : Skel}, skAt p τ sk = some s → s.blocks.Sublist sk.blocks
  | [], τ, sk, s, h => by simp only [skAt, Option.some.injEq] at h; rw [← h]; exact List.Sublist.refl _
  | f :: p, .agg τ, sk, s, h => by
    simp only [skAt] at h
    split at h
    · rename_i u s0 e; exact (skAt_sub h).trans (compSk_sub e)
    · simp at h
  | _ :: p, .own τ, sk, s, h => by
    simp only [skAt] at h
    split at h
    · rename_i b s0; exact (skAt_sub h).trans (List.sublist_cons_self _ _)
    · simp at h
  | _ :: p, .opt τ, sk, s, h => by
    simp only [skAt] at h
    split at h
    · rename_i b s0; exact (skAt_sub h).trans (List.sublist_cons_self _ _)
    · simp at h
  | _ :: _, .data _, _, _, h => by simp only [skAt, Option.some.injEq] at h; rw [← h]; exact List.nil_sublist _
  | _ :: _, .vec _, _, _, h => by simp [skAt] at h
  | _ :: _, .map _ _, _, _, h => by simp [skAt] at h
  | _ :: _, .hole, _, _, h => by simp [skAt] at h
  | _ :: _, .unit, _, _, h => by simp [skAt] at h
  | _ :: _, .pair _ _, _, _, h => by simp [skAt] at h
def upsOf (us : List HU) : List (Nat × AObj) := us.map fun u => (u.id, .vt u.ver.up u.T u.X)
def outsOf (us : List HU) : List (Nat × (τ : TT) × τ.C) := us.map fun u => (u.i, ⟨u.τ1, u.x1⟩)
def handed (us : List HU) : List Nat := us.flatMap fun u => u.sk'.blocks
theorem upIds_upsOf (us : List HU) : upIds (upsOf us) = us.map (·.id) := by
  induction us with
  | nil => rfl
  | cons u us ih => simp [upsOf, upIds] at ih ⊢; exact ih
theorem upIds_append : ∀ (a b : List (Nat × AObj)), upIds (a ++ b) = upIds a ++ upIds b
  | [], _ => rfl
  | p :: a, b => by simp [upIds, upIds_append a b]
theorem borrow_tree {r : RVal} {τ : TT} {x : τ.C} (h : borrow r = .tree τ x) : ∃ id ver p T X, r = .tr id ver p T X := by
  cases r with
  | tr id ver p T X => exact ⟨_, _, _, _, _, rfl⟩
  | box id t x p => simp only [borrow] at h; split at h <;> cases h
  | elem id v t l i p =>
    simp only [borrow] at h
    cases hc : decide (i < l.length) with
    | true => rw [hc] at h; simp only [cond_true] at h; split at h <;> cases h
    | false => rw [hc] at h; cases h
  | _ => cases h
theorem updArgs_inv {h : List AObj} (hH : HRel F w0.heap.size w ρ h) : ∀ {as : List RVal} {vs : List Value}, Zip F w ρ h as vs → ∀ {i : Nat} {os : List (Nat × (τ : TT) × τ.C)} {ups : List (Nat × AObj)} {K : List (Nat × AObj) → Option R} {r : R},
    hasRow as = false → hasLease as = false → handy as = true → updArgs as i os ups K = some r →
    ∃ us : List HU, K (ups ++ upsOf us) = some r ∧ (∀ u ∈ us, u.Ok w (okOf F w ρ h) ρ h) ∧ (us.map (·.id)).Nodup ∧ (∀ u ∈ us, u.id ∉ upIds ups) ∧ os = outsOf us ∧ HArgs w (okOf F w ρ h) (as.map borrow) vs (handed us) ∧ ∀ u ∈ us, i ≤ u.i ∧ vs[u.i - i]? = some u.v := by
  intro as vs hz
  induction hz with
  | nil =>
    intro i os ups K r _ _ _ hk
    cases os with
    | nil =>
      have hk' : K ups = some r := hk
      exact ⟨[], by simpa [upsOf] using hk', by simp, by simp, by simp, rfl, ⟨rfl, rfl⟩, by simp⟩
    | cons o os => simp [updArgs] at hk
  | cons u v h1 h2 ih =>
    rename_i as vs
    intro i os ups K r hr hl hy hk
    have plain : (∀ id ver p τ x, res h u ≠ .tr id ver p τ x) → (ARel w (okOf F w ρ h) (borrow (res h u)) v ∧ (borrow (res h u)).plain = true) → updArgs as (i + 1) os ups K = some r → hasRow as = false → hasLease as = false → handy as = true → (∀ τ x, borrow (res h u) ≠ .tree τ x) →
        ∃ us : List HU, K (ups ++ upsOf us) = some r ∧ (∀ u ∈ us, u.Ok w (okOf F w ρ h) ρ h) ∧ (us.map (·.id)).Nodup ∧ (∀ u ∈ us, u.id ∉ upIds ups) ∧ os = outsOf us ∧ HArgs w (okOf F w ρ h) ((res h u :: as).map borrow) (v :: vs) (handed us) ∧ ∀ u ∈ us, i ≤ u.i ∧ (v :: vs)[u.i - i]? = some u.v := by
      intro _ hrel hk hr hl hy hnt
      obtain ⟨us, g1, g2, g3, g4, g5, g6, g7⟩ := ih hr hl hy hk
      refine ⟨us, g1, g2, g3, g4, g5, ?_, fun u' hu => ?_⟩
      · simp only [List.map_cons]
        cases hb : borrow (res h u) with
        | tree τ x => exact absurd hb (hnt τ x)
        | _ => rw [hb] at hrel; exact ⟨v, vs, rfl, hrel, g6⟩
      · obtain ⟨k1, k2⟩ := g7 u' hu
        refine ⟨by omega, ?_⟩
        rw [show u'.i - i = (u'.i - (i + 1)) + 1 by omega]
        simpa using k2
    cases hu : res h u with
    | tr id ver p τ x =>
      rw [hu] at hk
      cases os with
      | nil => simp [updArgs] at hk
      | cons o os =>
        obtain ⟨j, τ1, x1⟩ := o
        simp only [updArgs] at hk
        cases hc : (Nat.beq i j && !memUp id ups) with
        | false => rw [hc] at hk; simp at hk
        | true =>
          rw [hc] at hk
          simp only [cond_true] at hk
          simp only [Bool.and_eq_true, Bool.not_eq_true'] at hc
          obtain rfl := Nat.eq_of_beq_eq_true hc.1
          obtain ⟨v0, rfl, ho, hcv⟩ := res_tr hu
          obtain ⟨hl0, hval⟩ := tv_val h1 ho hcv
          obtain ⟨τ', x', k, hg, hget, hrest⟩ := modK_inv hk
          cases hc2 : ((Nat.beq τ1.width τ'.width && (τ1.isAgg == τ'.isAgg)) && (isNil p || τ'.isRef)) with
          | false => rw [hc2] at hg; simp at hg
          | true =>
            rw [hc2] at hg
            simp only [cond_true] at hg
            simp only [Bool.and_eq_true, beq_iff_eq] at hc2
            obtain ⟨T, X, hK, hre, hty, hag, hag0⟩ := hrest _ _ _ hg
            obtain ⟨us, g1, g2, g3, g4, g5, g6, g7⟩ := ih (by rw [hu] at hr; exact hr) (by rw [hu] at hl; exact hl) (by rw [hu] at hy; exact hy) hK
            have hget : TT.getK p τ x pairT = some ⟨τ', x'⟩ := hget
            obtain ⟨e1, e2, e3⟩ := vt_orel hH.obj ho
            obtain ⟨sk', cs', lk, hin⟩ := hre.look e3 e1 e2 hget
            have hvl := val_cells lk hc2.2 hval
            refine ⟨⟨i, id, ver, p, τ, x, τ', x', sk', cs', v, τ1, x1, T, X⟩ :: us, by simpa [upsOf] using g1, ?_, ?_, ?_, by rw [g5]; rfl, ?_, ?_⟩
            · intro u' hu'
              rcases List.mem_cons.1 hu' with e | e
              · subst e
                exact ⟨ho, lk, hvl, hin, hc2.1.2, by
                  show T.isAgg = τ.isAgg
                  cases p with
                  | nil =>
                    simp only [TT.getK, pairT, Option.some.injEq, Sigma.mk.injEq] at hget
                    rw [hag0 rfl, hc2.1.2, hget.1]
                  | cons f p => exact hag (by simp)⟩
              · exact g2 u' e
            · simp only [List.map_cons, List.nodup_cons]
              refine ⟨fun hm => ?_, g3⟩
              obtain ⟨u', hu', e⟩ := List.mem_map.1 hm
              exact g4 u' hu' (by rw [upIds_append]; simp [upIds, e])
            · intro u' hu'
              rcases List.mem_cons.1 hu' with e | e
              · subst e; exact memUp_iff hc.2
              · intro hm; exact g4 u' e (by rw [upIds_append]; exact List.mem_append_left _ hm)
            · have hb : borrow (.tr id ver p τ x) = .tree τ' x' := by
                show (match TT.getK p τ x pairT with | some ⟨τ', y⟩ => RVal.tree τ' y | none => .dead) = _
                rw [hget]
              simp only [List.map_cons]
              rw [hb]
              exact ⟨v, vs, sk', handed us, rfl, rfl, ⟨cs', lk.part, hvl⟩, g6⟩
            · intro u' hu'
              rcases List.mem_cons.1 hu' with e | e
              · subst e; exact ⟨Nat.le_refl _, by simp⟩
              · obtain ⟨k1, k2⟩ := g7 u' e
                refine ⟨by omega, ?_⟩
                rw [show u'.i - i = (u'.i - (i + 1)) + 1 by omega]
                simpa using k2
    | row id ver t l => rw [hu] at hr; simp [hasRow] at hr
    | lease id g t x => rw [hu] at hl; simp [hasLease] at hl
    | _ =>
      have hrel := arel_borrow hH (fun b hb => hb) h1 (fun id ver t l b e => by rw [hu] at e; simp at e) (fun id g t x b e => by rw [hu] at e; simp at e)
      have hpl : (borrow (res h u)).plain = true ∧ handy as = true := by rw [hu] at hy ⊢; simpa [handy] using hy
      have := plain (fun _ _ _ _ _ => by rw [hu]; simp) ⟨hrel, hpl.1⟩ (by rw [hu] at hk; exact hk) (by rw [hu] at hr; exact hr) (by rw [hu] at hl; exact hl) hpl.2 (fun τ x hb => by
        obtain ⟨_, _, _, _, _, e⟩ := borrow_tree hb
        rw [hu] at e; cases e)
      rw [hu] at this; exact this
/-! ## 3. What comes back -/
def HOut (w : World) (ok : Nat → Prop) (argv : List Value) : List (Nat × (τ : TT) × τ.C) → List Skel → Prop
  | [], ss => ss = []
  | (i, ⟨τ, x⟩) :: os, ss => ∃ s ss' v, ss = s :: ss' ∧ argv[i]? = some v ∧ TVal w ok τ x s v ∧ HOut w ok argv os ss'
theorem HRes.split {ok : Nat → Prop} {argv : List Value} : ∀ {rs : List ARes} {vs : List Value} {gs : List Nat}, HRes w ok argv rs vs gs →
    ∃ gr ss, gs.Perm (gr ++ ss.flatMap Skel.blocks) ∧ HRes w ok argv (resPart rs) vs gr ∧ HOut w ok argv (outPart rs) ss
  | [], vs, gs, ⟨h1, h2⟩ => ⟨[], [], by rw [h2]; simp, ⟨h1, rfl⟩, rfl⟩
  | .data t x :: rs, vs, gs, ⟨v, vs', h1, h2, h3⟩ => by
    obtain ⟨gr, ss, g1, g2, g3⟩ := HRes.split h3
    exact ⟨gr, ss, g1, ⟨v, vs', h1, h2, g2⟩, g3⟩
  | .tree τ x :: rs, vs, gs, ⟨v, vs', s, gs', h1, h2, h3, h4⟩ => by
    obtain ⟨gr, ss, g1, g2, g3⟩ := HRes.split h4
    exact ⟨s.blocks ++ gr, ss, by rw [h2, List.append_assoc]; exact g1.append_left _, ⟨v, vs', s, gr, h1, rfl, h3, g2⟩, g3⟩
  | .out i τ x :: rs, vs, gs, ⟨v, s, gs', h1, h2, h3, h4⟩ => by
    obtain ⟨gr, ss, g1, g2, g3⟩ := HRes.split h4
    refine ⟨gr, s :: ss, ?_, g2, s, ss, v, rfl, h1, h3, g3⟩
    rw [h2, List.flatMap_cons]
    exact (g1.append_left s.blocks).trans (by rw [← List.append_assoc, ← List.append_assoc]; exact List.perm_append_comm.append_right _)
  | .own _ _ :: _, _, _, h => h.elim
  | .upd _ _ :: _, _, _, h => h.elim
theorem HOut.zip {ok : Nat → Prop} {argv : List Value} : ∀ {us : List HU} {ss : List Skel}, HOut w ok argv (outsOf us) ss →
    ∃ qs : List (HU × Skel), qs.map (·.1) = us ∧ qs.map (·.2) = ss ∧ ∀ q ∈ qs, ∃ v, argv[q.1.i]? = some v ∧ TVal w ok q.1.τ1 q.1.x1 q.2 v
  | [], ss, h => ⟨[], rfl, by simp only [outsOf, List.map_nil, HOut] at h; rw [h]; rfl, by simp⟩
  | u :: us, ss, h => by
    obtain ⟨s, ss', v, e, h1, h2, h3⟩ := h
    obtain ⟨qs, g1, g2, g3⟩ := HOut.zip (us := us) h3
    refine ⟨(u, s) :: qs, by simp [g1], by simp [g2, e], fun q hq => ?_⟩
    rcases List.mem_cons.1 hq with e' | e'
    · subst e'; exact ⟨v, h1, h2⟩
    · exact g3 q e'
theorem flat_disj {α : Type} {f : α → List Nat} : ∀ {l : List α}, (l.flatMap f).Nodup → ∀ x ∈ l, ∀ y ∈ l, x ≠ y → ∀ b ∈ f x, b ∉ f y
  | [], _, x, hx, _, _, _, _ => by simp at hx
  | z :: l, hn, x, hx, y, hy, hne, b => by
    rw [List.flatMap_cons, List.nodup_append] at hn
    intro hb hb'
    rcases List.mem_cons.1 hx with e | e <;> rcases List.mem_cons.1 hy with e' | e'
    · exact hne (by rw [e, e'])
    · subst e; exact hn.2.2 b hb b (List.mem_flatMap.2 ⟨y, e', hb'⟩) rfl
    · subst e'; exact hn.2.2 b hb' b (List.mem_flatMap.2 ⟨x, e, hb⟩) rfl
    · exact flat_disj hn.2.1 x e y e' hne b hb hb'
theorem flat_nodup {α : Type} {f : α → List Nat} : ∀ {l : List α}, (l.flatMap f).Nodup → ∀ x ∈ l, (f x).Nodup
  | z :: l, hn, x, hx => by
    rw [List.flatMap_cons, List.nodup_append] at hn
    rcases List.mem_cons.1 hx with e | e
    · subst e; exact hn.1
    · exact flat_nodup hn.2.1 x e
  | [], _, x, hx => by simp at hx
theorem finK_inv {ups : List (Nat × AObj)} {K : Out → Option R} {r : R} : ∀ {rs pre : List ARes}, allData pre = true → finK (pre ++ rs) ups K rs = some r →
    (allData (pre ++ rs) = true ∧ K (.gen ups (finK.oneOf (pre ++ rs).length (finK.layRes0 (pre ++ rs)))) = some r) ∨
    ∃ τ x p2 post, pre ++ rs = p2 ++ .tree τ x :: post ∧ allData p2 = true ∧ allData post = true ∧ K (.genN ups (.vt ⟨0, 0⟩ τ x) (oneNV (pre ++ rs).length (nvs (pre ++ rs)))) = some r
  | [], pre, hp, h => .inl ⟨by simpa using hp, h⟩
  | .tree τ x :: rs, pre, hp, h => by
    simp only [finK] at h
    cases hd : allData rs with
    | false => rw [hd] at h; simp at h
    | true => rw [hd] at h; exact .inr ⟨τ, x, pre, rs, rfl, hp, hd, h⟩
  | .data t x :: rs, pre, hp, h => by
    have hp' : allData (pre ++ [.data t x]) = true := by
      clear h
      induction pre with
      | nil => rfl
      | cons a pre ih => cases a <;> simp [allData] at hp ⊢ <;> exact ih hp
    have := finK_inv (rs := rs) (pre := pre ++ [.data t x]) hp' (by simpa [finK] using h)
    simpa using this
  | .own _ _ :: _, _, _, h => by simp [finK] at h
  | .upd _ _ :: _, _, _, h => by simp [finK] at h
  | .out _ _ _ :: _, _, _, h => by simp [finK] at h
theorem layRes0_rel {ok1 ok' : Nat → Prop} {h' : List AObj} {ρ' : Nat → Loc} {argv : List Value} (hok : ∀ b, ok1 b → ok' b) : ∀ {rs : List ARes} {vs : List Value} {gs : List Nat}, allData rs = true → HRes w ok1 argv rs vs gs →
    gs = [] ∧ VList w ρ' h' ok' (finK.layRes0 rs) vs ∧ rs.length = vs.length
  | [], vs, gs, _, ⟨h1, h2⟩ => by subst h1 h2; exact ⟨rfl, rfl, rfl⟩
  | .data t x :: rs, _, gs, ha, ⟨v, vs', e, h1, h2⟩ => by
    subst e
    obtain ⟨g1, g2, g3⟩ := layRes0_rel (ρ' := ρ') (h' := h') hok (rs := rs) ha h2
    exact ⟨g1, ⟨v, vs', rfl, DVal.mono (fun b hb => ⟨hok b hb, rfl⟩) h1, g2⟩, by simp [g3]⟩
  | .own _ _ :: _, _, _, ha, _ => by simp [allData] at ha
  | .upd _ _ :: _, _, _, ha, _ => by simp [allData] at ha
  | .tree _ _ :: _, _, _, ha, _ => by simp [allData] at ha
  | .out _ _ _ :: _, _, _, ha, _ => by simp [allData] at ha
theorem oneOf0_rel {ok' : Nat → Prop} {h' : List AObj} {ρ' : Nat → Loc} {v : AVal} {vs : List Value} (hv : VList w ρ' h' ok' v vs) {n : Nat} (hn : n = vs.length) : VRel w ρ' h' ok' (finK.oneOf n v) (tupleOf vs) := by
  subst hn
  cases v with
  | tnil => simp only [VList] at hv; subst hv; simp [finK.oneOf, tupleOf, VRel]
  | tcons x y =>
    obtain ⟨u, us, rfl, h1, h2⟩ := hv
    cases y with
    | tnil => simp only [VList] at h2; subst h2; simpa [finK.oneOf, tupleOf] using h1
    | tcons x' y' =>
      obtain ⟨u', us', rfl, h3, h4⟩ := h2
      simp only [finK.oneOf, tupleOf]
      exact ⟨u, u' :: us', by simp, h1, u', us', rfl, h3, h4⟩
    | _ => exact h2.elim
  | _ => exact hv.elim
theorem nvs_data {ok1 ok' : Nat → Prop} {h' : List AObj} {ρ' : Nat → Loc} {argv : List Value} {n : Nat} (hok : ∀ b, ok1 b → ok' b) : ∀ {rs : List ARes} {vs : List Value} {gs : List Nat}, allData rs = true → HRes w ok1 argv rs vs gs →
    gs = [] ∧ VList w ρ' h' ok' ((nvs rs).val n) vs ∧ rs.length = vs.length
  | [], vs, gs, _, ⟨h1, h2⟩ => by subst h1 h2; exact ⟨rfl, rfl, rfl⟩
  | .data t x :: rs, _, gs, ha, ⟨v, vs', e, h1, h2⟩ => by
    subst e
    obtain ⟨g1, g2, g3⟩ := nvs_data (ρ' := ρ') (h' := h') (n := n) hok (rs := rs) ha h2
    exact ⟨g1, ⟨v, vs', rfl, DVal.mono (fun b hb => ⟨hok b hb, rfl⟩) h1, g2⟩, by simp [g3]⟩
  | .own _ _ :: _, _, _, ha, _ => by simp [allData] at ha
  | .upd _ _ :: _, _, _, ha, _ => by simp [allData] at ha
  | .tree _ _ :: _, _, _, ha, _ => by simp [allData] at ha
  | .out _ _ _ :: _, _, _, ha, _ => by simp [allData] at ha
theorem nvs_rel {ok1 : Nat → Prop} {argv : List Value} {τ : TT} {x : τ.C} {post : List ARes} (hpost : allData post = true) : ∀ {p2 : List ARes} {vs : List Value} {gs : List Nat}, allData p2 = true → HRes w ok1 argv (p2 ++ .tree τ x :: post) vs gs →
    ∃ s v, gs = s.blocks ∧ TVal w ok1 τ x s v ∧ (p2 ++ .tree τ x :: post).length = vs.length ∧ ∀ (h' : List AObj) (ρ' : Nat → Loc) (ok' : Nat → Prop) (n : Nat), (∀ b, ok1 b → ok' b) → VRel w ρ' h' ok' (.tv n 0 []) v → VList w ρ' h' ok' ((nvs (p2 ++ .tree τ x :: post)).val n) vs
  | [], vs, gs, _, ⟨v, vs', s, gs', h1, h2, h3, h4⟩ => by
    have e : gs' = [] := (nvs_data (ok' := ok1) (h' := []) (ρ' := fun _ => Loc.nil) (n := 0) (fun _ h => h) hpost h4).1
    have hl := (nvs_data (ok' := ok1) (h' := []) (ρ' := fun _ => Loc.nil) (n := 0) (fun _ h => h) hpost h4).2.2
    refine ⟨s, v, by rw [h2, e]; simp, h3, by rw [h1]; simp [hl], fun h' ρ' ok' n hok hv => ⟨v, vs', h1, hv, (nvs_data hok hpost h4).2.1⟩⟩
  | .data t y :: p2, _, gs, ha, ⟨v0, vs', e, h1, h2⟩ => by
    subst e
    obtain ⟨s, v, g1, g2, g3, g4⟩ := nvs_rel hpost (p2 := p2) ha h2
    exact ⟨s, v, g1, g2, by simpa using g3, fun h' ρ' ok' n hok hv => ⟨v0, vs', rfl, DVal.mono (fun b hb => ⟨hok b hb, rfl⟩) h1, g4 h' ρ' ok' n hok hv⟩⟩
  | .own _ _ :: _, _, _, ha, _ => by simp [allData] at ha
  | .upd _ _ :: _, _, _, ha, _ => by simp [allData] at ha
  | .tree _ _ :: _, _, _, ha, _ => by simp [allData] at ha
  | .out _ _ _ :: _, _, _, ha, _ => by simp [allData] at ha
theorem oneNV_rel {ok' : Nat → Prop} {h' : List AObj} {ρ' : Nat → Loc} {m : Nat} : ∀ {v : NV} {vs : List Value}, VList w ρ' h' ok' (v.val m) vs → (∃ a b, v = .cons a b) → (∀ a b, v = .cons a b → b = .nil ∨ ∃ c d, b = .cons c d) → ∀ {n : Nat}, n = vs.length → VRel w ρ' h' ok' ((oneNV n v).val m) (tupleOf vs) := by
  intro v vs hv ⟨a, b, e⟩ hb n hn
  subst e
  subst hn
  obtain ⟨u, us, rfl, h1, h2⟩ := hv
  rcases hb a b rfl with rfl | ⟨c, d, rfl⟩
  · simp only [NV.val, VList] at h2; subst h2; simpa [oneNV, tupleOf] using h1
  · obtain ⟨u', us', rfl, h3, h4⟩ := h2
    simp only [oneNV, tupleOf]
    exact ⟨u, u' :: us', by simp, h1, u', us', rfl, h3, h4⟩
theorem nvs_cons : ∀ {rs : List ARes}, rs ≠ [] → (∃ a b, nvs rs = .cons a b) ∧ ∀ a b, nvs rs = .cons a b → b = .nil ∨ ∃ c d, b = .cons c d
  | [], h => absurd rfl h
  | r :: rs, _ => by
    have tail : nvs rs = .nil ∨ ∃ c d, nvs rs = .cons c d := by cases rs with
      | nil => exact .inl rfl
      | cons q rs => cases q <;> exact .inr ⟨_, _, rfl⟩
    cases r <;> exact ⟨⟨_, _, rfl⟩, fun a b e => by simp only [nvs, NV.cons.injEq] at e; rw [← e.2]; exact tail⟩
/-! ## 4. The call -/
def handρ (ρ : Nat → Loc) (qs : List (HU × Skel)) (n : Nat) (l2 : Loc) (i : Nat) : Loc :=
  match qs.find? (fun q => q.1.id == i) with
  | some q => ⟨(skSet q.1.p q.1.τ (ρ i).sk q.2).blocks, (ρ i).cs, skSet q.1.p q.1.τ (ρ i).sk q.2⟩
  | none => if i = n then l2 else ρ i
theorem handρ_mem {qs : List (HU × Skel)} {n : Nat} {l2 : Loc} (hn : (qs.map fun q => q.1.id).Nodup) {q : HU × Skel} (hq : q ∈ qs) : handρ ρ qs n l2 q.1.id = ⟨(skSet q.1.p q.1.τ (ρ q.1.id).sk q.2).blocks, (ρ q.1.id).cs, skSet q.1.p q.1.τ (ρ q.1.id).sk q.2⟩ := by
  have : qs.find? (fun q' => q'.1.id == q.1.id) = some q := by
    induction qs with
    | nil => simp at hq
    | cons z qs ih =>
      simp only [List.map_cons, List.nodup_cons] at hn
      rcases List.mem_cons.1 hq with e | e
      · subst e; simp
      · have hne : (z.1.id == q.1.id) = false := by
          simp only [beq_eq_false_iff_ne]
          intro h; exact hn.1 (by rw [h]; exact List.mem_map.2 ⟨q, e, rfl⟩)
        rw [List.find?_cons, hne]; exact ih hn.2 e
  unfold handρ
  rw [this]
theorem handρ_ne {qs : List (HU × Skel)} {n : Nat} {l2 : Loc} {i : Nat} (h : ∀ q ∈ qs, q.1.id ≠ i) : handρ ρ qs n l2 i = if i = n then l2 else ρ i := by
  have : qs.find? (fun q => q.1.id == i) = none := by simpa using h
  unfold handρ
  rw [this]
theorem handed_mem {us : List HU} {b : Nat} (hb : b ∈ handed us) : ∃ u ∈ us, b ∈ u.sk'.blocks := by
  simpa [handed] using hb
theorem handed_nodup {h : List AObj} (hH : HRel F w0.heap.size w ρ h) : ∀ {us : List HU}, (∀ u ∈ us, u.Ok w (okOf F w ρ h) ρ h) → (us.map (·.id)).Nodup → (handed us).Nodup
  | [], _, _ => by simp [handed]
  | u :: us, ho, hn => by
    simp only [List.map_cons, List.nodup_cons] at hn
    have hu := ho u List.mem_cons_self
    rw [show handed (u :: us) = u.sk'.blocks ++ handed us from by simp [handed]]
    refine List.nodup_append.2 ⟨(skAt_sub hu.lk.sk).nodup hu.lk.nodup, handed_nodup hH (fun u' hu' => ho u' (List.mem_cons_of_mem _ hu')) hn.2, fun b hb b' hb' e => ?_⟩
    subst e
    obtain ⟨u', hu', hb2⟩ := handed_mem hb'
    have ho' := ho u' (List.mem_cons_of_mem _ hu')
    have := hH.inj u.id u'.id b (by rw [hu.at_]; rfl) (by rw [ho'.at_]; rfl) (hu.lk.sub b hb) (ho'.lk.sub b hb2)
    exact hn.1 (by rw [this]; exact List.mem_map.2 ⟨u', hu', rfl⟩)
theorem TCells.mono' {ok ok' : Nat → Prop} (hok : ∀ b, ok b → ok' b) {τ : TT} {x : τ.C} {sk : Skel} {cs : List Value} (h : TCells w ok τ x sk cs) : TCells w ok' τ x sk cs := TCells.mono (fun b hb => ⟨hok b hb, rfl⟩) _ _ _ _ (fun _ _ => rfl) h
theorem eq_of_id : ∀ {us : List HU}, (us.map (·.id)).Nodup → ∀ {u u' : HU}, u ∈ us → u' ∈ us → u.id = u'.id → u = u'
  | z :: us, hn, u, u', h, h', e => by
    simp only [List.map_cons, List.nodup_cons] at hn
    rcases List.mem_cons.1 h with h | h <;> rcases List.mem_cons.1 h' with h' | h'
    · rw [h, h']
    · exact absurd (by rw [← h, e]; exact List.mem_map.2 ⟨u', h', rfl⟩) hn.1
    · exact absurd (by rw [← h', ← e]; exact List.mem_map.2 ⟨u, h, rfl⟩) hn.1
    · exact eq_of_id hn.2 h h' e
theorem length_hsets' : ∀ (l : List (Nat × AObj)) (h : List AObj), (hsets l h).length = h.length
  | [], _ => rfl
  | p :: l, h => by simp only [hsets]; rw [length_hsets' l, length_hset]
theorem tval_cells {ok1 : Nat → Prop} {u : HU} {h : List AObj} {ok : Nat → Prop} (ho : u.Ok w ok ρ h) {s : Skel} (ht : TVal w' ok1 u.τ1 u.x1 s u.v) : TCells w' ok1 u.τ1 u.x1 s u.cs' := by
  obtain ⟨cs, h1, h2, h3⟩ := ht
  have e : cs = u.cs' := by
    cases hag : u.τ'.isAgg with
    | true =>
      have g1 := ho.vl.1 hag
      have g2 := h2 (by rw [ho.agg1]; exact hag)
      rw [g1] at g2
      simp only [Value.agg.injEq] at g2
      have := congrArg Array.toList g2
      simpa using this.symm
    | false =>
      have g1 := ho.vl.2 hag
      have g2 := h3 (by rw [ho.agg1]; exact hag)
      rw [g1, g2]
  rw [← e]; exact h1
theorem Open.callHand (hG : Good G F w) (h : Open F w0 st a w ρ) {args : List RVal} {vals : List Value} (hz : Zip F w ρ st.heap args vals) {f : FuncId} {rs : List ARes} (hP : HandCall P G f (args.map borrow) rs) {K : Out → Option R} {r : R}
    (hk : callT args rs K = some r) : Calls P f vals.toArray w fun e w' => ∃ out val, K out = some r ∧ e = .returned val ∧ ∀ dst, Rel F w0 (st.after dst out) (a.put dst val) w' := by
  unfold callT at hk
  cases hc : (hasRow args || (hasLease args || !handy args)) with
  | true => rw [hc] at hk; simp at hk
  | false =>
    rw [hc] at hk
    simp only [cond_false] at hk
    simp only [Bool.or_eq_false_iff, Bool.not_eq_false'] at hc
    obtain ⟨us, hfin, hus, hnod, _, hos, hargs, hvs⟩ := updArgs_inv h.hrel hz hc.1 hc.2.1 hc.2.2 hk
    have hown : ∀ u ∈ us, (hget st.heap u.id).owns = true := fun u hu => by rw [(hus u hu).at_]; rfl
    have hsOwn : ∀ b ∈ handed us, ∃ u ∈ us, b ∈ u.sk'.blocks ∧ b ∈ (ρ u.id).bs := fun b hb => by
      obtain ⟨u, hu, hb'⟩ := handed_mem hb
      exact ⟨u, hu, hb', (hus u hu).lk.sub b hb'⟩
    refine (hP w (okOf F w ρ st.heap) vals.toArray (handed us) hG.1 (fun b hb => ⟨hb.2.1, fun hm => ?_⟩) (handed_nodup h.hrel hus hnod) (fun b hb => ?_) (by simpa using hargs)).mono ?_
    · obtain ⟨u, hu, _, hm'⟩ := hsOwn b hm
      exact hb.2.2 u.id (hown u hu) hm'
    · obtain ⟨u, hu, _, hm'⟩ := hsOwn b hb
      obtain ⟨g1, g2⟩ := h.hrel.own u.id b (hown u hu) hm'
      refine ⟨?_, g2⟩
      rcases Nat.lt_or_ge b G.low with h' | h'
      · exact absurd (hG.2 b h') g1
      · exact h'
    rintro e w' ⟨vs, gs, rfl, hnear, hgn, hgb, hres⟩
    obtain ⟨gr, ss, hperm, hres', hout⟩ := hres.split
    rw [hos] at hout
    obtain ⟨qs, hq1, hq2, hq3⟩ := hout.zip
    have hqu : ∀ q ∈ qs, q.1 ∈ us := fun q hq => by rw [← hq1]; exact List.mem_map.2 ⟨q, hq, rfl⟩
    have hqn : (qs.map fun q => q.1.id).Nodup := by rw [← hq1] at hnod; simpa [List.map_map, Function.comp_def] using hnod
    have huq : ∀ u ∈ us, ∃ q ∈ qs, q.1 = u := fun u hu => by rw [← hq1] at hu; simpa using hu
    have hgall : (gr ++ qs.flatMap fun q => q.2.blocks).Nodup := by
      have := hperm.nodup_iff.1 hgn
      rw [← hq2] at this
      simpa [List.flatMap_map] using this
    have hgmem : ∀ b, b ∈ gs ↔ b ∈ gr ∨ ∃ q ∈ qs, b ∈ q.2.blocks := fun b => by
      rw [hperm.mem_iff, ← hq2, List.mem_append, List.mem_flatMap]
      constructor
      · rintro (h1 | ⟨s, h1, h2⟩)
        · exact .inl h1
        · obtain ⟨q, h3, h4⟩ := List.mem_map.1 h1
          exact .inr ⟨q, h3, by rw [h4]; exact h2⟩
      · rintro (h1 | ⟨q, h1, h2⟩)
        · exact .inl h1
        · exact .inr ⟨q.2, List.mem_map.2 ⟨q, h1, rfl⟩, h2⟩
    -- each tree of an argument's
    have htv : ∀ q ∈ qs, TCells w' (fun b => (okOf F w ρ st.heap b ∨ b ∈ handed us ∨ (w.heap.size ≤ b ∧ b < w'.heap.size)) ∧ b ∉ gs) q.1.τ1 q.1.x1 q.2 q.1.cs' := fun q hq => by
      obtain ⟨v, g1, g2⟩ := hq3 q hq
      have hu := hqu q hq
      obtain ⟨_, g3⟩ := hvs q.1 hu
      simp only [Nat.sub_zero] at g3
      have : v = q.1.v := by simpa [g3] using g1.symm
      rw [this] at g2
      exact tval_cells (hus q.1 hu) g2
    have hkept : ∀ b, b < w.heap.size → b ∉ handed us → w'.heap[b]? = w.heap[b]? := fun b h1 h2 => hnear.block b ⟨h1, h2⟩
    have hre : ∀ q ∈ qs, ∀ ok1 : Nat → Prop, (∀ b, okOf F w ρ st.heap b → ok1 b ∧ w'.heap[b]? = w.heap[b]?) → (∀ b, ((okOf F w ρ st.heap b ∨ b ∈ handed us ∨ (w.heap.size ≤ b ∧ b < w'.heap.size)) ∧ b ∉ gs) → ok1 b) →
        TCells w' ok1 q.1.T q.1.X (skSet q.1.p q.1.τ (ρ q.1.id).sk q.2) (ρ q.1.id).cs ∧ Swap (ρ q.1.id).sk.blocks (skSet q.1.p q.1.τ (ρ q.1.id).sk q.2).blocks q.1.sk'.blocks q.2.blocks := by
      intro q hq ok1 hd hok
      have hu := hqu q hq
      have hO := hus q.1 hu
      refine hO.re w' ok1 q.2 hd (fun b hb hb' => hkept b (h.hrel.own q.1.id b (hown q.1 hu) (by rw [hO.lk.bs]; exact hb)).2 fun hm => ?_) (TCells.mono' (fun b hb => hok b hb) (htv q hq))
      obtain ⟨u', hu', g1, g2⟩ := hsOwn b hm
      have hid := h.hrel.inj q.1.id u'.id b (hown q.1 hu) (hown u' hu') (by rw [hO.lk.bs]; exact hb) g2
      rw [eq_of_id hnod hu hu' hid] at hb'
      exact hb' g1
    -- the new object
    have new : ∃ (new : Option AObj) (l2 : Loc) (out : Out) (val : Value), K out = some r ∧ tupleOf vs = val ∧ (∀ dst, st.after dst out = ⟨putD st.tmps dst (out.val st.heap.length), hsets (upsOf us) st.heap ++ newObj? new⟩) ∧ l2.bs = gr ∧
        (∀ (ρ' : Nat → Loc) (h' : List AObj) (ok' : Nat → Prop), (∀ b, ((okOf F w ρ st.heap b ∨ b ∈ handed us ∨ (w.heap.size ≤ b ∧ b < w'.heap.size)) ∧ b ∉ gs) → ok' b) → ρ' st.heap.length = l2 → (∀ o, new = some o → st.heap.length < h'.length ∧ hget h' st.heap.length = o) →
          VRel w' ρ' h' ok' (out.val st.heap.length) val ∧ ∀ o, new = some o → ORel w' ρ' ok' st.heap.length o) := by
      rcases finK_inv (rs := resPart rs) (pre := []) rfl hfin with ⟨g1, g2⟩ | ⟨τ, x, p2, post, g1, g2, g3, g4⟩
      · simp only [List.nil_append] at g1 g2
        refine ⟨none, ⟨gr, [], .leaf⟩, _, _, g2, rfl, fun dst => by simp [St.after, Out.value, Out.val, newObj?], rfl, fun ρ' h' ok' hok _ _ => ⟨?_, fun o e => by cases e⟩⟩
        obtain ⟨_, k2, k3⟩ := layRes0_rel (ρ' := ρ') (h' := h') hok g1 hres'
        exact oneOf0_rel k2 k3
      · simp only [List.nil_append] at g1 g4
        rw [g1] at hres' g4
        obtain ⟨s, v, k1, k2, k3, k4⟩ := nvs_rel g3 g2 hres'
        obtain ⟨cs, t1, t2, t3⟩ := k2
        refine ⟨some (.vt ⟨0, 0⟩ τ x), ⟨gr, cs, s⟩, _, _, g4, rfl, fun dst => by simp [St.after, Out.value, Out.val, newObj?, length_hsets'], rfl, fun ρ' h' ok' hok hρ hnew => ?_⟩
        obtain ⟨n1, n2⟩ := hnew _ rfl
        have hnd : s.blocks.Nodup := by rw [← k1]; exact (List.nodup_append.1 hgall).1
        refine ⟨?_, fun o e => ?_⟩
        · have hv : VRel w' ρ' h' ok' (.tv st.heap.length 0 []) v := by
            refine ⟨n1, ?_⟩
            rw [n2]
            refine ⟨Nat.le_refl _, fun _ => ?_⟩
            rw [hρ]
            exact ⟨t2, t3⟩
          have hne : p2 ++ ARes.tree τ x :: post ≠ [] := by simp
          exact oneNV_rel (k4 h' ρ' ok' _ hok hv) (nvs_cons hne).1 (nvs_cons hne).2 k3
        · obtain rfl := Option.some.inj e
          show _ ∧ _ ∧ _
          rw [hρ]
          exact ⟨k1, by show gr.Nodup; rw [k1]; exact hnd, TCells.mono' hok t1⟩
    obtain ⟨new, l2, out, val, hK, hval, hst, hl2, hrel⟩ := new
    refine ⟨out, val, hK, by rw [hval], fun dst => ?_⟩
    rw [hst dst]
    have hul : ∀ u ∈ us, u.id < st.heap.length := fun u hu => vt_lt (hus u hu).at_
    have hulen : (hsets (upsOf us) st.heap).length = st.heap.length := length_hsets' _ _
    have hupn : (upIds (upsOf us)).Nodup := by rw [upIds_upsOf]; exact hnod
    have old : ∀ i, i < st.heap.length → hget (hsets (upsOf us) st.heap ++ newObj? new) i = hget (hsets (upsOf us) st.heap) i := fun i hi => hget_append_lt _ _ _ (by rw [hulen]; exact hi)
    have hself : ∀ u ∈ us, hget (hsets (upsOf us) st.heap ++ newObj? new) u.id = .vt u.ver.up u.T u.X := fun u hu => by
      rw [old _ (hul u hu)]
      exact hget_hsets_mem hupn (List.mem_map.2 ⟨u, hu, rfl⟩) (hul u hu)
    have hother : ∀ i, i < st.heap.length → (∀ u ∈ us, u.id ≠ i) → hget (hsets (upsOf us) st.heap ++ newObj? new) i = hget st.heap i := fun i hi hn => by
      rw [old i hi]
      refine hget_hsets_ne ?_
      rw [upIds_upsOf]
      intro hm
      obtain ⟨u, hu, e⟩ := List.mem_map.1 hm
      exact hn u hu e
    have hnew : ∀ o, new = some o → st.heap.length < (hsets (upsOf us) st.heap ++ newObj? new).length ∧ hget (hsets (upsOf us) st.heap ++ newObj? new) st.heap.length = o := fun o e => by
      subst e
      have := hget_append_ge (hsets (upsOf us) st.heap) [o] 0
      rw [Nat.add_zero, hulen] at this
      exact ⟨by simp [newObj?, hulen], by simpa [newObj?, hget] using this⟩
    have hnlen : ∀ i, st.heap.length ≤ i → i < (hsets (upsOf us) st.heap ++ newObj? new).length → i = st.heap.length ∧ ∃ o, new = some o := fun i h1 h2 => by
      cases new with
      | none => simp [newObj?, hulen] at h2; omega
      | some o => simp [newObj?, hulen] at h2; exact ⟨by omega, o, rfl⟩
    have hρq : ∀ q ∈ qs, handρ ρ qs st.heap.length l2 q.1.id = ⟨(skSet q.1.p q.1.τ (ρ q.1.id).sk q.2).blocks, (ρ q.1.id).cs, skSet q.1.p q.1.τ (ρ q.1.id).sk q.2⟩ := fun q hq => handρ_mem hqn hq
    have hρn : handρ ρ qs st.heap.length l2 st.heap.length = l2 := by
      rw [handρ_ne fun q hq => by have := hul q.1 (hqu q hq); omega]; simp
    have hρo : ∀ i, i ≠ st.heap.length → (∀ u ∈ us, u.id ≠ i) → handρ ρ qs st.heap.length l2 i = ρ i := fun i h1 h2 => by
      rw [handρ_ne fun q hq => h2 q.1 (hqu q hq), if_neg h1]
    have hblk' : ∀ b, b < w.heap.size → (∀ i, ((∃ u ∈ us, u.id = i) ∨ i = st.heap.length) → (hget st.heap i).owns = true → b ∉ (ρ i).bs) → w'.heap[b]? = w.heap[b]? := fun b hb hn => hkept b hb fun hm => by
      obtain ⟨u, hu, _, g2⟩ := hsOwn b hm
      exact hn u.id (.inl ⟨u, hu, rfl⟩) (hown u hu) g2
    have swap : ∀ q ∈ qs, Swap (ρ q.1.id).sk.blocks (skSet q.1.p q.1.τ (ρ q.1.id).sk q.2).blocks q.1.sk'.blocks q.2.blocks := fun q hq =>
      (hre q hq (fun _ => True) (fun b hb => ⟨trivial, hkept b hb.2.1 fun hm => by
        obtain ⟨u, hu, _, g2⟩ := hsOwn b hm
        exact hb.2.2 u.id (hown u hu) g2⟩) (fun _ _ => trivial)).2
    -- where the blocks of an object lie then
    have where_ : ∀ q ∈ qs, ∀ b ∈ (skSet q.1.p q.1.τ (ρ q.1.id).sk q.2).blocks, b ∈ q.2.blocks ∨ (b ∈ (ρ q.1.id).bs ∧ b ∉ q.1.sk'.blocks) := fun q hq b hb => by
      have hO := hus q.1 (hqu q hq)
      rcases (swap q hq).mem' hO.lk.nodup b hb with g | ⟨g1, g2⟩
      · exact .inl g
      · exact .inr ⟨by rw [hO.lk.bs]; exact g1, g2⟩
    have gsIn : ∀ b ∈ gs, b < w'.heap.size ∧ (w.heap.size ≤ b ∨ ∃ u ∈ us, b ∈ u.sk'.blocks ∧ b ∈ (ρ u.id).bs) := fun b hb => by
      obtain ⟨g1, g2⟩ := hgb b hb
      refine ⟨g1, g2.symm.imp (fun h => h) fun hm => ?_⟩
      obtain ⟨u, hu, g3, g4⟩ := hsOwn b hm
      exact ⟨u, hu, g3, g4⟩
    -- what stays of an object, and what came back, are apart
    have apart : ∀ u ∈ us, ∀ b, b ∈ (ρ u.id).bs → b ∉ u.sk'.blocks → b ∉ gs := fun u hu b hb hb' hg => by
      rcases (gsIn b hg).2 with g | ⟨u', hu', g1, g2⟩
      · have := (h.hrel.own u.id b (hown u hu) hb).2; omega
      · have hid := h.hrel.inj u.id u'.id b (hown u hu) (hown u' hu') hb g2
        rw [eq_of_id hnod hu hu' hid] at hb'
        exact hb' g1
    have cls : ∀ i, ((∃ u ∈ us, u.id = i) ∨ i = st.heap.length) → ∀ b, b ∈ (handρ ρ qs st.heap.length l2 i).bs → (∃ q ∈ qs, q.1.id = i ∧ (b ∈ q.2.blocks ∨ (b ∈ (ρ i).bs ∧ b ∉ q.1.sk'.blocks))) ∨ (i = st.heap.length ∧ b ∈ gr) := by
      intro i hi b hb
      rcases hi with ⟨u, hu, rfl⟩ | rfl
      · obtain ⟨q, hq, e⟩ := huq u hu
        subst e
        rw [hρq q hq] at hb
        exact .inl ⟨q, hq, rfl, where_ q hq b hb⟩
      · rw [hρn, hl2] at hb; exact .inr ⟨rfl, hb⟩
    have hfin : ∀ b, ((okOf F w ρ st.heap b ∨ b ∈ handed us ∨ (w.heap.size ≤ b ∧ b < w'.heap.size)) ∧ b ∉ gs) → okOf F w' (handρ ρ qs st.heap.length l2) (hsets (upsOf us) st.heap ++ newObj? new) b := by
      rintro b ⟨hb, hbg⟩
      have hno : ∀ i, (hget st.heap i).owns = true → b ∈ (ρ i).bs → ∃ u ∈ us, u.id = i ∧ b ∈ u.sk'.blocks := fun i ho hm => by
        rcases hb with hb | hb | hb
        · exact absurd hm (hb.2.2 i ho)
        · obtain ⟨u, hu, g1, g2⟩ := hsOwn b hb
          exact ⟨u, hu, h.hrel.inj u.id i b (hown u hu) ho g2 hm, g1⟩
        · have := (h.hrel.own i b ho hm).2; omega
      refine ⟨?_, ?_, fun i ho hm => ?_⟩
      · rcases hb with hb | hb | hb
        · exact hb.1
        · obtain ⟨u, hu, _, g2⟩ := hsOwn b hb
          exact h.hrel.base b (h.hrel.own u.id b (hown u hu) g2).1
        · exact h.hrel.base b fun hk => by have := h.hrel.kb b hk; have := h.base; omega
      · rcases hb with hb | hb | hb
        · exact Nat.lt_of_lt_of_le hb.2.1 hnear.size
        · obtain ⟨u, hu, _, g2⟩ := hsOwn b hb
          exact Nat.lt_of_lt_of_le (h.hrel.own u.id b (hown u hu) g2).2 hnear.size
        · exact hb.2
      · by_cases hi : (∃ u ∈ us, u.id = i) ∨ i = st.heap.length
        · rcases cls i hi b hm with ⟨q, hq, e, g | ⟨g1, g2⟩⟩ | ⟨_, g⟩
          · exact hbg ((hgmem b).2 (.inr ⟨q, hq, g⟩))
          · obtain ⟨u, hu, e2, g3⟩ := hno i (by rw [← e]; exact hown _ (hqu q hq)) g1
            rw [eq_of_id hnod hu (hqu q hq) (by rw [e2, e])] at g3
            exact g2 g3
          · exact hbg ((hgmem b).2 (.inl g))
        · simp only [not_or, not_exists, not_and] at hi
          have hil := owns_lt ho
          rcases Nat.lt_or_ge i st.heap.length with hl | hl
          · rw [hother i hl hi.1] at ho
            rw [hρo i hi.2 hi.1] at hm
            obtain ⟨u, hu, e, _⟩ := hno i ho hm
            exact hi.1 u hu e
          · exact absurd (hnlen i hl hil).1 hi.2
    have t : Turn F (fun i => (∃ u ∈ us, u.id = i) ∨ i = st.heap.length) w ρ st.heap w' (handρ ρ qs st.heap.length l2) (hsets (upsOf us) st.heap ++ newObj? new) := by
      refine ⟨by simp [hulen], fun i hi hs => ?_, fun i h1 h2 => .inr (hnlen i h1 h2).1, hnear.size, hblk', fun i b hi ho hb => ?_, fun i j b hi hj ho ho' hb hb' => ?_, fun hd i hi hil => ?_, fun i hi hil hvt => ?_, fun i hi hil => ?_⟩
      · simp only [not_or, not_exists, not_and] at hs
        exact ⟨hother i hi hs.1, hρo i hs.2 hs.1⟩
      · rcases cls i hi b hb with ⟨q, hq, e, g | ⟨g, _⟩⟩ | ⟨_, g⟩
        · obtain ⟨k1, k2⟩ := gsIn b ((hgmem b).2 (.inr ⟨q, hq, g⟩))
          exact ⟨k1, k2.imp (fun h => h) fun ⟨u, hu, _, k3⟩ => ⟨u.id, .inl ⟨u, hu, rfl⟩, hown u hu, k3⟩⟩
        · have hu := hqu q hq
          subst e
          exact ⟨Nat.lt_of_lt_of_le (h.hrel.own _ b (hown _ hu) g).2 hnear.size, .inr ⟨q.1.id, .inl ⟨q.1, hu, rfl⟩, hown _ hu, g⟩⟩
        · obtain ⟨k1, k2⟩ := gsIn b ((hgmem b).2 (.inl g))
          exact ⟨k1, k2.imp (fun h => h) fun ⟨u, hu, _, k3⟩ => ⟨u.id, .inl ⟨u, hu, rfl⟩, hown u hu, k3⟩⟩
      · have gd := List.nodup_append.1 hgall
        rcases cls i hi b hb with ⟨q, hq, e, g⟩ | ⟨e, g⟩ <;> rcases cls j hj b hb' with ⟨q', hq', e', g'⟩ | ⟨e', g'⟩
        · by_cases hqq : q = q'
          · rw [← e, ← e', hqq]
          · rcases g with g | ⟨g1, g2⟩ <;> rcases g' with g' | ⟨g1', g2'⟩
            · exact absurd g' (flat_disj gd.2.1 q hq q' hq' hqq b g)
            · subst e'; exact absurd ((hgmem b).2 (.inr ⟨q, hq, g⟩)) (apart _ (hqu q' hq') b g1' g2')
            · subst e; exact absurd ((hgmem b).2 (.inr ⟨q', hq', g'⟩)) (apart _ (hqu q hq) b g1 g2)
            · subst e e'; exact h.hrel.inj _ _ b (hown _ (hqu q hq)) (hown _ (hqu q' hq')) g1 g1'
        · rcases g with g | ⟨g1, g2⟩
          · exact absurd rfl (gd.2.2 b g' b (List.mem_flatMap.2 ⟨q, hq, g⟩))
          · subst e; exact absurd ((hgmem b).2 (.inl g')) (apart _ (hqu q hq) b g1 g2)
        · rcases g' with g' | ⟨g1', g2'⟩
          · exact absurd rfl (gd.2.2 b g b (List.mem_flatMap.2 ⟨q', hq', g'⟩))
          · subst e'; exact absurd ((hgmem b).2 (.inl g)) (apart _ (hqu q' hq') b g1' g2')
        · rw [e, e']
      · rcases hi with ⟨u, hu, rfl⟩ | rfl
        · obtain ⟨q, hq, e⟩ := huq u hu
          subst e
          rw [hself _ hu]
          show _ ∧ _ ∧ _
          rw [hρq q hq]
          refine ⟨rfl, ?_, (hre q hq _ hd hfin).1⟩
          refine (swap q hq).nodup (hus _ hu).lk.nodup ?_ fun b hb hb' => ?_
          · exact (flat_nodup (List.nodup_append.1 hgall).2.1 q hq)
          · refine Classical.byContradiction fun hc => ?_
            exact apart _ hu b (by rw [(hus _ hu).lk.bs]; exact hb') hc ((hgmem b).2 (.inr ⟨q, hq, hb⟩))
        · obtain ⟨_, o, eo⟩ := hnlen _ (Nat.le_refl _) hil
          rw [(hnew o eo).2]
          exact (hrel _ _ _ hfin hρn hnew).2 o eo
      · rcases hi with ⟨u, hu, rfl⟩ | rfl
        · obtain ⟨q, hq, e⟩ := huq u hu
          subst e
          exact ⟨by rw [(hus _ hu).at_]; rfl, by rw [hρq q hq]⟩
        · omega
      · rcases hi with ⟨u, hu, rfl⟩ | rfl
        · obtain ⟨q, hq, e⟩ := huq u hu
          subst e
          rw [hself _ hu, (hus _ hu).at_]
          exact .inr ⟨rfl, trs_stale (by rw [hρq q hq]) (hus _ hu).agg, fun _ _ s u t x val k => ⟨Nat.le_succ_of_le k.1, Nat.le_succ_of_le k.2.1, fun hc => absurd k.2.1 (by rw [hc.2]; exact Nat.not_succ_le_self _)⟩⟩
        · omega
    refine h.turn t (h.nearS (S := fun i => (∃ u ∈ us, u.id = i) ∨ i = st.heap.length) hnear.os hnear.tape hnear.output hnear.size hblk') (hrel _ _ _ hfin hρn hnew).1 dst
end
end Go.PB
namespace Go.PB
open Go Go.RowKit
section
variable {F : Fr} {P : Program} {G : Gv} {env : Env} {w0 w w' : World} {st : St} {a : Act} {ρ : Nat → Loc} {R : Type}
theorem Open.later (h : Open F w0 st a w ρ) (hb : Below w.heap.size w w') : Open F w0 st a w' ρ := by
  have hno : ∀ id b, st.heap.length ≤ id → (hget st.heap id).owns = true → b ∈ (ρ id).bs → False := fun id b hid ho _ => by
    rw [hget_ge _ id hid] at ho; simp [AObj.owns] at ho
  exact ⟨h.defers, h.size, h.near hb, hrel_ext h.hrel h.base hb.size hb.block (Nat.le_refl _) (fun _ _ => ⟨rfl, rfl⟩) (fun id h1 h2 => by omega) (fun id b h1 h2 h3 => (hno id b h1 h2 h3).elim) (fun id id' b h1 _ h2 _ h3 _ => (hno id b h1 h2 h3).elim),
    fun i => VRel.keeps (keeps_ext (fun id b ho hb => (h.hrel.own id b ho hb).2) hb.size hb.block (Nat.le_refl _) (fun _ _ => ⟨rfl, rfl⟩) (fun id b h1 h2 h3 => (hno id b h1 h2 h3).elim)) _ _ (h.vals i)⟩
theorem okOf_new {h : List AObj} (hH : HRel F w0.heap.size w ρ h) (hbase : w0.heap.size ≤ w.heap.size) {b : Nat} (hbn : w.heap.size ≤ b ∧ b < w'.heap.size) : okOf F w' ρ h b :=
  ⟨hH.base b (fun hk => by have := hH.kb b hk; omega), hbn.2, fun i hi hr => by have := (hH.own i b hi hr).2; omega⟩
theorem okOf_later {h : List AObj} (hb : Below w.heap.size w w') {b : Nat} (h1 : okOf F w ρ h b) : okOf F w' ρ h b := ⟨h1.1, Nat.lt_of_lt_of_le h1.2.1 hb.size, h1.2.2⟩
theorem DVal.plain {w w' : World} {ok ok' : Nat → Prop} {t : Ty} {x : t.C} {v : Value} (hr : t.refs = false) (h : DVal w ok t x v) : DVal w' ok' t x v := ⟨Cells.plain t x _ hr h.1, h.2.1, h.2.2⟩
theorem layRes_rel {h : List AObj} {okr ok' : Nat → Prop} {B : Nat} : ∀ {rs : List ARes} {vs : List Value} {gs : List Nat}, allData rs = true → ResList w' okr B rs vs gs →
    (∀ (t : Ty) (x : t.C) (v : Value), ARes.data t x ∈ rs → DVal w' okr t x v → DVal w' ok' t x v) → VList w' ρ h ok' (layRes rs) vs ∧ rs.length = vs.length
  | [], vs, gs, _, ⟨h1, _⟩, _ => by subst h1; exact ⟨rfl, rfl⟩
  | .data t x :: rs, _, gs, ha, ⟨v, vs', e, hd, hr⟩, hm => by
    subst e
    obtain ⟨i1, i2⟩ := layRes_rel (rs := rs) ha hr (fun t x v hmem => hm t x v (List.mem_cons_of_mem _ hmem))
    exact ⟨⟨v, vs', rfl, hm t x v List.mem_cons_self hd, i1⟩, by simp [i2]⟩
  | .own t l :: rs, _, _, ha, _, _ => by simp [allData] at ha
  | .upd t l :: rs, _, _, ha, _, _ => by simp [allData] at ha
theorem allData_gs {ok : Nat → Prop} {B : Nat} : ∀ {rs : List ARes} {vs : List Value} {gs : List Nat}, allData rs = true → ResList w' ok B rs vs gs → gs = []
  | [], _, _, _, ⟨_, h⟩ => h
  | .data t x :: rs, _, _, ha, ⟨_, _, _, _, hr⟩ => allData_gs (rs := rs) ha hr
  | .own _ _ :: _, _, _, ha, _ => by simp [allData] at ha
  | .upd _ _ :: _, _, _, ha, _ => by simp [allData] at ha
theorem anyRefs_mem : ∀ {rs : List ARes} {t : Ty} {x : t.C}, anyRefs rs = false → ARes.data t x ∈ rs → t.refs = false
  | r :: rs, t, x, h, hm => by
    simp only [anyRefs, Bool.or_eq_false_iff] at h
    rcases List.mem_cons.1 hm with e | e
    · subst e; exact h.1
    · exact anyRefs_mem h.2 e
theorem oneOf_rel {h : List AObj} {ok' : Nat → Prop} {v : AVal} {vs : List Value} (hv : VList w' ρ h ok' v vs) {n : Nat} (hn : n = vs.length) : VRel w' ρ h ok' (oneOf n v) (tupleOf vs) := by
  subst hn
  cases v with
  | tnil => simp only [VList] at hv; subst hv; simp [oneOf, tupleOf, VRel]
  | tcons x y =>
    obtain ⟨u, us, rfl, h1, h2⟩ := hv
    cases y with
    | tnil => simp only [VList] at h2; subst h2; simpa [oneOf, tupleOf] using h1
    | tcons x' y' =>
      obtain ⟨u', us', rfl, h3, h4⟩ := h2
      simp only [oneOf, tupleOf]
      exact ⟨u, u' :: us', by simp, h1, u', us', rfl, h3, h4⟩
    | _ => exact h2.elim
  | _ => exact hv.elim
theorem not_lease {b : Bool} {x : Option R} {r : R} (h : cond b none x = some r) : b = false ∧ x = some r := by
  cases b with
  | true => simp at h
  | false => exact ⟨rfl, h⟩
theorem Open.callPure (hG : Good G F w) (h : Open F w0 st a w ρ) {args : List RVal} {vals : List Value} (hz : Zip F w ρ st.heap args vals) {f : FuncId} {rs : List ARes} (hP : PureCall P G f (args.map borrow) rs) {K : Out → Option R} {r : R}
    (hK1 : ∀ t l, rs = [.own t l] → cond (t.refs && hasLease args) none (K (.ownr t l (cond t.refs (rowsOf args) []))) = some r) (hK2 : (∀ t l, rs ≠ [.own t l]) → cond (allData rs) (cond (anyRefs rs && hasLease args) none (K (.results rs (cond (anyRefs rs) (rowsOf args) [])))) none = some r) :
    Calls P f vals.toArray w fun e w' => ∃ out val, K out = some r ∧ e = .returned val ∧ ∀ dst, Rel F w0 (st.after dst out) (a.put dst val) w' := by
  refine (hP w (okArgs F w ρ st.heap args) vals.toArray hG.1 ?_ ?_).mono ?_
  · intro b hb
    rcases hb with hb | ⟨id, ver, t, l, _, ho, hr⟩ | ⟨id, g, t, x, _, ho, hr⟩
    · exact hb.2.1
    · exact (h.hrel.own id b (by rw [ho]; rfl) hr).2
    · exact (h.hrel.own id b (isVt_owns ho) hr).2
  · exact args_rel h.hrel (fun b hb => .inl hb) hz (fun id ver t l b hm ho hr => .inr (.inl ⟨id, ver, t, l, hm, ho, hr⟩)) (fun id g t x b hm ho hb => .inr (.inr ⟨id, g, t, x, hm, ho, hb⟩))
  · rintro e w' ⟨vs, gs, rfl, hB, hRL⟩
    have hfz := h.freezeAll (rowsIn_of_zip hz)
    have hfz' := hfz.later hB
    have data : ∀ rs' : List ARes, rs' = rs → cond (allData rs') (cond (anyRefs rs' && hasLease args) none (K (.results rs' (cond (anyRefs rs') (rowsOf args) [])))) none = some r →
        ∃ out val, K out = some r ∧ Ending.returned (tupleOf vs) = .returned val ∧ ∀ dst, Rel F w0 (st.after dst out) (a.put dst val) w' := by
      intro rs' e hK'
      subst e
      cases had : allData rs' with
      | false => rw [had] at hK'; simp at hK'
      | true =>
        rw [had] at hK'
        simp only [cond_true] at hK'
        have hgs := allData_gs had hRL
        subst hgs
        cases har : anyRefs rs' with
        | true =>
          rw [har] at hK'
          simp only [cond_true, Bool.true_and] at hK'
          obtain ⟨hnl, hK'⟩ := not_lease hK'
          refine ⟨_, _, hK', rfl, fun dst => ?_⟩
          obtain ⟨hl, hn⟩ := layRes_rel (ρ := ρ) (h := freezeRows (rowsOf args) st.heap) (ok' := okOf F w' ρ (freezeRows (rowsOf args) st.heap)) had hRL (fun t x v _ hd => DVal.mono (fun b hb => by
            refine ⟨?_, rfl⟩
            rcases hb.1 with h1 | h1
            · exact okOf_later hB (okArgs_frozen h.hrel hnl h1)
            · exact okOf_new hfz.hrel h.base h1) hd)
          exact hfz'.q (oneOf_rel hl hn) dst
        | false =>
          rw [har] at hK'
          simp only [cond_false, Bool.false_and] at hK'
          refine ⟨_, _, hK', rfl, fun dst => ?_⟩
          obtain ⟨hl, hn⟩ := layRes_rel (ρ := ρ) (h := st.heap) (ok' := okOf F w' ρ st.heap) had hRL (fun t x v hm hd => DVal.plain (anyRefs_mem har hm) hd)
          exact (h.later hB).q (oneOf_rel hl hn) dst
    have own : ∀ t l, rs = [.own t l] → cond (t.refs && hasLease args) none (K (.ownr t l (cond t.refs (rowsOf args) []))) = some r → ∃ out val, K out = some r ∧ Ending.returned (tupleOf vs) = .returned val ∧ ∀ dst, Rel F w0 (st.after dst out) (a.put dst val) w' := by
      intro t l e hK'
      subst e
      obtain ⟨hnl0, hK'⟩ := not_lease hK'
      obtain ⟨v, vs', rfl, hval, hcase⟩ := hRL
      have hvs' : vs' = [] := by
        rcases hcase with ⟨_, _, h1, _⟩ | ⟨_, _, _, _, _, _, _, _, _, _, _, _, _, _, _, _, h1, _⟩ <;> exact h1
      subst hvs'
      refine ⟨_, _, hK', rfl, fun dst => ?_⟩
      have push : ∀ (h1 : List AObj), Open F w0 ⟨st.tmps, h1⟩ a w ρ → (∀ (ok' : Nat → Prop) (x : t.C) (cs : List Value), (∀ b, (okOf F w ρ h1 b ∨ (w.heap.size ≤ b ∧ b < w'.heap.size)) ∧ b ∉ gs → ok' b) → Cells w' (fun b => (okArgs F w ρ st.heap args b ∨ (w.heap.size ≤ b ∧ b < w'.heap.size)) ∧ b ∉ gs) t x cs → Cells w' ok' t x cs) →
          Rel F w0 ⟨putD st.tmps dst (.osl h1.length 0), h1 ++ [.row 0 t l]⟩ (a.put dst v) w' := by
        intro h1 ho hcells
        rcases hcase with ⟨rfl, rfl, _, hg⟩ | ⟨g, c, cs, T, cc, rest, gs', hg, hgn, hgB, rfl, hrow, hsz, hlc, ecc, hrc, _, hg'⟩
        · have hsame : ∀ id, id < h1.length → hget (h1 ++ [.row 0 t []]) id = hget h1 id ∧ (fun i => if i = h1.length then Loc.nil else ρ i) id = ρ id := fun id hid => by
            rw [hget_append, if_neg (by omega)]; simp; omega
          have hno : ∀ id b, h1.length ≤ id → (hget (h1 ++ [.row 0 t []]) id).owns = true → b ∈ ((fun i => if i = h1.length then Loc.nil else ρ i) id).bs → False := fun id b hid hown hr => by
            by_cases e : id = h1.length
            · simp [e, Loc.nil] at hr
            · rw [hget_ge _ id (by simp; omega)] at hown; simp [AObj.owns] at hown
          refine Rel.put (st := ⟨st.tmps, h1⟩) (ρ := ρ) (ρ' := fun i => if i = h1.length then Loc.nil else ρ i) ho.defers ho.size ho.vals (ho.near hB)
            (hrel_ext ho.hrel ho.base hB.size hB.block (by simp) hsame ?_ (fun id b h1 h2 h3 => (hno id b h1 h2 h3).elim) (fun id id' b h1 _ h2 _ h3 _ => (hno id b h1 h2 h3).elim))
            (keeps_ext (fun id b ho' hb => (ho.hrel.own id b ho' hb).2) hB.size hB.block (by simp) hsame (fun id b h1 h2 h3 => (hno id b h1 h2 h3).elim)) ?_ dst
          · intro id h1' h2
            have h2' : id < h1.length + 1 := by simpa using h2
            have h1'' : h1.length ≤ id := h1'
            obtain rfl : id = h1.length := by omega
            rw [hget_append, if_pos rfl]
            exact .inl ⟨by simp [Loc.nil], rfl⟩
          · refine ⟨by simp, ?_⟩
            rw [hget_append, if_pos rfl]
            exact ⟨Nat.le_refl _, fun _ => .inl ⟨by simp [Loc.nil], rfl⟩⟩
        · subst hg' hg
          have hgl : g < w'.heap.size := lt_of_heap hrow
          have hsame : ∀ id, id < h1.length → hget (h1 ++ [.row 0 t l]) id = hget h1 id ∧ newρ ρ h1.length g id = ρ id := fun id hid => by
            rw [hget_append, if_neg (by omega)]; simp [newρ]; omega
          have hnew : ∀ id b, h1.length ≤ id → (hget (h1 ++ [.row 0 t l]) id).owns = true → b ∈ (newρ ρ h1.length g id).bs → id = h1.length ∧ b = g := fun id b hid hown hr => by
            by_cases e : id = h1.length
            · subst e; simp [newρ] at hr; exact ⟨rfl, hr⟩
            · rw [hget_ge _ id (by simp; omega)] at hown; simp [AObj.owns] at hown
          have okg : ∀ b, (okOf F w ρ h1 b ∨ (w.heap.size ≤ b ∧ b < w'.heap.size)) ∧ b ∉ [g] → okOf F w' (newρ ρ h1.length g) (h1 ++ [.row 0 t l]) b := by
            intro b ⟨h1b, h2b⟩
            have hbg : b ≠ g := by simpa using h2b
            have hok' : okOf F w' ρ h1 b := by
              rcases h1b with h3 | h3
              · exact okOf_later hB h3
              · exact okOf_new ho.hrel h.base h3
            refine ⟨hok'.1, hok'.2.1, fun id hown hr => ?_⟩
            by_cases e : id = h1.length
            · subst e; simp [newρ] at hr; exact hbg hr
            · rw [hget_append, if_neg e] at hown; simp [newρ, e] at hr; exact hok'.2.2 id hown hr
          refine Rel.put (st := ⟨st.tmps, h1⟩) (ρ := ρ) ho.defers ho.size ho.vals (ho.near hB)
            (hrel_ext ho.hrel ho.base hB.size hB.block (by simp) hsame ?_ (fun id b h1 h2 h3 => by obtain ⟨_, rfl⟩ := hnew id b h1 h2 h3; exact ⟨hgB, hgl⟩) (fun id id' b h1 h1' h2 h2' h3 h3' => by rw [(hnew id b h1 h2 h3).1, (hnew id' b h1' h2' h3').1]))
            (keeps_ext (fun id b ho' hb => (ho.hrel.own id b ho' hb).2) hB.size hB.block (by simp) hsame (fun id b h1 h2 h3 => by obtain ⟨_, rfl⟩ := hnew id b h1 h2 h3; exact hgB)) ?_ dst
          · intro id h1' h2
            have h2' : id < h1.length + 1 := by simpa using h2
            have h1'' : h1.length ≤ id := h1'
            obtain rfl : id = h1.length := by omega
            rw [hget_append, if_pos rfl]
            exact .inr ⟨g, cs, T, cc, rest, by simp [newρ], hrow, ecc, RowC.mono (fun x cs hc => hcells _ x cs okg hc) l cc hrc⟩
          · refine ⟨by simp, ?_⟩
            rw [hget_append, if_pos rfl]
            exact ⟨Nat.le_refl _, fun _ => .inr ⟨g, c, cs, T, by simp [newρ], rfl, hrow, hsz, hlc⟩⟩
      cases htr : t.refs with
      | true => have hnl : hasLease args = false := by simpa [htr] using hnl0
                exact push _ hfz (fun ok' x cs hok hc => Cells.mono (fun b hb => ⟨hok b ⟨by
          rcases hb.1 with h1 | h1
          · exact .inl (okArgs_frozen h.hrel hnl h1)
          · exact .inr h1, hb.2⟩, rfl⟩) t x cs hc)
      | false => exact push _ h (fun ok' x cs _ hc => Cells.plain t x cs htr hc)
    by_cases hc : ∃ t l, rs = [.own t l]
    · obtain ⟨t, l, e⟩ := hc
      exact own t l e (hK1 t l e)
    · exact data _ rfl (hK2 fun t l e => hc ⟨t, l, e⟩)
theorem OwnRow.row {w : World} {t : Ty} {l : List t.C} {v : Value} {b : Nat} (h : OwnRow w t l v b) (htr : t.refs = false) (ok : Nat → Prop) : ∃ c cs T cc rest, v = .slice (some ⟨b, 0, none⟩) l.length c ∧ w.heap[b]? = some (.cells cs T (0, 0)) ∧ cs.size = c * t.width ∧ l.length ≤ c ∧ cs.toList = cc ++ rest ∧ RowC (Cells w ok t) l cc := by
  obtain ⟨c, cs, T, cc, rest, h1, h2, h3, h4, h5, h6⟩ := h
  exact ⟨c, cs, T, cc, rest, h1, h2, h3, h4, h5, RowC.mono (fun x cs hc => Cells.plain t x cs htr hc) l cc h6⟩
theorem zip_cons {h : List AObj} {r : RVal} {rs : List RVal} {vals : List Value} (hz : Zip F w ρ h (r :: rs) vals) : ∃ u v vs, r = res h u ∧ vals = v :: vs ∧ VRel w ρ h (okOf F w ρ h) u v ∧ Zip F w ρ h rs vs := by
  generalize e : r :: rs = l at hz
  cases hz with
  | nil => cases e
  | cons u v h1 h2 => injection e with e1 e2; subst e2; exact ⟨u, v, _, e1, rfl, h1, h2⟩
theorem row_arel {h : List AObj} {okA : Nat → Prop} (hH : HRel F w0.heap.size w ρ h) {id ver : Nat} {t : Ty} {l : List t.C} {val : Value} (hv : VRel w ρ h (okOf F w ρ h) (.osl id ver) val) (ho : hget h id = .row ver t l) (htr : t.refs = false) (hA : ∀ b, b ∈ (ρ id).bs → okA b) : DVal w okA (.list t) l val := by
  obtain ⟨hl, hsl⟩ := hv
  rw [ho] at hsl
  have hsv := hsl.2 rfl
  have hob := hH.obj id hl
  rw [ho] at hob
  rcases hsv with ⟨hn, e⟩ | ⟨b, c, cs, T, hb, e, hrow, hsz, hlc⟩
  · rcases hob with ⟨_, h0⟩ | ⟨b, _, _, _, _, hb, _⟩
    · subst h0; subst e; exact dval_list ⟨none, 0, rfl, Nat.le_refl _, .inl rfl⟩
    · rw [hn] at hb; cases hb
  · rcases hob with ⟨hn, _⟩ | ⟨b', cs', T', cc, rst, hb', hrow', ecc, hrc⟩
    · rw [hn] at hb; cases hb
    obtain rfl : b = b' := by rw [hb] at hb'; simpa using hb'
    subst e
    refine dval_list ⟨_, c, rfl, hlc, .inr ⟨b, 0, cc, rfl, hA b (in1 hb), RowC.mono (fun x cs hc => Cells.plain t x cs htr hc) l cc hrc, fun j v hj => ?_⟩⟩
    rw [Nat.zero_add, cell_of_row w b j cs' T' _ hrow', ← Array.getElem?_toList, ecc, List.getElem?_append_left (List.getElem?_eq_some_iff.1 hj).1]; exact hj
theorem rest_args {h : List AObj} {id : Nat} {okA : Nat → Prop} (hH : HRel F w0.heap.size w ρ h) : ∀ {rs : List RVal} {vs : List Value}, Zip F w ρ h rs vs → restOk id rs = true →
    (∀ id' ver t l b, id' ≠ id → RVal.row id' ver t l ∈ rs → hget h id' = .row ver t l → b ∈ (ρ id').bs → okA b) → ArgsRel w okA (rs.map borrow) vs := by
  intro rs vs hz
  induction hz with
  | nil => intro _ _; rfl
  | cons u v h1 h2 ih =>
    rename_i rs vs
    intro hr hrow
    have step : ∀ (h3 : restOk id rs = true), ARel w okA (borrow (res h u)) v → ArgsRel w okA ((res h u :: rs).map borrow) (v :: vs) := fun h3 h4 => ⟨v, vs, rfl, h4, ih h3 fun id' ver t l b hne hm => hrow id' ver t l b hne (List.mem_cons_of_mem _ hm)⟩
    cases hu : res h u with
    | data t x =>
      rw [hu] at hr step
      simp only [restOk, Bool.and_eq_true, Bool.not_eq_true'] at hr
      exact step hr.2 (DVal.plain hr.1 (res_data h1 hu))
    | row id' ver t l =>
      obtain ⟨rfl, ho⟩ := res_row hu
      rw [hu] at hr step
      simp only [restOk, Bool.and_eq_true, Bool.not_eq_true'] at hr
      refine step hr.2.2 (row_arel hH h1 ho hr.2.1 fun b hb => hrow id' ver t l b ?_ (by rw [hu]; exact List.mem_cons_self) ho hb)
      intro e; rw [e] at hr; simp at hr
    | nils =>
      have := res_nils hu
      subst this
      rw [hu] at hr step
      exact step hr h1
    | fn g c =>
      obtain ⟨c', rfl, hc⟩ := res_fn hu
      rw [hu] at hr step
      cases c with
      | tnil =>
        refine step hr ?_
        obtain ⟨vs', e, hl⟩ := h1
        cases c' with
        | tnil => exact ⟨vs', e, hl⟩
        | tcons a b => simp [res] at hc
        | _ => exact hl.elim
      | _ => simp [restOk] at hr
    | _ => rw [hu] at hr; simp [restOk] at hr
theorem Open.callRow (hG : Good G F w) (h : Open F w0 st a w ρ) {id ver : Nat} {t : Ty} {l : List t.C} {rest : List RVal} {vals : List Value} (hz : Zip F w ρ st.heap (.row id ver t l :: rest) vals) {f : FuncId} {m : List t.C}
    (htv : t.isVal = true) (hP : RowCall P G f t l (rest.map borrow) m) (hrest : restOk id rest = true) (htr : t.refs = false) {K : Out → Option R} {r : R} (hK : K (.upd (.osl id (ver + 1)) id (.row (ver + 1) t m)) = some r) :
    Calls P f vals.toArray w fun e w' => ∃ out val, K out = some r ∧ e = .returned val ∧ ∀ dst, Rel F w0 (st.after dst out) (a.put dst val) w' := by
  obtain ⟨u, v0, vs, eu, rfl, hv, hz'⟩ := zip_cons hz
  obtain ⟨rfl, ho⟩ := res_row eu.symm
  obtain ⟨hl, hsl⟩ := hv
  rw [ho] at hsl
  have hsv := hsl.2 rfl
  have hob := h.hrel.obj id hl
  rw [ho] at hob
  have howns : (hget st.heap id).owns = true := by rw [ho]; rfl
  have hblk : ∀ k c, v0 = .slice (some ⟨k, 0, none⟩) l.length c → (ρ id).bs = [k] := fun k c e => by
    rcases hsv with ⟨_, e'⟩ | ⟨b, c', cs, T, hb, e', _⟩
    · rw [e] at e'; cases e'
    · rw [e] at e'; simp only [Value.slice.injEq, Option.some.injEq, Addr.mk.injEq, and_true, true_and] at e'; rw [e'.1]; exact hb
  have hfirst : (v0 = .slice none 0 0 ∧ l = []) ∨ ∃ b, ¬ (∃ id' ver' t' l', id' ≠ id ∧ RVal.row id' ver' t' l' ∈ rest ∧ hget st.heap id' = .row ver' t' l' ∧ b ∈ (ρ id').bs) ∧ OwnRow w t l v0 b := by
    rcases hsv with ⟨hn, e⟩ | ⟨b, c, cs, T, hb, e, hrow, hsz, hlc⟩
    · rcases hob with ⟨_, h0⟩ | ⟨b, _, _, _, _, hb, _⟩
      · exact .inl ⟨e, h0⟩
      · rw [hn] at hb; cases hb
    · rcases hob with ⟨hn, _⟩ | ⟨b', cs', T', cc, rst, hb', hrow', ecc, hrc⟩
      · rw [hn] at hb; cases hb
      obtain rfl : b = b' := by rw [hb] at hb'; simpa using hb'
      rw [hrow] at hrow'
      simp only [Option.some.injEq, Obj.cells.injEq] at hrow'
      obtain ⟨rfl, rfl, _⟩ := hrow'
      refine .inr ⟨b, ?_, c, cs, T, cc, rst, e, hrow, hsz, hlc, ecc, RowC.mono (fun x cs hc => Cells.plain t x cs htr hc) l cc hrc⟩
      rintro ⟨id', ver', t', l', hne, hm, ho', hr'⟩
      exact hne (h.hrel.inj id' id b (by rw [ho']; rfl) howns hr' (in1 hb))
  have hargs : ArgsRel w (fun b => ∃ id' ver' t' l', id' ≠ id ∧ RVal.row id' ver' t' l' ∈ rest ∧ hget st.heap id' = .row ver' t' l' ∧ b ∈ (ρ id').bs) (rest.map borrow) vs :=
    rest_args h.hrel hz' hrest (fun id' ver' t' l' b hne hm ho' hb => ⟨id', ver', t', l', hne, hm, ho', hb⟩)
  refine (hP w _ v0 vs hG.1 (fun b hb => ?_) hargs hfirst).mono ?_
  · obtain ⟨id', ver', t', l', _, _, ho', hr'⟩ := hb
    have hlt : id' < st.heap.length := by
      rcases Nat.lt_or_ge id' st.heap.length with h1 | h1
      · exact h1
      · rw [hget_ge _ _ h1] at ho'; cases ho'
    have hob' := h.hrel.obj id' hlt
    rw [ho'] at hob'
    rcases hob' with ⟨hn, _⟩ | ⟨b', cs', T', _, _, hb', hrow', _⟩
    · rw [hn] at hr'; simp at hr'
    · obtain rfl : b = b' := eq1 hb' hr'
      exact ⟨cs', T', hrow'⟩
  rintro e w' ⟨v', rfl, hos, htape, hout, hsz, hkeep, hres⟩
  refine ⟨_, v', hK, rfl, fun dst => ?_⟩
  have hbel : Near F.kept w0 w' := h.below.trans ⟨hos, htape, hout, hsz, fun k hk => hkeep k (Nat.lt_of_lt_of_le (h.hrel.kb k hk) h.base) fun c e =>
    (h.hrel.own id k howns (in1 (hblk k c e))).1 hk⟩
  have hkept : ∀ b, b < w.heap.size → b ∉ (ρ id).bs → w'.heap[b]? = w.heap[b]? := fun b hb hne => hkeep b hb fun c e => hne (in1 (hblk b c e))
  have stale : ∀ (w' : World) (ρ' : Nat → Loc) (ok' : Nat → Prop) (v : Nat) (val : Value), SlRel w ρ (okOf F w ρ st.heap) id v val (hget st.heap id) → SlRel w' ρ' ok' id v val (.row (ver + 1) t m) := by
    intro w' ρ' ok' v val hsl
    rw [ho] at hsl
    exact ⟨by have := hsl.1; omega, fun e => by have := hsl.1; omega⟩
  have stale' : ∀ (ρ' : Nat → Loc) (v j : Nat) (p : List Nat) (val : Value), ElRel ρ id v j p val (hget st.heap id) → ElRel ρ' id v j p val (.row (ver + 1) t m) := by
    intro ρ' v j p val hsl
    rw [ho] at hsl
    exact ⟨by have := hsl.1; omega, fun e => by have := hsl.1; omega⟩
  have fin : ∀ (ρ' : Nat → Loc), Changes w ρ st.heap id (.row (ver + 1) t m) w' ρ' → (((ρ' id).bs = [] ∧ m = [] ∧ v' = .slice none 0 0) ∨ ∃ b, (ρ' id).bs = [b] ∧ OwnRow w' t m v' b) →
      Rel F w0 (st.after dst (.upd (.osl id (ver + 1)) id (.row (ver + 1) t m))) (a.put dst v') w' := by
    intro ρ' ch hcase
    refine h.upd ch hbel (fun v val hsl => stale _ _ _ v val hsl) (fun p val hp => ?_) (fun v j p val hsl => stale' _ v j p val hsl) (fun val hi => trivial) ?_ ?_ dst
    · trivial
    · rcases hcase with ⟨h1, h2, _⟩ | ⟨b, h1, h2⟩
      · exact .inl ⟨h1, h2⟩
      · obtain ⟨c, cs, T, cc, rst, _, h3, _, _, h4, h5⟩ := h2.row htr (okOf F w' ρ' (hset st.heap id (.row (ver + 1) t m)))
        exact .inr ⟨b, cs, T, cc, rst, h1, h3, h4, h5⟩
    · refine ⟨by rw [length_hset]; exact hl, ?_⟩
      rw [hget_hset_self hl]
      refine ⟨Nat.le_refl _, fun _ => ?_⟩
      rcases hcase with ⟨h1, _, h2⟩ | ⟨b, h1, c, cs, T, cc, rst, h2, h3, h4, h5, _⟩
      · exact .inl ⟨h1, h2⟩
      · exact .inr ⟨b, c, cs, T, h1, h2, h3, h4, h5⟩
  rcases hres with ⟨rfl, rfl, e0⟩ | ⟨b, hown, hb⟩
  · have hn : (ρ id).bs = [] := by
      rcases hsv with ⟨hn, _⟩ | ⟨b, c', cs, T, hb, e', _⟩
      · exact hn
      · rw [e0] at e'; cases e'
    exact fin ρ ⟨hl, howns, rfl, hsz, hkept, fun _ _ => rfl, fun _ hr => .inl hr⟩ (.inl ⟨hn, rfl, rfl⟩)
  · have hlt : b < w'.heap.size := by
      obtain ⟨c, cs, T, cc, rst, _, h3, _⟩ := hown
      exact lt_of_heap h3
    rcases hb with hb | ⟨c, e⟩
    · exact fin (newρ ρ id b) ⟨hl, howns, rfl, hsz, hkept, fun i hi => by simp [newρ, hi], fun b' hb' => .inr (by simp [newρ] at hb'; omega)⟩ (.inr ⟨b, by simp [newρ], hown⟩)
    · exact fin ρ ⟨hl, howns, rfl, hsz, hkept, fun _ _ => rfl, fun _ hr => .inl hr⟩ (.inr ⟨b, hblk b c e, hown⟩)
theorem finK_none {whole : List ARes} {ups : List (Nat × AObj)} {K : Out → Option R} {r : R} : ∀ {rs : List ARes}, hasT rs = false → finK whole ups K (resPart rs) = some r → allData rs = true
  | [], _, _ => rfl
  | .data t x :: rs, h, hk => finK_none (rs := rs) h hk
  | .own _ _ :: _, _, hk => by simp [resPart, finK] at hk
  | .upd _ _ :: _, _, hk => by simp [resPart, finK] at hk
  | .tree _ _ :: _, h, _ => by simp [hasT] at h
  | .out _ _ _ :: _, h, _ => by simp [hasT] at h
theorem updArgs_some {as : List RVal} : ∀ {i : Nat} {os : List (Nat × (τ : TT) × τ.C)} {ups : List (Nat × AObj)} {K : List (Nat × AObj) → Option R} {r : R}, updArgs as i os ups K = some r → ∃ ups', K ups' = some r := by
  induction as with
  | nil =>
    intro i os ups K r h
    cases os with
    | nil => exact ⟨_, h⟩
    | cons o os => simp [updArgs] at h
  | cons a as ih =>
    intro i os ups K r h
    cases a with
    | tr id ver p τ x =>
      cases os with
      | nil => simp [updArgs] at h
      | cons o os =>
        obtain ⟨j, τ1, x1⟩ := o
        simp only [updArgs] at h
        cases hc : (Nat.beq i j && !memUp id ups) with
        | false => rw [hc] at h; simp at h
        | true =>
          rw [hc] at h
          simp only [cond_true] at h
          obtain ⟨τ', x', k, hg, hget, hrest⟩ := modK_inv h
          cases hc2 : ((Nat.beq τ1.width τ'.width && (τ1.isAgg == τ'.isAgg)) && (isNil p || τ'.isRef)) with
          | false => rw [hc2] at hg; simp at hg
          | true =>
            rw [hc2] at hg
            simp only [cond_true] at hg
            obtain ⟨T, X, hK, _⟩ := hrest _ _ _ hg
            exact ih hK
    | _ => exact ih (by simpa [updArgs] using h)
theorem hasT_data : ∀ {rs : List ARes}, allData rs = true → hasT rs = false
  | [], _ => rfl
  | .data _ _ :: rs, h => hasT_data (rs := rs) h
  | .own _ _ :: _, h => by simp [allData] at h
  | .upd _ _ :: _, h => by simp [allData] at h
  | .tree _ _ :: _, h => by simp [allData] at h
  | .out _ _ _ :: _, h => by simp [allData] at h
theorem Open.call (hE : EnvSound P G env) (hG : Good G F w) (h : Open F w0 st a w ρ) {args : List RVal} {vals : List Value} (hz : Zip F w ρ st.heap args vals) {f : FuncId} {K : Out → Option R} {r : R} (hk : callK env f args K = some r) :
    Enters P f ∧ Calls P f vals.toArray w fun e w' => ∃ out val, K out = some r ∧ e = .returned val ∧ ∀ dst, Rel F w0 (st.after dst out) (a.put dst val) w' := by
  obtain ⟨rs, hK, hEnt, hP⟩ := hE _ _ _ _ _ hk
  refine ⟨hEnt, ?_⟩
  split at hK
  · rename_i t l
    exact h.callPure hG hz hP (fun t' l' e => by simp only [List.cons.injEq, ARes.own.injEq, and_true] at e; obtain ⟨rfl, e⟩ := e; obtain rfl := eq_of_heq e; exact hK) (fun hn => absurd rfl (hn t l))
  · rename_i t m
    split at hK
    · rename_i id v t' l0 rest
      cases hc : (restOk id rest && !t.refs) with
      | false => rw [hc] at hK; simp at hK
      | true =>
        rw [hc] at hK
        simp only [cond_true] at hK
        obtain ⟨e, hK⟩ := sameK_inv hK
        subst e
        simp only [Bool.and_eq_true, Bool.not_eq_true'] at hc
        obtain ⟨htv, hP⟩ := hP
        exact h.callRow hG hz htv (hP l0 (rest.map borrow) rfl) hc.1 hc.2 hK
    · simp at hK
  · rename_i hn1 hn2
    have hP' : cond (hasT rs) (HandCall P G f (args.map borrow) rs) (PureCall P G f (args.map borrow) rs) := by
      unfold CallOk at hP
      split at hP
      · rename_i t m; exact absurd rfl (hn2 t m)
      · exact hP
    cases had : allData rs with
    | true =>
      rw [hasT_data had] at hP'
      refine h.callPure hG hz hP' (fun t l e => absurd e (hn1 t l)) (fun _ => by rw [had] at hK ⊢; exact hK)
    | false =>
      rw [had] at hK
      simp only [cond_false] at hK
      cases hht : hasT rs with
      | true => rw [hht] at hP'; exact h.callHand hG hz hP' hK
      | false =>
        unfold callT at hK
        cases hc : (hasRow args || (hasLease args || !handy args)) with
        | true => rw [hc] at hK; simp at hK
        | false =>
          rw [hc] at hK
          obtain ⟨_, e⟩ := updArgs_some hK
          rw [finK_none hht e] at had; cases had
end
end Go.PB
namespace Go.PB
open Go Go.RowKit
/-! ## 1. Filling cells -/
theorem foldl_set : ∀ (vs : List Value) (off k : Nat) (cells : Array Value) (c1 c2 c3 : List Value), cells.toList = c1 ++ (c2 ++ c3) → c1.length = off + k → c2.length = vs.length →
    ((vs.zipIdx k).foldl (fun (cs : Array Value) (x : Value × Nat) => cs.setIfInBounds (off + x.2) x.1) cells).toList = c1 ++ (vs ++ c3)
  | [], _, _, cells, c1, c2, c3, e, _, h2 => by
    have : c2 = [] := List.eq_nil_of_length_eq_zero h2
    subst this; simpa using e
  | v :: vs, off, k, cells, c1, c2, c3, e, h1, h2 => by
    cases c2 with
    | nil => simp at h2
    | cons d c2 =>
      simp only [List.zipIdx_cons, List.foldl_cons]
      have := foldl_set vs off (k + 1) (cells.setIfInBounds (off + k) v) (c1 ++ [v]) c2 c3 (by
        rw [Array.toList_setIfInBounds, e, ← h1, List.set_append_right _ _ (Nat.le_refl _)]; simp) (by simp [h1]; omega) (by simpa using h2)
      rw [this]; simp
theorem fill_step {place : Nat → Option (Nat × Nat)} {cells : Array Value} {i : Nat} {v : Value} {rest : List (Nat × Value)} {off size : Nat} {c1 c2 c3 : List Value} (hp : place i = some (off, size))
    (e : cells.toList = c1 ++ (c2 ++ c3)) (h1 : c1.length = off) (h2 : c2.length = size) (hv : v.cells.toList.length = size) :
    ∃ cells', cells'.toList = c1 ++ (v.cells.toList ++ c3) ∧ Instr.fill place cells ((i, v) :: rest) = Instr.fill place cells' rest := by
  refine ⟨v.cells.zipIdx.foldl (fun cs (c, j) => cs.setIfInBounds (off + j) c) cells, ?_, ?_⟩
  · rw [← Array.foldl_toList, Array.toList_zipIdx]
    exact foldl_set v.cells.toList off 0 cells c1 c2 c3 e (by simpa using h1) (by omega)
  · have hs : v.cells.size = size := by simpa using hv
    have hsz : cells.size = off + size + c3.length := by
      have : cells.size = cells.toList.length := by simp
      rw [this, e]; simp; omega
    have : ¬ (v.cells.size ≠ size ∨ off + v.cells.size > cells.size) := by omega
    simp only [Instr.fill, hp]
    rw [if_neg (by simpa using this)]
theorem partsK_inv {w : World} {ok : Nat → Prop} {R : Type} {u : Ty} {places : List (Nat × Nat)} (hplaces : ∀ f off t', Ty.compOff u f = some (off, t') → places[f]? = some (off, t'.width)) :
    ∀ {ps : List (Nat × RVal)} {vs : List (Nat × Value)} {x : u.C} {cells : Array Value} {K : u.C → Option R} {r : R}, Cells w ok u x cells.toList →
    (ps.length = vs.length ∧ ∀ (i : Nat) (p : Nat × RVal) (v : Nat × Value), ps[i]? = some p → vs[i]? = some v → p.1 = v.1 ∧ ∀ (t : Ty) (k : t.C → Option R) (r : R), RVal.dataK p.2 t k = some r → ∃ y, k y = some r ∧ DVal w ok t y v.2) →
    partsK u x ps K = some r → ∃ x' cells', K x' = some r ∧ Instr.fill (places.toArray[·]?) cells vs = some cells' ∧ Cells w ok u x' cells'.toList
  | [], vs, x, cells, K, r, hc, hl, hk => by
    have : vs = [] := List.eq_nil_of_length_eq_zero hl.1.symm
    subst this
    exact ⟨x, cells, hk, rfl, hc⟩
  | p :: ps, vs, x, cells, K, r, hc, hl, hk => by
    cases vs with
    | nil => simp at hl
    | cons v vs =>
      obtain ⟨e1, hd⟩ := hl.2 0 p v rfl rfl
      obtain ⟨t', off, z, y, x', hk', ho, hQ, hset⟩ := compSet_inv (Q := fun u _ y => DVal w ok u y v.2) (fun t z k r hk => hd t k r hk) hk
      obtain ⟨c1, c2, c3, e, h1, hz, hnew⟩ := hset hc
      obtain ⟨cells', e', hf⟩ := fill_step (place := (places.toArray[·]?)) (i := v.1) (v := v.2) (rest := vs) (off := off) (size := t'.width) (by rw [List.getElem?_toArray, ← e1]; exact hplaces _ _ _ ho) e h1 (Cells.length _ _ _ hz) (Cells.length _ _ _ hQ.1)
      obtain ⟨x2, cells2, h3, h4, h5⟩ := partsK_inv hplaces (ps := ps) (vs := vs) (cells := cells') (by rw [e']; exact hnew _ hQ.1) ⟨by simpa using hl.1, fun i p' v' hp hv => hl.2 (i + 1) p' v' (by simpa using hp) (by simpa using hv)⟩ hk'
      exact ⟨x2, cells2, h3, by rw [hf]; exact h4, h5⟩
theorem elemsK_inv {w : World} {ok : Nat → Prop} {R : Type} {u : Ty} :
    ∀ {ps : List (Nat × RVal)} {vs : List (Nat × Value)} {l : List u.C} {cells : Array Value} {K : List u.C → Option R} {r : R}, RowC (Cells w ok u) l cells.toList →
    (ps.length = vs.length ∧ ∀ (i : Nat) (p : Nat × RVal) (v : Nat × Value), ps[i]? = some p → vs[i]? = some v → p.1 = v.1 ∧ ∀ (t : Ty) (k : t.C → Option R) (r : R), RVal.dataK p.2 t k = some r → ∃ y, k y = some r ∧ DVal w ok t y v.2) →
    elemsK u l ps K = some r → ∃ l' cells', K l' = some r ∧ l'.length = l.length ∧ Instr.fill (fun i => some (i * u.width, u.width)) cells vs = some cells' ∧ RowC (Cells w ok u) l' cells'.toList
  | [], vs, l, cells, K, r, hc, hl, hk => by
    have : vs = [] := List.eq_nil_of_length_eq_zero hl.1.symm
    subst this
    exact ⟨l, cells, hk, rfl, rfl, hc⟩
  | p :: ps, vs, l, cells, K, r, hc, hl, hk => by
    cases vs with
    | nil => simp at hl
    | cons v vs =>
      obtain ⟨e1, hd⟩ := hl.2 0 p v rfl rfl
      obtain ⟨hlt, hk1⟩ := roomK_inv hk
      obtain ⟨y, hk2, hy⟩ := hd u _ _ hk1
      obtain ⟨c1, c, c3, e, h1, hce, hset⟩ := RowC.set (fun x cs => Cells.length u x cs) u.zero l cells.toList p.1 hc (by omega)
      obtain ⟨cells', e', hf⟩ := fill_step (place := fun i => some (i * u.width, u.width)) (i := v.1) (v := v.2) (rest := vs) (off := p.1 * u.width) (size := u.width) (by rw [← e1]) e h1 (Cells.length _ _ _ hce) (Cells.length _ _ _ hy.1)
      obtain ⟨l2, cells2, h3, h3', h4, h5⟩ := elemsK_inv (ps := ps) (vs := vs) (cells := cells') (by rw [e']; exact hset y _ hy.1) ⟨by simpa using hl.1, fun i p' v' hp hv => hl.2 (i + 1) p' v' (by simpa using hp) (by simpa using hv)⟩ hk2
      exact ⟨l2, cells2, h3, by simpa using h3', by rw [hf]; exact h4, h5⟩
theorem chain_places {P : Program} : ∀ {t : Ty} {base : Nat} {fs : List Field}, ChainOk P t base fs → ∃ places, fs.mapM (fun f => (P.info? f.type).map fun i => (f.offset, i.size)) = some places ∧
    ∀ f off t', Ty.compOff t f = some (off, t') → places[f]? = some (base + off, t'.width)
  | .pair a b, base, fd :: fs, ⟨h1, h2, h3⟩ => by
    obtain ⟨places, hp, hpl⟩ := chain_places h3
    obtain ⟨i, z, hi, hs, _⟩ := h2.info
    refine ⟨(fd.offset, i.size) :: places, by simp [List.mapM_cons, hi, hp], fun f off t' ho => ?_⟩
    cases f with
    | zero =>
      simp only [Ty.compOff, Option.some.injEq, Prod.mk.injEq] at ho
      obtain ⟨rfl, rfl⟩ := ho
      simp [h1, hs]
    | succ n =>
      simp only [Ty.compOff] at ho
      split at ho
      · rename_i o u hou
        simp only [Option.some.injEq, Prod.mk.injEq] at ho
        obtain ⟨rfl, rfl⟩ := ho
        have := hpl _ _ _ hou
        simp only [List.getElem?_cons_succ]
        rw [this, Nat.add_assoc]
      · simp at ho
  | .unit, base, [], _ => ⟨[], rfl, fun f off t' ho => by simp [Ty.compOff] at ho⟩
  | .pair a b, _, [], h => by simp [ChainOk] at h
  | .unit, _, _ :: _, h => by simp [ChainOk] at h
  | .int _, _, _, h => by simp [ChainOk] at h
  | .bool, _, _, h => by simp [ChainOk] at h
  | .err, _, _, h => by simp [ChainOk] at h
  | .str, _, _, h => by simp [ChainOk] at h
  | .list _, _, _, h => by simp [ChainOk] at h
  | .agg _, _, _, h => by simp [ChainOk] at h
  | .arr _ _, _, _, h => by simp [ChainOk] at h
theorem row_zeros (w : World) (ok : Nat → Prop) (t : Ty) (z : Array Value) (hz : z.toList = t.zcells) : ∀ n, RowC (Cells w ok t) (List.replicate n t.zero) ((Array.range (n * t.width)).map (fun i => z[i % z.size]!)).toList := by
  have hlen : z.size = t.width := by
    have : z.size = z.toList.length := by simp
    rw [this, hz]; exact Cells.length _ _ _ (cells_zero w ok t)
  have one : ∀ k, (List.range t.width).map (fun i => z[(k * t.width + i) % z.size]!) = t.zcells := by
    intro k
    rw [← hz]
    apply List.ext_getElem?
    intro j
    rw [List.getElem?_map]
    by_cases hj : j < t.width
    · rw [List.getElem?_range hj]
      have e : (k * t.width + j) % z.size = j := by rw [hlen, Nat.add_comm, Nat.add_mul_mod_self_right, Nat.mod_eq_of_lt hj]
      simp only [Option.map_some, e]
      have : j < z.size := by omega
      simp [this]
    · have : z.toList.length ≤ j := by simp; omega
      rw [List.getElem?_eq_none this, List.getElem?_eq_none (by simpa using hj)]; rfl
  intro n
  simp only [Array.toList_map, Array.toList_range]
  induction n with
  | zero => simp [RowC]
  | succ n ih =>
    rw [List.replicate_succ', Nat.succ_mul, List.range_add, List.map_append, List.map_map]
    refine RowC.append _ _ _ _ ih ⟨t.zcells, [], ?_, cells_zero w ok t, rfl⟩
    rw [List.append_nil]
    exact one n
section
variable {F : Fr} {P : Program} {G : Gv} {env : Env} {w0 w w' : World} {st : St} {a : Act} {ρ : Nat → Loc} {R : Type}
theorem parts_data (h : Open F w0 st a w ρ) (ps : List (Nat × Operand)) : ((ps.map fun p => (p.1, res st.heap (PB.ev st.tmps p.2))).length = (ps.map fun (i, x) => (i, a.eval x)).length ∧
    ∀ (i : Nat) (p : Nat × RVal) (v : Nat × Value), (ps.map fun p => (p.1, res st.heap (PB.ev st.tmps p.2)))[i]? = some p → (ps.map fun (i, x) => (i, a.eval x))[i]? = some v → p.1 = v.1 ∧ ∀ (t : Ty) (k : t.C → Option R) (r : R), RVal.dataK p.2 t k = some r → ∃ y, k y = some r ∧ DVal w (okOf F w ρ st.heap) t y v.2) := by
  refine ⟨by simp, fun i p v hp hv => ?_⟩
  rw [List.getElem?_map] at hp hv
  cases hi : ps[i]? with
  | none => rw [hi] at hp; simp at hp
  | some q =>
    rw [hi] at hp hv
    simp only [Option.map_some, Option.some.injEq] at hp hv
    subst hp hv
    exact ⟨rfl, fun t k r hk => dataK_inv (h.ev q.2) hk⟩
theorem Open.build {tt : Tab} (hT : TTOk P tt) (h : Open F w0 st a w ρ) {ty : TypeId} {u : Ty} (hty : tt ty = some (.agg u)) (ps : Array (Nat × Operand)) {K : Out → Option R} {r : R}
    (hk : partsK u u.zero (ps.toList.map fun p => (p.1, res st.heap (PB.ev st.tmps p.2))) (fun y => K (.q (.data (.agg u) y))) = some r) :
    ∃ v val, K (.q v) = some r ∧ VRel w ρ st.heap (okOf F w ρ st.heap) v val ∧ (Instr.build ty (ps.map fun (i, x) => (i, a.eval x))).run P w = .ok val w := by
  have htyo := hT _ _ hty
  obtain ⟨i, z, hi, hs, _, _, hz, hzc, _⟩ := htyo.info
  obtain ⟨_, fs, hfs, hch⟩ := htyo
  obtain ⟨places, hp, hpl⟩ := chain_places hch
  have hpd := parts_data (R := R) h ps.toList
  obtain ⟨x', cells', hk', hf, hc⟩ := partsK_inv (places := places) (fun f off t' ho => by have := hpl f off t' ho; rwa [Nat.zero_add] at this) (cells := z.cells) (by rw [hzc]; exact cells_zero w _ u) hpd hk
  refine ⟨_, .agg cells', hk', ⟨hc, by simp [Ty.isAgg], rfl⟩, run_build w ty _ cells' ?_⟩
  unfold Program.built
  simp only [hi, hfs, hz, hp, Array.toList_map]
  exact hf
theorem Open.buildSlice {tt : Tab} (hT : TTOk P tt) (h : Open F w0 st a w ρ) {ty : TypeId} {u : Ty} (hty : tt ty = some (.list u)) (n : Nat) (ps : Array (Nat × Operand)) {K : Out → Option R} {r : R}
    (hk : (roomK (n * u.width) 16777216 <| elemsK u (List.replicate n u.zero) (ps.toList.map fun p => (p.1, res st.heap (PB.ev st.tmps p.2))) fun l => K (.row u l)) = some r) :
    ∃ out val w', K out = some r ∧ (Instr.buildSlice ty n (ps.map fun (i, x) => (i, a.eval x))).run P w = .ok val w' ∧ ∀ dst, Rel F w0 (st.after dst out) (a.put dst val) w' := by
  obtain ⟨hn, hk1⟩ := roomK_inv hk
  obtain ⟨_, e, he, hte⟩ := hT _ _ hty
  obtain ⟨i, z, hi, hsize, hpos, hbytes, hz, hzc, _⟩ := hte.info
  have hpd := parts_data (R := R) h ps.toList
  by_cases hn0 : n = 0
  · subst hn0
    have hps : ps.toList = [] := by
      cases hp : ps.toList with
      | nil => rfl
      | cons p r =>
        rw [hp] at hk1
        obtain ⟨h1, _⟩ := roomK_inv hk1
        simp at h1
    rw [hps] at hk1
    have hps' : ps = #[] := by apply Array.toList_inj.1; simpa using hps
    subst hps'
    have hk2 : K (.row u []) = some r := hk1
    refine ⟨_, _, w.alloc (.cells #[] e), hk2, ?_, fun dst => h.row (l := []) (cs := #[]) e rfl dst⟩
    simp [Instr.buildSlice, run_underlying he, sizeOf, typeInfo, hi, Instr.fill, newRow, show Array.range 0 = #[] from rfl]
  · have hw : n * i.size ≤ 2 ^ 24 := by rw [hsize]; exact hn
    have hp0 : ¬ n * i.size = 0 := by rw [hsize]; have := Nat.mul_pos (Nat.pos_of_ne_zero hn0) hpos; omega
    have hrz := row_zeros w (okOf F w ρ st.heap) u z.cells hzc n
    rw [← hsize] at hrz
    obtain ⟨l', cells', hk2, hlen, hf, hrow⟩ := elemsK_inv hrz hpd hk1
    rw [← hsize] at hf
    have hrun := run_buildSlice (P := P) w ty e n (ps.map fun (i, x) => (i, a.eval x)) cells' i z he hi hz (by omega) hp0 (by rw [Array.toList_map]; exact hf)
    have hl' : l'.length = n := by simpa using hlen
    refine ⟨_, _, _, hk2, hrun, fun dst => ?_⟩
    have := h.row (l := l') (cs := cells') e hrow dst
    rw [hl'] at this
    exact this
theorem TyOk.und {P : Program} {t : Ty} {ty : TypeId} (this : TyOk P t ty) : ∃ d, P.underlying ty = some d := by
  cases t with
  | int k => exact ⟨_, this.2⟩
  | bool => exact ⟨_, this.2⟩
  | err => obtain ⟨_, e, he⟩ := this; exact ⟨_, he⟩
  | str => exact ⟨_, this.2⟩
  | list t => obtain ⟨_, e, he, _⟩ := this; exact ⟨_, he⟩
  | agg t => obtain ⟨_, e, he, _⟩ := this; exact ⟨_, he⟩
  | arr n t => obtain ⟨_, e, he, _⟩ := this; exact ⟨_, he⟩
  | unit => exact this.elim
  | pair a b => exact this.elim
theorem rowC_ints {w : World} {ok : Nat → Prop} {k : IntKind} : ∀ {l : List Int} {cc : List Value}, RowC (Cells w ok (.int k)) l cc → cc = l.map (Value.int k)
  | [], _, h => h
  | x :: l, _, ⟨c1, c2, e, h1, h2⟩ => by
    subst e
    simp only [Cells] at h1
    subst h1
    rw [rowC_ints h2]; rfl
theorem ints_rowC {w : World} {ok : Nat → Prop} {k : IntKind} : ∀ (l : List Int), RowC (Cells w ok (.int k)) l (l.map (Value.int k))
  | [] => rfl
  | x :: l => ⟨[.int k x], _, rfl, rfl, ints_rowC l⟩
theorem Open.newData (h : Open F w0 st a w ρ) {w' : World} (hsz : w.heap.size ≤ w'.heap.size) (hblk : ∀ b, b < w.heap.size → w'.heap[b]? = w.heap[b]?) (hb : Near F.kept w0 w') {t : Ty} {x : t.C} {val : Value}
    (hv : DVal w' (okOf F w' ρ st.heap) t x val) (d : Option Tmp) : Rel F w0 (st.after d (.results [.data t x] [])) (a.put d val) w' := by
  have no : ∀ id, st.heap.length ≤ id → (hget st.heap id).owns = true → False := fun id h1 h2 => by rw [hget_ge _ _ h1] at h2; simp [AObj.owns] at h2
  exact Rel.put (ρ := ρ) (ρ' := ρ) (h' := st.heap) (v := .data t x) h.defers h.size h.vals hb
    (hrel_ext h.hrel h.base hsz hblk (Nat.le_refl _) (fun _ _ => ⟨rfl, rfl⟩) (fun id h1 h2 => absurd h1 (by omega)) (fun id b h1 h2 => (no id h1 h2).elim) (fun id id' b h1 h1' h2 => (no id h1 h2).elim))
    (keeps_ext (fun id b ho hb => (h.hrel.own id b ho hb).2) hsz hblk (Nat.le_refl _) (fun _ _ => ⟨rfl, rfl⟩) (fun id b h1 h2 => (no id h1 h2).elim)) hv d
theorem Open.okNew (h : Open F w0 st a w ρ) {w' : World} {b : Nat} (h1 : w.heap.size ≤ b) (h2 : b < w'.heap.size) : okOf F w' ρ st.heap b :=
  ⟨h.hrel.base b (fun hk => by have := h.hrel.kb b hk; have := h.base; omega), h2, fun id ho hr => by have := (h.hrel.own id b ho hr).2; omega⟩
theorem loadCells_none {P : Program} (w : World) (ad : Addr) : (loadCells ad 0).run P w = .ok #[] w := by
  have := run_loadCells_list (P := P) w ad [] (fun j v hj => by simp at hj)
  simpa using this
theorem Open.conv {tt : Tab} (hT : TTOk P tt) (h : Open F w0 st a w ρ) {src dst : TypeId} {x : Operand} {K : Out → Option R} {r : R}
    (hk : convK (tt src) (tt dst) (res st.heap (PB.ev st.tmps x)) K = some r) :
    ∃ out val w', K out = some r ∧ (convert src dst (a.eval x)).run P w = .ok val w' ∧ ∀ d, Rel F w0 (st.after d out) (a.put d val) w' := by
  have hx := h.ev x
  unfold convK at hk
  split at hk
  · rename_i t1 k k' n hs hd ex
    obtain ⟨d, hsd⟩ := (hT _ _ hs).und
    have e := (res_data hx ex).int_inv
    refine ⟨_, .int k (k.wrap n), w, hk, by rw [e]; simp [convert, Go.underlying, hsd, (hT _ _ hd).2, Conv.intToInt], fun d => h.q ?_ d⟩
    exact dval_int _ _ _ _
  · rename_i t1 s hs hd ex
    obtain ⟨d, hsd⟩ := (hT _ _ hs).und
    have e := (res_data hx ex).str_inv
    refine ⟨_, .string s, w, hk, by rw [e]; simp [convert, Go.underlying, hsd, (hT _ _ hd).2], fun d => h.q ?_ d⟩
    exact dval_str _ _ _
  · rename_i _ hs hd _
    obtain ⟨_, e, he, hte⟩ := hT _ _ hs
    obtain ⟨l, hk2, A, c, hv, hl⟩ := listK_inv h.hrel.obj hx hk
    refine ⟨_, .string (strB l), w, hk2, ?_, fun d => h.q (show VRel w ρ st.heap (okOf F w ρ st.heap) (.data .str (strB l)) _ from dval_str _ _ _) d⟩
    rw [hv]
    rcases hl with rfl | ⟨b, o, cc, rfl, hr, hcell⟩
    · cases A with
      | none => exact run_convert_bytes_nil w src e he hte.2 _ c dst (hT _ _ hd).2
      | some ad =>
        rw [run_convert_bytes_string w src dst e _ _ c he hte.2 (hT _ _ hd).2]
        exact run_bytesToString w ad 0 c [] (loadCells_none w ad)
    · have ecc := rowC_ints hr
      exact run_convert_bytes_arg w src e he hte.2 b o l.length c l rfl (fun i hi => hcell i _ (by
        rw [ecc, List.getElem?_map, List.getElem?_eq_getElem hi]
        simp [List.getD, List.getElem?_eq_getElem hi])) dst (hT _ _ hd).2
  · rename_i s hs hd ex
    have e1 := (res_data hx ex).str_inv
    obtain ⟨_, e, he, hte⟩ := hT _ _ hd
    have hrun := Go.Lib.run_convert_string_bytes (P := P) w src dst e s (hT _ _ hs).2 he hte.2
    have hsz := Go.Lib.bytesWorld_size w e s
    have hold := Go.Lib.bytesWorld_at_old w e s
    have hlen : (bytesL s).length = s.size := by unfold bytesL; rw [List.length_map, Array.length_toList]; rfl
    refine ⟨_, _, _, hk, by rw [e1]; exact hrun, fun d => h.newData (by omega) hold (h.below.trans ⟨rfl, rfl, rfl, by omega, fun k hk => hold k (Nat.lt_of_lt_of_le (h.hrel.kb k hk) h.base)⟩) ?_ d⟩
    refine dval_list ⟨_, _, by rw [hlen], by rw [hlen]; exact grownCap_ge _ _ _ _, .inr ⟨w.heap.size, 0, _, rfl, h.okNew (Nat.le_refl _) (by omega), ints_rowC _, fun j u hj => ?_⟩⟩
    have hj' : j < s.size := by
      have := (List.getElem?_eq_some_iff.1 hj).1
      rw [List.length_map, hlen] at this
      exact this
    rw [Nat.zero_add, Go.Lib.bytesWorld_cell w e s j hj', ← hj]
    have hj2 : j < s.data.toList.length := by rw [Array.length_toList]; exact hj'
    unfold bytesL
    rw [List.map_map, List.getElem?_map, List.getElem?_eq_getElem hj2, List.getD, List.getElem?_eq_getElem hj2]
    rfl
  · simp at hk
end
end Go.PB
namespace Go.PB
open Go Go.RowKit
section
variable {F : Fr} {P : Program} {G : Gv} {env : Env} {w0 w w' : World} {st : St} {a : Act} {ρ : Nat → Loc} {R : Type} {tt : Tab}
/-! ## 1. Cells -/
theorem TCells.one {ok : Nat → Prop} : ∀ (τ : TT) (x : τ.C) (sk : Skel) (cs : List Value), TCells w ok τ x sk cs → ∀ v ∈ cs, v.oneCell' = true
  | .data t, x, _, cs, ⟨_, h⟩ => Cells.one t x cs h
  | .vec _, _, _, _, ⟨v, _, h, hv⟩ => by
    subst h
    rcases hv with ⟨rfl, _⟩ | ⟨b, o, c, cs, T, pre, cc, rest, rfl, _⟩ <;> simp [Value.oneCell']
  | .map _ _, _, _, _, ⟨_, _, _, _, h, _⟩ => by subst h; simp [Value.oneCell']
  | .own _, _, _, _, ⟨_, _, _, _, _, h, _⟩ => by subst h; simp [Value.oneCell']
  | .opt _, none, _, _, ⟨_, h⟩ => by subst h; simp [Value.oneCell']
  | .opt _, some _, _, _, ⟨_, _, _, _, _, h, _⟩ => by subst h; simp [Value.oneCell']
  | .hole, _, _, _, ⟨_, v, h, hv⟩ => by subst h; simpa using hv
  | .unit, _, _, _, ⟨_, h⟩ => by subst h; simp
  | .pair a b, x, _, _, ⟨s1, s2, c1, c2, _, h, h1, h2⟩ => by
    subst h; intro v hv
    rcases List.mem_append.1 hv with h | h
    · exact TCells.one a x.1 s1 c1 h1 v h
    · exact TCells.one b x.2 s2 c2 h2 v h
  | .agg τ, x, sk, cs, h => TCells.one τ x sk cs h
theorem cells_of_one {v : Value} (h : v.oneCell' = true) : v.cells = #[v] := by cases v <;> first | rfl | simp [Value.oneCell'] at h
theorem aggW_ok (hT : TTOk P tt) {t : TypeId} {n : Nat} (h : tt.aggW t = some n) : (sizeOf t).run P w = .ok n w ∧ (isAgg t).run P w = .ok true w := by
  unfold Tab.aggW at h
  split at h
  · rename_i τ e
    have := hT.mt _ _ e
    cases ha : τ.isAgg with
    | false => rw [ha] at h; simp at h
    | true =>
      rw [ha] at h
      simp only [cond_true, Option.some.injEq] at h
      exact ⟨by rw [← h]; exact (MtOk.size this).2, by rw [← ha]; exact MtOk.run_isAgg this⟩
  · split at h
    · rename_i u e
      have := hT.ty _ _ e
      simp only [Option.some.injEq] at h
      exact ⟨by rw [← h]; exact this.run_sizeOf, this.run_isAgg⟩
    · simp at h
theorem run_storeT {t : TypeId} {n : Nat} (hs : (sizeOf t).run P w = .ok n w) {b off : Nat} {cur : Array Value} {T : TypeId} (hrow : w.heap[b]? = some (.cells cur T (0, 0))) {c1 c2 c3 : List Value} (e : cur.toList = c1 ++ (c2 ++ c3)) (hl : c1.length = off) (hw : c2.length = n)
    {v : Value} (hv : v.cells.toList.length = n) (hone : ∀ u ∈ v.cells.toList, u.oneCell' = true) : (Instr.storeAt t (.pointer (some ⟨b, off, none⟩)) v).run P w = .ok () (w.setRow b (c1 ++ (v.cells.toList ++ c3)).toArray) := by
  have hsz : v.cells.size = n := by simpa using hv
  have hst := run_storeCells_at P b off T v.cells.toList 0 cur w hrow (by
    have : cur.size = (c1 ++ (c2 ++ c3)).length := by rw [← e]; simp
    rw [this]; simp; omega) hone
  have e2 : cur.toList.take off ++ v.cells.toList ++ cur.toList.drop (off + v.cells.toList.length) = c1 ++ (v.cells.toList ++ c3) := by
    rw [e, ← hl, List.take_left, List.append_assoc]
    congr 2
    rw [hv, ← hw, List.drop_length_add_append, List.drop_left]
  simp only [Nat.add_zero, e2] at hst
  simp [Instr.storeAt, Instr.sureAddr, storeVar, hs, hsz, hst]
/-! ## 2. What goes elsewhere -/
structure Src (w : World) (ok : Nat → Prop) (ρ : Nat → Loc) (h : List AObj) (g : Nat) (σ : TT) (z : σ.C) (val : Value) (s : Skel) : Prop where
  owns : (hget h g).owns = true
  cells : TCells w ok σ z s val.cells.toList
  sub : ∀ b ∈ s.blocks, b ∈ (ρ g).bs
  nodup : s.blocks.Nodup
  agg : σ.isAgg = true → val = .agg val.cells.toList.toArray
  one : σ.isAgg = false → val.cells.toList = [val]
theorem takeK_inv {h : List AObj} {ok : Nat → Prop} (hobj : ∀ id, id < h.length → ORel w ρ ok id (hget h id)) {u : AVal} {val : Value} (hv : VRel w ρ h ok u val) {K : (id : Nat) → (σ : TT) → σ.C → Option R} {r : R} (hk : takeK (res h u) K = some r) :
    ∃ g σ z s, K g σ z = some r ∧ Src w ok ρ h g σ z val s ∧ (hget h g).isVt = true := by
  unfold takeK at hk
  split at hk
  · rename_i id ver p τ y e
    split at hk
    · obtain ⟨v0, rfl, ho, hc⟩ := res_tr e
      obtain ⟨_, hval⟩ := tv_val hv ho hc
      obtain ⟨g1, g2, g3⟩ := vt_orel hobj ho
      have hcs : val.cells.toList = (ρ id).cs := by
        cases ha : τ.isAgg with
        | true => rw [hval.1 ha]; simp [Value.cells]
        | false =>
          have e1 := hval.2 ha
          rw [e1] at g3
          rw [cells_of_one (TCells.one _ _ _ _ g3 val (by simp)), e1]
      exact ⟨id, τ, y, (ρ id).sk, hk, ⟨by rw [ho]; rfl, by rw [hcs]; exact g3, fun b hb => by rw [g1]; exact hb, g2, fun ha => by rw [hcs, ← hval.1 ha], fun ha => by rw [hcs]; exact hval.2 ha⟩, by rw [ho]; rfl⟩
    · simp at hk
  · rename_i id g t x e
    obtain ⟨s0, u0, rfl, hvt, hd, ver, ho, hpl⟩ := res_lease hv e
    obtain ⟨p, τ, y⟩ := g
    simp only at hk ho hpl
    split at hk
    · split at hk
      · rename_i σ y
        cases hc : (σ.isAgg && (t.isAgg && Nat.beq t.width σ.width)) with
        | false => rw [hc] at hk; simp at hk
        | true =>
          rw [hc] at hk
          simp only [Bool.and_eq_true] at hc
          obtain ⟨g1, g2, g3⟩ := vt_orel hobj ho
          obtain ⟨b, cc, T, s, e1, e2, e3, e4⟩ := g3
          obtain ⟨b', o, cc', T', c1, c3, k1, k2, k3, k4, k5⟩ := hpl
          rw [e1] at k1
          simp only [addrAt, Option.some.injEq, Prod.mk.injEq] at k1
          obtain ⟨rfl, rfl⟩ := k1
          rw [e3] at k3
          simp only [Option.some.injEq, Obj.cells.injEq] at k3
          obtain ⟨rfl, _, _⟩ := k3
          have l1 := TCells.length _ _ _ _ e4
          have l2 := Cells.length _ _ _ hd.1
          have l3 : t.width = σ.width := Nat.eq_of_beq_eq_true hc.2.2
          have l4 : cc.toList.length = c1.length + (val.cells.toList.length + c3.length) := by rw [k4]; simp
          have z1 : c1 = [] := List.length_eq_zero_iff.1 (by omega)
          have z3 : c3 = [] := List.length_eq_zero_iff.1 (by omega)
          rw [z1, z3] at k4
          simp only [List.nil_append, List.append_nil] at k4
          rw [k4] at e4
          rw [e1] at g2
          simp only [Skel.blocks, List.nodup_cons] at g2
          refine ⟨id, σ, y, s, hk, ⟨by rw [ho]; rfl, e4, fun k hk => by rw [g1, e1]; simp [Skel.blocks, hk], g2.2, fun _ => ?_, fun ha => by rw [ha] at hc; simp at hc⟩, by rw [ho]; rfl⟩
          obtain ⟨cs, e⟩ := hd.2.1.1 hc.2.1
          rw [e]; simp [Value.cells]
      · simp at hk
    · simp at hk
  · simp at hk
theorem row_src {h : List AObj} {ok : Nat → Prop} (hobj : ∀ id, id < h.length → ORel w ρ ok id (hget h id)) {v : AVal} {val : Value} (hv : VRel w ρ h ok v val) {id ver : Nat} {u : Ty} {l : List u.C} (e : res h v = .row id ver u l) :
    Src w ok ρ h id (.vec u) l val (.vec val) := by
  obtain ⟨rfl, ho⟩ := res_row e
  obtain ⟨hl, hsl⟩ := hv
  rw [ho] at hsl
  have hsv := hsl.2 rfl
  have hob := hobj id hl
  rw [ho] at hob
  have key : VecC w ok u l val ∧ (∀ b ∈ vecBs val, b ∈ (ρ id).bs) ∧ (vecBs val).Nodup ∧ val.oneCell' = true := by
    rcases hsv with ⟨hn, rfl⟩ | ⟨b, c, cs, T, hb, rfl, hrow, hsz, hlc⟩
    · rcases hob with ⟨_, h0⟩ | ⟨b, _, _, _, _, hb, _⟩
      · exact ⟨.inl ⟨rfl, h0⟩, by simp [vecBs], by simp [vecBs], by simp [Value.oneCell']⟩
      · rw [hn] at hb; cases hb
    · rcases hob with ⟨hn, _⟩ | ⟨b', cs', T', cc, rst, hb', hrow', ecc, hrc⟩
      · rw [hn] at hb; cases hb
      obtain rfl : b = b' := by rw [hb] at hb'; simpa using hb'
      rw [hrow] at hrow'
      simp only [Option.some.injEq, Obj.cells.injEq] at hrow'
      obtain ⟨rfl, rfl, _⟩ := hrow'
      exact ⟨.inr ⟨b, 0, c, cs, T, [], cc, rst, rfl, hrow, by simpa using ecc, rfl, by simpa using hsz, hlc, hrc⟩, by simp [vecBs, hb], by simp [vecBs], by simp [Value.oneCell']⟩
  obtain ⟨k1, k2, k3, k4⟩ := key
  exact ⟨by rw [ho]; rfl, ⟨val, rfl, by rw [cells_of_one k4], k1⟩, by simpa [Skel.blocks] using k2, by simpa [Skel.blocks] using k3, fun h => by simp [TT.isAgg] at h, fun _ => by rw [cells_of_one k4]⟩
/-! ## 3. Into a place -/
def goneH (gone : Option Nat) (h : List AObj) : List AObj := match gone with
  | some g => hset h g .none
  | none => h
theorem Open.place (h : Open F w0 st a w ρ) {id : Nat} {ver : Ver} {p : List Nat} {τ τ' τ'' τ1 : TT} {x : τ.C} {x' : τ'.C} {x'' : τ''.C} {x1 : τ1.C} (ho : hget st.heap id = .vt ver τ x) {b o : Nat} (ha : addrAt p τ (ρ id).sk none = some (b, o))
    (hre : Re p τ x τ' x' τ'' x'' τ1 x1) (hag : τ1.isAgg = τ.isAgg) {gone : Option Nat} {s2 : Skel} {cs2 : List Value} (hg : ∀ g, gone = some g → g ≠ id ∧ (hget st.heap g).owns = true) (hc : TCells w (okOf F w ρ st.heap) τ'' x'' s2 cs2)
    (hb : ∀ k ∈ s2.blocks, ∃ g, gone = some g ∧ k ∈ (ρ g).bs) (hn : s2.blocks.Nodup) (hw : cs2.length = τ'.width) :
    ∃ cur T c1 c2 c3, w.heap[b]? = some (.cells cur T (0, 0)) ∧ cur.toList = c1 ++ (c2 ++ c3) ∧ c1.length = o ∧ c2.length = τ'.width ∧ ∀ dst,
      Rel F w0 ⟨putD st.tmps dst .undef, goneH gone (hset st.heap id (.vt ver.up τ1 x1))⟩ (a.put dst undef) (w.setRow b (c1 ++ (cs2 ++ c3)).toArray) := by
  obtain ⟨g1, g2, g3⟩ := vt_orel h.hrel.obj ho
  have hown : (hget st.heap id).owns = true := by rw [ho]; rfl
  obtain ⟨sk', cs', cc, T, c1, c3, k1, k2, k3, k4, k5, k6, k7, k8, k9⟩ := hre.mem g3 g2 ha
  have hl' := TCells.length _ _ _ _ k2
  refine ⟨cc, T, c1, cs', c3, k6, k7, k8, hl', fun dst => ?_⟩
  have hbb : b ∈ (ρ id).bs := by rw [g1]; exact k4
  have apart : ∀ k ∈ s2.blocks, k ∉ (ρ id).bs := fun k hk hk' => by
    obtain ⟨g, e, hk2⟩ := hb k hk
    exact (hg g e).1 (h.hrel.inj g id k (hg g e).2 hown hk2 hk')
  have swap : Swap (ρ id).sk.blocks (skSet p τ (ρ id).sk s2).blocks sk'.blocks s2.blocks :=
    (k9 (w.setRow b (c1 ++ (cs2 ++ c3)).toArray) (fun _ => True) s2 cs2 (fun k hk => ⟨trivial, setRow_other w b k _ (fun e => hk.2.2 id hown (by rw [e]; exact hbb))⟩) (fun k hk _ hne => setRow_other w b k _ hne) (setRow_heap w b cc _ T _ k6)
      (TCells.mono (fun k hk => ⟨trivial, setRow_other w b k _ (fun e => hk.2.2 id hown (by rw [e]; exact hbb))⟩) _ _ _ _ (fun k hk => setRow_other w b k _ (fun e => apart k hk (by rw [e]; exact hbb))) hc) (by rw [hw, hl'])).2
  have mem : ∀ k ∈ (skSet p τ (ρ id).sk s2).blocks, k ∈ s2.blocks ∨ k ∈ (ρ id).bs := fun k hk => (swap.mem' g2 k hk).imp (fun h => h) fun h => by rw [g1]; exact h.1
  have c : Reshape w ρ st.heap id gone (w.setRow b (c1 ++ (cs2 ++ c3)).toArray) (skSet p τ (ρ id).sk s2) Loc.nil := by
    refine ⟨by simp, hg, fun k hk hn' _ => setRow_other w b k _ (fun e => hn' (by rw [e]; exact hbb)), swap.nodup g2 hn (fun k hk hk' => absurd (by rw [g1]; exact hk') (apart k hk)), ?_, fun k _ => by simp [Loc.nil]⟩
    rintro k (hk | hk)
    · rcases mem k hk with h1 | h1
      · obtain ⟨g, e, hk2⟩ := hb k h1
        exact ⟨by simpa using (h.hrel.own g k (hg g e).2 hk2).2, .inr (.inr ⟨g, e, hk2⟩)⟩
      · exact ⟨by simpa using (h.hrel.own id k hown h1).2, .inr (.inl h1)⟩
    · simp [Loc.nil] at hk
  refine h.reshape (new := none) (l2 := Loc.nil) (v := .undef) (val := Go.undef) (x1 := x1) (h' := goneH gone (hset st.heap id (.vt ver.up τ1 x1))) ho c hag (by cases gone <;> simp [newObj?, goneH]) rfl rfl rfl (fun hd => ⟨?_, fun o e => by cases e⟩) (fun _ _ _ => (show Go.undef = Go.undef from rfl)) dst
  refine (k9 _ _ s2 cs2 hd (fun k hk _ hne => setRow_other w b k _ hne) (setRow_heap w b cc _ T _ k6) ?_ (by rw [hw, hl'])).1
  exact TCells.mono hd _ _ _ _ (fun k hk => setRow_other w b k _ (fun e => apart k hk (by rw [e]; exact hbb))) hc
theorem addr_ne {p : List Nat} {τ : TT} {sk : Skel} {b o : Nat} (h : addrAt p τ sk none = some (b, o)) : p ≠ [] := by
  intro e; subst e; simp [addrAt] at h
/-! ## 4. What comes anew -/
structure Fresh (w : World) (ρ : Nat → Loc) (h : List AObj) (gone : Option Nat) (w' : World) (l : Loc) : Prop where
  size : w.heap.size ≤ w'.heap.size
  goes : ∀ g, gone = some g → (hget h g).owns = true
  blk : ∀ b, b < w.heap.size → (∀ g, gone = some g → b ∉ (ρ g).bs) → w'.heap[b]? = w.heap[b]?
  own : ∀ b, b ∈ l.bs → b < w'.heap.size ∧ (w.heap.size ≤ b ∨ ∃ g, gone = some g ∧ b ∈ (ρ g).bs)
theorem Open.fresh (h : Open F w0 st a w ρ) {gone : Option Nat} {l : Loc} {o : AObj} (c : Fresh w ρ st.heap gone w' l) (hos : w'.os = w.os) (htp : w'.tape = w.tape) (hout : w'.output = w.output)
    (hobj : (∀ b, okOf F w ρ st.heap b → okOf F w' (setρ ρ st.heap.length l) (goneH gone st.heap ++ [o]) b ∧ w'.heap[b]? = w.heap[b]?) → ORel w' (setρ ρ st.heap.length l) (okOf F w' (setρ ρ st.heap.length l) (goneH gone st.heap ++ [o])) st.heap.length o)
    {v : AVal} {val : Value} (hv : hget (goneH gone st.heap ++ [o]) st.heap.length = o → VRel w' (setρ ρ st.heap.length l) (goneH gone st.heap ++ [o]) (okOf F w' (setρ ρ st.heap.length l) (goneH gone st.heap ++ [o])) v val) (dst : Option Tmp) :
    Rel F w0 ⟨putD st.tmps dst v, goneH gone st.heap ++ [o]⟩ (a.put dst val) w' := by
  have hgl : ∀ g, gone = some g → g < st.heap.length := fun g e => owns_lt (c.goes g e)
  have hlen : (goneH gone st.heap).length = st.heap.length := by cases gone <;> simp [goneH, length_hset]
  have old : ∀ i, i < st.heap.length → hget (goneH gone st.heap ++ [o]) i = hget (goneH gone st.heap) i := fun i hi => hget_append_lt _ _ _ (by rw [hlen]; exact hi)
  have hgone : ∀ g, gone = some g → hget (goneH gone st.heap) g = .none := fun g e => by subst e; exact hget_hset_self (hgl g rfl)
  have hoth : ∀ i, gone ≠ some i → hget (goneH gone st.heap) i = hget st.heap i := fun i hi => by
    cases gone with
    | none => rfl
    | some g => exact hget_hset_ne (fun e => hi (by rw [e]))
  have hnew : hget (goneH gone st.heap ++ [o]) st.heap.length = o := by
    have := hget_append_ge (goneH gone st.heap) [o] 0
    rw [Nat.add_zero, hlen] at this
    simpa [hget] using this
  have hblk' : ∀ b, b < w.heap.size → (∀ i, (gone = some i ∨ i = st.heap.length) → (hget st.heap i).owns = true → b ∉ (ρ i).bs) → w'.heap[b]? = w.heap[b]? := fun b hb hn =>
    c.blk b hb fun g e => hn g (.inl e) (c.goes g e)
  have hS : ∀ i, (gone = some i ∨ i = st.heap.length) → ∀ b, (hget (goneH gone st.heap ++ [o]) i).owns = true → b ∈ (setρ ρ st.heap.length l i).bs → i = st.heap.length ∧ b ∈ l.bs := by
    intro i hi b ho' hb
    by_cases e' : i = st.heap.length
    · subst e'; simp [setρ] at hb; exact ⟨rfl, hb⟩
    · rcases hi with hi | hi
      · rw [old i (hgl i hi), hgone i hi] at ho'; simp [AObj.owns] at ho'
      · exact absurd hi e'
  have t : Turn F (fun i => gone = some i ∨ i = st.heap.length) w ρ st.heap w' (setρ ρ st.heap.length l) (goneH gone st.heap ++ [o]) := by
    refine ⟨by simp [hlen], fun i hi hs => ?_, fun i h1 h2 => .inr (by simp [hlen] at h2; omega), c.size, hblk', fun i b hi ho' hb => ?_, fun i j b hi hj ho' ho'' hb hb' => ?_, fun hd i hi hil => ?_, fun i hi hil hvt => ?_, fun i hi hil => ?_⟩
    · simp only [not_or] at hs
      exact ⟨by rw [old i hi]; exact hoth i hs.1, by simp [setρ, hs.2]⟩
    · obtain ⟨g1, g2⟩ := c.own b (hS i hi b ho' hb).2
      exact ⟨g1, g2.imp (fun h => h) fun ⟨g, g3, g4⟩ => ⟨g, .inl g3, c.goes g g3, g4⟩⟩
    · rw [(hS i hi b ho' hb).1, (hS j hj b ho'' hb').1]
    · rcases hi with hi | hi
      · rw [old i (hgl i hi), hgone i hi]; trivial
      · subst hi; rw [hnew]; exact hobj hd
    · rcases hi with hi | hi
      · rw [old i (hgl i hi), hgone i hi] at hvt; cases hvt
      · omega
    · rcases hi with hi | hi
      · exact .inl (by rw [old i (hgl i hi), hgone i hi])
      · omega
  exact h.turn t (h.nearS (S := fun i => gone = some i ∨ i = st.heap.length) hos htp hout c.size hblk') (hv hnew) dst
theorem Open.newVt (h : Open F w0 st a w ρ) {gone : Option Nat} {σ : TT} {z : σ.C} {s : Skel} {cs : Array Value} (T : TypeId) (hg : ∀ g, gone = some g → (hget st.heap g).owns = true) (hc : TCells w (okOf F w ρ st.heap) σ z s cs.toList)
    (hb : ∀ k ∈ s.blocks, ∃ g, gone = some g ∧ k ∈ (ρ g).bs) (hn : s.blocks.Nodup) (dst : Option Tmp) :
    Rel F w0 ⟨putD st.tmps dst (.tv st.heap.length 0 []), goneH gone st.heap ++ [.vt ⟨0, 0⟩ (.own σ) z]⟩ (a.put dst (.pointer (some ⟨w.heap.size, 0, none⟩))) (w.alloc (.cells cs T (0, 0))) := by
  have hlt : ∀ k ∈ s.blocks, k < w.heap.size := fun k hk => by
    obtain ⟨g, e, h1⟩ := hb k hk
    exact (h.hrel.own g k (hg g e) h1).2
  have c : Fresh w ρ st.heap gone (w.alloc (.cells cs T (0, 0))) ⟨w.heap.size :: s.blocks, [.pointer (some ⟨w.heap.size, 0, none⟩)], .own w.heap.size s⟩ := by
    refine ⟨by simp, hg, fun b hb' _ => alloc_old b hb', fun b hb' => ?_⟩
    rcases List.mem_cons.1 hb' with e | e
    · subst e; exact ⟨by simp, .inl (Nat.le_refl _)⟩
    · exact ⟨by have := hlt b e; simp; omega, .inr (hb b e)⟩
  refine h.fresh c rfl rfl rfl (fun hd => ?_) (fun hnew => ?_) dst
  · have hr : setρ ρ st.heap.length ⟨w.heap.size :: s.blocks, [.pointer (some ⟨w.heap.size, 0, none⟩)], .own w.heap.size s⟩ st.heap.length = ⟨w.heap.size :: s.blocks, [.pointer (some ⟨w.heap.size, 0, none⟩)], .own w.heap.size s⟩ := by simp [setρ]
    show _ ∧ _ ∧ _
    rw [hr]
    refine ⟨rfl, ?_, w.heap.size, cs, T, s, rfl, rfl, heap_alloc_new w _, TCells.mono hd _ _ _ _ (fun k hk => alloc_old k (hlt k hk)) hc⟩
    simp only [List.nodup_cons]
    exact ⟨fun hm => by have := hlt _ hm; omega, hn⟩
  · refine ⟨by cases gone <;> simp [goneH, length_hset], ?_⟩
    rw [hnew]
    refine ⟨Nat.le_refl _, fun _ => ⟨fun e => by simp [TT.isAgg] at e, fun _ => by simp [setρ]⟩⟩
end
end Go.PB
namespace Go.PB
open Go Go.RowKit
section
variable {F : Fr} {P : Program} {G : Gv} {env : Env} {w0 w w' : World} {st : St} {a : Act} {ρ : Nat → Loc} {R : Type} {tt : Tab}
theorem res_nilp {h : List AObj} {ok : Nat → Prop} {u : AVal} {val : Value} (hv : VRel w ρ h ok u val) (hu : res h u = .nilp) : val = .pointer none := by
  have : u = .nilp := by
    cases u with
    | nilp => rfl
    | ptr id p => simp only [res] at hu; split at hu <;> simp at hu
    | osl id ver => simp only [res] at hu; split at hu <;> (try (cases hc : (ver == ‹Nat›) <;> simp [hc] at hu)) <;> simp at hu
    | eptr id v i p => simp only [res] at hu; split at hu <;> (try (cases hc : (v == ‹Nat›) <;> simp [hc] at hu)) <;> simp at hu
    | iter id => simp only [res] at hu; split at hu <;> simp at hu
    | tv id ver p => rcases res_tv_cases _ id ver p with e' | ⟨_, _, _, e'⟩ <;> rw [e'] at hu <;> simp at hu
    | ad id ver p => rcases res_ad_cases _ id ver p with e' | ⟨_, _, _, e'⟩ <;> rw [e'] at hu <;> simp at hu
    | elt id ver p i q => rcases res_elt_cases _ id ver p i q with e' | ⟨_, _, _, e'⟩ <;> rw [e'] at hu <;> simp at hu
    | lease id s u t x => rcases res_lease_cases _ id s u t x with e' | ⟨_, e'⟩ <;> rw [e'] at hu <;> simp at hu
    | _ => simp [res] at hu
  rw [this] at hv; exact hv
theorem fitT_inv (hT : TTOk P tt) {t : TypeId} {τ' σ : TT} {z : σ.C} {k : (τ'' : TT) → τ''.C → Option R} {r : R} (hk : fitT tt t τ' σ z k = some r) :
    ∃ τ'' y, k τ'' y = some r ∧ (∀ (w : World) ok s cs, TCells w ok σ z s cs → TCells w ok τ'' y s cs) ∧ σ.width = τ'.width ∧ (sizeOf t).run P w = .ok σ.width w := by
  unfold fitT at hk
  cases ha : σ.isAgg with
  | true =>
    rw [ha] at hk
    simp only [cond_true] at hk
    split at hk
    · rename_i n e
      cases hc : (τ'.isAgg && (Nat.beq τ'.width n && Nat.beq σ.width n)) with
      | false => rw [hc] at hk; simp at hk
      | true =>
        rw [hc] at hk
        simp only [Bool.and_eq_true] at hc
        have e1 := Nat.eq_of_beq_eq_true hc.2.1
        have e2 := Nat.eq_of_beq_eq_true hc.2.2
        exact ⟨σ, z, hk, fun _ _ _ _ h => h, by rw [e1, e2], by rw [e2]; exact (aggW_ok hT e).1⟩
    · simp at hk
  | false =>
    rw [ha] at hk
    simp only [cond_false] at hk
    cases hc : (tt.one t && Nat.beq σ.width 1) with
    | false => rw [hc] at hk; simp at hk
    | true =>
      rw [hc] at hk
      simp only [cond_true] at hk
      simp only [Bool.and_eq_true] at hc
      have e1 := Nat.eq_of_beq_eq_true hc.2
      have e2 : (sizeOf t).run P w = .ok σ.width w := by rw [e1]; exact (one_ok hT hc.1).1
      cases τ' with
      | opt τo =>
        cases σ with
        | own σ2 =>
          obtain ⟨e, hk⟩ := castT_inv hk
          subst e
          exact ⟨.opt σ2, some z, hk, fun _ _ _ _ h => h, e1, e2⟩
        | _ => simp at hk
      | own _ => exact ⟨σ, z, hk, fun _ _ _ _ h => h, e1, e2⟩
      | map _ _ => exact ⟨σ, z, hk, fun _ _ _ _ h => h, e1, e2⟩
      | vec _ => exact ⟨σ, z, hk, fun _ _ _ _ h => h, e1, e2⟩
      | hole => exact ⟨σ, z, hk, fun _ _ _ _ h => h, e1, e2⟩
      | _ => simp at hk
theorem rowT_inv {τ' : TT} {u : Ty} {l : List u.C} {k : (τ'' : TT) → τ''.C → Option R} {r : R} (hk : rowT τ' u l k = some r) : k (.vec u) l = some r ∧ τ'.width = 1 := by
  unfold rowT at hk
  split at hk
  · exact ⟨hk, rfl⟩
  · exact ⟨hk, rfl⟩
  · exact ⟨hk, rfl⟩
  · simp at hk
theorem nilT_inv (hT : TTOk P tt) {h : List AObj} {ok : Nat → Prop} {u : AVal} {val : Value} (hv : VRel w ρ h ok u val) {t : TypeId} {τ' : TT} {k : (τ'' : TT) → τ''.C → Option R} {r : R} (hk : nilT tt t τ' (res h u) k = some r) :
    ∃ τ'' y s, k τ'' y = some r ∧ TCells w ok τ'' y s val.cells.toList ∧ s.blocks = [] ∧ τ'.width = 1 ∧ val.cells.toList.length = 1 ∧ (sizeOf t).run P w = .ok 1 w := by
  unfold nilT at hk
  have one : ∀ {x : Option R}, cond (tt.one t) x none = some r → x = some r ∧ (sizeOf t).run P w = .ok 1 w := fun {x} hx => by
    cases h1 : tt.one t with
    | false => rw [h1] at hx; simp at hx
    | true => rw [h1] at hx; exact ⟨hx, (one_ok hT h1).1⟩
  split at hk
  · rename_i u' e
    obtain ⟨hk, hs⟩ := one hk
    rw [res_nils e] at hv
    obtain rfl : val = .slice none 0 0 := hv
    exact ⟨_, _, .vec (.slice none 0 0), hk, ⟨_, rfl, rfl, .inl ⟨rfl, rfl⟩⟩, rfl, rfl, rfl, hs⟩
  · rename_i σ e
    obtain ⟨hk, hs⟩ := one hk
    obtain rfl := res_nilp hv e
    exact ⟨_, _, .nil, hk, ⟨rfl, rfl⟩, rfl, rfl, rfl, hs⟩
  · rename_i σ e
    obtain ⟨hk, hs⟩ := one hk
    obtain rfl := res_nilp hv e
    exact ⟨_, _, .nil, hk, ⟨rfl, rfl⟩, rfl, rfl, rfl, hs⟩
  · rename_i u' e
    obtain ⟨hk, hs⟩ := one hk
    rw [res_nils e] at hv
    obtain rfl : val = .slice none 0 0 := hv
    exact ⟨_, _, .leaf, hk, ⟨rfl, (dval_list ⟨none, 0, rfl, Nat.le_refl _, .inl rfl⟩ : DVal w ok (.list u') [] (.slice none 0 0)).1⟩, rfl, rfl, rfl, hs⟩
  · simp at hk
theorem Open.storeX (hT : TTOk P tt) (h : Open F w0 st a w ρ) {ty : TypeId} {x y : Operand} {K : Out → Option R} {r : R} (hk : PB.storeX tt ty (res st.heap (PB.ev st.tmps x)) (res st.heap (PB.ev st.tmps y)) K = some r) :
    ∃ out w', K out = some r ∧ (Instr.storeAt ty (a.eval x) (a.eval y)).run P w = .ok () w' ∧ ∀ dst, Rel F w0 (st.after dst out) (a.put dst undef) w' := by
  have hx := h.ev x
  have hy := h.ev y
  -- into a place
  have put : ∀ {id : Nat} {ver : Ver} {p : List Nat} {τ τ' τ'' τ1 : TT} {x0 : τ.C} {x' : τ'.C} {x'' : τ''.C} {x1 : τ1.C} {b o : Nat} {gone : Option Nat} {s2 : Skel} {out : Out}, hget st.heap id = .vt ver τ x0 → addrAt p τ (ρ id).sk none = some (b, o) → a.eval x = .pointer (some ⟨b, o, none⟩) →
      Re p τ x0 τ' x' τ'' x'' τ1 x1 → τ1.isAgg = τ.isAgg → (∀ g, gone = some g → g ≠ id ∧ (hget st.heap g).owns = true) → TCells w (okOf F w ρ st.heap) τ'' x'' s2 (a.eval y).cells.toList → (∀ k ∈ s2.blocks, ∃ g, gone = some g ∧ k ∈ (ρ g).bs) → s2.blocks.Nodup →
      (a.eval y).cells.toList.length = τ'.width → (sizeOf ty).run P w = .ok τ'.width w → K out = some r → (∀ dst, st.after dst out = ⟨putD st.tmps dst .undef, goneH gone (hset st.heap id (.vt ver.up τ1 x1))⟩) →
      ∃ out w', K out = some r ∧ (Instr.storeAt ty (a.eval x) (a.eval y)).run P w = .ok () w' ∧ ∀ dst, Rel F w0 (st.after dst out) (a.put dst undef) w' := by
    intro id ver p τ τ' τ'' τ1 x0 x' x'' x1 b o gone s2 out ho ha hval hre hag hg hc hb hn hw hs hK hst
    obtain ⟨cur, T, c1, c2, c3, g1, g2, g3, g4, g5⟩ := h.place ho ha hre hag hg hc hb hn hw
    refine ⟨out, _, hK, by rw [hval]; exact run_storeT hs g1 g2 g3 g4 hw (TCells.one _ _ _ _ hc), fun dst => ?_⟩
    rw [hst dst]
    exact g5 dst
  have go : ∀ {K0 : (id : Nat) → (ver : Ver) → (p : List Nat) → (τ : TT) → τ.C → Option R}, ptrK (res st.heap (PB.ev st.tmps x)) K0 = some r → (∀ id ver p τ x0 b o, K0 id ver p τ x0 = some r → hget st.heap id = .vt ver τ x0 → addrAt p τ (ρ id).sk none = some (b, o) → a.eval x = .pointer (some ⟨b, o, none⟩) →
      ∃ out w', K out = some r ∧ (Instr.storeAt ty (a.eval x) (a.eval y)).run P w = .ok () w' ∧ ∀ dst, Rel F w0 (st.after dst out) (a.put dst undef) w') →
      ∃ out w', K out = some r ∧ (Instr.storeAt ty (a.eval x) (a.eval y)).run P w = .ok () w' ∧ ∀ dst, Rel F w0 (st.after dst out) (a.put dst undef) w' := by
    intro K0 hk0 hc
    obtain ⟨id, ver, p, τ, x0, hK, _, ho, b, o, ha, hval⟩ := ptr_ok h.hrel.obj hx hk0
    exact hc id ver p τ x0 b o hK ho ha hval
  unfold PB.storeX at hk
  split at hk
  · rename_i id ver p τ x0 i q e
    obtain ⟨e0, ho⟩ := res_elt e
    rw [e0] at hx
    obtain ⟨hl, hp⟩ := hx
    rw [ho] at hp
    obtain ⟨t1, b, o, n, c, off, t', hg, g1, hil, g2, hval⟩ := hp.2 rfl
    split at hk
    · rename_i t0 hty
      obtain ⟨z, hk, hd⟩ := dataK_inv hy hk
      obtain ⟨τ', x', k, hk, hget, hrest⟩ := modK_inv hk
      have e1 := getT_code hget
      rw [hg] at e1
      obtain rfl : TT.vec t1 = τ' := Option.some.inj e1
      simp only at hk
      rw [setK_nat (α := t1.C) (fun e => k (.vec t1) (List.set x' i e)) q t1 _ t0 z some (fun e => k (.vec t1) (List.set x' i e)) (fun _ => rfl)] at hk
      obtain ⟨e2, hset, hk⟩ := Option.bind_eq_some_iff.1 hk
      obtain ⟨T, X, hK, hre, hty', _⟩ := hrest _ _ _ hk
      obtain rfl := hty' rfl
      obtain ⟨w', hrun, hrel⟩ := h.storeElem hT ho g1 hil g2 hty hset (fun e' he => Option.some.inj he) hre hd
      exact ⟨_, w', hK, by rw [hval]; exact hrun, hrel⟩
    · simp at hk
  · have two : ∀ {v : RVal}, v = res st.heap (PB.ev st.tmps y) → ∀ {id ver p} {τ : TT} {x0 : τ.C} {b o : Nat}, takeK v (fun id2 σ z => cond (Nat.beq id id2) none (TT.modK p τ x0 (fun τ' _ k => fitT tt ty τ' σ z k) fun τ1 x1 => K (.gen [(id, .vt ver.up τ1 x1), (id2, .none)] .undef))) = some r →
        hget st.heap id = .vt ver τ x0 → addrAt p τ (ρ id).sk none = some (b, o) → a.eval x = .pointer (some ⟨b, o, none⟩) → ∃ out w', K out = some r ∧ (Instr.storeAt ty (a.eval x) (a.eval y)).run P w = .ok () w' ∧ ∀ dst, Rel F w0 (st.after dst out) (a.put dst undef) w' := by
      intro v ev id ver p τ x0 b o hk ho ha hval
      subst ev
      obtain ⟨g, σ, z, s, hk, src, _⟩ := takeK_inv h.hrel.obj hy hk
      cases hne : Nat.beq id g with
      | true => rw [hne] at hk; simp at hk
      | false =>
        rw [hne] at hk
        simp only [cond_false] at hk
        obtain ⟨τ', x', k, hk, hget, hrest⟩ := modK_inv hk
        obtain ⟨τ'', y', hk, hcells, hw, hs⟩ := fitT_inv (w := w) hT hk
        obtain ⟨T, X, hK, hre, _, hag, _⟩ := hrest _ _ _ hk
        have hl := TCells.length _ _ _ _ src.cells
        exact put (gone := some g) ho ha hval hre (hag (addr_ne ha)) (fun g' e => by obtain rfl := Option.some.inj e; exact ⟨fun e => by rw [e, Nat.beq_refl] at hne; simp at hne, src.owns⟩)
          (hcells _ _ _ _ src.cells) (fun k hk => ⟨g, rfl, src.sub k hk⟩) src.nodup (by rw [hl, hw]) (by rw [← hw]; exact hs) hK (fun dst => rfl)
    refine go hk fun id ver p τ x0 b o hk ho ha hval => ?_
    split at hk
    · rename_i e; exact two rfl hk ho ha hval
    · rename_i e; exact two rfl hk ho ha hval
    · rename_i id2 ver2 u l e
      cases h1 : tt.one ty with
      | false => rw [h1] at hk; simp at hk
      | true =>
        rw [h1] at hk
        simp only [cond_true] at hk
        cases hne : Nat.beq id id2 with
        | true => rw [hne] at hk; simp at hk
        | false =>
          rw [hne] at hk
          simp only [cond_false] at hk
          have src := row_src h.hrel.obj hy e
          obtain ⟨τ', x', k, hk, hget, hrest⟩ := modK_inv hk
          obtain ⟨hk, hw⟩ := rowT_inv hk
          obtain ⟨T, X, hK, hre, _, hag, _⟩ := hrest _ _ _ hk
          have hl := TCells.length _ _ _ _ src.cells
          exact put (gone := some id2) ho ha hval hre (hag (addr_ne ha)) (fun g' e => by obtain rfl := Option.some.inj e; exact ⟨fun e => by rw [e, Nat.beq_refl] at hne; simp at hne, src.owns⟩)
            src.cells (fun k hk => ⟨id2, rfl, src.sub k hk⟩) src.nodup (by rw [hl, hw]; rfl) (by rw [hw]; exact (one_ok hT h1).1) hK (fun dst => rfl)
    · obtain ⟨τ', x', k, hk, hget, hrest⟩ := modK_inv hk
      unfold datT at hk
      split at hk
      · rename_i t'
        split at hk
        · rename_i t0 hty
          obtain ⟨z, hk, hd⟩ := dataK_inv hy hk
          obtain ⟨e, hk⟩ := castK_inv hk
          subst e
          obtain ⟨T, X, hK, hre, hty', _⟩ := hrest _ _ _ hk
          obtain rfl := hty' rfl
          obtain ⟨w', hrun, hrel⟩ := h.storeData hT ho ha hty hre hd
          exact ⟨_, w', hK, by rw [hval]; exact hrun, hrel⟩
        · simp at hk
      · simp at hk
    · obtain ⟨τ', x', k, hk, hget, hrest⟩ := modK_inv hk
      obtain ⟨τ'', y', s, hk, hc, hb, hw, hl, hs⟩ := nilT_inv hT hy hk
      obtain ⟨T, X, hK, hre, _, hag, _⟩ := hrest _ _ _ hk
      exact put (gone := none) ho ha hval hre (hag (addr_ne ha)) (fun g' e => by cases e) hc (fun k hk => by rw [hb] at hk; simp at hk) (by rw [hb]; simp) (by rw [hl, hw]) (by rw [hw]; exact hs) hK (fun dst => rfl)
/-! ## New variables -/
theorem ofD_inv {ok : Nat → Prop} : ∀ {τ : TT} {t : Ty} {x : t.C} {K : τ.C → Option R} {r : R} {cs : List Value}, ofD τ t x K = some r → Cells w ok t x cs → ∃ y s, K y = some r ∧ TCells w ok τ y s cs ∧ s.blocks = []
  | .data u, t, x, K, r, cs, hk, hc => by
    obtain ⟨e, hk⟩ := castK_inv hk
    subst e
    exact ⟨x, .leaf, hk, ⟨rfl, hc⟩, rfl⟩
  | .unit, .unit, _, K, r, cs, hk, hc => ⟨(), .leaf, hk, ⟨rfl, hc⟩, rfl⟩
  | .pair a b, .pair t u, x, K, r, cs, hk, ⟨c1, c2, e, h1, h2⟩ => by
    obtain ⟨y, s1, k1, k2, k3⟩ := ofD_inv (τ := a) (t := t) hk h1
    obtain ⟨z, s2, k4, k5, k6⟩ := ofD_inv (τ := b) (t := u) k1 h2
    exact ⟨(y, z), .pair s1 s2, k4, ⟨s1, s2, c1, c2, rfl, e, k2, k5⟩, by simp [Skel.blocks, k3, k6]⟩
  | .agg τ, .agg t, x, K, r, cs, hk, hc => by
    obtain ⟨y, s, k1, k2, k3⟩ := ofD_inv (τ := τ) (t := t) hk hc
    exact ⟨y, s, k1, k2, k3⟩
  | .unit, .int _, _, _, _, _, hk, _ => by simp [ofD] at hk
  | .unit, .bool, _, _, _, _, hk, _ => by simp [ofD] at hk
  | .unit, .err, _, _, _, _, hk, _ => by simp [ofD] at hk
  | .unit, .str, _, _, _, _, hk, _ => by simp [ofD] at hk
  | .unit, .list _, _, _, _, _, hk, _ => by simp [ofD] at hk
  | .unit, .pair _ _, _, _, _, _, hk, _ => by simp [ofD] at hk
  | .unit, .agg _, _, _, _, _, hk, _ => by simp [ofD] at hk
  | .unit, .arr _ _, _, _, _, _, hk, _ => by simp [ofD] at hk
  | .pair _ _, .unit, _, _, _, _, hk, _ => by simp [ofD] at hk
  | .pair _ _, .int _, _, _, _, _, hk, _ => by simp [ofD] at hk
  | .pair _ _, .bool, _, _, _, _, hk, _ => by simp [ofD] at hk
  | .pair _ _, .err, _, _, _, _, hk, _ => by simp [ofD] at hk
  | .pair _ _, .str, _, _, _, _, hk, _ => by simp [ofD] at hk
  | .pair _ _, .list _, _, _, _, _, hk, _ => by simp [ofD] at hk
  | .pair _ _, .agg _, _, _, _, _, hk, _ => by simp [ofD] at hk
  | .pair _ _, .arr _ _, _, _, _, _, hk, _ => by simp [ofD] at hk
  | .agg _, .unit, _, _, _, _, hk, _ => by simp [ofD] at hk
  | .agg _, .int _, _, _, _, _, hk, _ => by simp [ofD] at hk
  | .agg _, .bool, _, _, _, _, hk, _ => by simp [ofD] at hk
  | .agg _, .err, _, _, _, _, hk, _ => by simp [ofD] at hk
  | .agg _, .str, _, _, _, _, hk, _ => by simp [ofD] at hk
  | .agg _, .list _, _, _, _, _, hk, _ => by simp [ofD] at hk
  | .agg _, .pair _ _, _, _, _, _, hk, _ => by simp [ofD] at hk
  | .agg _, .arr _ _, _, _, _, _, hk, _ => by simp [ofD] at hk
  | .vec _, _, _, _, _, _, hk, _ => by simp [ofD] at hk
  | .map _ _, _, _, _, _, _, hk, _ => by simp [ofD] at hk
  | .own _, _, _, _, _, _, hk, _ => by simp [ofD] at hk
  | .opt _, _, _, _, _, _, hk, _ => by simp [ofD] at hk
  | .hole, _, _, _, _, _, hk, _ => by simp [ofD] at hk
theorem Open.boxX (h : Open F w0 st a w ρ) {e : TypeId} {τ : TT} {x : Operand} {K : Out → Option R} {r : R} (hk : PB.boxX tt e τ (res st.heap (PB.ev st.tmps x)) K = some r) :
    ∃ out val w', K out = some r ∧ (Instr.box e (a.eval x)).run P w = .ok val w' ∧ ∀ dst, Rel F w0 (st.after dst out) (a.put dst val) w' := by
  have hx := h.ev x
  have run : (Instr.box e (a.eval x)).run P w = .ok (.pointer (some ⟨w.heap.size, 0, none⟩)) (w.alloc (.cells (a.eval x).cells e (0, 0))) := by simp [Instr.box, newVar, newRow]
  have two : ∀ {v : RVal}, v = res st.heap (PB.ev st.tmps x) → takeK v (fun id2 σ z => cond (Nat.beq σ.width τ.width && (σ.isAgg == τ.isAgg)) (K (.genN [(id2, .none)] (.vt ⟨0, 0⟩ (.own σ) z) .new)) none) = some r →
      ∃ out val w', K out = some r ∧ (Instr.box e (a.eval x)).run P w = .ok val w' ∧ ∀ dst, Rel F w0 (st.after dst out) (a.put dst val) w' := by
    intro v ev hk
    subst ev
    obtain ⟨g, σ, z, s, hk, src, _⟩ := takeK_inv h.hrel.obj hx hk
    cases hc : (Nat.beq σ.width τ.width && (σ.isAgg == τ.isAgg)) with
    | false => rw [hc] at hk; simp at hk
    | true =>
      rw [hc] at hk
      refine ⟨_, _, _, hk, run, fun dst => ?_⟩
      have := h.newVt (gone := some g) e (fun g' e => by obtain rfl := Option.some.inj e; exact src.owns) src.cells (fun k hk => ⟨g, rfl, src.sub k hk⟩) src.nodup dst
      simpa [St.after, Out.value, hsets, NV.val, length_hset, goneH] using this
  unfold PB.boxX at hk
  split at hk
  · rename_i u y e1
    have hd := res_data hx e1
    obtain ⟨z, s, hk, hc, hb⟩ := ofD_inv hk hd.1
    refine ⟨_, _, _, hk, run, fun dst => ?_⟩
    have := h.newVt (gone := none) e (fun g' e => by cases e) hc (fun k hk => by rw [hb] at hk; simp at hk) (by rw [hb]; simp) dst
    simpa [St.after, Out.value, hsets, NV.val, goneH] using this
  · rename_i e1; exact two rfl hk
  · rename_i e1; exact two rfl hk
  · simp at hk
theorem tcells_zero {ok : Nat → Prop} : ∀ τ : TT, ∃ s, TCells w ok τ.zt τ.zt.zero s τ.zcells ∧ s.blocks = []
  | .data t => ⟨.leaf, ⟨rfl, cells_zero w ok t⟩, rfl⟩
  | .vec t => ⟨.vec (.slice none 0 0), ⟨_, rfl, rfl, .inl ⟨rfl, rfl⟩⟩, rfl⟩
  | .map k v => ⟨.leaf, ⟨rfl, .map none, rfl, rfl⟩, rfl⟩
  | .own τ => ⟨.leaf, ⟨rfl, .pointer none, rfl, rfl⟩, rfl⟩
  | .opt τ => ⟨.nil, ⟨rfl, rfl⟩, rfl⟩
  | .hole => ⟨.leaf, ⟨rfl, .pointer none, rfl, rfl⟩, rfl⟩
  | .unit => ⟨.leaf, ⟨rfl, rfl⟩, rfl⟩
  | .pair a b => by
    obtain ⟨s1, h1, h2⟩ := tcells_zero (ok := ok) a
    obtain ⟨s2, h3, h4⟩ := tcells_zero (ok := ok) b
    exact ⟨.pair s1 s2, ⟨s1, s2, _, _, rfl, rfl, h1, h3⟩, by simp [Skel.blocks, h2, h4]⟩
  | .agg τ => by
    obtain ⟨s, h1, h2⟩ := tcells_zero (ok := ok) τ
    exact ⟨s, h1, h2⟩
theorem MtOk.run_zero {ty : TypeId} : ∀ {τ : TT}, MtOk P τ ty → ∃ z, (zeroValue ty).run P w = .ok z w ∧ z.cells.toList = τ.zcells
  | .data t, h => by obtain ⟨z, h1, h2, _⟩ := TyOk.run_zero (w := w) h; exact ⟨z, h1, h2⟩
  | .vec t, h => by obtain ⟨z, h1, h2, _⟩ := TyOk.run_zero (w := w) (t := .list t) h; exact ⟨z, h1, h2⟩
  | .map k v, ⟨⟨i, z, h1, h2, h3, h4, h5, _⟩, _⟩ => ⟨z, by simp [zeroValue, typeInfo, h1, h4], h5⟩
  | .opt τ, ⟨⟨i, z, h1, h2, h3, h4, h5, _⟩, _⟩ => ⟨z, by simp [zeroValue, typeInfo, h1, h4], h5⟩
  | .agg τ, ⟨⟨i, z, h1, h2, h3, h4, h5, _⟩, _⟩ => ⟨z, by simp [zeroValue, typeInfo, h1, h4], h5⟩
  | .own _, h => by simp [MtOk] at h
  | .hole, h => by simp [MtOk] at h
  | .unit, h => by simp [MtOk] at h
  | .pair _ _, h => by simp [MtOk] at h
theorem Open.allocX (hT : TTOk P tt) (h : Open F w0 st a w ρ) {e : TypeId} {τ : TT} (hty : tt.mt e = some τ) :
    ∃ val w', (Instr.alloc e true (.tuple #[])).run P w = .ok val w' ∧ ∀ dst, Rel F w0 (st.after dst (.genN [] (.vt ⟨0, 0⟩ (.own τ.zt) τ.zt.zero) .new)) (a.put dst val) w' := by
  obtain ⟨z, hz, hzc⟩ := (hT.mt _ _ hty).run_zero (w := w)
  refine ⟨.pointer (some ⟨w.heap.size, 0, none⟩), w.alloc (.cells z.cells e (0, 0)), by simp [Instr.alloc, hz, newVar, newRow], fun dst => ?_⟩
  obtain ⟨s, h1, h2⟩ := tcells_zero (w := w) (ok := okOf F w ρ st.heap) τ
  have := h.newVt (gone := none) (cs := z.cells) e (fun g' e => by cases e) (by rw [hzc]; exact h1) (fun k hk => by rw [h2] at hk; simp at hk) (by rw [h2]; simp) dst
  simpa [St.after, Out.value, hsets, NV.val, goneH] using this
end
end Go.PB
