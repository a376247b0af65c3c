/-
  The interpreter of the translation's code, and the proof that it is sound: part 3.
-/
import Derived.Test.YtpffibjemegioaaGreatDoorQKB
import Derived.Test.YtpffibjemegioaaGreatDoorQKA
import Derived.Deep.LoopGhost
import Derived.Tactics
set_option linter.unusedVariables false
namespace Go.PB
open Go Go.RowKit
/-! ## 1. Keys -/
theorem bytes_eq_of_toList {x y : ByteArray} (h : x.toList = y.toList) : x = y := by
  have e : (x == y) = true := by rw [beq_toListBytes]; simp [h]
  obtain ⟨a⟩ := x
  obtain ⟨b⟩ := y
  have : (a == b) = true := e
  rw [show a = b by simpa using this]
theorem eqD_eq : ∀ {t : Ty} {x y : t.C}, t.eqD x y = true → x = y
  | .int _, x, y, h => by simpa [Ty.eqD] using h
  | .bool, x, y, h => by simpa [Ty.eqD] using h
  | .str, x, y, h => bytes_eq_of_toList (by simpa [Ty.eqD] using h)
  | .unit, _, _, _ => rfl
  | .err, _, _, h => by simp [Ty.eqD] at h
  | .list _, _, _, h => by simp [Ty.eqD] at h
  | .arr _ _, _, _, h => by simp [Ty.eqD] at h
  | .pair a b, x, y, h => by
    simp only [Ty.eqD, Bool.and_eq_true] at h
    exact Prod.ext (eqD_eq h.1) (eqD_eq h.2)
  | .agg t, x, y, h => eqD_eq (t := t) h
theorem cells_det {w w' : World} {ok ok' : Nat → Prop} : ∀ {t : Ty} {x : t.C} {cs ds : List Value}, t.plainEq = true → Cells w ok t x cs → Cells w' ok' t x ds → cs = ds
  | .int _, _, _, _, _, h, h' => by simp only [Cells] at h h'; rw [h, h']
  | .bool, _, _, _, _, h, h' => by simp only [Cells] at h h'; rw [h, h']
  | .str, _, _, _, _, h, h' => by simp only [Cells] at h h'; rw [h, h']
  | .unit, _, _, _, _, h, h' => by simp only [Cells] at h h'; rw [h, h']
  | .err, _, _, _, hp, _, _ => by simp [Ty.plainEq] at hp
  | .list _, _, _, _, hp, _, _ => by simp [Ty.plainEq] at hp
  | .arr _ _, _, _, _, hp, _, _ => by simp [Ty.plainEq] at hp
  | .pair a b, _, _, _, hp, ⟨c1, c2, e, h1, h2⟩, ⟨d1, d2, e', h1', h2'⟩ => by
    simp only [Ty.plainEq, Bool.and_eq_true] at hp
    rw [e, e', cells_det hp.1 h1 h1', cells_det hp.2 h2 h2']
  | .agg t, _, _, _, hp, h, h' => cells_det (t := t) (by simpa [Ty.plainEq] using hp) h h'
theorem cells_bits {w : World} {ok : Nat → Prop} (n : Nat) : ∀ {t : Ty} {x : t.C} {cs : List Value}, t.plainEq = true → Cells w ok t x cs → ∀ u ∈ cs, Instr.sameBits n u u = true
  | .int _, _, _, _, h => by simp only [Cells] at h; subst h; simp [Instr.sameBits]
  | .bool, _, _, _, h => by simp only [Cells] at h; subst h; simp [Instr.sameBits]
  | .str, _, _, _, h => by simp only [Cells] at h; subst h; simp [Instr.sameBits, beq_toListBytes]
  | .unit, _, _, _, h => by simp only [Cells] at h; subst h; simp
  | .err, _, _, hp, _ => by simp [Ty.plainEq] at hp
  | .list _, _, _, hp, _ => by simp [Ty.plainEq] at hp
  | .arr _ _, _, _, hp, _ => by simp [Ty.plainEq] at hp
  | .pair a b, _, _, hp, ⟨c1, c2, e, h1, h2⟩ => by
    simp only [Ty.plainEq, Bool.and_eq_true] at hp
    subst e
    intro u hu
    rcases List.mem_append.1 hu with h | h
    · exact cells_bits n hp.1 h1 u h
    · exact cells_bits n hp.2 h2 u h
  | .agg t, _, _, hp, h => cells_bits n (t := t) (by simpa [Ty.plainEq] using hp) h
section
variable {P : Program} {w : World} {ok : Nat → Prop}
theorem dval_bits {t : Ty} {x : t.C} {v : Value} (hp : t.plainEq = true) (h : DVal w ok t x v) : Instr.sameBits 10000 v v = true := by
  have hb := fun n => cells_bits n hp h.1
  cases t with
  | int k => rw [h.int_inv]; simp [Instr.sameBits]
  | bool => rw [h.bool_inv]; simp [Instr.sameBits]
  | str => rw [h.str_inv]; simp [Instr.sameBits, beq_toListBytes]
  | agg t =>
    obtain ⟨cs, e, _⟩ := h.agg_inv
    subst e
    show Instr.sameBits (9999 + 1) (.agg cs) (.agg cs) = true
    simp only [Instr.sameBits, beq_self_eq_true, Bool.true_and, List.all_eq_true]
    rintro ⟨a, b⟩ hm
    have hab : a = b ∧ a ∈ cs.toList := by
      obtain ⟨i, hi, e⟩ := List.mem_iff_getElem.1 hm
      simp only [List.getElem_zip, Prod.mk.injEq] at e
      exact ⟨by rw [← e.1, ← e.2], by rw [← e.1]; exact List.getElem_mem _⟩
    rw [← hab.1]
    exact hb 9999 a (by simpa [Value.cells] using hab.2)
  | unit => have := h.2.2; simp [Ty.isVal] at this
  | pair _ _ => have := h.2.2; simp [Ty.isVal] at this
  | err => simp [Ty.plainEq] at hp
  | list _ => simp [Ty.plainEq] at hp
  | arr _ _ => simp [Ty.plainEq] at hp
theorem dval_det {w' : World} {ok' : Nat → Prop} {t : Ty} {x : t.C} {v u : Value} (hp : t.plainEq = true) (h : DVal w ok t x v) (h' : DVal w' ok' t x u) : v = u := by
  have e := cells_det hp h.1 h'.1
  cases ha : t.isAgg with
  | true =>
    obtain ⟨cs, e1⟩ := h.2.1.1 ha
    obtain ⟨ds, e2⟩ := h'.2.1.1 ha
    subst e1; subst e2
    simp only [Value.cells] at e
    rw [Array.toList_inj.1 e]
  | false =>
    cases t with
    | int k => rw [h.int_inv, h'.int_inv]
    | bool => rw [h.bool_inv, h'.bool_inv]
    | str => rw [h.str_inv, h'.str_inv]
    | agg t => simp [Ty.isAgg] at ha
    | unit => have := h.2.2; simp [Ty.isVal] at this
    | pair _ _ => have := h.2.2; simp [Ty.isVal] at this
    | err => simp [Ty.plainEq] at hp
    | list _ => simp [Ty.plainEq] at hp
    | arr _ _ => simp [Ty.plainEq] at hp
mutual
theorem checkKey_sound (em : Bool) : ∀ {t : Ty} {ty : TypeId} {x : t.C} {v : Value} {d : Nat}, TyOk P t ty → t.plainEq = true → t.deep < d → DVal w ok t x v → (Instr.checkKey em d ty v).run P w = .ok () w
  | .int k, ty, x, v, 0, _, _, hd, _ => by omega
  | .int k, ty, x, v, d + 1, ht, _, _, hv => by rw [hv.int_inv]; simp [Instr.checkKey, run_underlying ht.2]
  | .bool, ty, x, v, 0, _, _, hd, _ => by omega
  | .bool, ty, x, v, d + 1, ht, _, _, hv => by rw [hv.bool_inv]; simp [Instr.checkKey, run_underlying ht.2]
  | .str, ty, x, v, 0, _, _, hd, _ => by omega
  | .str, ty, x, v, d + 1, ht, _, _, hv => by rw [hv.str_inv]; simp [Instr.checkKey, run_underlying ht.2]
  | .list _, _, _, _, _, _, hp, _, _ => by simp [Ty.plainEq] at hp
  | .err, _, _, _, _, _, hp, _, _ => by simp [Ty.plainEq] at hp
  | .arr _ _, _, _, _, _, _, hp, _, _ => by simp [Ty.plainEq] at hp
  | .unit, _, _, _, _, ht, _, _, _ => ht.elim
  | .pair _ _, _, _, _, _, ht, _, _, _ => ht.elim
  | .agg t, ty, x, v, 0, _, _, hd, _ => by omega
  | .agg t, ty, x, v, d + 1, ht, hp, hd, hv => by
    obtain ⟨cs, e1, h1⟩ := hv.agg_inv
    obtain ⟨hi, fs, hf, hch⟩ := ht
    subst e1
    have each := checkFields_sound em (t := t) (d := d) hch (by simpa [Ty.plainEq] using hp) (by simp only [Ty.deep] at hd; omega) [] cs (c2 := cs.toList) (by simp) rfl x h1
    rw [Instr.checkKey]
    simp only [Sem.run_bind, run_underlying hf, Result.andThen_ok]
    rw [← Array.forIn_toList]
    generalize fs.toList = L at each
    induction L with
    | nil => simp
    | cons f L ih =>
      obtain ⟨a, p1, p2⟩ := each f (by simp)
      by_cases hn : f.name = "_"
      · simp only [List.forIn_cons, Sem.run_bind, hn, ne_eq, not_true_eq_false, if_false, Result.andThen_ok, Sem.run_pure]
        exact ih (fun y hy => each y (by simp [hy]))
      · simp only [List.forIn_cons, Sem.run_bind, hn, ne_eq, not_false_eq_true, if_true, Result.andThen_ok, p1, p2, Sem.run_pure]
        exact ih (fun y hy => each y (by simp [hy]))
theorem checkFields_sound (em : Bool) : ∀ {t : Ty} {base : Nat} {fs : List Field} {d : Nat}, ChainOk P t base fs → t.plainEq = true → t.deep < d → ∀ (c1 : List Value) (cs : Array Value) {c2 : List Value}, cs.toList = c1 ++ c2 → c1.length = base → ∀ (x : t.C), Cells w ok t x c2 →
      ∀ f ∈ fs, ∃ a, (part f.type cs f.offset).run P w = .ok a w ∧ (Instr.checkKey em d f.type a).run P w = .ok () w
  | .unit, base, [], d, _, _, _, _, _, _, _, _, _, _, f, hf => by simp at hf
  | .pair a b, base, g :: fs, d, hch, hp, hd, c1, cs, c2, e1, l1, x, ⟨p1, p2, ep, hp1, hp2⟩, f, hf => by
    obtain ⟨ho, ha, hb⟩ := hch
    simp only [Ty.plainEq, Bool.and_eq_true] at hp
    simp only [Ty.deep] at hd
    rcases List.mem_cons.1 hf with rfl | hf
    · obtain ⟨va, hra, hva⟩ := run_part ha cs c1 p1 p2 (by rw [e1, ep]) hp1
      rw [l1, ← ho] at hra
      exact ⟨va, hra, checkKey_sound em ha hp.1 (by omega) hva⟩
    · exact checkFields_sound em (d := d) hb hp.2 (by omega) (c1 ++ p1) cs (c2 := p2) (by rw [e1, ep]; simp) (by rw [List.length_append, l1, Cells.length a x.1 p1 hp1]) x.2 hp2 f hf
  | .pair _ _, _, [], _, hch, _, _, _, _, _, _, _, _, _, _, _ => hch.elim
  | .unit, _, _ :: _, _, hch, _, _, _, _, _, _, _, _, _, _, _ => hch.elim
  | .int _, _, _, _, hch, _, _, _, _, _, _, _, _, _, _, _ => hch.elim
  | .bool, _, _, _, hch, _, _, _, _, _, _, _, _, _, _, _ => hch.elim
  | .err, _, _, _, hch, _, _, _, _, _, _, _, _, _, _, _ => hch.elim
  | .str, _, _, _, hch, _, _, _, _, _, _, _, _, _, _, _ => hch.elim
  | .list _, _, _, _, hch, _, _, _, _, _, _, _, _, _, _, _ => hch.elim
  | .agg _, _, _, _, hch, _, _, _, _, _, _, _, _, _, _, _ => hch.elim
  | .arr _ _, _, _, _, hch, _, _, _, _, _, _, _, _, _, _, _ => hch.elim
end
/-! ## 2. Entries -/
structure Found (w : World) (ok : Nat → Prop) (k v : Ty) (l : List (k.C × v.C)) (y : k.C) (kv : Value) (es : List MapEntry) (j : Nat) (e : MapEntry) : Prop where
  at_ : es[j]? = some e
  key : e.key = kv
  get : ∃ z, mget k v l y = some z ∧ DVal w ok v z e.val
  put : ∀ z, mput k v l y z = l.set j (y, z)
  del : mdel k v l y = l.eraseIdx j
theorem find_sound {k v : Ty} {y : k.C} {kv : Value} (hp : k.plainEq = true) (hk : DVal w ok k y kv) (test : Value → Sem Bool) (ht : ∀ x u, DVal w ok k x u → (test u).run P w = .ok (k.eqD y x) w) :
    ∀ (l : List (k.C × v.C)) (es : List MapEntry), MapC w ok k v l es →
      (mget k v l y = none ∧ (∀ z, mput k v l y z = l ++ [(y, z)]) ∧ mdel k v l y = l ∧ ∀ (f : List MapEntry → Nat → Sem (Option (Nat × Value))), (∀ i, f [] i = pure none) → (∀ e es i, f (e :: es) i = do if ← test e.key then pure (some (i, e.val)) else f es (i + 1)) → ∀ i, (f es i).run P w = .ok none w) ∨
      ∃ j e, Found w ok k v l y kv es j e ∧ ∀ (f : List MapEntry → Nat → Sem (Option (Nat × Value))), (∀ i, f [] i = pure none) → (∀ e es i, f (e :: es) i = do if ← test e.key then pure (some (i, e.val)) else f es (i + 1)) → ∀ i, (f es i).run P w = .ok (some (i + j, e.val)) w
  | [], es, h => by
    simp only [MapC] at h; subst h
    exact .inl ⟨rfl, fun _ => rfl, rfl, fun f h0 _ i => by rw [h0]; simp⟩
  | x :: l, es, ⟨e, r, h1, h2, h3, h4⟩ => by
    subst h1
    have hr := ht _ _ h2
    cases hq : k.eqD y x.1 with
    | true =>
      have eq := eqD_eq hq
      refine .inr ⟨0, e, ⟨rfl, ?_, ⟨x.2, by simp [mget, hq], h3⟩, fun z => by simp [mput, hq], by simp [mdel, hq]⟩, fun f h0 hs i => by rw [hs]; simp [hr, hq]⟩
      rw [← eq] at h2
      exact dval_det hp h2 hk
    | false =>
      rcases find_sound hp hk test ht l r h4 with ⟨g1, g2, g3, g4⟩ | ⟨j, e', g, g4⟩
      · exact .inl ⟨by simp [mget, hq, g1], fun z => by simp [mput, hq, g2], by simp [mdel, hq, g3], fun f h0 hs i => by rw [hs]; simp [hr, hq, g4 f h0 hs]⟩
      · refine .inr ⟨j + 1, e', ⟨by simpa using g.at_, g.key, ?_, fun z => by simp [mput, hq, g.put], by simp [mdel, hq, g.del]⟩, fun f h0 hs i => by rw [hs]; simp [hr, hq, g4 f h0 hs]; omega⟩
        obtain ⟨z, h5, h6⟩ := g.get
        exact ⟨z, by simp [mget, hq, h5], h6⟩
end
end Go.PB
namespace Go.PB
open Go Go.RowKit
section
variable {P : Program} {w : World} {ok : Nat → Prop}
theorem equal_ok {k : Ty} {kt : TypeId} {y x : k.C} {kv u : Value} (ht : TyOk P k kt) (hp : k.plainEq = true) (hd : k.deep < 1000) (hk : DVal w ok k y kv) (hu : DVal w ok k x u) : (Op.equal kt kv u).run P w = .ok (k.eqD y x) w :=
  equalIn_sound (d := 10000) ht hp (by omega) hk hu
theorem sameNow_ok {k : Ty} {kt : TypeId} {y x : k.C} {kv u : Value} {kind : TypeDesc} {b : Bool} (ht : TyOk P k kt) (hp : k.plainEq = true) (hd : k.deep < 1000) (hk : DVal w ok k y kv) (hu : DVal w ok k x u) (hkd : P.underlying kt = some kind)
    (hs : Instr.sameNow kind kv u = some b) : (Op.equal kt kv u).run P w = .ok b w := by
  rw [equal_ok ht hp hd hk hu]
  congr 1
  cases k with
  | int k =>
    rw [hk.int_inv, hu.int_inv] at hs
    rw [ht.2] at hkd
    obtain rfl := Option.some.inj hkd
    simp only [Instr.sameNow, if_true, Option.some.injEq] at hs
    rw [← hs]
    simp only [Ty.eqD]
    rfl
  | bool =>
    rw [hk.bool_inv, hu.bool_inv] at hs
    rw [ht.2] at hkd
    obtain rfl := Option.some.inj hkd
    simp only [Instr.sameNow, Option.some.injEq] at hs
    rw [← hs]; rfl
  | str =>
    rw [hk.str_inv, hu.str_inv] at hs
    rw [ht.2] at hkd
    obtain rfl := Option.some.inj hkd
    simp only [Instr.sameNow, Option.some.injEq] at hs
    rw [← hs, beq_toListBytes]; rfl
  | agg t =>
    obtain ⟨_, fs, hf, _⟩ := ht
    rw [hf] at hkd
    obtain rfl := Option.some.inj hkd
    simp [Instr.sameNow] at hs
  | unit => exact ht.elim
  | pair _ _ => exact ht.elim
  | err => simp [Ty.plainEq] at hp
  | list _ => simp [Ty.plainEq] at hp
  | arr _ _ => simp [Ty.plainEq] at hp
theorem findNow_ok {k v : Ty} {kt : TypeId} {y : k.C} {kv : Value} {kind : TypeDesc} (ht : TyOk P k kt) (hp : k.plainEq = true) (hd : k.deep < 1000) (hk : DVal w ok k y kv) (hkd : P.underlying kt = some kind) :
    ∀ {l : List (k.C × v.C)} {es : List MapEntry} (i : Nat), MapC w ok k v l es → Instr.findNow kind kv es i = none ∨ ∃ r, Instr.findNow kind kv es i = some r ∧ (Instr.findAsking kt kv es i).run P w = .ok r w
  | [], es, i, h => by simp only [MapC] at h; subst h; exact .inr ⟨none, rfl, by simp [Instr.findAsking]⟩
  | x :: l, es, i, ⟨e, r, h1, h2, h3, h4⟩ => by
    subst h1
    cases hs : Instr.sameNow kind kv e.key with
    | none => exact .inl (by simp [Instr.findNow, hs])
    | some b =>
      have he := sameNow_ok ht hp hd hk h2 hkd hs
      cases b with
      | true => exact .inr ⟨_, by simp [Instr.findNow, hs]; rfl, by simp [Instr.findAsking, he]⟩
      | false =>
        rcases findNow_ok ht hp hd hk hkd (i + 1) h4 with h | ⟨r', h, h'⟩
        · exact .inl (by simp [Instr.findNow, hs, h])
        · exact .inr ⟨r', by simp [Instr.findNow, hs, h], by simp [Instr.findAsking, he, h']⟩
theorem findKey_ok {k v : Ty} {kt : TypeId} {y : k.C} {kv : Value} (ht : TyOk P k kt) (hp : k.plainEq = true) (hd : k.deep < 1000) (hk : DVal w ok k y kv) {l : List (k.C × v.C)} {es : List MapEntry} (h : MapC w ok k v l es) :
    (mget k v l y = none ∧ (∀ z, mput k v l y z = l ++ [(y, z)]) ∧ mdel k v l y = l ∧ (Instr.findKey kt kv es).run P w = .ok none w) ∨
      ∃ j e, Found w ok k v l y kv es j e ∧ (Instr.findKey kt kv es).run P w = .ok (some (j, e.val)) w := by
  have hkd : ∃ kind, P.underlying kt = some kind := by
    cases k with
    | int k => exact ⟨_, ht.2⟩
    | bool => exact ⟨_, ht.2⟩
    | str => exact ⟨_, ht.2⟩
    | agg t => obtain ⟨_, fs, hf, _⟩ := ht; exact ⟨_, hf⟩
    | unit => exact ht.elim
    | pair _ _ => exact ht.elim
    | err => simp [Ty.plainEq] at hp
    | list _ => simp [Ty.plainEq] at hp
    | arr _ _ => simp [Ty.plainEq] at hp
  obtain ⟨kind, hkd⟩ := hkd
  have key : ∀ r, (Instr.findAsking kt kv es 0).run P w = .ok r w → (Instr.findKey kt kv es).run P w = .ok r w := by
    intro r hr
    unfold Instr.findKey
    simp only [Sem.run_bind, run_underlying hkd, Result.andThen_ok]
    rcases findNow_ok ht hp hd hk hkd 0 h with h0 | ⟨r', h0, h1⟩
    · rw [h0]; exact hr
    · rw [h0]
      rw [hr] at h1
      injection h1 with h1
      rw [← h1]; simp
  rcases find_sound hp hk (fun u => Op.equal kt kv u) (fun x u hu => equal_ok ht hp hd hk hu) l es h with ⟨g1, g2, g3, g4⟩ | ⟨j, e, g, g4⟩
  · exact .inl ⟨g1, g2, g3, key _ (g4 (fun es i => Instr.findAsking kt kv es i) (fun i => rfl) (fun e es i => rfl) 0)⟩
  · refine .inr ⟨j, e, g, key _ ?_⟩
    have := g4 (fun es i => Instr.findAsking kt kv es i) (fun i => rfl) (fun e es i => rfl) 0
    simpa using this
/-! ## Entries that change -/
theorem MapC.set {k v : Ty} {y : k.C} {z : v.C} {e' : MapEntry} (h1 : DVal w ok k y e'.key) (h2 : DVal w ok v z e'.val) : ∀ {l : List (k.C × v.C)} {es : List MapEntry} {j : Nat}, MapC w ok k v l es → MapC w ok k v (l.set j (y, z)) (es.set j e')
  | [], es, j, h => by simp only [MapC] at h; subst h; simp [MapC]
  | x :: l, es, 0, ⟨e, r, g1, g2, g3, g4⟩ => by subst g1; exact ⟨e', r, rfl, h1, h2, g4⟩
  | x :: l, es, j + 1, ⟨e, r, g1, g2, g3, g4⟩ => by subst g1; exact ⟨e, r.set j e', rfl, g2, g3, MapC.set h1 h2 g4⟩
theorem MapC.erase {k v : Ty} : ∀ {l : List (k.C × v.C)} {es : List MapEntry} {j : Nat}, MapC w ok k v l es → MapC w ok k v (l.eraseIdx j) (es.eraseIdx j)
  | [], es, j, h => by simp only [MapC] at h; subst h; simp [MapC]
  | x :: l, es, 0, ⟨e, r, g1, g2, g3, g4⟩ => by subst g1; exact g4
  | x :: l, es, j + 1, ⟨e, r, g1, g2, g3, g4⟩ => by subst g1; exact ⟨e, r.eraseIdx j, rfl, g2, g3, MapC.erase g4⟩
theorem MapC.push {k v : Ty} {y : k.C} {z : v.C} {e' : MapEntry} (h1 : DVal w ok k y e'.key) (h2 : DVal w ok v z e'.val) : ∀ {l : List (k.C × v.C)} {es : List MapEntry}, MapC w ok k v l es → MapC w ok k v (l ++ [(y, z)]) (es ++ [e'])
  | [], es, h => by simp only [MapC] at h; subst h; exact ⟨e', [], rfl, h1, h2, rfl⟩
  | x :: l, es, ⟨e, r, g1, g2, g3, g4⟩ => by subst g1; exact ⟨e, r ++ [e'], rfl, g2, g3, MapC.push h1 h2 g4⟩
theorem Born.set {es : List MapEntry} {clk j : Nat} {e e' : MapEntry} (h : Born es clk) (hj : es[j]? = some e) (hb : e'.born = e.born) : Born (es.set j e') clk := by
  have hm : (es.set j e').map (·.born) = es.map (·.born) := by
    rw [List.map_set, hb]
    apply List.ext_getElem?
    intro i
    rw [List.getElem?_set]
    split
    · rename_i hi
      subst hi
      simp [hj]
      exact (List.getElem?_eq_some_iff.1 hj).1
    · rfl
  constructor
  · intro x hx
    have : x.born ∈ (es.set j e').map (·.born) := List.mem_map_of_mem hx
    rw [hm] at this
    obtain ⟨q, hq, e⟩ := List.mem_map.1 this
    rw [← e]; exact h.1 q hq
  · have h2 : (es.map (·.born)).Pairwise (· ≠ ·) := List.pairwise_map.2 h.2
    rw [← hm] at h2
    exact List.pairwise_map.1 h2
theorem Born.erase {es : List MapEntry} {clk j : Nat} (h : Born es clk) : Born (es.eraseIdx j) clk :=
  ⟨fun x hx => h.1 x ((List.eraseIdx_sublist es j).subset hx), h.2.sublist (List.eraseIdx_sublist es j)⟩
theorem Born.push {es : List MapEntry} {clk : Nat} {e' : MapEntry} (h : Born es clk) (hb : e'.born = clk) : Born (es ++ [e']) (clk + 1) := by
  refine ⟨fun x hx => ?_, List.pairwise_append.2 ⟨h.2, by simp, fun x hx z hz => ?_⟩⟩
  · rcases List.mem_append.1 hx with hx | hx
    · have := h.1 x hx; omega
    · simp only [List.mem_singleton] at hx; subst hx; omega
  · simp only [List.mem_singleton] at hz; subst hz
    have := h.1 x hx; omega
theorem modify_at {es : Array MapEntry} {j : Nat} {e : MapEntry} (f : MapEntry → MapEntry) (hj : es.toList[j]? = some e) : (es.modify j f).toList = es.toList.set j (f e) := by
  rw [Array.toList_modify]
  apply List.ext_getElem?
  intro i
  rw [List.getElem?_modify, List.getElem?_set]
  split
  · rename_i hi
    subst hi
    rw [hj]
    simp
    exact (List.getElem?_eq_some_iff.1 hj).1
  · simp
theorem erase_at {es : Array MapEntry} {j : Nat} {e : MapEntry} (hj : es.toList[j]? = some e) : (es.eraseIdxIfInBounds j).toList = es.toList.eraseIdx j := by
  have hl := (List.getElem?_eq_some_iff.1 hj).1
  unfold Array.eraseIdxIfInBounds
  rw [dif_pos (by simpa using hl)]
  simp
/-! ## Operations -/
variable {F : Fr} {G : Gv} {env : Env} {w0 w' : World} {st : St} {a : Act} {ρ : Nat → Loc} {h : List AObj} {R : Type} {tt : Tab}
theorem mapK_inv (hT : TTOk P tt) (hobj : ∀ id, id < h.length → ORel w ρ ok id (hget h id)) {t : TypeId} {u : AVal} {val : Value} (hv : VRel w ρ h ok u val) {K : (k v : Ty) → List (k.C × v.C) → Option R} {r : R} (hk : mapK tt t (res h u) K = some r) :
    ∃ id ver p τ x k v l, res h u = .tr id ver p τ x ∧ hget h id = .vt ver τ x ∧ K k v l = some r ∧ k.plainEq = true ∧ k.deep < 1000 ∧ TT.getK p τ x pairT = some ⟨.map k v, l⟩ ∧
      (∃ kt vt, P.underlying t = some (.map kt vt) ∧ TyOk P k kt ∧ TyOk P v vt) ∧
      ∃ b es clk, val = .map (some b) ∧ w.heap[b]? = some (.map es clk) ∧ MapC w ok k v l es.toList ∧ Born es.toList clk ∧ skAt p τ (ρ id).sk = some (.map b) := by
  unfold mapK at hk
  split at hk
  · rename_i id ver p τ x e
    obtain ⟨v0, rfl, ho, hc⟩ := res_tr e
    obtain ⟨hl, hval⟩ := tv_val hv ho hc
    obtain ⟨τ', x', sk', cs', hK, kk⟩ := look hobj hl ho hk
    split at hK
    · rename_i k v l k' v' hty
      obtain ⟨e1, hK1⟩ := sameK_inv hK
      obtain ⟨e2, hK2⟩ := sameK_inv hK1
      clear hK hK1
      subst e1; subst e2
      cases hc2 : (k.plainEq && Nat.blt k.deep 1000) with
      | false => rw [hc2] at hK2; simp at hK2
      | true =>
        rw [hc2] at hK2
        simp only [cond_true] at hK2
        simp only [Bool.and_eq_true, Nat.blt_eq] at hc2
        obtain ⟨_, kt, vt, hu, h1, h2⟩ := hT.mt _ _ hty
        obtain ⟨e1, e2⟩ := val_of_ref kk rfl hval
        obtain ⟨b, es, clk, g1, g2, g3, g4, g5⟩ := kk.part
        have hsk := kk.sk
        rw [g1] at hsk
        subst g1
        simp only [skVal, Option.some.injEq] at e2
        exact ⟨id, ver, p, τ, x, k, v, l, e, ho, hK2, hc2.1, hc2.2, kk.get, ⟨kt, vt, hu, h1, h2⟩, b, es, clk, e2.symm, g3, g4, g5, hsk⟩
    · simp at hK
  · simp at hk
theorem lookupX_yield (hT : TTOk P tt) (hobj : ∀ id, id < h.length → ORel w ρ ok id (hget h id)) {t : TypeId} {u uk : AVal} {val kv : Value} (hv : VRel w ρ h ok u val) (hkv : VRel w ρ h ok uk kv) {c : Bool} {K : Out → Option R} {r : R} (hk : lookupX tt t (res h u) (res h uk) c K = some r) :
    Yield P w ρ h ok K r (Instr.lookup t val kv c) := by
  unfold lookupX at hk
  obtain ⟨id, ver, p, τ, x, k, v, l, e, ho, hK, hp, hd, hget', ⟨kt, vt, hu, hkt, hvt⟩, b, es, clk, rfl, hb, hm, hborn, hsk⟩ := mapK_inv hT hobj hv hk
  obtain ⟨y, hK, hy⟩ := dataK_inv hkv hK
  have hck := checkKey_sound (P := P) es.isEmpty (d := 10000) hkt hp (by omega) hy
  obtain ⟨zv, hz, hzc, hzagg⟩ := TyOk.run_zero (w := w) hvt
  have hzd : DVal w ok v v.zero zv := ⟨by rw [hzc]; exact cells_zero w ok v, hzagg, hvt.isVal⟩
  rcases findKey_ok hkt hp hd hy hm with ⟨g1, _, _, g2⟩ | ⟨j, e', g, g2⟩
  · have hrun : ∀ c, (Instr.lookup t (.map (some b)) kv c).run P w = .ok (if c then .tuple #[zv, .bool false] else zv) w := fun c => by
      simp [Instr.lookup, Go.underlying, hu, getObj, Sem.run, hb, hck, g2, hz]
    rw [g1] at hK
    cases c with
    | true => exact ⟨_, _, hK, ⟨zv, [.bool false], rfl, hzd, _, [], rfl, dval_bool _ _ _, rfl⟩, by rw [hrun]; rfl⟩
    | false => exact ⟨_, _, hK, hzd, by rw [hrun]; rfl⟩
  · obtain ⟨z, g3, g4⟩ := g.get
    have hrun : ∀ c, (Instr.lookup t (.map (some b)) kv c).run P w = .ok (if c then .tuple #[e'.val, .bool true] else e'.val) w := fun c => by
      simp [Instr.lookup, Go.underlying, hu, getObj, Sem.run, hb, hck, g2]
    rw [g3] at hK
    cases c with
    | true => exact ⟨_, _, hK, ⟨e'.val, [.bool true], rfl, g4, _, [], rfl, dval_bool _ _ _, rfl⟩, by rw [hrun]; rfl⟩
    | false => exact ⟨_, _, hK, g4, by rw [hrun]; rfl⟩
theorem Open.mapBlock (h : Open F w0 st a w ρ) {id : Nat} {ver : Ver} {p : List Nat} {τ : TT} {x x1 : τ.C} (ho : hget st.heap id = .vt ver τ x) {k v : Ty} {l l1 : List (k.C × v.C)} {b : Nat} {es es1 : Array MapEntry} {clk clk1 : Nat} (hb : w.heap[b]? = some (.map es clk))
    (hsk : skAt p τ (ρ id).sk = some (.map b)) (hre : Re p τ x (.map k v) l (.map k v) l1 τ x1) (hm : MapC w (okOf F w ρ st.heap) k v l1 es1.toList) (hborn : Born es1.toList clk1) {vv : AVal} {val : Value} (hv : vv = .undef ∧ val = Go.undef ∨ vv = .tnil ∧ val = .tuple #[]) (dst : Option Tmp) :
    Rel F w0 (st.after dst (.gen [(id, .vt ver.wr τ x1)] vv)) (a.put dst val) { w with heap := w.heap.setIfInBounds b (.map es1 clk1) } := by
  obtain ⟨g1, g2, g3⟩ := vt_orel h.hrel.obj ho
  obtain ⟨sk', cs', k1, k2, k3, k4⟩ := hre.inner g3 g2
  rw [hsk] at k1
  obtain rfl := (Option.some.inj k1).symm
  obtain ⟨b', es', clk', e1, e2, e3, _, _⟩ := k2
  injection e1 with e1
  subst e1
  have hbb : b ∈ (ρ id).bs := by rw [g1]; exact k3 b (by simp [Skel.blocks])
  have hlt : b < w.heap.size := (Array.getElem?_eq_some_iff.1 hb).1
  refine h.flat (w' := { w with heap := w.heap.setIfInBounds b (.map es1 clk1) }) (x1 := x1) ho rfl rfl rfl (by simp) (fun c hc hn => by
    have : b ≠ c := fun e => hn (by rw [← e]; exact hbb)
    simp [this]) (fun hd => ?_) ?_ dst
  · have := (k4 { w with heap := w.heap.setIfInBounds b (.map es1 clk1) } _ (.map b) hd (fun c hc hn => by
      have : b ≠ c := fun e => hn (by rw [← e]; simp [Skel.blocks])
      simp [this]) ⟨b, es1, clk1, rfl, e2, by simp [hlt], hm.mono hd, hborn⟩).1
    rwa [skSet_same hsk] at this
  · rcases hv with ⟨e1, e2⟩ | ⟨e1, e2⟩ <;> subst e1 <;> subst e2 <;> exact rfl
theorem Open.mapUpdateX (hT : TTOk P tt) (h : Open F w0 st a w ρ) {ty : TypeId} {x y z : Operand} {K : Out → Option R} {r : R} (hk : PB.mapUpdateX tt ty (res st.heap (PB.ev st.tmps x)) (res st.heap (PB.ev st.tmps y)) (res st.heap (PB.ev st.tmps z)) K = some r) :
    ∃ out w', K out = some r ∧ (Instr.mapUpdate ty (a.eval x) (a.eval y) (a.eval z)).run P w = .ok () w' ∧ ∀ dst, Rel F w0 (st.after dst out) (a.put dst undef) w' := by
  unfold PB.mapUpdateX at hk
  obtain ⟨id, ver, p, τ, x0, k, v, l, e, ho, hK, hp, hd, hget', ⟨kt, vt, hu, hkt, hvt⟩, b, es, clk, hval, hb, hm, hborn, hsk⟩ := mapK_inv hT h.hrel.obj (h.ev x) hk
  obtain ⟨y0, hK, hy⟩ := dataK_inv (h.ev y) hK
  obtain ⟨z0, hK, hz⟩ := dataK_inv (h.ev z) hK
  rw [e] at hK
  simp only at hK
  obtain ⟨τ', x', kf, hK, hget2, hrest⟩ := modK_inv hK
  have e2 : (⟨τ', x'⟩ : (τ : TT) × τ.C) = ⟨.map k v, l⟩ := by
    have := hget'
    unfold pairT at this
    rw [hget2] at this
    exact Option.some.inj this
  simp only [Sigma.mk.injEq] at e2
  obtain ⟨rfl, e2⟩ := e2
  obtain rfl := eq_of_heq e2
  simp only at hK
  obtain ⟨_, hK1⟩ := castK_inv hK
  obtain ⟨_, hK2⟩ := castK_inv hK1
  clear hK hK1
  obtain ⟨T, X, hKK, hre, hty', _⟩ := hrest _ _ _ hK2
  obtain rfl := hty' rfl
  have hck := checkKey_sound (P := P) false (d := 10000) hkt hp (by omega) hy
  rcases findKey_ok hkt hp hd hy hm with ⟨g1, g5, _, g2⟩ | ⟨j, e', g, g2⟩
  · refine ⟨_, _, hKK, ?_, fun dst => h.mapBlock (es1 := es.push { key := a.eval y, val := a.eval z, born := clk }) (clk1 := clk + 1) ho hb hsk hre ?_ ?_ (.inl ⟨rfl, rfl⟩) dst⟩
    · rw [hval]
      simp [Instr.mapUpdate, Go.underlying, hu, getObj, setObj, Sem.run, hb, hck, g2]
    · rw [g5, Array.toList_push]; exact hm.push hy hz
    · rw [Array.toList_push]; exact hborn.push rfl
  · have hj : es[j]? = some e' := by rw [← Array.getElem?_toList]; exact g.at_
    refine ⟨_, _, hKK, ?_, fun dst => h.mapBlock (es1 := es.modify j fun e => { e with key := a.eval y, val := a.eval z }) (clk1 := clk) ho hb hsk hre ?_ ?_ (.inl ⟨rfl, rfl⟩) dst⟩
    · rw [hval]
      have hs : Instr.sameBits 10000 e'.key (a.eval y) = true := by rw [g.key]; exact dval_bits hp hy
      simp [Instr.mapUpdate, Go.underlying, hu, getObj, setObj, Sem.run, hb, hck, g2, hj, Instr.keyThatStays, hs]
    · rw [modify_at _ g.at_, g.put]; exact hm.set hy hz
    · rw [modify_at _ g.at_]; exact hborn.set g.at_ rfl
theorem Open.deleteX (hT : TTOk P tt) (h : Open F w0 st a w ρ) {ty tyk tyo : TypeId} {x y : Operand} {K : Out → Option R} {r : R} (hk : PB.deleteX tt ty (res st.heap (PB.ev st.tmps x)) (res st.heap (PB.ev st.tmps y)) K = some r) :
    ∃ out val w', K out = some r ∧ (Builtin.delete_ #[ty, tyk] tyo #[a.eval x, a.eval y]).run P w = .ok val w' ∧ ∀ dst, Rel F w0 (st.after dst out) (a.put dst val) w' := by
  unfold PB.deleteX at hk
  obtain ⟨id, ver, p, τ, x0, k, v, l, e, ho, hK, hp, hd, hget', ⟨kt, vt, hu, hkt, hvt⟩, b, es, clk, hval, hb, hm, hborn, hsk⟩ := mapK_inv hT h.hrel.obj (h.ev x) hk
  obtain ⟨y0, hK, hy⟩ := dataK_inv (h.ev y) hK
  rw [e] at hK
  simp only at hK
  obtain ⟨τ', x', kf, hK, hget2, hrest⟩ := modK_inv hK
  have e2 : (⟨τ', x'⟩ : (τ : TT) × τ.C) = ⟨.map k v, l⟩ := by
    have := hget'
    unfold pairT at this
    rw [hget2] at this
    exact Option.some.inj this
  simp only [Sigma.mk.injEq] at e2
  obtain ⟨rfl, e2⟩ := e2
  obtain rfl := eq_of_heq e2
  simp only at hK
  obtain ⟨_, hK1⟩ := castK_inv hK
  clear hK
  obtain ⟨T, X, hKK, hre, hty', _⟩ := hrest _ _ _ hK1
  obtain rfl := hty' rfl
  have hck := checkKey_sound (P := P) es.isEmpty (d := 10000) hkt hp (by omega) hy
  rcases findKey_ok hkt hp hd hy hm with ⟨g1, _, g5, g2⟩ | ⟨j, e', g, g2⟩
  · refine ⟨_, .tuple #[], _, hKK, ?_, fun dst => h.mapBlock (es1 := es) (clk1 := clk) ho hb hsk hre ?_ hborn (.inr ⟨rfl, rfl⟩) dst⟩
    · rw [hval]
      simp [Builtin.delete_, Go.underlying, hu, getObj, setObj, Sem.run, hb, hck, g2]
    · rw [g5]; exact hm
  · refine ⟨_, .tuple #[], _, hKK, ?_, fun dst => h.mapBlock (es1 := es.eraseIdxIfInBounds j) (clk1 := clk) ho hb hsk hre ?_ ?_ (.inr ⟨rfl, rfl⟩) dst⟩
    · rw [hval]
      simp [Builtin.delete_, Go.underlying, hu, getObj, setObj, Sem.run, hb, hck, g2]
    · rw [erase_at g.at_, g.del]; exact hm.erase
    · rw [erase_at g.at_]; exact hborn.erase
theorem Open.newMap (h : Open F w0 st a w ρ) (k v : Ty) (ty : TypeId) :
    ∃ val w', (Instr.makeMap ty none).run P w = .ok val w' ∧ ∀ dst, Rel F w0 (st.after dst (.genN [] (.vt ⟨0, 0⟩ (.map k v) []) .new)) (a.put dst val) w' := by
  refine ⟨.map (some w.heap.size), w.alloc (.map #[] 0), by simp [Instr.makeMap], fun dst => ?_⟩
  have c : Fresh w ρ st.heap none (w.alloc (.map #[] 0)) ⟨[w.heap.size], [.map (some w.heap.size)], .map w.heap.size⟩ :=
    ⟨by simp, fun g e => (by cases e), fun b hb _ => (heap_alloc_old w _ b hb), fun b hb => by
      simp only [List.mem_singleton] at hb; subst hb; exact ⟨by simp, .inl (Nat.le_refl _)⟩⟩
  have := h.fresh (o := .vt ⟨0, 0⟩ (.map k v) []) c rfl rfl rfl (fun hd => ?_) (v := .tv st.heap.length 0 []) (val := .map (some w.heap.size)) (fun hg => ?_) dst
  · simpa [St.after, Out.value, hsets, NV.val, goneH] using this
  · have e : setρ ρ st.heap.length ⟨[w.heap.size], [.map (some w.heap.size)], .map w.heap.size⟩ st.heap.length = ⟨[w.heap.size], [.map (some w.heap.size)], .map w.heap.size⟩ := by simp [setρ]
    refine ⟨by rw [e]; rfl, by rw [e]; simp, ?_⟩
    rw [e]
    exact ⟨w.heap.size, #[], 0, rfl, rfl, heap_alloc_new w _, rfl, by simp [Born]⟩
  · refine ⟨by simp [goneH], ?_⟩
    rw [hg]
    have e : setρ ρ st.heap.length ⟨[w.heap.size], [.map (some w.heap.size)], .map w.heap.size⟩ st.heap.length = ⟨[w.heap.size], [.map (some w.heap.size)], .map w.heap.size⟩ := by simp [setρ]
    exact ⟨Nat.le_refl _, fun _ => by rw [e]; exact ⟨fun h => by simp [TT.isAgg] at h, fun _ => rfl⟩⟩
end
end Go.PB
namespace Go.PB
open Go Go.RowKit
section
variable {F : Fr} {P : Program} {G : Gv} {env : Env} {w0 w w' : World} {st : St} {a : Act} {ρ : Nat → Loc} {R : Type} {tt : Tab}
theorem vecBs_nodup (v : Value) : (vecBs v).Nodup := by
  unfold vecBs; split <;> simp
theorem Open.takeVec (h : Open F w0 st a w ρ) {id : Nat} {ver : Ver} {p : List Nat} {τ τ1 : TT} {x : τ.C} {x1 : τ1.C} (ho : hget st.heap id = .vt ver τ x) {t : Ty} {l l1 : List t.C} {old : Value}
    (hre : Re p τ x (.vec t) l .hole () τ1 x1) (hag : τ1.isAgg = τ.isAgg) (hsk : skAt p τ (ρ id).sk = some (.vec old)) (hos : w'.os = w.os) (htp : w'.tape = w.tape) (hout : w'.output = w.output) (hsz : w.heap.size ≤ w'.heap.size)
    (hblk : ∀ b, b < w.heap.size → b ∉ vecBs old → w'.heap[b]? = w.heap[b]?) {v' : Value} (hsub : ∀ b ∈ vecBs v', b < w'.heap.size ∧ (w.heap.size ≤ b ∨ b ∈ vecBs old))
    (hvec : ∀ ok' : Nat → Prop, (∀ b, okOf F w ρ st.heap b → ok' b ∧ w'.heap[b]? = w.heap[b]?) → VecC w' ok' t l1 v') (dst : Option Tmp) :
    Rel F w0 (st.after dst (.genN [(id, .vt ver.up τ1 x1)] (.vt ⟨0, 0⟩ (.vec t) l1) .new)) (a.put dst v') w' := by
  obtain ⟨g1, g2, g3⟩ := vt_orel h.hrel.obj ho
  have hl := vt_lt ho
  have hown : (hget st.heap id).owns = true := by rw [ho]; rfl
  obtain ⟨sk', cs', k1, k2, k3, k4⟩ := hre.inner g3 g2
  rw [hsk] at k1
  obtain rfl := (Option.some.inj k1).symm
  have k2' := k2
  obtain ⟨v0, e1, e2, _⟩ := k2'
  injection e1 with e1
  subst e1
  have hone : old.oneCell' = true := TCells.one _ _ _ _ k2 old (by rw [e2]; simp)
  have swap := (k4 w _ .leaf (fun b hb => ⟨hb, rfl⟩) (fun _ _ _ => rfl) ⟨rfl, old, e2, hone⟩).2
  have lt : ∀ b ∈ (ρ id).sk.blocks, b < w.heap.size := fun b hb => (h.hrel.own id b hown (by rw [g1]; exact hb)).2
  have mem : ∀ b ∈ (skSet p τ (ρ id).sk .leaf).blocks, b ∈ (ρ id).sk.blocks ∧ b ∉ vecBs old := fun b hb => by
    rcases swap.mem' g2 b hb with h1 | h1
    · simp [Skel.blocks] at h1
    · exact h1
  have c : Reshape w ρ st.heap id none w' (skSet p τ (ρ id).sk .leaf) ⟨vecBs v', [v'], .vec v'⟩ := by
    refine ⟨hsz, fun g e => (by cases e), fun b hb hn _ => hblk b hb (fun hb' => hn (by rw [g1]; exact k3 b hb')), swap.nodup g2 (by simp [Skel.blocks]) (fun b hb => by simp [Skel.blocks] at hb), ?_, fun b hb hb' => ?_⟩
    · rintro b (hb | hb)
      · obtain ⟨h1, _⟩ := mem b hb
        exact ⟨Nat.lt_of_lt_of_le (lt b h1) hsz, .inr (.inl (by rw [g1]; exact h1))⟩
      · obtain ⟨h1, h2⟩ := hsub b hb
        exact ⟨h1, h2.imp (fun h => h) fun h2 => .inl (by rw [g1]; exact k3 b h2)⟩
    · obtain ⟨h1, h2⟩ := mem b hb
      rcases (hsub b hb').2 with h3 | h3
      · have := lt b h1; omega
      · exact h2 h3
  have hne : id ≠ st.heap.length := by omega
  have hne' : st.heap.length ≠ id := by omega
  have e : setρ2 ρ id ⟨(skSet p τ (ρ id).sk .leaf).blocks, (ρ id).cs, skSet p τ (ρ id).sk .leaf⟩ st.heap.length ⟨vecBs v', [v'], .vec v'⟩ st.heap.length = ⟨vecBs v', [v'], .vec v'⟩ := by simp [setρ2, hne']
  have := h.reshape (x1 := x1) (new := some (.vt ⟨0, 0⟩ (.vec t) l1)) (l2 := ⟨vecBs v', [v'], .vec v'⟩) (h' := hset st.heap id (.vt ver.up τ1 x1) ++ [.vt ⟨0, 0⟩ (.vec t) l1]) ho c hag rfl hos htp hout
    (fun hd => ⟨(k4 w' _ .leaf hd (fun b hb hn => hblk b (lt b hb) hn) ⟨rfl, old, e2, hone⟩).1, fun o eo => by
      obtain rfl := Option.some.inj eo
      refine ⟨by rw [e]; rfl, by rw [e]; exact vecBs_nodup v', ?_⟩
      rw [e]
      exact ⟨v', rfl, rfl, hvec _ hd⟩⟩)
    (v := .tv st.heap.length 0 []) (val := v') (fun _ hn _ => by
      obtain ⟨n1, n2⟩ := hn _ rfl
      refine ⟨n1, ?_⟩
      rw [n2]
      exact ⟨Nat.le_refl _, fun _ => by rw [e]; exact ⟨fun h => by simp [TT.isAgg] at h, fun _ => rfl⟩⟩) dst
  simpa [St.after, Out.value, hsets, NV.val, length_hset] using this
theorem append_roomO (w : World) (t ty e : TypeId) (i : TypeInfo) (ht : P.underlying t = some (.slice e)) (hi : P.info? e = some i)
    (g o sLen sCap : Nat) (cur : Array Value) (T : TypeId) (hg : w.heap[g]? = some (.cells cur T (0, 0)))
    (ad : Addr) (m c : Nat) (news : List Value) (hl : news.length = m * i.size) (hnews : ∀ j u, news[j]? = some u → w.cell? (ad.add j) = some u) (h1 : ∀ u ∈ news, u.oneCell' = true)
    (hroom : sLen + m ≤ sCap) (hfit : o + sLen * i.size + news.length ≤ cur.size) :
    (Builtin.append_ #[t, t] ty #[.slice (some ⟨g, o, none⟩) sLen sCap, .slice (some ad) m c]).run P w =
      .ok (.slice (some ⟨g, o, none⟩) (sLen + m) sCap) (w.setRow g (cur.toList.take (o + sLen * i.size) ++ news ++ cur.toList.drop (o + sLen * i.size + news.length)).toArray) := by
  have hf := run_firstCells_some (P := P) w i.size m ad m c news hl hnews
  have hst := run_storeCells_at P g (o + sLen * i.size) T news 0 cur w hg (by simpa using hfit) h1
  simp only [Nat.add_zero] at hst
  simp [Builtin.append_, run_underlying ht, sizeOf, typeInfo, hi, Builtin.lenOf, hroom, hf, addr_add, hst]
theorem append_types {w : World} {t t' ty e e' : TypeId} (ht : P.underlying t = some (.slice e)) (ht' : P.underlying t' = some (.slice e')) {n : Nat} (hn : (sizeOf e).run P w = .ok n w) (s x : Value) :
    (Builtin.append_ #[t, t'] ty #[s, x]).run P w = (Builtin.append_ #[t, t] ty #[s, x]).run P w := by
  unfold Builtin.append_
  cases s <;> simp only [Sem.run_bind, run_underlying ht, Result.andThen_ok, List.getElem?_toArray, List.getElem?_cons_zero, List.getElem?_cons_succ, hn, run_underlying ht']
theorem vec_look {id v0 : Nat} {ver : Ver} {p : List Nat} {τ : TT} {x : τ.C} {h : List AObj} {ok : Nat → Prop} (hobj : ∀ id, id < h.length → ORel w ρ ok id (hget h id)) {val : Value} (hv : VRel w ρ h ok (.tv id v0 p) val) (ho : hget h id = .vt ver τ x) (hc : v0 = ver.s ∨ (isNil p && τ.fixed) = true)
    {t : Ty} {l : List t.C} (hget' : TT.getK p τ x pairT = some ⟨.vec t, l⟩) : skAt p τ (ρ id).sk = some (.vec val) ∧ VecC w ok t l val := by
  obtain ⟨hl, hval⟩ := tv_val hv ho hc
  obtain ⟨τ', x', sk', cs', hK, k⟩ := look hobj hl ho hget'
  simp only [pairT, Option.some.injEq, Sigma.mk.injEq] at hK
  obtain ⟨rfl, hK⟩ := hK
  obtain rfl := eq_of_heq hK
  obtain ⟨e1, e2⟩ := val_of_ref k rfl hval
  obtain ⟨v, g1, g2, g3⟩ := k.part
  have hs := k.sk
  subst g1
  simp only [skVal, Option.some.injEq] at e2
  subst e2
  exact ⟨hs, g3⟩
theorem Open.appendX (hT : TTOk P tt) (h : Open F w0 st a w ρ) {ty tyo : TypeId} {te : Ty} (hty : tt ty = some (.list te)) {s x : Operand} {K : Out → Option R} {r : R}
    (hk : PB.appendX te (res st.heap (PB.ev st.tmps s)) (res st.heap (PB.ev st.tmps x)) K = some r) :
    ∃ out val w', K out = some r ∧ (Builtin.append_ #[ty, ty] tyo #[a.eval s, a.eval x]).run P w = .ok val w' ∧ ∀ dst, Rel F w0 (st.after dst out) (a.put dst val) w' := by
  obtain ⟨_, e, he, hte⟩ := hT _ _ hty
  obtain ⟨i, z, hi, hsize, hpos, hbytes, hz, hzc, _⟩ := hte.info
  have hzs : z.cells.size = te.width := by
    have h1 : z.cells.size = z.cells.toList.length := by simp
    rw [h1, hzc]
    exact Cells.length _ _ _ (cells_zero w (fun _ => True) te)
  have hs := h.ev s
  have hx := h.ev x
  unfold PB.appendX at hk
  split at hk
  · rename_i id ver p τ y es
    obtain ⟨v0, ev0, ho, hc⟩ := res_tr es
    rw [ev0] at hs
    obtain ⟨τ', l', hget', hk⟩ := getT_pair hk
    split at hk
    · rename_i t l
      obtain ⟨e1, hk1⟩ := sameK_inv hk
      clear hk
      subst e1
      obtain ⟨hsk, hvec⟩ := vec_look h.hrel.obj hs ho hc hget'
      obtain ⟨m, hk2, A, c, hxv, hm⟩ := listK_inv h.hrel.obj hx hk1
      obtain ⟨hroom, hk3⟩ := roomK_inv hk2
      have hmost : l.length + m.length ≤ 4294967296 := hroom
      split at hk3
      · simp at hk3
      · rename_i f p
        obtain ⟨τ2, x2, kf, hK, hget2, hrest⟩ := modK_inv hk3
        have e2 : (⟨τ2, x2⟩ : (τ : TT) × τ.C) = ⟨.vec t, l⟩ := by
          have := hget'
          unfold pairT at this
          rw [hget2] at this
          exact Option.some.inj this
        simp only [Sigma.mk.injEq] at e2
        obtain ⟨rfl, e2⟩ := e2
        obtain rfl := eq_of_heq e2
        obtain ⟨T, X, hKK, hre, _, hag, _⟩ := hrest _ _ _ hK
        have hag := hag (by simp)
        have hown : (hget st.heap id).owns = true := by rw [ho]; rfl
        obtain ⟨g1, g2, g3⟩ := vt_orel h.hrel.obj ho
        have hold : ∀ b ∈ vecBs (a.eval s), b < w.heap.size := fun b hb => by
          obtain ⟨sk', cs', k1, _, k3, _⟩ := hre.inner g3 g2
          rw [hsk] at k1
          obtain rfl := (Option.some.inj k1).symm
          exact (h.hrel.own id b hown (by rw [g1]; exact k3 b hb)).2
        have stay : x2 ++ m = x2 → (Builtin.append_ #[ty, ty] tyo #[a.eval s, a.eval x]).run P w = .ok (a.eval s) w → ∃ out val w', K out = some r ∧ (Builtin.append_ #[ty, ty] tyo #[a.eval s, a.eval x]).run P w = .ok val w' ∧ ∀ dst, Rel F w0 (st.after dst out) (a.put dst val) w' := by
          intro e0 hr
          refine ⟨_, _, _, hKK, hr, fun dst => h.takeVec ho hre hag hsk rfl rfl rfl (Nat.le_refl _) (fun _ _ _ => rfl) (fun b hb => ⟨hold b hb, .inr hb⟩) (fun ok' hok => ?_) dst⟩
          rw [e0]
          exact hvec.mono hok (fun _ _ => rfl)
        rcases hm with rfl | ⟨xb, xo, cm, hA, hcm, hcell⟩
        · refine stay (by simp) ?_
          rcases hvec with ⟨hv, h0⟩ | ⟨b, o, cap, cs, T', pre, cc, rest, hv, hrow, ecc, hpre, hsz, hlc, hrc⟩
          · rw [hv, hxv]; exact append_none w ty tyo e i he hi none (by simp) 0 0 (Nat.le_refl _) A c
          · rw [hv, hxv]; exact append_none w ty tyo e i he hi _ (by simp) _ cap hlc A c
        · by_cases hm0 : m = []
          · subst hm0
            refine stay (by simp) ?_
            rcases hvec with ⟨hv, h0⟩ | ⟨b, o, cap, cs, T', pre, cc, rest, hv, hrow, ecc, hpre, hsz, hlc, hrc⟩
            · rw [hv, hxv]; exact append_none w ty tyo e i he hi none (by simp) 0 0 (Nat.le_refl _) A c
            · rw [hv, hxv]; exact append_none w ty tyo e i he hi _ (by simp) _ cap hlc A c
          have hmpos : 0 < m.length := List.length_pos_iff.2 hm0
          have hcml := RowC.length (fun x cs => Cells.length t x cs) m cm hcm
          have hone := RowC.one m cm hcm
          have hcell' : ∀ j u, cm[j]? = some u → w.cell? ((⟨xb, xo, none⟩ : Addr).add j) = some u := fun j u hj => by rw [addr_add]; exact hcell j u hj
          have fits : ∀ old, old < x2.length + m.length → Builtin.nextslicecap (x2.length + m.length) old * i.bytes ≤ 281474976710656 := fun old ho => growslice_fits ho (by
            have : (x2.length + m.length) * i.bytes ≤ 4294967296 * 4096 := Nat.mul_le_mul hmost hbytes
            omega)
          have grown : ∀ (old : Nat), old < x2.length + m.length → ∀ cl : List Value, cl.length = x2.length * t.width → RowC (Cells w (okOf F w ρ st.heap) t) x2 cl → ∀ dst, Rel F w0 (st.after dst (.genN [(id, .vt ver.up T X)] (.vt ⟨0, 0⟩ (.vec t) (x2 ++ m)) .new))
              (a.put dst (.slice (some ⟨w.heap.size, 0, none⟩) (x2.length + m.length) (grownCap w (x2.length + m.length) old e))) (w.drew.alloc (.cells (cl.toArray ++ cm.toArray ++ Builtin.zeroCells z.cells (grownCap w (x2.length + m.length) old e - (x2.length + m.length))) e)) := by
            intro old hold' cl hcl hrc dst
            have hge := grownCap_ge w (x2.length + m.length) old e
            have hnew : (w.drew.alloc (.cells (cl.toArray ++ cm.toArray ++ Builtin.zeroCells z.cells (grownCap w (x2.length + m.length) old e - (x2.length + m.length))) e)).heap[w.heap.size]? = some (.cells (cl.toArray ++ cm.toArray ++ Builtin.zeroCells z.cells (grownCap w (x2.length + m.length) old e - (x2.length + m.length))) e (0, 0)) := heap_alloc_new w.drew _
            refine h.takeVec (w' := w.drew.alloc (.cells (cl.toArray ++ cm.toArray ++ Builtin.zeroCells z.cells (grownCap w (x2.length + m.length) old e - (x2.length + m.length))) e)) ho hre hag hsk rfl rfl rfl (by simp) (fun b hb _ => heap_alloc_old w.drew _ b hb) (fun b hb => ?_) (fun ok' hok => ?_) dst
            · simp only [vecBs, List.mem_singleton] at hb; subst hb; exact ⟨by simp, .inl (Nat.le_refl _)⟩
            · refine .inr ⟨w.heap.size, 0, grownCap w (x2.length + m.length) old e, _, e, [], cl ++ cm, (Builtin.zeroCells z.cells (grownCap w (x2.length + m.length) old e - (x2.length + m.length))).toList, by rw [List.length_append], hnew, by simp, rfl, ?_, by rw [List.length_append]; exact hge, ?_⟩
              · simp only [Array.size_append, List.size_toArray, size_zeroCells, hzs, hcl, hcml, ← Nat.add_mul, Nat.zero_add]
                congr 1; omega
              · exact RowC.append x2 m cl cm (RowC.mono (fun x cs => Cells.mono hok t x cs) _ _ hrc) (RowC.mono (fun x cs => Cells.mono hok t x cs) _ _ hcm)
          rcases hvec with ⟨hv, h0⟩ | ⟨b, o, cap, cs, T', pre, cc, rest, hv, hrow, ecc, hpre, hsz, hlc, hrc⟩
          · have hr := run_append_nil (P := P) w ty tyo e i z he hi hz ⟨xb, xo, none⟩ m.length c cm (by rw [hsize]; exact hcml) hcell' hmpos (by omega) (by
              have : m.length * i.bytes ≤ 4294967296 * 4096 := Nat.mul_le_mul (by omega) hbytes
              omega)
            subst h0
            have hg := grown 0 (by simpa using hmpos) [] (by simp) rfl
            simp only [List.length_nil, Nat.zero_add] at hg
            refine ⟨_, _, _, hKK, by rw [hv, hxv, hA]; exact hr, fun dst => ?_⟩
            have := hg dst
            simpa using this
          · have hccl := RowC.length (fun x cs => Cells.length t x cs) x2 cc hrc
            by_cases hfit : x2.length + m.length ≤ cap
            · have hfit' : o + x2.length * i.size + cm.length ≤ cs.size := by
                rw [hcml, hsize, hsz, Nat.add_assoc, ← Nat.add_mul]
                exact Nat.add_le_add_left (Nat.mul_le_mul_right _ hfit) _
              have hr := append_roomO (P := P) w ty tyo e i he hi b o x2.length cap cs T' hrow ⟨xb, xo, none⟩ m.length c cm (by rw [hsize]; exact hcml) hcell' hone hfit hfit'
              have htake : cs.toList.take (o + x2.length * i.size) = pre ++ cc := by
                rw [ecc, hsize, ← hccl, ← hpre, ← List.append_assoc, ← List.length_append, List.take_left]
              rw [htake] at hr
              have hbs : vecBs (a.eval s) = [b] := by rw [hv]; rfl
              have hrow' := setRow_heap w b cs (pre ++ cc ++ cm ++ cs.toList.drop (o + x2.length * i.size + cm.length)).toArray T' _ hrow
              refine ⟨_, _, _, hKK, by rw [hv, hxv, hA]; exact hr, fun dst => ?_⟩
              refine h.takeVec (w' := w.setRow b (pre ++ cc ++ cm ++ cs.toList.drop (o + x2.length * i.size + cm.length)).toArray) ho hre hag hsk rfl rfl rfl (by simp) (fun k _ hn => setRow_other w b k _ (fun e => hn (by rw [hbs, e]; simp))) (fun k hk => ?_) (fun ok' hok => ?_) dst
              · simp only [vecBs, List.mem_singleton] at hk; subst hk
                exact ⟨by simpa using hold k (by rw [hbs]; simp), .inr (by rw [hbs]; simp)⟩
              · refine .inr ⟨b, o, cap, _, T', pre, cc ++ cm, cs.toList.drop (o + x2.length * i.size + cm.length), by rw [List.length_append], hrow', by simp, hpre, ?_, by rw [List.length_append]; exact hfit, ?_⟩
                · rw [← hsz]
                  have : cs.size = cs.toList.length := by simp
                  simp only [List.size_toArray, List.length_append, List.length_drop]
                  rw [hccl, ← hsize, hpre]
                  omega
                · exact RowC.append x2 m cc cm (RowC.mono (fun x cs => Cells.mono hok t x cs) _ _ hrc) (RowC.mono (fun x cs => Cells.mono hok t x cs) _ _ hcm)
            · have holds : ∀ j u, cc[j]? = some u → w.cell? ((⟨b, o, none⟩ : Addr).add j) = some u := fun j u hj => by
                have hlt := (List.getElem?_eq_some_iff.1 hj).1
                rw [addr_add, cell_of_row w b _ cs T' _ hrow, ← Array.getElem?_toList, ecc, List.getElem?_append_right (by omega), hpre, Nat.add_sub_cancel_left, List.getElem?_append_left hlt]; exact hj
              have hr := run_append_grow (P := P) w ty tyo e i z he hi hz ⟨b, o, none⟩ x2.length cap cc (by rw [hsize]; exact hccl) holds ⟨xb, xo, none⟩ m.length c cm (by rw [hsize]; exact hcml) hcell' (by omega) (by omega) (fits cap (by omega))
              exact ⟨_, _, _, hKK, by rw [hv, hxv, hA]; exact hr, fun dst => grown cap (by omega) cc hccl hrc dst⟩
    · simp at hk
  · simp at hk
end
end Go.PB
namespace Go.PB
open Go Go.RowKit
section
variable {F : Fr} {P : Program} {G : Gv} {env : Env} {w0 w w' : World} {st : St} {a : Act} {ρ : Nat → Loc} {R : Type} {tt : Tab}
/-! ## 1. Cuts -/
theorem rowC_split {α : Type} {Q : α → List Value → Prop} {k : Nat} (hk : ∀ x cs, Q x cs → cs.length = k) : ∀ (xs : List α) (cs : List Value) (n : Nat), RowC Q xs cs → n ≤ xs.length → ∃ c1 c2, cs = c1 ++ c2 ∧ c1.length = n * k ∧ RowC Q (xs.take n) c1 ∧ RowC Q (xs.drop n) c2
  | xs, cs, 0, h, _ => ⟨[], cs, rfl, by simp, rfl, h⟩
  | [], _, n + 1, _, hn => by simp at hn
  | x :: xs, _, n + 1, ⟨d1, d2, e, h1, h2⟩, hn => by
    obtain ⟨c1, c2, e', l1, g1, g2⟩ := rowC_split hk xs d2 n h2 (by simpa using hn)
    exact ⟨d1 ++ c1, c2, by rw [e, e']; simp, by rw [List.length_append, hk _ _ h1, l1, Nat.succ_mul, Nat.add_comm], ⟨d1, c1, rfl, h1, g1⟩, g2⟩
theorem headK_inv {l : Int} {n : Nat} {K : Option R} {r : R} (h : headK l n K = some r) : (l = 0 ∨ l < n) ∧ K = some r := by
  unfold headK at h
  split at h
  · rename_i hc; exact ⟨hc, h⟩
  · simp at h
theorem Open.sliceX (hT : TTOk P tt) (h : Open F w0 st a w ρ) {ty : TypeId} {x : Operand} {lo hi mx : Option Operand} {K : Out → Option R} {r : R}
    (hk : PB.sliceX tt ty (res st.heap (PB.ev st.tmps x)) (lo.map fun x => res st.heap (PB.ev st.tmps x)) (hi.map fun x => res st.heap (PB.ev st.tmps x)) (mx.map fun x => res st.heap (PB.ev st.tmps x)) K = some r) :
    ∃ out val w', K out = some r ∧ (Instr.sliceAt ty (a.eval x) (lo.map a.eval) (hi.map a.eval) (mx.map a.eval)).run P w = .ok val w' ∧ ∀ dst, Rel F w0 (st.after dst out) (a.put dst val) w' := by
  have hs := h.ev x
  unfold PB.sliceX at hk
  split at hk
  · rename_i id ver p τ y es emx
    obtain rfl : mx = none := by cases mx with | none => rfl | some _ => cases emx
    obtain ⟨v0, ev0, ho, hc⟩ := res_tr es
    rw [ev0] at hs
    obtain ⟨τ', l', hget', hk⟩ := getT_pair hk
    split at hk
    · rename_i t l
      split at hk
      · rename_i t0 hty
        obtain ⟨e1, hk1⟩ := sameK_inv hk
        clear hk
        subst e1
        obtain ⟨hsk, hvec⟩ := vec_look h.hrel.obj hs ho hc hget'
        obtain ⟨_, e, he, hte⟩ := hT _ _ hty
        obtain ⟨i, hk2, hl⟩ := optI_inv (fun x => h.ev x) hk1
        obtain ⟨j, hk3, hm⟩ := optI_inv (fun x => h.ev x) hk2
        obtain ⟨hb, hk4⟩ := cutK_inv hk3
        obtain ⟨hh, hk5⟩ := headK_inv hk4
        split at hk5
        · simp at hk5
        · rename_i f p
          obtain ⟨τ2, x2, kf, hK, hget2, hrest⟩ := modK_inv hk5
          have e2 : (⟨τ2, x2⟩ : (τ : TT) × τ.C) = ⟨.vec t, l⟩ := by
            have := hget'
            unfold pairT at this
            rw [hget2] at this
            exact Option.some.inj this
          simp only [Sigma.mk.injEq] at e2
          obtain ⟨rfl, e2⟩ := e2
          obtain rfl := eq_of_heq e2
          obtain ⟨T, X, hKK, hre, _, hag, _⟩ := hrest _ _ _ hK
          have hag := hag (by simp)
          rcases hvec with ⟨hv, h0⟩ | ⟨b, o, cap, cs, T', pre, cc, rest, hv, hrow, ecc, hpre, hsz, hlc, hrc⟩
          · subst h0
            have hi0 : i = 0 := by have := hb.1; have := hb.2.1; have := hb.2.2; simp at this; omega
            have hj0 : j = 0 := by have := hb.1; have := hb.2.1; have := hb.2.2; simp at this; omega
            have hs := run_sliceBounds (P := P) (w := w) (isSlice := true) (len := 0) (cap := 0) hl (m := j) (hi := hi.map a.eval) hm hb.1 hb.2.1 (by simpa using hb.2.2) (Nat.le_refl 0)
            subst hi0 hj0
            refine ⟨_, .slice none 0 0, w, hKK, ?_, fun dst => h.takeVec ho hre hag hsk rfl rfl rfl (Nat.le_refl _) (fun _ _ _ => rfl) (fun b hb => by simp [vecBs] at hb) (fun ok' hok => .inl ⟨rfl, by simp⟩) dst⟩
            rw [hv]
            simp [Instr.sliceAt, Instr.slice, Go.underlying, he, hs, hte.run_sizeOf]
          · have hs := run_sliceBounds (P := P) (w := w) (isSlice := true) hl hm hb.1 hb.2.1 hb.2.2 hlc
            have hbs : vecBs (a.eval x) = [b] := by rw [hv]; rfl
            have hown : (hget st.heap id).owns = true := by rw [ho]; rfl
            obtain ⟨g1, g2, g3⟩ := vt_orel h.hrel.obj ho
            have hold : b < w.heap.size := by
              obtain ⟨sk', cs', k1, _, k3, _⟩ := hre.inner g3 g2
              rw [hsk] at k1
              obtain rfl := (Option.some.inj k1).symm
              exact (h.hrel.own id b hown (by rw [g1]; exact k3 b (by show b ∈ vecBs _; rw [hbs]; simp))).2
            have hlen : ((x2.take j.toNat).drop i.toNat).length = j.toNat - i.toNat := by simp; omega
            have hval : (Value.slice (if cap = i.toNat then some ⟨b, o, none⟩ else (some (⟨b, o, none⟩ : Addr)).map (·.add (i.toNat * t.width))) (j.toNat - i.toNat) (cap - i.toNat)) = .slice (some ⟨b, o + i.toNat * t.width, none⟩) (j.toNat - i.toNat) (cap - i.toNat) := by
              have : (if cap = i.toNat then some (⟨b, o, none⟩ : Addr) else (some (⟨b, o, none⟩ : Addr)).map (·.add (i.toNat * t.width))) = some ⟨b, o + i.toNat * t.width, none⟩ := by
                split
                · rename_i hci
                  have : i.toNat = 0 := by rcases hh with hh | hh <;> omega
                  rw [this]; simp
                · simp [addr_add]
              rw [this]
            refine ⟨_, .slice (some ⟨b, o + i.toNat * t.width, none⟩) (j.toNat - i.toNat) (cap - i.toNat), w, hKK, ?_, fun dst => h.takeVec ho hre hag hsk rfl rfl rfl (Nat.le_refl _) (fun _ _ _ => rfl) (fun k hk => ?_) (fun ok' hok => ?_) dst⟩
            · rw [← hval, hv]
              simp [Instr.sliceAt, Instr.slice, Go.underlying, he, hs, hte.run_sizeOf]
            · simp only [vecBs, List.mem_singleton] at hk; subst hk
              exact ⟨hold, .inr (by rw [hbs]; simp)⟩
            · obtain ⟨c1, c2, e3, l1, q1, q2⟩ := rowC_split (fun x cs => Cells.length t x cs) x2 cc j.toNat hrc (by omega)
              obtain ⟨d1, d2, e4, l2, q3, q4⟩ := rowC_split (fun x cs => Cells.length t x cs) (x2.take j.toNat) c1 i.toNat q1 (by simp; omega)
              refine .inr ⟨b, o + i.toNat * t.width, cap - i.toNat, cs, T', pre ++ d1, d2, c2 ++ rest, by rw [hlen], hrow, by rw [ecc, e3, e4]; simp, by rw [List.length_append, hpre, l2], ?_, by rw [hlen]; omega, RowC.mono (fun x cs => Cells.mono hok t x cs) _ _ q4⟩
              rw [hsz, Nat.add_assoc, ← Nat.add_mul]
              congr 2
              omega
      · simp at hk
    · simp at hk
  · simp at hk
/-! ## 2. Pointers and nil -/
theorem isNilK_inv {h : List AObj} {ok : Nat → Prop} (hobj : ∀ id, id < h.length → ORel w ρ ok id (hget h id)) {u : AVal} {val : Value} (hv : VRel w ρ h ok u val) {K : Bool → Option R} {r : R} (hk : isNilK (res h u) K = some r) :
    ∃ b, K b = some r ∧ ((b = true ∧ val = .pointer none) ∨ (b = false ∧ ∃ ad, val = .pointer (some ad))) := by
  unfold isNilK at hk
  split at hk
  · rename_i e
    exact ⟨true, hk, .inl ⟨rfl, res_nilp hv e⟩⟩
  · rename_i id ver p τ x e
    obtain ⟨v0, rfl, ho, hc⟩ := res_tr e
    obtain ⟨hl, hval⟩ := tv_val hv ho hc
    obtain ⟨τ', x', sk', cs', hK, k⟩ := look hobj hl ho hk
    split at hK
    · rename_i σ y
      obtain ⟨e1, e2⟩ := val_of_ref k rfl hval
      obtain ⟨b, cc, T, s, e3, _⟩ := k.part
      rw [e3] at e2
      exact ⟨false, hK, .inr ⟨rfl, _, (Option.some.inj e2).symm⟩⟩
    · rename_i σ y
      obtain ⟨e1, e2⟩ := val_of_ref k rfl hval
      split at hK
      · obtain ⟨b, cc, T, s, e3, _⟩ := k.part
        rw [e3] at e2
        exact ⟨false, hK, .inr ⟨rfl, _, (Option.some.inj e2).symm⟩⟩
      · obtain ⟨e3, _⟩ := k.part
        rw [e3] at e2
        exact ⟨true, hK, .inl ⟨rfl, (Option.some.inj e2).symm⟩⟩
    · simp at hK
  · simp at hk
theorem isNilp_val {h : List AObj} {ok : Nat → Prop} {u : AVal} {val : Value} (hv : VRel w ρ h ok u val) (hk : isNilp (res h u) = true) : val = .pointer none := by
  cases e : res h u with
  | nilp => exact res_nilp hv e
  | _ => rw [e] at hk; simp [isNilp] at hk
theorem nilEqX_yield {h : List AObj} {ok : Nat → Prop} (hT : TTOk P tt) (hobj : ∀ id, id < h.length → ORel w ρ ok id (hget h id)) {t : TypeId} {op : BinOp} {u v : AVal} {x y : Value} (ox oy : Operand) (hx : VRel w ρ h ok u x) (hy : VRel w ρ h ok v y) {K : Out → Option R} {r : R}
    (hk : nilEqX tt t op (res h u) (res h v) K = some r) : Yield P w ρ h ok K r (do eqGuard op t ox oy x y; binOp op t x y) := by
  unfold nilEqX at hk
  obtain ⟨hc, hk⟩ := cond_none_inv hk
  simp only [Bool.and_eq_true, Bool.or_eq_true] at hc
  obtain ⟨e, he⟩ : ∃ e, P.underlying t = some (.pointer e) := by
    have h1 := hc.1
    unfold Tab.ptr at h1
    split at h1
    · rename_i τ hm
      exact (hT.mt _ _ hm).2
    · simp at h1
  obtain ⟨b1, hk, h1⟩ := isNilK_inv hobj hx hk
  obtain ⟨b2, hk, h2⟩ := isNilK_inv hobj hy hk
  have hor : x = .pointer none ∨ y = .pointer none := hc.2.imp (isNilp_val hx) (isNilp_val hy)
  have heq : (Op.equal t x y).run P w = .ok (b1 && b2) w := by
    unfold Op.equal
    rw [show Op.maxDepth = 9999 + 1 from rfl, Op.equalIn]
    rcases h1 with ⟨rfl, rfl⟩ | ⟨rfl, a1, rfl⟩ <;> rcases h2 with ⟨rfl, rfl⟩ | ⟨rfl, a2, rfl⟩
    · simp [Go.underlying, he]
    · simp [Go.underlying, he]
    · simp [Go.underlying, he]
    · simp at hor
  have hptr : (∃ A, x = .pointer A) ∧ ∃ B, y = .pointer B := ⟨by rcases h1 with ⟨_, e⟩ | ⟨_, _, e⟩ <;> exact ⟨_, e⟩, by rcases h2 with ⟨_, e⟩ | ⟨_, _, e⟩ <;> exact ⟨_, e⟩⟩
  obtain ⟨⟨A, rfl⟩, B, rfl⟩ := hptr
  cases op with
  | eql =>
    have hg : (eqGuard .eql t ox oy (.pointer A) (.pointer B)).run P w = .ok () w := rfl
    have hb : binOp .eql t (.pointer A) (.pointer B) = (do pure (.bool (← Op.equal t (.pointer A) (.pointer B)))) := rfl
    exact ⟨_, _, hk, dval_bool _ _ _, by simp [hg, hb, heq]⟩
  | neq =>
    have hg : (eqGuard .neq t ox oy (.pointer A) (.pointer B)).run P w = .ok () w := rfl
    have hb : binOp .neq t (.pointer A) (.pointer B) = (do pure (.bool (!(← Op.equal t (.pointer A) (.pointer B))))) := rfl
    exact ⟨_, _, hk, dval_bool _ _ _, by simp [hg, hb, heq]⟩
  | _ => simp at hk
/-! ## 3. Structs of trees -/
theorem zt_width : ∀ τ : TT, τ.zt.width = τ.width
  | .data _ | .vec _ | .map _ _ | .own _ | .opt _ | .hole | .unit => rfl
  | .pair a b => by simp [TT.zt, TT.width, zt_width a, zt_width b]
  | .agg τ => by simp [TT.zt, TT.width, zt_width τ]
theorem zt_off : ∀ {τ : TT} {f off : Nat} {u : TT}, TT.compOff τ.zt f = some (off, u) → ∃ u0, TT.compOff τ f = some (off, u0) ∧ u0.width = u.width
  | .pair a b, 0, off, u, h => by
    simp only [TT.zt, TT.compOff, Option.some.injEq, Prod.mk.injEq] at h
    obtain ⟨rfl, rfl⟩ := h
    exact ⟨a, rfl, (zt_width a).symm⟩
  | .pair a b, n + 1, off, u, h => by
    simp only [TT.zt, TT.compOff] at h
    split at h
    · rename_i o t e
      simp only [Option.some.injEq, Prod.mk.injEq] at h
      obtain ⟨rfl, rfl⟩ := h
      obtain ⟨u0, h1, h2⟩ := zt_off e
      exact ⟨u0, by simp [TT.compOff, h1, zt_width], h2⟩
    · simp at h
  | .data _, _, _, _, h => by simp [TT.zt, TT.compOff] at h
  | .vec _, _, _, _, h => by simp [TT.zt, TT.compOff] at h
  | .map _ _, _, _, _, h => by simp [TT.zt, TT.compOff] at h
  | .own _, _, _, _, h => by simp [TT.zt, TT.compOff] at h
  | .opt _, _, _, _, h => by simp [TT.zt, TT.compOff] at h
  | .hole, _, _, _, h => by simp [TT.zt, TT.compOff] at h
  | .unit, _, _, _, h => by simp [TT.zt, TT.compOff] at h
  | .agg _, _, _, _, h => by simp [TT.zt, TT.compOff] at h
theorem compMod_inv2 : ∀ {τ : TT} {x : τ.C} {f : Nat} {g : (τ' : TT) → τ'.C → ((τ'' : TT) → τ''.C → Option R) → Option R} {K : (τ' : TT) → τ'.C → Option R} {r : R}, TT.compMod τ x f g K = some r →
    ∃ u y k off, g u y k = some r ∧ TT.compOff τ f = some (off, u) ∧ ∀ u1 y1 r', k u1 y1 = some r' → ∃ τ1 x1, K τ1 x1 = some r' ∧ CompRe τ x f off u y u1 y1 τ1 x1 ∧
      (u1.width = u.width → τ1.width = τ.width ∧ ∀ n o v, TT.compOff τ1 n = some (o, v) → ∃ v0, TT.compOff τ n = some (o, v0) ∧ v0.width = v.width)
  | .pair a b, x, 0, g, K, r, h => by
    refine ⟨a, x.1, _, 0, h, rfl, fun u1 y1 r' hk => ⟨_, _, hk, ?_, fun e => ⟨by simp [TT.width, e], fun n o v hv => ?_⟩⟩⟩
    · rintro w ok sk cs ⟨s1, s2, c1, c2, rfl, rfl, h1, h2⟩ hn
      refine ⟨s1, [], c1, c2, rfl, by simp, rfl, h1, fun s => (Swap.refl _ _).right _, fun w1 ok1 s d hok hb hd => ⟨s, s2, d, c2, rfl, by simp, hd, ?_⟩⟩
      exact TCells.mono hok b x.2 s2 c2 (fun k hk => hb k (List.mem_append_right _ hk) (fun hk' => (List.nodup_append.1 hn).2.2 k hk' k hk rfl)) h2
    · cases n with
      | zero =>
        simp only [TT.compOff, Option.some.injEq, Prod.mk.injEq] at hv
        obtain ⟨rfl, rfl⟩ := hv
        exact ⟨a, rfl, e.symm⟩
      | succ n =>
        simp only [TT.compOff] at hv ⊢
        split at hv
        · rename_i o' t' e'
          simp only [Option.some.injEq, Prod.mk.injEq] at hv
          obtain ⟨rfl, rfl⟩ := hv
          exact ⟨t', by rw [e], rfl⟩
        · simp at hv
  | .pair a b, x, n + 1, g, K, r, h => by
    obtain ⟨u, y, k, off, h1, h2, h3⟩ := compMod_inv2 (τ := b) (x := x.2) (f := n) h
    refine ⟨u, y, k, a.width + off, h1, by simp [TT.compOff, h2], fun u1 y1 r' hk => ?_⟩
    obtain ⟨τ1, x1, h4, h5, h6⟩ := h3 u1 y1 r' hk
    refine ⟨_, _, h4, ?_, fun e => ⟨by simp [TT.width, (h6 e).1], fun m o v hv => ?_⟩⟩
    · rintro w ok sk cs ⟨s1, s2, c1, c2, rfl, rfl, g1, g2⟩ hn
      have hn' := List.nodup_append.1 hn
      obtain ⟨s, d1, d2, d3, e1, e2, e3, e4, e5, e6⟩ := h5 w ok s2 c2 g2 hn'.2.1
      refine ⟨s, c1 ++ d1, d2, d3, by simp [compSk, e1], by rw [e2]; simp, by simp [e3, TCells.length _ _ _ _ g1], e4, fun s' => (e5 s').left _, fun w1 ok1 s' d hok hb hd => ?_⟩
      refine ⟨s1, _, c1, d1 ++ (d ++ d3), rfl, by simp, ?_, e6 w1 ok1 s' d hok (fun k hk hk' => hb k (List.mem_append_right _ hk) hk') hd⟩
      refine TCells.mono hok a x.1 s1 c1 (fun k hk => hb k (List.mem_append_left _ hk) (fun hk' => ?_)) g1
      exact hn'.2.2 k hk k ((e5 .leaf).sub k hk') rfl
    · cases m with
      | zero =>
        simp only [TT.compOff, Option.some.injEq, Prod.mk.injEq] at hv
        obtain ⟨rfl, rfl⟩ := hv
        exact ⟨a, rfl, rfl⟩
      | succ m =>
        simp only [TT.compOff] at hv ⊢
        split at hv
        · rename_i o' t' e'
          simp only [Option.some.injEq, Prod.mk.injEq] at hv
          obtain ⟨rfl, rfl⟩ := hv
          obtain ⟨v0, g1, g2⟩ := (h6 e).2 _ _ _ e'
          exact ⟨v0, by rw [g1], g2⟩
        · simp at hv
  | .data _, _, _, _, _, _, h => by simp [TT.compMod] at h
  | .vec _, _, _, _, _, _, h => by simp [TT.compMod] at h
  | .map _ _, _, _, _, _, _, h => by simp [TT.compMod] at h
  | .own _, _, _, _, _, _, h => by simp [TT.compMod] at h
  | .opt _, _, _, _, _, _, h => by simp [TT.compMod] at h
  | .hole, _, _, _, _, _, h => by simp [TT.compMod] at h
  | .unit, _, _, _, _, _, h => by simp [TT.compMod] at h
  | .agg _, _, _, _, _, _, h => by simp [TT.compMod] at h
theorem MtOk.info {ty : TypeId} : ∀ {τ : TT}, MtOk P τ ty → ∃ i z, P.info? ty = some i ∧ i.size = τ.width ∧ i.zero = some z ∧ z.cells.toList = τ.zcells
  | .data t, h => by obtain ⟨i, z, h1, h2, _, _, h3, h4, _⟩ := TyOk.info h; exact ⟨i, z, h1, h2, h3, h4⟩
  | .vec t, h => by obtain ⟨i, z, h1, h2, _, _, h3, h4, _⟩ := TyOk.info (t := .list t) h; exact ⟨i, z, h1, h2, h3, h4⟩
  | .map k v, ⟨⟨i, z, h1, h2, _, h3, h4, _⟩, _⟩ => ⟨i, z, h1, h2, h3, h4⟩
  | .opt τ, ⟨⟨i, z, h1, h2, _, h3, h4, _⟩, _⟩ => ⟨i, z, h1, h2, h3, h4⟩
  | .agg τ, ⟨⟨i, z, h1, h2, _, h3, h4, _⟩, _⟩ => ⟨i, z, h1, h2, h3, h4⟩
  | .own _, h => by simp [MtOk] at h
  | .hole, h => by simp [MtOk] at h
  | .unit, h => by simp [MtOk] at h
  | .pair _ _, h => by simp [MtOk] at h
theorem mchain_places : ∀ {τ : TT} {base : Nat} {fs : List Field}, MChain P τ base fs → ∃ places, fs.mapM (fun f => (P.info? f.type).map fun i => (f.offset, i.size)) = some places ∧
    ∀ f off u, TT.compOff τ f = some (off, u) → places[f]? = some (base + off, u.width)
  | .pair a b, base, fd :: fs, ⟨h1, h2, h3⟩ => by
    obtain ⟨places, hp, hpl⟩ := mchain_places h3
    obtain ⟨i, z, hi, hs, _⟩ := MtOk.info h2
    refine ⟨(fd.offset, i.size) :: places, by simp [List.mapM_cons, hi, hp], fun f off t' ho => ?_⟩
    cases f with
    | zero =>
      simp only [TT.compOff, Option.some.injEq, Prod.mk.injEq] at ho
      obtain ⟨rfl, rfl⟩ := ho
      simp [h1, hs]
    | succ n =>
      simp only [TT.compOff] at ho
      split at ho
      · rename_i o u hou
        simp only [Option.some.injEq, Prod.mk.injEq] at ho
        obtain ⟨rfl, rfl⟩ := ho
        have := hpl _ _ _ hou
        simp only [List.getElem?_cons_succ]
        rw [this, Nat.add_assoc]
      · simp at ho
  | .unit, base, [], _ => ⟨[], rfl, fun f off t' ho => by simp [TT.compOff] at ho⟩
  | .pair a b, _, [], h => by simp [MChain] at h
  | .unit, _, _ :: _, h => by simp [MChain] at h
  | .data _, _, _, h => by simp [MChain] at h
  | .vec _, _, _, h => by simp [MChain] at h
  | .map _ _, _, _, h => by simp [MChain] at h
  | .own _, _, _, h => by simp [MChain] at h
  | .opt _, _, _, h => by simp [MChain] at h
  | .hole, _, _, h => by simp [MChain] at h
  | .agg _, _, _, h => by simp [MChain] at h
structure Made (w : World) (ok : Nat → Prop) (ρ : Nat → Loc) (h : List AObj) (τ : TT) (x : τ.C) (g : Option Nat) (sk : Skel) (cells : Array Value) : Prop where
  cells : TCells w ok τ x sk cells.toList
  nodup : sk.blocks.Nodup
  sub : ∀ b ∈ sk.blocks, ∃ g', g = some g' ∧ b ∈ (ρ g').bs
  owns : ∀ g', g = some g' → (hget h g').owns = true
theorem partsX_inv {h : List AObj} {ok : Nat → Prop} (hobj : ∀ id, id < h.length → ORel w ρ ok id (hget h id)) {places : List (Nat × Nat)} :
    ∀ {ps : List (Nat × AVal)} {vs : List (Nat × Value)} {τ : TT} {x : τ.C} {g : Option Nat} {sk : Skel} {cells : Array Value} {K : (τ' : TT) → τ'.C → Option Nat → Option R} {r : R}, Made w ok ρ h τ x g sk cells →
    (∀ f off u, TT.compOff τ f = some (off, u) → places[f]? = some (off, u.width)) → (ps.length = vs.length ∧ ∀ (i : Nat) (p : Nat × AVal) (v : Nat × Value), ps[i]? = some p → vs[i]? = some v → p.1 = v.1 ∧ VRel w ρ h ok p.2 v.2) →
    partsX tt τ x (ps.map fun p => (p.1, res h p.2)) g K = some r → ∃ τ' x' g' sk' cells', K τ' x' g' = some r ∧ Instr.fill (places.toArray[·]?) cells vs = some cells' ∧ Made w ok ρ h τ' x' g' sk' cells'
  | [], vs, τ, x, g, sk, cells, K, r, hm, hpl, hl, hk => by
    have : vs = [] := List.eq_nil_of_length_eq_zero hl.1.symm
    subst this
    exact ⟨τ, x, g, sk, cells, hk, rfl, hm⟩
  | p :: ps, [], _, _, _, _, _, _, _, _, _, hl, _ => by simp at hl
  | p :: ps, v :: vs, τ, x, g, sk, cells, K, r, hm, hpl, hl, hk => by
    obtain ⟨e1, hv⟩ := hl.2 0 p v rfl rfl
    have hl' : ps.length = vs.length ∧ ∀ (i : Nat) (p : Nat × AVal) (v : Nat × Value), ps[i]? = some p → vs[i]? = some v → p.1 = v.1 ∧ VRel w ρ h ok p.2 v.2 := ⟨by simpa using hl.1, fun i p' v' hp hv => hl.2 (i + 1) p' v' (by simpa using hp) (by simpa using hv)⟩
    -- one part is laid
    have lay : ∀ {u u1 : TT} {y : u.C} {y1 : u1.C} {τ1 : TT} {x1 : τ1.C} {off : Nat} {g1 : Option Nat} {s1 : Skel}, TT.compOff τ p.1 = some (off, u) → CompRe τ x p.1 off u y u1 y1 τ1 x1 →
        (u1.width = u.width → τ1.width = τ.width ∧ ∀ n o v, TT.compOff τ1 n = some (o, v) → ∃ v0, TT.compOff τ n = some (o, v0) ∧ v0.width = v.width) → u1.width = u.width → TCells w ok u1 y1 s1 v.2.cells.toList → s1.blocks.Nodup →
        (∀ b ∈ s1.blocks, b ∉ sk.blocks) → (∀ b ∈ s1.blocks, ∃ g', g1 = some g' ∧ b ∈ (ρ g').bs) → (∀ b ∈ sk.blocks, ∃ g', g1 = some g' ∧ b ∈ (ρ g').bs) → (∀ g', g1 = some g' → (hget h g').owns = true) →
        partsX tt τ1 x1 (ps.map fun p => (p.1, res h p.2)) g1 K = some r → ∃ τ' x' g' sk' cells', K τ' x' g' = some r ∧ Instr.fill (places.toArray[·]?) cells (v :: vs) = some cells' ∧ Made w ok ρ h τ' x' g' sk' cells' := by
      intro u u1 y y1 τ1 x1 off g1 s1 ho hre hw hwd hc hnd hap hsub hsub' hown hk'
      obtain ⟨s, c1, c2, c3, k1, k2, k3, k4, k5, k6⟩ := hre w ok sk cells.toList hm.cells hm.nodup
      obtain ⟨cells1, e', hf⟩ := fill_step (place := (places.toArray[·]?)) (i := v.1) (v := v.2) (rest := vs) (off := off) (size := u.width) (by rw [List.getElem?_toArray, ← e1]; exact hpl _ _ _ ho) k2 k3 (TCells.length _ _ _ _ k4) (by rw [TCells.length _ _ _ _ hc, hwd])
      have swap := k5 s1
      have mem : ∀ b ∈ (compSkSet τ sk p.1 s1).blocks, b ∈ s1.blocks ∨ b ∈ sk.blocks := fun b hb => (swap.mem' hm.nodup b hb).imp (fun h => h) (·.1)
      obtain ⟨τ2, x2, g2, sk2, cells2, q1, q2, q3⟩ := partsX_inv hobj (places := places) (ps := ps) (vs := vs) (τ := τ1) (x := x1) (g := g1) (sk := compSkSet τ sk p.1 s1) (cells := cells1) (K := K) (r := r)
        ⟨by rw [e']; exact k6 w ok s1 _ (fun b hb => ⟨hb, rfl⟩) (fun _ _ _ => rfl) hc, swap.nodup hm.nodup hnd (fun b hb hb' => absurd hb' (hap b hb)), fun b hb => (mem b hb).elim (hsub b) (hsub' b), hown⟩
        (fun f off u hu => by
          obtain ⟨v0, h1, h2⟩ := (hw hwd).2 _ _ _ hu
          rw [hpl _ _ _ h1, h2]) hl' hk'
      exact ⟨τ2, x2, g2, sk2, cells2, q1, by rw [hf]; exact q2, q3⟩
    have plain : (TT.compMod τ x p.1 (fun τ' _ k => match τ' with
        | .data t' => RVal.dataK (res h p.2) t' fun z => k (.data t') z
        | _ => none) fun τ1 x1 => partsX tt τ1 x1 (ps.map fun p => (p.1, res h p.2)) g K) = some r → ∃ τ' x' g' sk' cells', K τ' x' g' = some r ∧ Instr.fill (places.toArray[·]?) cells (v :: vs) = some cells' ∧ Made w ok ρ h τ' x' g' sk' cells' := by
      intro hk
      obtain ⟨u, y, k, off, h1, h2, h3⟩ := compMod_inv2 hk
      split at h1
      · rename_i t'
        obtain ⟨z, h4, hd⟩ := dataK_inv hv h1
        obtain ⟨τ1, x1, h5, h6, h7⟩ := h3 _ _ _ h4
        exact lay (s1 := .leaf) h2 h6 h7 rfl ⟨rfl, hd.1⟩ (by simp [Skel.blocks]) (fun b hb => by simp [Skel.blocks] at hb) (fun b hb => by simp [Skel.blocks] at hb) hm.sub hm.owns h5
      · simp at h1
    simp only [List.map_cons] at hk
    cases er : res h p.2 with
    | tr id2 ver pp τ2 y2 =>
      rw [er] at hk plain
      cases pp with
      | cons _ _ => exact plain hk
      | nil =>
        simp only [partsX] at hk
        cases g with
        | some _ => simp at hk
        | none =>
          simp only at hk
          obtain ⟨u, y, k, off, h1, h2, h3⟩ := compMod_inv2 hk
          obtain ⟨hcw, h1⟩ := cond_none_inv h1
          simp only [Bool.and_eq_true] at hcw
          have htk : takeK (res h p.2) (fun id σ z => some (⟨id, σ, z⟩ : (id : Nat) × (σ : TT) × σ.C)) = some ⟨id2, τ2, y2⟩ := by rw [er]; rfl
          obtain ⟨g, σ, z, s, hq, src, _⟩ := takeK_inv hobj hv htk
          simp only [Option.some.injEq, Sigma.mk.injEq] at hq
          obtain ⟨rfl, hq⟩ := hq
          simp only [heq_eq_eq, Sigma.mk.injEq] at hq
          obtain ⟨rfl, hq⟩ := hq
          obtain rfl := eq_of_heq hq
          have hsk : sk.blocks = [] := List.eq_nil_iff_forall_not_mem.2 fun b hb => by obtain ⟨g', e, _⟩ := hm.sub b hb; cases e
          have fin : k σ z = some r → ∃ τ' x' g' sk' cells', K τ' x' g' = some r ∧ Instr.fill (places.toArray[·]?) cells (v :: vs) = some cells' ∧ Made w ok ρ h τ' x' g' sk' cells' := fun hk' => by
            obtain ⟨τ1, x1, h5, h6, h7⟩ := h3 _ _ _ hk'
            exact lay h2 h6 h7 (Nat.eq_of_beq_eq_true hcw.1) src.cells src.nodup (fun b _ => by rw [hsk]; simp) (fun b hb => ⟨g, rfl, src.sub b hb⟩) (fun b hb => by rw [hsk] at hb; simp at hb) (fun g' e => by obtain rfl := Option.some.inj e; exact src.owns) h5
          split at h1
          · exact fin h1
          · exact fin h1
          · simp at h1
    | _ => rw [er] at hk plain; exact plain hk
theorem Open.buildX (hT : TTOk P tt) (h : Open F w0 st a w ρ) {ty : TypeId} (ps : Array (Nat × Operand)) {K : Out → Option R} {r : R} (hk : PB.buildX tt ty (ps.toList.map fun p => (p.1, res st.heap (PB.ev st.tmps p.2))) K = some r) :
    ∃ out val w', K out = some r ∧ (Instr.build ty (ps.map fun (i, x) => (i, a.eval x))).run P w = .ok val w' ∧ ∀ dst, Rel F w0 (st.after dst out) (a.put dst val) w' := by
  unfold PB.buildX at hk
  split at hk
  · rename_i τ hm
    obtain ⟨⟨i, z, hi, hs, _, hz, hzc, _⟩, fs, hfs, hch⟩ := hT.mt _ _ hm
    obtain ⟨places, hp, hpl⟩ := mchain_places hch
    obtain ⟨s0, h1, h2⟩ := tcells_zero (w := w) (ok := okOf F w ρ st.heap) τ
    have hlist : (ps.toList.map fun p => (p.1, res st.heap (PB.ev st.tmps p.2))) = (ps.toList.map fun p => (p.1, PB.ev st.tmps p.2)).map fun p => (p.1, res st.heap p.2) := by simp [Function.comp_def]
    rw [hlist] at hk
    obtain ⟨τ', x', g', sk', cells', hK, hf, made⟩ := partsX_inv h.hrel.obj (places := places) (vs := ps.toList.map fun (i, x) => (i, a.eval x)) (sk := s0) (cells := z.cells)
      ⟨by rw [hzc]; exact h1, by rw [h2]; simp, fun b hb => by rw [h2] at hb; simp at hb, fun g' e => by cases e⟩
      (fun f off u hu => by
        obtain ⟨u0, k1, k2⟩ := zt_off hu
        have := hpl _ _ _ k1
        rw [this, k2, Nat.zero_add])
      ⟨by simp, fun i p v hp hv => by
        rw [List.getElem?_map] at hp hv
        cases hi : ps.toList[i]? with
        | none => rw [hi] at hp; simp at hp
        | some q =>
          rw [hi] at hp hv
          simp only [Option.map_some, Option.some.injEq] at hp hv
          subst hp hv
          exact ⟨rfl, h.ev q.2⟩⟩ hk
    have hrun : (Instr.build ty (ps.map fun (i, x) => (i, a.eval x))).run P w = .ok (.agg cells') w := run_build w ty _ cells' (by
      unfold Program.built
      simp only [hi, hfs, hz, hp, Array.toList_map]
      exact hf)
    refine ⟨_, .agg cells', w, hK, hrun, fun dst => ?_⟩
    have e : setρ ρ st.heap.length ⟨sk'.blocks, cells'.toList, sk'⟩ st.heap.length = ⟨sk'.blocks, cells'.toList, sk'⟩ := by simp [setρ]
    have c : Fresh w ρ st.heap g' w ⟨sk'.blocks, cells'.toList, sk'⟩ := ⟨Nat.le_refl _, made.owns, fun _ _ _ => rfl, fun b hb => by
      obtain ⟨g, e1, e2⟩ := made.sub b hb
      exact ⟨(h.hrel.own g b (made.owns g e1) e2).2, .inr ⟨g, e1, e2⟩⟩⟩
    have := h.fresh (o := .vt ⟨0, 0⟩ (.agg τ') x') c rfl rfl rfl (fun hd => by
      refine ⟨by rw [e], by rw [e]; exact made.nodup, ?_⟩
      rw [e]
      exact TCells.mono hd (.agg τ') x' sk' _ (fun _ _ => rfl) made.cells) (v := .tv st.heap.length 0 []) (val := .agg cells') (fun hg => by
      refine ⟨by cases g' <;> simp [goneH, length_hset], ?_⟩
      rw [hg]
      exact ⟨Nat.le_refl _, fun _ => by rw [e]; exact ⟨fun _ => by simp, fun h => by simp [TT.isAgg] at h⟩⟩) dst
    cases g' <;> simpa [St.after, Out.value, hsets, NV.val, goneH, goneU, length_hset] using this
  · simp at hk
end
end Go.PB
namespace Go.PB
open Go Go.RowKit
section
variable {F : Fr} {P : Program} {G : Gv} {env : Env} {w0 w w' : World} {st : St} {a : Act} {ρ : Nat → Loc} {R : Type} {tt : Tab}
theorem wp_val {o : Oper} {v : Value} {next : Act → World → Prop} {Q : Exit → Act → World → Prop} (hr : (execOp a.eval o).run P w = .ok (.value v) w') (h : next (a.put o.dst v) w') : o.wp P a w next Q := by
  unfold Oper.wp; rw [hr]; exact h
theorem wp_skp {o : Oper} {next : Act → World → Prop} {Q : Exit → Act → World → Prop} (hr : (execOp a.eval o).run P w = .ok .skip w') (h : next (a.put o.dst undef) w') : o.wp P a w next Q := by
  unfold Oper.wp; rw [hr]; exact h
theorem wp_enter {o : Oper} {f : FuncId} {args : Array Value} {next : Act → World → Prop} {Q : Exit → Act → World → Prop} (hr : (execOp a.eval o).run P w = .ok (.enter f args) w)
    (h : Calls P f args w fun e w' => ∃ val, e = .returned val ∧ next (a.put o.dst val) w') : o.wp P a w next Q := by
  unfold Oper.wp; rw [hr]
  exact h.mono fun e w' ⟨val, he, hn⟩ => by subst he; exact hn
def Goes (F : Fr) (w0 : World) (K : St → Option R) (r : R) (a' : Act) (w' : World) : Prop := ∃ st', K st' = some r ∧ Rel F w0 st' a' w'
theorem goes_yield (h : Open F w0 st a w ρ) {o : Oper} {s : Sem Value} {K : St → Option R} {r : R} {Q : Exit → Act → World → Prop} (he : (execOp a.eval o).run P w = (s.run P w).andThen fun v w => .ok (.value v) w)
    (hy : Yield P w ρ st.heap (okOf F w ρ st.heap) (fun out => K (st.after o.dst out)) r s) : o.wp P a w (Goes F w0 K r) Q := by
  obtain ⟨v, val, hk, hv, hr⟩ := hy
  exact wp_val (by rw [he, hr]; rfl) ⟨_, hk, h.q hv o.dst⟩
theorem goes_out {o : Oper} {s : Sem Value} {K : St → Option R} {r : R} {Q : Exit → Act → World → Prop} (he : (execOp a.eval o).run P w = (s.run P w).andThen fun v w => .ok (.value v) w)
    (hy : ∃ out val w', K (st.after o.dst out) = some r ∧ s.run P w = .ok val w' ∧ ∀ dst, Rel F w0 (st.after dst out) (a.put dst val) w') : o.wp P a w (Goes F w0 K r) Q := by
  obtain ⟨out, val, w', hk, hr, hrel⟩ := hy
  exact wp_val (by rw [he, hr]; rfl) ⟨_, hk, hrel o.dst⟩
theorem pick_yield (h : Open F w0 st a w ρ) {c x y : Operand} {K : Out → Option R} {r : R}
    (hk : (match res st.heap (PB.ev st.tmps c) with
      | .data .bool b => match PB.ev st.tmps x, PB.ev st.tmps y with
        | .data t u, .data t' v => castK t' t v fun v' => K (.q (.data t (cond b u v')))
        | u, v => cond b (K (.q u)) (K (.q v))
      | _ => none) = some r) :
    Yield P w ρ st.heap (okOf F w ρ st.heap) K r (do pure (if ← asBool (a.eval c) then a.eval x else a.eval y)) := by
  split at hk
  · rename_i b ec
    have hb := (res_data (h.ev c) ec).bool_inv
    have hx := h.ev x
    have hy := h.ev y
    split at hk
    · rename_i t u t' v ex ey
      obtain ⟨e, hk⟩ := castK_inv hk
      subst e
      rw [ex] at hx; rw [ey] at hy
      refine ⟨_, if b then a.eval x else a.eval y, hk, ?_, by rw [hb]; simp [asBool]⟩
      cases b with
      | true => exact hx
      | false => exact hy
    · cases b with
      | true => exact ⟨_, a.eval x, hk, hx, by rw [hb]; simp [asBool]⟩
      | false => exact ⟨_, a.eval y, hk, hy, by rw [hb]; simp [asBool]⟩
  · simp at hk
theorem vlist_foldr (h : Open F w0 st a w ρ) : ∀ l : List Operand, VList w ρ st.heap (okOf F w ρ st.heap) (l.foldr (fun x t => .tcons (PB.ev st.tmps x) t) .tnil) (l.map a.eval)
  | [] => rfl
  | x :: l => ⟨_, _, rfl, h.ev x, vlist_foldr h l⟩
theorem minmax_run (isMax : Bool) {k : IntKind} (h : Open F w0 st a w ρ) : ∀ (l : List Operand) (n : Int) (K : Int → Option R) (r : R), minmax isMax n (l.map fun x => res st.heap (PB.ev st.tmps x)) K = some r →
    ∃ m, K m = some r ∧ ((l.map a.eval).foldlM (cond isMax Builtin.max2 Builtin.min2) (.int k n)).run P w = .ok (.int k m) w
  | [], n, K, r, hk => ⟨n, hk, by simp⟩
  | x :: l, n, K, r, hk => by
    simp only [List.map_cons] at hk
    cases hx : res st.heap (PB.ev st.tmps x) with
    | data t y =>
      cases t with
      | int k' =>
        rw [hx] at hk
        simp only [minmax] at hk
        obtain ⟨m, hm, hr⟩ := minmax_run isMax h l _ K r hk
        refine ⟨m, hm, ?_⟩
        have hv := (res_data (h.ev x) hx).int_inv
        cases isMax with
        | true =>
          simp only [cond_true, List.map_cons, List.foldlM_cons, hv] at hr ⊢
          have : (Builtin.max2 (.int k n) (.int k' y)).run P w = .ok (.int k (if y > n then y else n)) w := rfl
          simp only [Sem.run_bind, this, Result.andThen_ok]
          simpa using hr
        | false =>
          simp only [cond_false, List.map_cons, List.foldlM_cons, hv] at hr ⊢
          have : (Builtin.min2 (.int k n) (.int k' y)).run P w = .ok (.int k (if y < n then y else n)) w := rfl
          simp only [Sem.run_bind, this, Result.andThen_ok]
          simpa using hr
      | _ => rw [hx] at hk; simp [minmax] at hk
    | _ => rw [hx] at hk; simp [minmax] at hk
set_option maxHeartbeats 4000000 in
theorem opK_sound (hT : TTOk P tt) (hE : EnvSound P G env) (hG : Good G F w) (h : Open F w0 st a w ρ) (o : Oper) {K : St → Option R} {r : R} (hk : opK tt env o (PB.ev st.tmps) (fun x => res st.heap (PB.ev st.tmps x)) (fun out => K (st.after o.dst out)) = some r) (Q : Exit → Act → World → Prop) : o.wp P a w (Goes F w0 K r) Q := by
  unfold opK at hk
  cases ho : o.op with
  | move x =>
    rw [ho] at hk
    exact goes_yield h (s := pure (a.eval x)) (by simp [execOp, ho]) ⟨_, _, hk, h.ev x, by simp⟩
  | assign x =>
    rw [ho] at hk
    exact goes_yield h (s := pure (a.eval x)) (by simp [execOp, ho]) ⟨_, _, hk, h.ev x, by simp⟩
  | pick c x y =>
    rw [ho] at hk
    exact goes_yield h (s := do pure (if ← asBool (a.eval c) then a.eval x else a.eval y)) (by simp [execOp, ho]; cases (asBool (a.eval c)).run P w <;> simp) (pick_yield h hk)
  | binOp op ty x y ty' =>
    rw [ho] at hk
    exact goes_yield h (s := do eqGuard op ty x y (a.eval x) (a.eval y); binOp op ty (a.eval x) (a.eval y)) (by simp [execOp, ho]; cases Sem.run P (eqGuard op ty x y (a.eval x) (a.eval y)) w <;> rfl) (binK_yield hT x y (h.ev x) (h.ev y) hk)
  | unOp op ty x =>
    rw [ho] at hk
    exact goes_yield h (s := Op.unary op (a.eval x)) (by simp [execOp, ho]) (unK_yield (h.ev x) hk)
  | convert src dst x =>
    rw [ho] at hk
    exact goes_out (s := convert src dst (a.eval x)) (by simp [execOp, ho]) (h.conv hT hk)
  | nilCheck x =>
    rw [ho] at hk
    have key : K (st.after o.dst (.q (PB.ev st.tmps x))) = some r ∧ ∃ ad, a.eval x = .pointer (some ad) := by
      simp only at hk
      split at hk
      · rename_i id t y p ex
        obtain ⟨e1, hob⟩ := res_box ex
        have hx := h.ev x
        rw [e1] at hx
        obtain ⟨_, hp⟩ := hx
        rw [hob] at hp
        obtain ⟨b, off, t', _, _, e⟩ := hp
        exact ⟨hk, _, e⟩
      · rename_i t y ex
        obtain ⟨_, b, o', cs, e, _⟩ := res_rptr (h.ev x) ex
        exact ⟨hk, _, e⟩
      · rename_i id v t l i p ex
        obtain ⟨e1, hob⟩ := res_elem ex
        have hx := h.ev x
        rw [e1] at hx
        obtain ⟨_, hp⟩ := hx
        rw [hob] at hp
        obtain ⟨_, b, off, t', _, _, e⟩ := hp.2 rfl
        exact ⟨hk, _, e⟩
      · simp at hk
    obtain ⟨hk', ad, e⟩ := key
    exact goes_yield h (s := pure (a.eval x)) (by simp [execOp, ho, e]) ⟨_, _, hk', h.ev x, by simp⟩
  | fieldAddr s x f =>
    rw [ho] at hk
    exact goes_yield h (s := Instr.fieldAt s (a.eval x) f) (by simp [execOp, ho]) (fieldAddrK_yield hT (h.ev x) hk)
  | field s x f =>
    rw [ho] at hk
    exact goes_yield h (s := Instr.field s (a.eval x) f) (by simp [execOp, ho]) (fieldK_yield hT (h.ev x) hk)
  | indexAddr t x i =>
    rw [ho] at hk
    exact goes_yield h (s := Instr.indexAt t (a.eval x) (a.eval i)) (by simp [execOp, ho]) (indexAddrK_yield hT (fun b hb => hb.2) h.hrel.obj (h.ev x) (h.ev i) hk)
  | index t x i =>
    rw [ho] at hk
    exact goes_yield h (s := Instr.index t (a.eval x) (a.eval i)) (by simp [execOp, ho]) (indexK_yield hT (h.ev x) (h.ev i) hk)
  | slice t x lo hi mx =>
    rw [ho] at hk
    exact goes_yield h (s := Instr.sliceAt t (a.eval x) (lo.map a.eval) (hi.map a.eval) (mx.map a.eval)) (by simp [execOp, ho]) (sliceK_yield hT h.ev (h.ev x) hk)
  | load t x =>
    rw [ho] at hk
    exact goes_yield h (s := Instr.loadAt t (a.eval x)) (by simp [execOp, ho]) (loadK_yield hT h.hrel.obj (h.ev x) hk)
  | store t x y =>
    rw [ho] at hk
    obtain ⟨out, w', hk', hrun, hrel⟩ := h.store hT (ty := t) (x := x) (y := y) hk
    exact wp_skp (w' := w') (by simp [execOp, ho, hrun]) ⟨_, hk', hrel o.dst⟩
  | extract x i =>
    rw [ho] at hk
    exact goes_yield h (s := Instr.extract (a.eval x) i) (by simp [execOp, ho]) (extractK_yield (h.ev x) hk)
  | alloc e =>
    rw [ho] at hk
    simp only at hk
    split at hk
    · rename_i t hty
      have ht := hT _ _ hty
      obtain ⟨z, hz, hzc, _⟩ := ht.run_zero (w := w)
      refine goes_out (s := Instr.alloc e true (.tuple #[])) (by simp [execOp, ho]) ⟨_, _, _, hk, ?_, fun dst => h.box (v := z) e (by rw [hzc]; exact cells_zero w _ t) dst⟩
      simp [Instr.alloc, hz, newVar, newRow]
    · simp at hk
  | box e x =>
    rw [ho] at hk
    simp only at hk
    split at hk
    · rename_i t hty
      obtain ⟨y, hk', hd⟩ := dataK_inv (h.ev x) hk
      refine goes_out (s := Instr.box e (a.eval x)) (by simp [execOp, ho]) ⟨_, _, _, hk', ?_, fun dst => h.box (v := a.eval x) e hd.1 dst⟩
      simp [Instr.box, newVar, newRow]
    · simp at hk
  | build t ps =>
    rw [ho] at hk
    simp only at hk
    split at hk
    · rename_i u hty
      obtain ⟨v, val, hk', hv, hrun⟩ := h.build hT hty ps (K := fun out => K (st.after o.dst out)) hk
      exact goes_yield h (s := Instr.build t (ps.map fun (i, x) => (i, a.eval x))) (by simp [execOp, ho]) ⟨v, val, hk', hv, hrun⟩
    · simp at hk
  | buildSlice t n ps =>
    rw [ho] at hk
    simp only at hk
    split at hk
    · rename_i u hty
      exact goes_out (s := Instr.buildSlice t n (ps.map fun (i, x) => (i, a.eval x))) (by simp [execOp, ho]) (h.buildSlice hT hty n ps (K := fun out => K (st.after o.dst out)) hk)
    · simp at hk
  | makeInterface ty x =>
    rw [ho] at hk
    simp only [ifaceK] at hk
    have hd : (∃ d, P.underlying ty = some d ∧ ∀ ms, d ≠ .interface ms) ∧ K (st.after o.dst (.q (.data .err false))) = some r := by
      split at hk
      · simp at hk
      · rename_i t hty hne
        refine ⟨?_, hk⟩
        have ht := hT _ _ hne
        cases t with
        | err => exact absurd rfl (by assumption)
        | int k => exact ⟨_, ht.2, by simp⟩
        | bool => exact ⟨_, ht.2, by simp⟩
        | str => exact ⟨_, ht.2, by simp⟩
        | list t => obtain ⟨_, e, he, _⟩ := ht; exact ⟨_, he, by simp⟩
        | agg t => obtain ⟨_, e, he, _⟩ := ht; exact ⟨_, he, by simp⟩
        | arr n t => obtain ⟨_, e, he, _⟩ := ht; exact ⟨_, he, by simp⟩
        | unit => exact ht.elim
        | pair a b => exact ht.elim
      · simp at hk
    obtain ⟨⟨d, hd, hne⟩, hk⟩ := hd
    have hv : VRel w ρ st.heap (okOf F w ρ st.heap) (.data .err false) (.iface ty (a.eval x)) := ⟨.inr ⟨rfl, _, _, rfl⟩, by simp [Ty.isAgg], rfl⟩
    refine goes_yield h (s := Instr.makeInterface ty (a.eval x)) (by simp [execOp, ho]) ⟨_, _, hk, hv, ?_⟩
    cases d <;> first | exact absurd rfl (hne _) | simp [Instr.makeInterface, Go.underlying, hd]
  | makeFunc f first caps =>
    rw [ho] at hk
    cases f with
    | func g =>
      simp only at hk
      split at hk
      · rename_i hf
        have hf' : first = #[] := Array.eq_empty_of_size_eq_zero hf
        subst hf'
        refine goes_yield h (s := Instr.makeFunc (.func g) #[] (caps.map a.eval)) (by simp [execOp, ho]) ⟨_, .func (.func g) #[] (caps.map a.eval), hk, ⟨caps.toList.map a.eval, ?_, vlist_foldr h caps.toList⟩, by simp [Instr.makeFunc]⟩
        rw [← Array.toList_map]
      · simp at hk
    | _ => simp at hk
  | range t x =>
    rw [ho] at hk
    simp only at hk
    split at hk
    · rename_i s hty ex
      have hv := (res_data (h.ev x) ex).str_inv
      refine goes_out (s := Instr.range t (a.eval x)) (by simp [execOp, ho]) ⟨_, _, _, hk, ?_, fun dst => h.iter s dst⟩
      rw [hv]
      simp [Instr.range, Go.underlying, (hT _ _ hty).2]
    · simp at hk
  | next x isStr =>
    rw [ho] at hk
    simp only at hk
    split at hk
    · rename_i id s pos ex
      cases isStr with
      | false => simp at hk
      | true =>
        simp only [cond_true] at hk
        exact goes_out (s := Instr.next (a.eval x) true o.type) (by simp [execOp, ho]) (h.next ex (K := fun out => K (st.after o.dst out)) hk)
    · simp at hk
  | call c =>
    rw [ho] at hk
    simp only at hk
    split at hk
    · rename_i f hc
      split at hk
      · rename_i g caps ef
        obtain ⟨c', e1, e2⟩ := res_fn ef
        have hf := h.ev f
        rw [e1] at hf
        obtain ⟨vs, hval, hvl⟩ := hf
        subst e2
        obtain ⟨⟨fn, hfn, hbody, hname⟩, hcall⟩ := h.call hE hG ((zip_args h c.args.toList).append (zip_caps c' vs hvl)) hk
        refine wp_enter (f := g) (args := (c.args.toList.map a.eval ++ vs).toArray) ?_ (hcall.mono fun e w' ⟨out, val, h1, h2, h3⟩ => ⟨val, h2, _, h1, h3 o.dst⟩)
        have hb : fn.body ≠ none := fun e => by rw [e] at hbody; simp at hbody
        have earr : c.args.map a.eval ++ vs.toArray = (c.args.toList.map a.eval ++ vs).toArray := by apply Array.toList_inj.1; simp
        have hn : ¬ fn.name = "runtime.NumGoroutine" := by simpa using hname
        simp [execOp, ho, resolve, hc, hval, Deferred.ofValue, invoke, callFunc, hfn, hn, hb, earr]
      · simp at hk
    · rename_i hc
      split at hk
      · rename_i x ty hargs htys
        have ha : c.args = #[x] := Array.toList_inj.1 hargs
        have ht : c.argTypes = #[ty] := Array.toList_inj.1 htys
        exact goes_yield h (s := Builtin.len_ #[ty] o.type #[a.eval x]) (by simp [execOp, ho, resolve, hc, invoke, builtin, ha, ht]) (lenK_yield hT h.hrel.obj (h.ev x) hk)
      · simp at hk
    · rename_i hc
      split at hk
      · rename_i s x ty ty' hargs htys
        have ha : c.args = #[s, x] := Array.toList_inj.1 hargs
        have ht : c.argTypes = #[ty, ty'] := Array.toList_inj.1 htys
        split at hk
        · rename_i te te' hty hty'
          obtain ⟨_, e, he, hte⟩ := hT _ _ hty
          obtain ⟨_, e', he', _⟩ := hT _ _ hty'
          exact goes_out (s := Builtin.append_ #[ty, ty] o.type #[a.eval s, a.eval x]) (by simp [execOp, ho, resolve, hc, invoke, builtin, ha, ht, append_types he he' hte.run_sizeOf]) (h.append hT hty (K := fun out => K (st.after o.dst out)) hk)
        · simp at hk
      · simp at hk
    · rename_i hc
      split at hk
      · rename_i x rest hargs
        split at hk
        · rename_i k n ex
          have hv := (res_data (h.ev x) ex).int_inv
          obtain ⟨m, hm, hrun⟩ := minmax_run (P := P) true (k := k) h rest n _ r hk
          have ha : c.args = (x :: rest).toArray := by rw [← hargs]
          refine goes_yield h (s := Builtin.max_ c.argTypes o.type (c.args.map a.eval)) (by simp [execOp, ho, resolve, hc, invoke, builtin]) ⟨_, _, hm, dval_int _ _ k m, ?_⟩
          rw [ha]
          simpa [Builtin.max_, hv] using hrun
        · simp at hk
      · simp at hk
    · rename_i hc
      split at hk
      · rename_i x rest hargs
        split at hk
        · rename_i k n ex
          have hv := (res_data (h.ev x) ex).int_inv
          obtain ⟨m, hm, hrun⟩ := minmax_run (P := P) false (k := k) h rest n _ r hk
          have ha : c.args = (x :: rest).toArray := by rw [← hargs]
          refine goes_yield h (s := Builtin.min_ c.argTypes o.type (c.args.map a.eval)) (by simp [execOp, ho, resolve, hc, invoke, builtin]) ⟨_, _, hm, dval_int _ _ k m, ?_⟩
          rw [ha]
          simpa [Builtin.min_, hv] using hrun
        · simp at hk
      · simp at hk
    · simp at hk
  | _ => rw [ho] at hk; simp at hk
theorem cond_cases {b : Bool} {x y : Option R} {r : R} (h : cond b x y = some r) : x = some r ∨ y = some r := by
  cases b with
  | true => exact .inl h
  | false => exact .inr h
theorem opOn_sound (hT : TTOk P tt) (hE : EnvSound P G env) (hG : Good G F w) (hr : Rel F w0 st a w) (o : Oper) {K : St → Option R} {r : R} (hk : opOn tt env o st K = some r) (Q : Exit → Act → World → Prop) : o.wp P a w (Goes F w0 K r) Q := by
  obtain ⟨ρ, h⟩ := hr.opened
  have plain := fun hk => opK_sound (K := K) (r := r) hT hE hG h o hk Q
  unfold opOn opX at hk
  cases ho : o.op with
  | nilCheck x =>
    rw [ho] at hk
    rcases cond_cases hk with hk | hk
    · obtain ⟨_, _, _, _, _, hK, _, _, b, f, _, e⟩ := ptr_ok h.hrel.obj (h.ev x) hk
      exact goes_yield h (s := pure (a.eval x)) (by simp [execOp, ho, e]) ⟨_, _, hK, h.ev x, by simp⟩
    · exact plain hk
  | fieldAddr s x f =>
    rw [ho] at hk
    rcases cond_cases hk with hk | hk
    · exact goes_yield h (s := Instr.fieldAt s (a.eval x) f) (by simp [execOp, ho]) (fieldAddrX_yield hT h.hrel.obj (h.ev x) hk)
    · exact plain hk
  | load t x =>
    rw [ho] at hk
    rcases cond_cases hk with hk | hk
    · exact goes_yield h (s := Instr.loadAt t (a.eval x)) (by simp [execOp, ho]) (loadX_yield hT h.hrel.obj (h.ev x) hk)
    · exact plain hk
  | store t x y =>
    rw [ho] at hk
    rcases cond_cases hk with hk | hk
    · obtain ⟨out, w', hk', hrun, hrel⟩ := h.storeX hT (ty := t) (x := x) (y := y) hk
      exact wp_skp (w' := w') (by simp [execOp, ho, hrun]) ⟨_, hk', hrel o.dst⟩
    · exact plain hk
  | indexAddr t x i =>
    rw [ho] at hk
    rcases cond_cases hk with hk | hk
    · exact goes_yield h (s := Instr.indexAt t (a.eval x) (a.eval i)) (by simp [execOp, ho]) (indexAddrX_yield hT h.hrel.obj (h.ev x) (h.ev i) hk)
    · exact plain hk
  | alloc e =>
    rw [ho] at hk
    simp only at hk
    split at hk
    · rename_i τ hty
      obtain ⟨val, w', hrun, hrel⟩ := h.allocX hT hty
      exact goes_out (s := Instr.alloc e true (.tuple #[])) (by simp [execOp, ho]) ⟨_, _, _, hk, hrun, hrel⟩
    · exact plain hk
  | box e x =>
    rw [ho] at hk
    simp only at hk
    split at hk
    · rcases cond_cases hk with hk | hk
      · exact goes_out (s := Instr.box e (a.eval x)) (by simp [execOp, ho]) (h.boxX (K := fun out => K (st.after o.dst out)) hk)
      · exact plain hk
    · exact plain hk
  | call c =>
    rw [ho] at hk
    simp only at hk
    split at hk
    · rename_i hc
      split at hk
      · rename_i x ty hargs htys
        rcases cond_cases hk with hk | hk
        · have ha : c.args = #[x] := Array.toList_inj.1 hargs
          have ht : c.argTypes = #[ty] := Array.toList_inj.1 htys
          exact goes_yield h (s := Builtin.len_ #[ty] o.type #[a.eval x]) (by simp [execOp, ho, resolve, hc, invoke, builtin, ha, ht]) (lenX_yield hT h.hrel.obj (h.ev x) hk)
        · exact plain hk
      · simp at hk
    · rename_i hc
      split at hk
      · rename_i s x ty ty' hargs htys
        rcases cond_cases hk with hk | hk
        · have ha : c.args = #[s, x] := Array.toList_inj.1 hargs
          have ht : c.argTypes = #[ty, ty'] := Array.toList_inj.1 htys
          split at hk
          · rename_i te te' hty hty'
            obtain ⟨_, e, he, hte⟩ := hT _ _ hty
            obtain ⟨_, e', he', _⟩ := hT _ _ hty'
            exact goes_out (s := Builtin.append_ #[ty, ty] o.type #[a.eval s, a.eval x]) (by simp [execOp, ho, resolve, hc, invoke, builtin, ha, ht, append_types he he' hte.run_sizeOf]) (h.appendX hT hty (K := fun out => K (st.after o.dst out)) hk)
          · simp at hk
        · exact plain hk
      · simp at hk
    · rename_i hc
      split at hk
      · rename_i x k ty ty' hargs htys
        have ha : c.args = #[x, k] := Array.toList_inj.1 hargs
        have ht : c.argTypes = #[ty, ty'] := Array.toList_inj.1 htys
        exact goes_out (s := Builtin.delete_ #[ty, ty'] o.type #[a.eval x, a.eval k]) (by simp [execOp, ho, resolve, hc, invoke, builtin, ha, ht]) (h.deleteX hT (K := fun out => K (st.after o.dst out)) hk)
      · simp at hk
    · exact plain hk
  | binOp op ty x y ty' =>
    rw [ho] at hk
    rcases cond_cases hk with hk | hk
    · exact goes_yield h (s := do eqGuard op ty x y (a.eval x) (a.eval y); binOp op ty (a.eval x) (a.eval y)) (by simp [execOp, ho]; cases Sem.run P (eqGuard op ty x y (a.eval x) (a.eval y)) w <;> rfl) (nilEqX_yield hT h.hrel.obj x y (h.ev x) (h.ev y) hk)
    · exact plain hk
  | slice t x lo hi mx =>
    rw [ho] at hk
    rcases cond_cases hk with hk | hk
    · exact goes_out (s := Instr.sliceAt t (a.eval x) (lo.map a.eval) (hi.map a.eval) (mx.map a.eval)) (by simp [execOp, ho]) (h.sliceX hT (K := fun out => K (st.after o.dst out)) (by simpa [Option.map_map, Function.comp_def] using hk))
    · exact plain hk
  | lookup t x k ok =>
    rw [ho] at hk
    exact goes_yield h (s := Instr.lookup t (a.eval x) (a.eval k) ok) (by simp [execOp, ho]) (lookupX_yield hT h.hrel.obj (h.ev x) (h.ev k) hk)
  | mapUpdate t m k x =>
    rw [ho] at hk
    obtain ⟨out, w', hk', hrun, hrel⟩ := h.mapUpdateX hT (ty := t) (x := m) (y := k) (z := x) hk
    exact wp_skp (w' := w') (by simp [execOp, ho, hrun]) ⟨_, hk', hrel o.dst⟩
  | makeMap t h0 =>
    rw [ho] at hk
    simp only at hk
    split at hk
    · rename_i k v hty
      obtain ⟨val, w', hrun, hrel⟩ := h.newMap (P := P) k v t
      exact goes_out (s := Instr.makeMap t none) (by simp [execOp, ho]) ⟨_, _, _, hk, hrun, hrel⟩
    · simp at hk
  | build t ps =>
    rw [ho] at hk
    simp only at hk
    split at hk
    · rcases cond_cases hk with hk | hk
      · exact goes_out (s := Instr.build t (ps.map fun (i, x) => (i, a.eval x))) (by simp [execOp, ho]) (h.buildX hT ps (K := fun out => K (st.after o.dst out)) hk)
      · exact plain hk
    · exact plain hk
  | _ => rw [ho] at hk; exact plain hk
end
end Go.PB
namespace Go.PB
open Go Go.RowKit
section
variable {F : Fr} {P : Program} {G : Gv} {env : Env} {w0 w w' : World} {st : St} {a : Act} {ρ : Nat → Loc} {R : Type} {tt : Tab}
theorem Rel.preFreeze (h : Rel F w0 st a w) (o : Oper) : Rel F w0 (PB.preFreeze o st) a w := by
  obtain ⟨ρ, ho⟩ := h.opened
  refine (ho.freezeAll ?_).rel
  unfold laidRows
  split
  · rename_i x _ _ _ _
    cases hr : res st.heap (PB.ev st.tmps x) with
    | row id v t l => exact ⟨.inl (res_row hr).2, trivial⟩
    | box id t y p =>
      cases t with
      | arr n t => exact ⟨(res_box hr).2, rfl⟩
      | _ => trivial
    | _ => trivial
  · rename_i t x y _
    cases (res st.heap (PB.ev st.tmps x)).isT with
    | true => trivial
    | false => exact rowsIn_of_zip (zip_args ho [y])
  · exact rowsIn_of_zip (zip_args ho (laid o))
theorem Rel.preArr : ∀ (ops : List Oper) {st : St}, Rel F w0 st a w → Rel F w0 (PB.preArr ops st) a w
  | [], _, h => h
  | o :: r, st, h => by
    unfold PB.preArr
    split
    · split
      · rename_i id n t y p hr
        obtain ⟨ρ, ho⟩ := h.opened
        exact Rel.preArr r (ho.freezeBox (res_box hr).2).rel
      · exact Rel.preArr r h
    · exact Rel.preArr r h
theorem tset_same : ∀ (l : List AVal) (d : Nat) (v : AVal), tget l d = v → tset l d v = l
  | [], _, _, _ => rfl
  | x :: l, 0, v, h => by simp only [tget] at h; simp [tset, h]
  | x :: l, n + 1, v, h => by simp only [tget] at h; simp [tset, tset_same l n v h]
theorem opAt_sound (hT : TTOk P tt) (hE : EnvSound P G env) (hG : Good G F w) (h : Rel F w0 st a w) (o : Oper) {K : St → Option R} {r : R} (hk : opAt tt env o st K = some r) (Q : Exit → Act → World → Prop) : o.wp P a w (Goes F w0 K r) Q :=
  opOn_sound hT hE hG (h.preFreeze o) o hk Q
theorem Rel.undef (h : Rel F w0 st a w) (dst : Option Tmp) : Rel F w0 ⟨putD st.tmps dst .undef, st.heap⟩ (a.put dst Go.undef) w := by
  obtain ⟨ρ, ho⟩ := h.opened
  exact ho.q (v := .undef) (val := Go.undef) (by simp [VRel]) dst
theorem wanted_none {ops : Array Oper} {o : Oper} {tmps : Array Value} (h : o.guard = none) : Region.wanted o (yielded ops tmps) = true := by simp [Region.wanted, h]
theorem wanted_bool {ops : Array Oper} {o : Oper} {j d : Nat} {want b : Bool} {ρ : Nat → Loc} {h : List AObj} {ok : Nat → Prop} (hg : o.guard = some (j, want)) (hd : (ops[j]?).bind (·.dst) = some d)
    (hv : VRel w ρ h ok (.data .bool b) (a.tmps.getD d Go.undef)) : Region.wanted o (yielded ops a.tmps) = (b == want) := by
  have e := DVal.bool_inv hv
  have hs : a.tmps[d]? = some (.bool b) := by
    rw [Array.getD_eq_getD_getElem?] at e
    cases hx : a.tmps[d]? with
    | none => rw [hx] at e; simp [Go.undef] at e
    | some x => rw [hx] at e; simpa using e
  simp [Region.wanted, hg, yielded, hd, hs]
theorem wanted_undef {ops : Array Oper} {o : Oper} {j d : Nat} {want : Bool} (hg : o.guard = some (j, want)) (hd : (ops[j]?).bind (·.dst) = some d)
    (hv : a.tmps.getD d Go.undef = Go.undef) : Region.wanted o (yielded ops a.tmps) = false := by
  have : yielded ops a.tmps j = none := by
    unfold yielded
    rw [hd]
    rw [Array.getD_eq_getD_getElem?] at hv
    cases hx : a.tmps[d]? with
    | none => simp [hx]
    | some x => rw [hx] at hv; simp only [Option.getD_some] at hv; subst hv; simp [hx, Go.undef]
  simp [Region.wanted, hg, this]
theorem stepK_sound (hT : TTOk P tt) (hE : EnvSound P G env) (hG : Good G F w) (h : Rel F w0 st a w) (ops : Array Oper) (o : Oper) {K : St → Option R} {r : R} (hk : stepK tt env ops.toList o st K = some r) (Q : Exit → Act → World → Prop) :
    if Region.wanted o (yielded ops a.tmps) then o.wp P a w (Goes F w0 K r) Q else Goes F w0 K r (a.put o.dst Go.undef) w := by
  unfold stepK at hk
  cases hg : o.guard with
  | none =>
    rw [hg] at hk
    rw [if_pos (wanted_none hg)]
    exact opAt_sound hT hE hG h o hk Q
  | some jw =>
    obtain ⟨j, want⟩ := jw
    rw [hg] at hk
    simp only [Array.getElem?_toList] at hk
    cases hd : (ops[j]?).bind (·.dst) with
    | none => rw [hd] at hk; simp at hk
    | some d =>
      rw [hd] at hk
      simp only at hk
      obtain ⟨ρ, ho⟩ := h.opened
      have hvd := ho.vals d
      split at hk
      · rename_i b ed
        rw [ed] at hvd
        rw [wanted_bool hg hd hvd]
        cases b with
        | true =>
          simp only [cond_true] at hk
          rw [tset_same _ _ _ ed] at hk
          cases want with
          | true => simp only [cond_true] at hk; rw [if_pos (by rfl)]; exact opAt_sound hT hE hG h o hk Q
          | false => simp only [cond_false] at hk; rw [if_neg (by simp)]; exact ⟨_, hk, h.undef o.dst⟩
        | false =>
          simp only [cond_false] at hk
          rw [tset_same _ _ _ ed] at hk
          cases want with
          | true => simp only [cond_true] at hk; rw [if_neg (by simp)]; exact ⟨_, hk, h.undef o.dst⟩
          | false => simp only [cond_false] at hk; rw [if_pos (by rfl)]; exact opAt_sound hT hE hG h o hk Q
      · rename_i ed
        rw [ed] at hvd
        rw [wanted_undef hg hd hvd, if_neg (by simp)]
        exact ⟨_, hk, h.undef o.dst⟩
      · simp at hk
def Lasting (G : Gv) : Prop := ∀ w w' : World, Near (fun b => b < G.low) w w' → G w → G w'
theorem Rel.good (h : Rel F w0 st a w) (hL : Lasting G) (hG : Good G F w0) : Good G F w := ⟨hL w0 w (h.below.mono hG.2) hG.1, hG.2⟩
theorem seqK_sound (hT : TTOk P tt) (hE : EnvSound P G env) (hL : Lasting G) (hG : Good G F w0) (ops : Array Oper) {Q : Exit → Act → World → Prop} {K : St → Option R} {r : R} (hQ : ∀ st a w, K st = some r → Rel F w0 st a w → Q .normal a w) :
    ∀ (l : List Oper) (st : St) (a : Act) (w : World), Rel F w0 st a w → seqK tt env ops.toList l st K = some r → wpList P ops Q l a w
  | [], st, a, w, h, hk => hQ st a w hk h
  | o :: rest, st, a, w, h, hk => by
    have hs := stepK_sound hT hE (h.good hL hG) h ops o hk Q
    unfold wpList
    split
    · rename_i hw
      rw [if_pos hw] at hs
      exact .inl (Oper.wp_mono (fun a' w' ⟨st', h1, h2⟩ => seqK_sound hT hE hL hG ops hQ rest st' a' w' h2 h1) hs)
    · rename_i hw
      rw [if_neg hw] at hs
      obtain ⟨st', h1, h2⟩ := hs
      exact seqK_sound hT hE hL hG ops hQ rest st' _ w h2 h1
/-! ## At a loop's head -/
theorem hget_takeH : ∀ (m : Nat) (h : List AObj) (id : Nat), hget (takeH m h) id = if id < m then (hget h id).reset else .none
  | 0, h, id => by simp [takeH, hget]
  | m + 1, [], id => by simp [takeH, hget, AObj.reset]
  | m + 1, o :: h, 0 => by simp [takeH, hget]
  | m + 1, o :: h, id + 1 => by simp only [takeH, hget]; rw [hget_takeH m h id]; simp
theorem length_takeH : ∀ (m : Nat) (h : List AObj), (takeH m h).length = min m h.length
  | 0, h => by simp [takeH]
  | m + 1, [] => by simp [takeH]
  | m + 1, o :: h => by simp [takeH, length_takeH m h, Nat.succ_min_succ]
theorem reset_owns (o : AObj) : o.reset.owns = o.owns := by cases o <;> rfl
theorem tget_keepT (m : Nat) (h : List AObj) : ∀ (keep : List Bool) (l : List AVal) (i : Nat), tget (keepT m h keep l) i = tget l i ∨ tget (keepT m h keep l) i = .dead ∨ tget (keepT m h keep l) i = normVal m h (tget l i)
  | _, [], i => .inl rfl
  | [], v :: l, 0 => .inr (.inl rfl)
  | [], v :: l, i + 1 => tget_keepT m h [] l i
  | true :: bs, v :: l, 0 => .inr (.inr rfl)
  | false :: bs, v :: l, 0 => .inr (.inl rfl)
  | _ :: bs, v :: l, i + 1 => tget_keepT m h bs l i
theorem tget_keepT_out (m : Nat) (h : List AObj) : ∀ (keep : List Bool) (l : List AVal) (i : Nat), i < l.length → tget (keepT m h keep l) i = .dead ∨ tget (keepT m h keep l) i = normVal m h (tget l i)
  | _, [], i, hi => by simp at hi
  | [], v :: l, 0, _ => .inl rfl
  | [], v :: l, i + 1, hi => tget_keepT_out m h [] l i (by simpa using hi)
  | true :: bs, v :: l, 0, _ => .inr rfl
  | false :: bs, v :: l, 0, _ => .inl rfl
  | _ :: bs, v :: l, i + 1, hi => tget_keepT_out m h bs l i (by simpa using hi)
theorem length_keepT (m : Nat) (h : List AObj) : ∀ (keep : List Bool) (l : List AVal), (keepT m h keep l).length = l.length
  | _, [] => rfl
  | [], v :: l => by simp [keepT, length_keepT m h [] l]
  | b :: bs, v :: l => by simp [keepT, length_keepT m h bs l]
theorem tget_ge (l : List AVal) (i : Nat) (h : l.length ≤ i) : tget l i = .undef := by
  induction l generalizing i with
  | nil => rfl
  | cons x l ih => cases i with
    | zero => simp at h
    | succ i => simp [tget]; exact ih i (by simpa using h)
theorem normVal_rel {h : List AObj} (m : Nat) : ∀ (v : AVal), (∀ val, VRel w ρ h (okOf F w ρ h) v val → VRel w ρ (takeH m h) (okOf F w ρ (takeH m h)) (normVal m h v) val) ∧ (∀ vs, VList w ρ h (okOf F w ρ h) v vs → VList w ρ (takeH m h) (okOf F w ρ (takeH m h)) (normVal m h v) vs) := by
  have live : ∀ b, liveOf w ρ h b → liveOf w ρ (takeH m h) b ∧ w.heap[b]? = w.heap[b]? := fun b hb => ⟨⟨hb.1, fun i hi hr => by
    rw [hget_takeH] at hi
    split at hi
    · rw [reset_owns] at hi; exact hb.2 i hi hr
    · simp [AObj.owns] at hi⟩, rfl⟩
  have dat : ∀ b, okOf F w ρ h b → okOf F w ρ (takeH m h) b ∧ w.heap[b]? = w.heap[b]? := fun b hb => ⟨⟨hb.1, (live b hb.2).1⟩, rfl⟩
  intro v
  induction v with
  | data t x => exact ⟨fun val hv => DVal.mono dat hv, fun vs hv => hv.elim⟩
  | osl id ver =>
    refine ⟨fun val ⟨hl, hs⟩ => ?_, fun vs hv => hv.elim⟩
    simp only [normVal]
    by_cases hid : id < m
    · simp only [hid, decide_true, cond_true]
      cases ho : hget h id with
      | row v' t l =>
        rw [ho] at hs
        simp only
        cases hc : (ver == v') with
        | false => trivial
        | true =>
          simp only [cond_true]
          refine ⟨by rw [length_takeH]; omega, ?_⟩
          rw [hget_takeH, if_pos hid, ho]
          exact ⟨Nat.le_refl _, fun _ => hs.2 (by simpa using hc)⟩
      | frow v' t l =>
        rw [ho] at hs
        simp only
        cases hc : (ver == v') with
        | false => trivial
        | true =>
          simp only [cond_true]
          refine ⟨by rw [length_takeH]; omega, ?_⟩
          rw [hget_takeH, if_pos hid, ho]
          exact fun _ => SliceW.mono dat (hs (by simpa using hc))
      | none => trivial
      | box t x => trivial
      | fbox t x => trivial
      | vt v0 τ0 x0 => trivial
      | iter s p => trivial
    · simp only [hid, decide_false, cond_false]; trivial
  | ptr id p =>
    refine ⟨fun val ⟨hl, hs⟩ => ?_, fun vs hv => hv.elim⟩
    simp only [normVal]
    by_cases hid : id < m
    · simp only [hid, decide_true, cond_true]
      refine ⟨by rw [length_takeH]; omega, ?_⟩
      rw [hget_takeH, if_pos hid]
      cases ho : hget h id with
      | box t x => rw [ho] at hs; exact hs
      | fbox t x => rw [ho] at hs; exact fun e => FbRel.mono dat (hs e)
      | _ => trivial
    · simp only [hid, decide_false, cond_false]; trivial
  | rptr t x => exact ⟨fun val hv => RpRel.mono live dat hv, fun vs hv => hv.elim⟩
  | eptr id v i p => exact ⟨fun val _ => trivial, fun vs hv => hv.elim⟩
  | iter id =>
    refine ⟨fun val ⟨hl, hs⟩ => ?_, fun vs hv => hv.elim⟩
    simp only [normVal]
    by_cases hid : id < m
    · simp only [hid, decide_true, cond_true]
      refine ⟨by rw [length_takeH]; omega, ?_⟩
      rw [hget_takeH, if_pos hid]
      cases ho : hget h id with
      | iter s p => rw [ho] at hs; exact hs
      | _ => trivial
    · simp only [hid, decide_false, cond_false]; trivial
  | tv id ver p =>
    refine ⟨fun val ⟨hl, hs⟩ => ?_, fun vs hv => hv.elim⟩
    simp only [normVal]
    by_cases hid : id < m
    · simp only [hid, decide_true, cond_true]
      cases ho : hget h id with
      | vt v' τ x =>
        rw [ho] at hs
        simp only
        cases hc : (ver == v'.s || (isNil p && τ.fixed)) with
        | false => trivial
        | true =>
          simp only [cond_true]
          refine ⟨by rw [length_takeH]; omega, ?_⟩
          rw [hget_takeH, if_pos hid, ho]
          refine ⟨Nat.le_refl _, fun _ => hs.2 ?_⟩
          rw [Bool.or_eq_true] at hc
          rcases hc with hc | hc
          · exact .inl (by simpa using hc)
          · exact .inr hc
      | _ => trivial
    · simp only [hid, decide_false, cond_false]; trivial
  | ad id ver p =>
    refine ⟨fun val ⟨hl, hs⟩ => ?_, fun vs hv => hv.elim⟩
    simp only [normVal]
    by_cases hid : id < m
    · simp only [hid, decide_true, cond_true]
      cases ho : hget h id with
      | vt v' τ x =>
        rw [ho] at hs
        simp only
        cases hc : (ver == v'.s) with
        | false => trivial
        | true =>
          simp only [cond_true]
          refine ⟨by rw [length_takeH]; omega, ?_⟩
          rw [hget_takeH, if_pos hid, ho]
          exact ⟨Nat.le_refl _, fun _ => hs.2 (by simpa using hc)⟩
      | _ => trivial
    · simp only [hid, decide_false, cond_false]; trivial
  | elt id ver p i q => exact ⟨fun val _ => trivial, fun vs hv => hv.elim⟩
  | lease id s u t x => exact ⟨fun val _ => trivial, fun vs hv => hv.elim⟩
  | fn f c ih => exact ⟨fun val ⟨vs, e, hv⟩ => ⟨vs, e, ih.2 vs hv⟩, fun vs hv => hv.elim⟩
  | tnil => exact ⟨fun val hv => hv, fun vs hv => hv⟩
  | tcons a b iha ihb => exact ⟨fun val ⟨v, vs, e, h1, h2⟩ => ⟨v, vs, e, iha.1 v h1, ihb.2 vs h2⟩, fun vs ⟨v, vs', e, h1, h2⟩ => ⟨v, vs', e, iha.1 v h1, ihb.2 vs' h2⟩⟩
  | nils => exact ⟨fun val hv => hv, fun vs hv => hv.elim⟩
  | nilp => exact ⟨fun val hv => hv, fun vs hv => hv.elim⟩
  | undef => exact ⟨fun val hv => hv, fun vs hv => hv.elim⟩
  | dead => exact ⟨fun val _ => trivial, fun vs hv => hv.elim⟩
theorem Rel.norm (hr : Rel F w0 st a w) (keep : List Bool) (m : Nat) (hm : F.n ≤ m) : Rel F w0 (PB.norm keep m st) a w := by
  obtain ⟨ρ, ho⟩ := hr.opened
  have owns' : ∀ i, (hget (takeH m st.heap) i).owns = true → (hget st.heap i).owns = true := fun i hi => by
    rw [hget_takeH] at hi
    split at hi
    · rwa [reset_owns] at hi
    · simp [AObj.owns] at hi
  have dat : ∀ b, okOf F w ρ st.heap b → okOf F w ρ (takeH m st.heap) b ∧ w.heap[b]? = w.heap[b]? := fun b hb => ⟨⟨hb.1, hb.2.1, fun i hi hr => hb.2.2 i (owns' i hi) hr⟩, rfl⟩
  refine ⟨ho.defers, by simp [PB.norm, length_keepT, ho.size], ho.below, ρ, ⟨ho.hrel.base, ho.hrel.kb, by show F.n ≤ (takeH m st.heap).length; rw [length_takeH]; exact Nat.le_min.2 ⟨hm, ho.hrel.nle⟩, fun k hk hv => by
    have hv' : (hget (takeH m st.heap) k).isVt = true := hv
    rw [hget_takeH, if_pos (Nat.lt_of_lt_of_le hk hm)] at hv'
    exact ho.hrel.arg k hk (by cases hx : hget st.heap k <;> rw [hx] at hv' <;> first | exact hv' | rfl), fun id hid => ?_, fun id b h1 h2 => ho.hrel.own id b (owns' id h1) h2, fun i j b h1 h2 h3 h4 => ho.hrel.inj i j b (owns' i h1) (owns' j h2) h3 h4⟩, fun i => ?_⟩
  · show ORel w ρ _ id (hget (takeH m st.heap) id)
    have hid' : id < min m st.heap.length := by simpa [PB.norm, length_takeH] using hid
    rw [hget_takeH, if_pos (by omega)]
    have hob := ORel.keeps (w' := w) (ρ' := ρ) dat rfl (fun _ _ _ => rfl) (ho.hrel.obj id (by omega))
    cases hoo : hget st.heap id with
    | row v t l => rw [hoo] at hob; exact hob
    | frow v t l => trivial
    | none => trivial
    | box t x => rw [hoo] at hob; exact hob
    | fbox t x => trivial
    | vt v0 τ0 x0 => rw [hoo] at hob; exact hob
    | iter s p => rw [hoo] at hob; exact hob
  · show VRel w ρ (takeH m st.heap) _ (tget (keepT m st.heap keep st.tmps) i) _
    rcases Nat.lt_or_ge i st.tmps.length with hi | hi
    · rcases tget_keepT_out m st.heap keep st.tmps i hi with e | e
      · rw [e]; trivial
      · rw [e]; exact (normVal_rel m _).1 _ (ho.vals i)
    · rw [tget_ge _ _ (by rw [length_keepT]; exact hi)]
      have := ho.vals i
      rw [tget_ge _ _ hi] at this
      exact this
theorem Rel.mkRows (hr : Rel F w0 st a w) : ∀ (rows : List (Nat × Ty)), Rel F w0 (PB.mkRows rows st) a w := by
  intro rows
  induction rows generalizing st with
  | nil => exact hr
  | cons p rows ih =>
    obtain ⟨s, t⟩ := p
    simp only [PB.mkRows]
    split
    · rename_i es
      refine ih ?_
      obtain ⟨ρ, h⟩ := hr.opened
      have hval := h.vals s
      rw [es] at hval
      have hval' : a.tmps.getD s Go.undef = .slice none 0 0 := hval
      have hsame : ∀ id, id < st.heap.length → hget (st.heap ++ [.row 0 t []]) id = hget st.heap id ∧ (fun i => if i = st.heap.length then Loc.nil else ρ i) id = ρ id := fun id hid => by
        rw [hget_append, if_neg (by omega)]; simp; omega
      have hno : ∀ id b, st.heap.length ≤ id → (hget (st.heap ++ [.row 0 t []]) id).owns = true → b ∈ ((fun i => if i = st.heap.length then Loc.nil else ρ i) id).bs → False := fun id b hid hown hr => by
        by_cases e : id = st.heap.length
        · simp [e, Loc.nil] at hr
        · rw [hget_ge _ id (by simp; omega)] at hown; simp [AObj.owns] at hown
      have hH := hrel_ext (w' := w) (ρ' := fun i => if i = st.heap.length then Loc.nil else ρ i) (h' := st.heap ++ [.row 0 t []]) h.hrel h.base (Nat.le_refl _) (fun _ _ => rfl) (by simp) hsame (fun id h1 h2 => by
          obtain rfl : id = st.heap.length := by simp at h2; omega
          rw [hget_append, if_pos rfl]
          exact .inl ⟨by simp [Loc.nil], rfl⟩) (fun id b h1 h2 h3 => (hno id b h1 h2 h3).elim) (fun id id' b h1 _ h2 _ h3 _ => (hno id b h1 h2 h3).elim)
      have k := keeps_ext (F := F) (fun id b ho hb => (h.hrel.own id b ho hb).2) (w' := w) (ρ' := fun i => if i = st.heap.length then Loc.nil else ρ i) (h' := st.heap ++ [.row 0 t []]) (h := st.heap) (ρ := ρ) (Nat.le_refl _) (fun _ _ => rfl) (by simp) hsame (fun id b h1 h2 h3 => (hno id b h1 h2 h3).elim)
      refine ⟨h.defers, by simp [length_tset, h.size], h.below, _, hH, fun i => ?_⟩
      show VRel w _ (st.heap ++ [.row 0 t []]) _ (tget (tset st.tmps s (.osl st.heap.length 0)) i) _
      rw [tget_tset]
      split
      · rename_i hi
        rw [← hi.1, hval']
        refine ⟨by simp, ?_⟩
        rw [hget_append, if_pos rfl]
        exact ⟨Nat.le_refl _, fun _ => .inl ⟨by simp [Loc.nil], rfl⟩⟩
      · exact VRel.keeps k _ _ (h.vals i)
    · exact ih hr
end
end Go.PB
namespace Go.PB
open Go Go.RowKit
theorem force_eq {α : Type} (m : Nat) (k : Nat → α) : force m k = k m := by cases m <;> rfl
theorem length_freezeRows : ∀ (l : List RVal) (h : List AObj), (freezeRows l h).length = h.length
  | [], h => rfl
  | .row id v t x :: l, h => by simp only [freezeRows]; rw [length_freezeRows l, length_hset]
  | .data .. :: l, h => length_freezeRows l h
  | .box .. :: l, h => by simp only [freezeRows]; rw [length_freezeRows l, length_hset]
  | .fbox .. :: l, h => length_freezeRows l h
  | .rptr .. :: l, h => length_freezeRows l h
  | .elem .. :: l, h => length_freezeRows l h
  | .iter .. :: l, h => length_freezeRows l h
  | .tr .. :: l, h => length_freezeRows l h
  | .ad .. :: l, h => length_freezeRows l h
  | .elt .. :: l, h => length_freezeRows l h
  | .lease .. :: l, h => length_freezeRows l h
  | .tree .. :: l, h => length_freezeRows l h
  | .fn .. :: l, h => length_freezeRows l h
  | .tnil :: l, h => length_freezeRows l h
  | .tcons .. :: l, h => length_freezeRows l h
  | .nils :: l, h => length_freezeRows l h
  | .nilp :: l, h => length_freezeRows l h
  | .dead :: l, h => length_freezeRows l h
structure Pointy (W : List Nat) (M : List AObj → List AObj) : Prop where
  len : ∀ h, (M h).length = h.length
  out : ∀ h id, id ∉ W → hget (M h) id = hget h id
  at_ : ∀ h h' id, h.length = h'.length → hget h id = hget h' id → hget (M h) id = hget (M h') id
theorem Pointy.id (W : List Nat) : Pointy W (fun h => h) := ⟨fun _ => rfl, fun _ _ _ => rfl, fun _ _ _ _ h => h⟩
theorem Pointy.comp {W W' : List Nat} {M M' : List AObj → List AObj} (a : Pointy W M) (b : Pointy W' M') : Pointy (W ++ W') (fun h => M' (M h)) :=
  ⟨fun h => by rw [b.len, a.len], fun h id hi => by
    simp only [List.mem_append, not_or] at hi
    rw [b.out _ _ hi.2, a.out _ _ hi.1],
   fun h h' id hl hg => b.at_ _ _ _ (by rw [a.len, a.len, hl]) (a.at_ _ _ _ hl hg)⟩
theorem Pointy.mono {W W' : List Nat} {M : List AObj → List AObj} (a : Pointy W M) (h : ∀ x ∈ W, x ∈ W') : Pointy W' M :=
  ⟨a.len, fun h' id hi => a.out _ _ (fun hx => hi (h _ hx)), a.at_⟩
theorem Pointy.hset (id : Nat) (o : AObj) : Pointy [id] (fun h => hset h id o) :=
  ⟨fun h => length_hset h id o, fun h i hi => by rw [hget_hset, if_neg (fun e => hi (by simp [e.1]))], fun h h' i hl hg => by
    rw [hget_hset, hget_hset, hl, hg]⟩
theorem Pointy.freeze : ∀ (l : List RVal), Pointy (frzIds l) (freezeRows l)
  | [] => Pointy.id _
  | .row id v t x :: l => ((Pointy.hset id (.frow v t x)).comp (Pointy.freeze l)).mono (by simp [frzIds])
  | .data .. :: l => Pointy.freeze l
  | .box id t x _ :: l => ((Pointy.hset id (.fbox t x)).comp (Pointy.freeze l)).mono (by simp [frzIds])
  | .fbox .. :: l => Pointy.freeze l
  | .rptr .. :: l => Pointy.freeze l
  | .elem .. :: l => Pointy.freeze l
  | .iter .. :: l => Pointy.freeze l
  | .tr .. :: l => Pointy.freeze l
  | .ad .. :: l => Pointy.freeze l
  | .elt .. :: l => Pointy.freeze l
  | .lease .. :: l => Pointy.freeze l
  | .tree .. :: l => Pointy.freeze l
  | .fn .. :: l => Pointy.freeze l
  | .tnil :: l => Pointy.freeze l
  | .tcons .. :: l => Pointy.freeze l
  | .nils :: l => Pointy.freeze l
  | .nilp :: l => Pointy.freeze l
  | .dead :: l => Pointy.freeze l
theorem length_hsets : ∀ (l : List (Nat × AObj)) (h : List AObj), (hsets l h).length = h.length
  | [], _ => rfl
  | p :: l, h => by simp only [hsets]; rw [length_hsets l, length_hset]
theorem Pointy.hsets : ∀ (l : List (Nat × AObj)), Pointy (upIds l) (PB.hsets l)
  | [] => Pointy.id _
  | p :: l => ((Pointy.hset p.1 p.2).comp (Pointy.hsets l)).mono (by simp [upIds])
theorem Pointy.pre (p : Nat) (out : Out) : Pointy (out.wr p) (fun h => out.pre h) := by
  cases out with
  | q v => exact Pointy.id _
  | row t l => exact Pointy.id _
  | box t l => exact Pointy.id _
  | iter s => exact Pointy.id _
  | upd v id o => exact Pointy.hset id o
  | results rs frz => exact Pointy.freeze frz
  | ownr t l frz => exact (Pointy.freeze frz).mono (fun x hx => by simp [Out.wr, hx])
  | gen ups v => exact Pointy.hsets ups
  | genN ups o v => exact (Pointy.hsets ups).mono (fun x hx => by simp [Out.wr, hx])
def placed (p : Nat) (o : Option AObj) (h : List AObj) : List AObj :=
  match o with
  | some o => hset h p o
  | none => h
theorem Pointy.placed (p : Nat) (out : Out) : Pointy (out.wr p) (fun h => placed p out.obj (out.pre h)) := by
  cases out with
  | q v => exact Pointy.id _
  | row t l => exact Pointy.hset p _
  | box t l => exact Pointy.hset p _
  | iter s => exact Pointy.hset p _
  | upd v id o => exact Pointy.hset id o
  | results rs frz => exact Pointy.freeze frz
  | ownr t l frz => exact ((Pointy.freeze frz).comp (Pointy.hset p _)).mono (by simp [Out.wr, or_comm])
  | gen ups v => exact Pointy.hsets ups
  | genN ups o v => exact ((Pointy.hsets ups).comp (Pointy.hset p o)).mono (by simp [Out.wr, or_comm])
theorem res_congr {h h' : List AObj} : ∀ (v : AVal), (∀ id ∈ v.ids, hget h id = hget h' id) → res h v = res h' v
  | .data _ _, _ => rfl
  | .osl id _, he => by simp only [res]; rw [he id (by simp [AVal.ids])]
  | .ptr id _, he => by simp only [res]; rw [he id (by simp [AVal.ids])]
  | .eptr id _ _ _, he => by simp only [res]; rw [he id (by simp [AVal.ids])]
  | .iter id, he => by simp only [res]; rw [he id (by simp [AVal.ids])]
  | .tv id _ _, he => by simp only [res]; rw [he id (by simp [AVal.ids])]
  | .ad id _ _, he => by simp only [res]; rw [he id (by simp [AVal.ids])]
  | .elt id _ _ _ _, he => by simp only [res]; rw [he id (by simp [AVal.ids])]
  | .lease id _ _ _ _, he => by simp only [res]; rw [he id (by simp [AVal.ids])]
  | .rptr _ _, _ => rfl
  | .fn f c, he => by simp only [res]; rw [res_congr c he]
  | .tcons a b, he => by
    simp only [res]
    rw [res_congr a (fun id hi => he id (by simp [AVal.ids, hi])), res_congr b (fun id hi => he id (by simp [AVal.ids, hi]))]
  | .tnil, _ => rfl
  | .nils, _ => rfl
  | .nilp, _ => rfl
  | .undef, _ => rfl
  | .dead, _ => rfl
theorem mem_idsAt {tmps : List AVal} {id : Nat} : ∀ {l : List Operand} {x : Operand}, x ∈ l → id ∈ (ev tmps x).ids → id ∈ idsAt tmps l
  | y :: l, x, hx, hi => by
    simp only [idsAt, List.mem_append]
    rcases List.mem_cons.1 hx with e | e
    · subst e; exact .inl hi
    · exact .inr (mem_idsAt e hi)
theorem idsAt_congr {tmps tmps' : List AVal} : ∀ {l : List Operand}, (∀ x ∈ l, ev tmps x = ev tmps' x) → idsAt tmps l = idsAt tmps' l
  | [], _ => rfl
  | x :: l, h => by simp only [idsAt]; rw [h x (by simp), idsAt_congr fun y hy => h y (by simp [hy])]
theorem map_opt_congr {α : Type} {f g : Operand → α} {x : Option Operand} (h : ∀ y ∈ x, f y = g y) : x.map f = x.map g := by
  cases x with
  | none => rfl
  | some y => simp [h y (by simp)]
theorem opK_congr {R : Type} {env : Env} (tt : Tab) (o : Oper) {a a' : Operand → AVal} {r r' : Operand → RVal} (ha : ∀ x ∈ o.op.operands.toList, a x = a' x) (hr : ∀ x ∈ o.op.operands.toList, r x = r' x) (K : Out → Option R) :
    opK tt env o a r K = opK tt env o a' r' K := by
  obtain ⟨dst, op, type, pos, after, guard⟩ := o
  have mp : ∀ {α : Type} (f g : Operand → α) (l : List Operand), (∀ x ∈ l, f x = g x) → l.map f = l.map g := fun f g l h => List.map_congr_left h
  unfold opK
  cases op with
  | move x => simp only [Op.operands] at ha; simp [ha x (by simp)]
  | assign x => simp only [Op.operands] at ha; simp [ha x (by simp)]
  | pick c x y => simp only [Op.operands] at ha hr; simp [ha x (by simp), ha y (by simp), hr c (by simp)]
  | binOp op ty x y _ => simp only [Op.operands] at hr; simp [hr x (by simp), hr y (by simp)]
  | unOp op ty x => simp only [Op.operands] at hr; simp [hr x (by simp)]
  | convert s d x => simp only [Op.operands] at hr; simp [hr x (by simp)]
  | nilCheck x => simp only [Op.operands] at ha hr; simp [ha x (by simp), hr x (by simp)]
  | fieldAddr s x f => simp only [Op.operands] at ha hr; simp [ha x (by simp), hr x (by simp)]
  | field s x f => simp only [Op.operands] at hr; simp [hr x (by simp)]
  | indexAddr t x i => simp only [Op.operands] at hr; simp [hr x (by simp), hr i (by simp)]
  | index t x i => simp only [Op.operands] at hr; simp [hr x (by simp), hr i (by simp)]
  | slice t x lo hi mx =>
    simp only [Op.operands] at hr
    simp only
    rw [hr x (by simp), map_opt_congr (f := r) (g := r') (x := lo) (fun y hy => hr y (by simp_all)), map_opt_congr (f := r) (g := r') (x := hi) (fun y hy => hr y (by simp_all)), map_opt_congr (f := r) (g := r') (x := mx) (fun y hy => hr y (by simp_all))]
  | load t x => simp only [Op.operands] at hr; simp [hr x (by simp)]
  | store t x y => simp only [Op.operands] at hr; simp [hr x (by simp), hr y (by simp)]
  | extract x i => simp only [Op.operands] at ha; simp [ha x (by simp)]
  | alloc e => rfl
  | box e x => simp only [Op.operands] at hr; simp [hr x (by simp)]
  | build t ps =>
    simp only [Op.operands] at hr
    simp only
    have e : (ps.toList.map fun p => (p.1, r p.2)) = ps.toList.map fun p => (p.1, r' p.2) := List.map_congr_left fun p hp => by rw [hr p.2 (by simp; exact ⟨p.1, by simpa using hp⟩)]
    rw [e]
  | buildSlice t n ps =>
    simp only [Op.operands] at hr
    simp only
    have e : (ps.toList.map fun p => (p.1, r p.2)) = ps.toList.map fun p => (p.1, r' p.2) := List.map_congr_left fun p hp => by rw [hr p.2 (by simp; exact ⟨p.1, by simpa using hp⟩)]
    rw [e]
  | makeFunc f first caps =>
    simp only [Op.operands] at ha
    cases f with
    | func g =>
      simp only
      have e : ∀ l : List Operand, (∀ x ∈ l, a x = a' x) → l.foldr (fun x t => AVal.tcons (a x) t) .tnil = l.foldr (fun x t => AVal.tcons (a' x) t) .tnil := by
        intro l hl
        induction l with
        | nil => rfl
        | cons x l ih => simp only [List.foldr_cons]; rw [hl x (by simp), ih fun y hy => hl y (by simp [hy])]
      rw [e caps.toList fun x hx => ha x (by simp at hx ⊢; exact .inr hx)]
    | _ => rfl
  | range t x => simp only [Op.operands] at hr; simp [hr x (by simp)]
  | next x isStr => simp only [Op.operands] at hr; simp [hr x (by simp)]
  | call c =>
    simp only [Op.operands, Call.operands] at hr
    simp only
    cases hc : c.callee with
    | value f =>
      rw [hc] at hr
      simp only
      rw [hr f (by simp)]
      unfold argsOf
      rw [mp r r' c.args.toList fun x hx => hr x (by simp at hx ⊢; exact .inr hx)]
    | builtin b =>
      rw [hc] at hr
      have hr' : ∀ x ∈ c.args.toList, r x = r' x := fun x hx => hr x (by simpa using hx)
      cases b with
      | len => simp only; split <;> first | rfl | (rename_i e _; rw [hr' _ (by rw [e]; simp)])
      | append => simp only; split <;> first | rfl | (rename_i e _; rw [hr' _ (by rw [e]; simp), hr' _ (by rw [e]; simp)])
      | max => simp only; split <;> first | rfl | (rename_i e; rw [hr' _ (by rw [e]; simp), mp r r' _ fun x hx => hr' x (by rw [e]; simp [hx])])
      | min => simp only; split <;> first | rfl | (rename_i e; rw [hr' _ (by rw [e]; simp), mp r r' _ fun x hx => hr' x (by rw [e]; simp [hx])])
      | _ => rfl
    | invoke x m => rfl
  | _ => rfl
theorem opX_congr {R : Type} {env : Env} (tt : Tab) (o : Oper) {a a' : Operand → AVal} {r r' : Operand → RVal} (ha : ∀ x ∈ o.op.operands.toList, a x = a' x) (hr : ∀ x ∈ o.op.operands.toList, r x = r' x) (K : Out → Option R) :
    opX tt env o a r K = opX tt env o a' r' K := by
  have h := opK_congr (env := env) tt o ha hr K
  obtain ⟨dst, op, type, pos, after, guard⟩ := o
  unfold opX
  simp only at h ha hr ⊢
  cases op with
  | nilCheck x => simp only [Op.operands] at ha hr ⊢; rw [h, ha x (by simp), hr x (by simp)]
  | fieldAddr s x f => simp only [Op.operands] at ha hr ⊢; rw [h, hr x (by simp)]
  | load t x => simp only [Op.operands] at ha hr ⊢; rw [h, hr x (by simp)]
  | store t x y => simp only [Op.operands] at ha hr ⊢; rw [h, hr x (by simp), hr y (by simp)]
  | indexAddr t x i => simp only [Op.operands] at ha hr ⊢; rw [h, hr x (by simp), hr i (by simp)]
  | alloc e => simp only; rw [h]
  | box e x => simp only [Op.operands] at ha hr ⊢; rw [h, hr x (by simp)]
  | call c =>
    simp only
    rw [h]
    have hr' : ∀ x ∈ c.args.toList, r x = r' x := fun x h0 => hr x (by
      simp only [Op.operands, Call.operands, Array.toList_append, List.mem_append]
      exact .inr h0)
    split
    · split
      · rename_i x ty hx _
        rw [hr' x (by rw [hx]; simp)]
      · rfl
    · split
      · rename_i s x ty ty' hx _
        rw [hr' s (by rw [hx]; simp), hr' x (by rw [hx]; simp)]
      · rfl
    · split
      · rename_i x k ty ty' hx _
        rw [hr' x (by rw [hx]; simp), hr' k (by rw [hx]; simp)]
      · rfl
    · rfl
  | binOp op ty x y p => simp only [Op.operands] at ha hr ⊢; rw [h, hr x (by simp), hr y (by simp)]
  | slice t x lo hi mx =>
    simp only [Op.operands] at ha hr ⊢
    have h1 : lo.map r = lo.map r' := by
      cases lo with
      | none => rfl
      | some v => simp [hr v (by simp)]
    have h2 : hi.map r = hi.map r' := by
      cases hi with
      | none => rfl
      | some v => simp [hr v (by simp)]
    have h3 : mx.map r = mx.map r' := by
      cases mx with
      | none => rfl
      | some v => simp [hr v (by simp)]
    rw [h, hr x (by simp), h1, h2, h3]
  | lookup t x k ok => simp only [Op.operands] at ha hr ⊢; rw [hr x (by simp), hr k (by simp)]
  | mapUpdate t m k x => simp only [Op.operands] at ha hr ⊢; rw [hr m (by simp), hr k (by simp), hr x (by simp)]
  | makeMap t h0 => rfl
  | build t ps =>
    simp only [Op.operands] at ha hr ⊢
    have e : (ps.toList.map fun p => (p.1, r p.2)) = ps.toList.map fun p => (p.1, r' p.2) := by
      apply List.map_congr_left
      intro p hp
      rw [hr p.2 (by simp; exact ⟨p.1, by simpa using hp⟩)]
    rw [h, e]
  | _ => exact h
theorem opX_congr' {R : Type} {env : Env} (tt : Tab) (o : Oper) {a a' : Operand → AVal} {r r' : Operand → RVal} (ha : ∀ x ∈ o.op.operands.toList, a x = a' x) (hr : ∀ x ∈ readsOf o, r x = r' x) (K : Out → Option R) :
    opX tt env o a r K = opX tt env o a' r' K := by
  cases ho : o.op with
  | move x =>
    rw [ho] at ha
    simp only [Op.operands] at ha
    unfold opX opK
    rw [ho]
    simp [ha x (by simp)]
  | assign x =>
    rw [ho] at ha
    simp only [Op.operands] at ha
    unfold opX opK
    rw [ho]
    simp [ha x (by simp)]
  | _ => exact opX_congr tt o ha (fun x hx => hr x (by unfold readsOf; rw [ho] at hx ⊢; exact hx)) K
end Go.PB
namespace Go.PB
open Go Go.RowKit
section
variable {F : Fr} {w w0 : World} {ρ : Nat → Loc} {h : List AObj} {B : Nat} {st : St} {a : Act}
theorem hget_nones : ∀ (n id : Nat), hget (nones n) id = .none
  | 0, id => rfl
  | n + 1, 0 => rfl
  | n + 1, id + 1 => hget_nones n id
theorem length_nones : ∀ n, (nones n).length = n
  | 0 => rfl
  | n + 1 => by simp [nones, length_nones n]
def moved (p L : Nat) (ρ : Nat → Loc) (id : Nat) : Loc := if id = p then ρ L else ρ id
structure Mv (p : Nat) (h : List AObj) (o : AObj) : Prop where
  lt : p < h.length
  free : hget h p = .none
theorem Mv.old {p : Nat} {o : AObj} (m : Mv p h o) {id : Nat} (hl : id < h.length) (hp : id ≠ p) : hget (h ++ [o]) id = hget (hset h p o) id := by
  rw [hget_append_lt _ _ _ hl, hget_hset_ne hp]
theorem Mv.new {p : Nat} {o : AObj} (m : Mv p h o) : hget (h ++ [o]) h.length = o := by
  have := hget_append_ge h [o] 0
  simpa [hget] using this
theorem hget_snoc_gt (h : List AObj) (o : AObj) (id : Nat) (hl : h.length < id) : hget (h ++ [o]) id = .none := by
  obtain ⟨k, rfl⟩ : ∃ k, id = h.length + (k + 1) := ⟨id - h.length - 1, by omega⟩
  rw [hget_append_ge]; rfl
theorem Mv.live {p : Nat} {o : AObj} (m : Mv p h o) (b : Nat) : liveOf w ρ (h ++ [o]) b ↔ liveOf w (moved p h.length ρ) (hset h p o) b := by
  constructor
  · intro ⟨h1, h2⟩
    refine ⟨h1, fun id ho hr => ?_⟩
    unfold moved at hr
    by_cases e : id = p
    · subst e
      rw [if_pos rfl] at hr
      rw [hget_hset_self m.lt] at ho
      exact h2 h.length (by rw [m.new]; exact ho) hr
    · rw [if_neg e] at hr
      rw [hget_hset_ne e] at ho
      rcases Nat.lt_or_ge id h.length with hl | hl
      · exact h2 id (by rw [hget_append_lt _ _ _ hl]; exact ho) hr
      · rw [hget_ge _ id hl] at ho; simp [AObj.owns] at ho
  · intro ⟨h1, h2⟩
    refine ⟨h1, fun id ho hr => ?_⟩
    rcases Nat.lt_trichotomy id h.length with hl | hl | hl
    · by_cases e : id = p
      · subst e; rw [hget_append_lt _ _ _ hl, m.free] at ho; simp [AObj.owns] at ho
      · exact h2 id (by rw [← m.old hl e]; exact ho) (by unfold moved; rw [if_neg e]; exact hr)
    · subst hl
      rw [m.new] at ho
      exact h2 p (by rw [hget_hset_self m.lt]; exact ho) (by unfold moved; rw [if_pos rfl]; exact hr)
    · rw [hget_snoc_gt _ _ _ hl] at ho; simp [AObj.owns] at ho
theorem Mv.ok {p : Nat} {o : AObj} (m : Mv p h o) : okOf F w (moved p h.length ρ) (hset h p o) = okOf F w ρ (h ++ [o]) := by
  funext b
  simp only [okOf, m.live b]
theorem orel_rho {ok : Nat → Prop} {id id' : Nat} {ρ' : Nat → Loc} (e : ρ' id' = ρ id) : ∀ {o : AObj}, ORel w ρ ok id o → ORel w ρ' ok id' o
  | .none, _ => trivial
  | .frow .., _ => trivial
  | .box t x, ⟨b, cs, T, h1, h2⟩ => ⟨b, cs, T, by rw [e]; exact h1, h2⟩
  | .row v t l, h => by
    rcases h with ⟨h1, h2⟩ | ⟨b, cs, T, cc, rest, h1, h2⟩
    · exact .inl ⟨by rw [e]; exact h1, h2⟩
    · exact .inr ⟨b, cs, T, cc, rest, by rw [e]; exact h1, h2⟩
  | .iter s p, ⟨b, h1, h2⟩ => ⟨b, by rw [e]; exact h1, h2⟩
  | .fbox .., _ => trivial
  | .vt v τ x, ⟨h1, h2, h3⟩ => ⟨by rw [e]; exact h1, by rw [e]; exact h2, by rw [e]; exact h3⟩
theorem atrel_rho {id id' ver : Nat} {path : List Nat} {val : Value} {ρ' : Nat → Loc} (e : ρ' id' = ρ id) : ∀ {o : AObj}, AtRel ρ id ver path val o → AtRel ρ' id' ver path val o := by
  intro o h; cases o <;> first | trivial | (unfold AtRel at h ⊢; rw [e]; exact h)
theorem adrel_rho {id id' ver : Nat} {path : List Nat} {val : Value} {ρ' : Nat → Loc} (e : ρ' id' = ρ id) : ∀ {o : AObj}, AdRel ρ id ver path val o → AdRel ρ' id' ver path val o := by
  intro o h; cases o <;> first | trivial | (unfold AdRel at h ⊢; rw [e]; exact h)
theorem etrel_rho {id id' ver i : Nat} {path q : List Nat} {val : Value} {ρ' : Nat → Loc} (e : ρ' id' = ρ id) : ∀ {o : AObj}, EtRel ρ id ver path i q val o → EtRel ρ' id' ver path i q val o := by
  intro o h; cases o <;> first | trivial | (unfold EtRel at h ⊢; rw [e]; exact h)
theorem lerel_rho {ok : Nat → Prop} {id id' : Nat} {s : LS} {u : Nat} {t : Ty} {x : t.C} {val : Value} {ρ' : Nat → Loc} (e : ρ' id' = ρ id) : ∀ {o : AObj}, LeRel w ρ ok id s u t x val o → LeRel w ρ' ok id' s u t x val o := by
  intro o h; cases o <;> first | trivial | (unfold LeRel at h ⊢; rw [e]; exact h)
theorem slrel_rho {ok : Nat → Prop} {id id' ver : Nat} {val : Value} {ρ' : Nat → Loc} (e : ρ' id' = ρ id) : ∀ {o : AObj}, SlRel w ρ ok id ver val o → SlRel w ρ' ok id' ver val o
  | .row v t l, h => ⟨h.1, fun hv => by
    rcases h.2 hv with ⟨h1, h2⟩ | ⟨b, c, cs, T, h1, h2⟩
    · exact .inl ⟨by rw [e]; exact h1, h2⟩
    · exact .inr ⟨b, c, cs, T, by rw [e]; exact h1, h2⟩⟩
  | .frow .., h => h
  | .none, _ => trivial
  | .vt .., _ => trivial
  | .box .., _ => trivial
  | .iter .., _ => trivial
  | .fbox .., _ => trivial
theorem ptrel_rho {ok : Nat → Prop} {id id' : Nat} {path : List Nat} {val : Value} {ρ' : Nat → Loc} (e : ρ' id' = ρ id) : ∀ {o : AObj}, PtRel w ρ ok id path val o → PtRel w ρ' ok id' path val o
  | .fbox t x, h => h
  | .box t x, ⟨b, off, t', h1, h2⟩ => ⟨b, off, t', by rw [e]; exact h1, h2⟩
  | .none, _ => trivial
  | .vt .., _ => trivial
  | .row .., _ => trivial
  | .frow .., _ => trivial
  | .iter .., _ => trivial
theorem elrel_rho {id id' ver i : Nat} {path : List Nat} {val : Value} {ρ' : Nat → Loc} (e : ρ' id' = ρ id) : ∀ {o : AObj}, ElRel ρ id ver i path val o → ElRel ρ' id' ver i path val o
  | .row v t l, h => ⟨h.1, fun hv => by obtain ⟨hi, b, off, t', h1, h2⟩ := h.2 hv; exact ⟨hi, b, off, t', by rw [e]; exact h1, h2⟩⟩
  | .frow .., _ => trivial
  | .none, _ => trivial
  | .vt .., _ => trivial
  | .box .., _ => trivial
  | .iter .., _ => trivial
  | .fbox .., _ => trivial
theorem itrel_rho {id id' : Nat} {val : Value} {ρ' : Nat → Loc} (e : ρ' id' = ρ id) : ∀ {o : AObj}, ItRel ρ id val o → ItRel ρ' id' val o
  | .iter s p, ⟨b, h1, h2⟩ => ⟨b, by rw [e]; exact h1, h2⟩
  | .row .., _ => trivial
  | .frow .., _ => trivial
  | .none, _ => trivial
  | .vt .., _ => trivial
  | .box .., _ => trivial
  | .fbox .., _ => trivial
theorem Mv.hrel {p : Nat} {o : AObj} (m : Mv p h o) (hpn : F.n ≤ p) (hH : HRel F B w ρ (h ++ [o])) : HRel F B w (moved p h.length ρ) (hset h p o) := by
  have hL : h.length < (h ++ [o]).length := by simp
  -- each object of the new memory is one of the old
  have from_ : ∀ id, (hget (hset h p o) id).owns = true → ∃ id', (hget (h ++ [o]) id').owns = true ∧ moved p h.length ρ id = ρ id' ∧ (id' = if id = p then h.length else id) := by
    intro id ho
    by_cases e : id = p
    · subst e; rw [hget_hset_self m.lt] at ho
      exact ⟨h.length, by rw [m.new]; exact ho, by simp [moved], by simp⟩
    · rw [hget_hset_ne e] at ho
      rcases Nat.lt_or_ge id h.length with hl | hl
      · exact ⟨id, by rw [hget_append_lt _ _ _ hl]; exact ho, by simp [moved, e], by simp [e]⟩
      · rw [hget_ge _ id hl] at ho; simp [AObj.owns] at ho
  refine ⟨hH.base, hH.kb, by rw [length_hset]; have := m.lt; omega, fun k hk hv => ?_, fun id hl => ?_, fun id b ho hr => ?_, fun id id' b ho ho' hr hr' => ?_⟩
  · have hkp : k ≠ p := by omega
    have hkl : k < h.length := by have := m.lt; omega
    rw [hget_hset_ne hkp] at hv
    have := hH.arg k hk (by rw [hget_append_lt _ _ _ hkl]; exact hv)
    simpa [moved, hkp] using this
  · rw [m.ok]
    rw [length_hset] at hl
    by_cases e : id = p
    · subst e
      rw [hget_hset_self m.lt]
      have := hH.obj h.length hL
      rw [m.new] at this
      exact orel_rho (by simp [moved]) this
    · have := hH.obj id (by simp; omega)
      rw [m.old hl e] at this
      exact orel_rho (by simp [moved, e]) this
  · obtain ⟨i, h1, h2, _⟩ := from_ id ho
    exact hH.own i b h1 (by rw [← h2]; exact hr)
  · obtain ⟨i, h1, h2, h3⟩ := from_ id ho
    obtain ⟨i', h1', h2', h3'⟩ := from_ id' ho'
    have e := hH.inj i i' b h1 h1' (by rw [← h2]; exact hr) (by rw [← h2']; exact hr')
    have lt : ∀ j, (hget (hset h p o) j).owns = true → j < h.length := fun j hj => by
      rcases Nat.lt_or_ge j h.length with hl | hl
      · exact hl
      · rw [hget_ge _ j (by rw [length_hset]; exact hl)] at hj; simp [AObj.owns] at hj
    have l1 := lt id ho
    have l2 := lt id' ho'
    rw [h3, h3'] at e
    split at e <;> split at e <;> omega
mutual
theorem Mv.vrel {p : Nat} {o : AObj} {ok : Nat → Prop} (m : Mv p h o) : ∀ (v : AVal) (val : Value), (∀ id ∈ v.ids, id < h.length ∧ id ≠ p) → (∀ b, liveOf w ρ (h ++ [o]) b → liveOf w (moved p h.length ρ) (hset h p o) b) →
    VRel w ρ (h ++ [o]) ok v val → VRel w (moved p h.length ρ) (hset h p o) ok v val
  | .data _ _, _, _, _, hv => hv
  | .osl id ver, val, hi, _, hv => by
    obtain ⟨h1, h2⟩ := hi id (by simp [AVal.ids])
    have := hv.2; rw [m.old h1 h2] at this
    exact ⟨by rw [length_hset]; exact h1, slrel_rho (by simp [moved, h2]) this⟩
  | .ptr id path, val, hi, _, hv => by
    obtain ⟨h1, h2⟩ := hi id (by simp [AVal.ids])
    have := hv.2; rw [m.old h1 h2] at this
    exact ⟨by rw [length_hset]; exact h1, ptrel_rho (by simp [moved, h2]) this⟩
  | .rptr _ _, _, _, hL, ⟨b, o', cs, e, hb, hc⟩ => ⟨b, o', cs, e, hL b hb, hc⟩
  | .eptr id ver i path, val, hi, _, hv => by
    obtain ⟨h1, h2⟩ := hi id (by simp [AVal.ids])
    have := hv.2; rw [m.old h1 h2] at this
    exact ⟨by rw [length_hset]; exact h1, elrel_rho (by simp [moved, h2]) this⟩
  | .iter id, val, hi, _, hv => by
    obtain ⟨h1, h2⟩ := hi id (by simp [AVal.ids])
    have := hv.2; rw [m.old h1 h2] at this
    exact ⟨by rw [length_hset]; exact h1, itrel_rho (by simp [moved, h2]) this⟩
  | .tv id ver path, val, hi, _, hv => by
    obtain ⟨h1, h2⟩ := hi id (by simp [AVal.ids])
    have := hv.2; rw [m.old h1 h2] at this
    exact ⟨by rw [length_hset]; exact h1, atrel_rho (by simp [moved, h2]) this⟩
  | .ad id ver path, val, hi, _, hv => by
    obtain ⟨h1, h2⟩ := hi id (by simp [AVal.ids])
    have := hv.2; rw [m.old h1 h2] at this
    exact ⟨by rw [length_hset]; exact h1, adrel_rho (by simp [moved, h2]) this⟩
  | .elt id ver path i q, val, hi, _, hv => by
    obtain ⟨h1, h2⟩ := hi id (by simp [AVal.ids])
    have := hv.2; rw [m.old h1 h2] at this
    exact ⟨by rw [length_hset]; exact h1, etrel_rho (by simp [moved, h2]) this⟩
  | .lease id s u t x, val, hi, _, hv => by
    obtain ⟨h1, h2⟩ := hi id (by simp [AVal.ids])
    have := hv.2; rw [m.old h1 h2] at this
    exact ⟨by rw [length_hset]; exact h1, lerel_rho (by simp [moved, h2]) this⟩
  | .fn f c, val, hi, hL, ⟨vs, e, hv⟩ => ⟨vs, e, Mv.vlist m c vs hi hL hv⟩
  | .tnil, _, _, _, hv => hv
  | .tcons x y, val, hi, hL, ⟨v, vs, e, h1, h2⟩ => ⟨v, vs, e, Mv.vrel m x v (fun id hx => hi id (by simp [AVal.ids, hx])) hL h1, Mv.vlist m y vs (fun id hx => hi id (by simp [AVal.ids, hx])) hL h2⟩
  | .nils, _, _, _, hv => hv
  | .nilp, _, _, _, hv => hv
  | .undef, _, _, _, hv => hv
  | .dead, _, _, _, _ => trivial
theorem Mv.vlist {p : Nat} {o : AObj} {ok : Nat → Prop} (m : Mv p h o) : ∀ (v : AVal) (vs : List Value), (∀ id ∈ v.ids, id < h.length ∧ id ≠ p) → (∀ b, liveOf w ρ (h ++ [o]) b → liveOf w (moved p h.length ρ) (hset h p o) b) →
    VList w ρ (h ++ [o]) ok v vs → VList w (moved p h.length ρ) (hset h p o) ok v vs
  | .tnil, _, _, _, hv => hv
  | .tcons x y, _, hi, hL, ⟨v, vs, e, h1, h2⟩ => ⟨v, vs, e, Mv.vrel m x v (fun id hx => hi id (by simp [AVal.ids, hx])) hL h1, Mv.vlist m y vs (fun id hx => hi id (by simp [AVal.ids, hx])) hL h2⟩
  | .data .., _, _, _, hv => hv.elim
  | .osl .., _, _, _, hv => hv.elim
  | .ptr .., _, _, _, hv => hv.elim
  | .rptr .., _, _, _, hv => hv.elim
  | .eptr .., _, _, _, hv => hv.elim
  | .iter .., _, _, _, hv => hv.elim
  | .tv .., _, _, _, hv => hv.elim
  | .ad .., _, _, _, hv => hv.elim
  | .elt .., _, _, _, hv => hv.elim
  | .lease .., _, _, _, hv => hv.elim
  | .fn .., _, _, _, hv => hv.elim
  | .nils, _, _, _, hv => hv.elim
  | .nilp, _, _, _, hv => hv.elim
  | .undef, _, _, _, hv => hv.elim
  | .dead, _, _, _, hv => hv.elim
end
theorem value_eq (h : List AObj) (out : Out) : out.value h = (out.val (out.pre h).length, match out.obj with | some o => out.pre h ++ [o] | none => out.pre h) := by
  cases out <;> rfl
mutual
theorem NV.move {p : Nat} {o : AObj} {ok : Nat → Prop} (m : Mv p h o) (hL : ∀ b, liveOf w ρ (h ++ [o]) b → liveOf w (moved p h.length ρ) (hset h p o) b) : ∀ (n : NV) (val : Value), VRel w ρ (h ++ [o]) ok (n.val h.length) val → VRel w (moved p h.length ρ) (hset h p o) ok (n.val p) val
  | .new, val, hv => by
    have h1 := hv.2; rw [m.new] at h1
    exact ⟨by rw [length_hset]; exact m.lt, by rw [hget_hset_self m.lt]; exact atrel_rho (by simp [moved]) h1⟩
  | .lit v, val, hv => by
    unfold NV.val at hv ⊢
    cases e : v.ids with
    | nil => rw [e] at hv; exact m.vrel v val (fun id hi => by rw [e] at hi; cases hi) hL hv
    | cons a l => trivial
  | .cons a b, val, ⟨v, vs, e, h1, h2⟩ => ⟨v, vs, e, NV.move m hL a v h1, NV.moveL m hL b vs h2⟩
  | .nil, val, hv => hv
theorem NV.moveL {p : Nat} {o : AObj} {ok : Nat → Prop} (m : Mv p h o) (hL : ∀ b, liveOf w ρ (h ++ [o]) b → liveOf w (moved p h.length ρ) (hset h p o) b) : ∀ (n : NV) (vs : List Value), VList w ρ (h ++ [o]) ok (n.val h.length) vs → VList w (moved p h.length ρ) (hset h p o) ok (n.val p) vs
  | .new, vs, hv => hv.elim
  | .lit v, vs, hv => by
    unfold NV.val at hv ⊢
    cases e : v.ids with
    | nil => rw [e] at hv; exact m.vlist v vs (fun id hi => by rw [e] at hi; cases hi) hL hv
    | cons a l => rw [e] at hv; exact hv.elim
  | .cons a b, val, ⟨v, vs, e, h1, h2⟩ => ⟨v, vs, e, NV.move m hL a v h1, NV.moveL m hL b vs h2⟩
  | .nil, val, hv => hv
end
theorem Mv.newval {p : Nat} {o : AObj} {ok : Nat → Prop} {val : Value} {out : Out} (m : Mv p h o) (hL : ∀ b, liveOf w ρ (h ++ [o]) b → liveOf w (moved p h.length ρ) (hset h p o) b) (ho : out.obj = some o) (hv : VRel w ρ (h ++ [o]) ok (out.val h.length) val) : VRel w (moved p h.length ρ) (hset h p o) ok (out.val p) val := by
  have hl : p < (hset h p o).length := by rw [length_hset]; exact m.lt
  cases out with
  | row t l => obtain rfl : _ = o := Option.some.inj ho; have := hv.2; rw [m.new] at this; exact ⟨hl, by rw [hget_hset_self m.lt]; exact slrel_rho (by simp [moved]) this⟩
  | box t l => obtain rfl : _ = o := Option.some.inj ho; have := hv.2; rw [m.new] at this; exact ⟨hl, by rw [hget_hset_self m.lt]; exact ptrel_rho (by simp [moved]) this⟩
  | iter s => obtain rfl : _ = o := Option.some.inj ho; have := hv.2; rw [m.new] at this; exact ⟨hl, by rw [hget_hset_self m.lt]; exact itrel_rho (by simp [moved]) this⟩
  | ownr t l f => obtain rfl : _ = o := Option.some.inj ho; have := hv.2; rw [m.new] at this; exact ⟨hl, by rw [hget_hset_self m.lt]; exact slrel_rho (by simp [moved]) this⟩
  | genN ups o' n => obtain rfl : _ = o := Option.some.inj ho; exact NV.move m hL n val hv
  | _ => simp [Out.obj] at ho
theorem Rel.move {dst : Option Tmp} {out : Out} {p : Nat} (hr : Rel F w0 (st.after dst out) a w) (hpn : F.n ≤ p) (hp : p < st.heap.length) (hf : out.obj.isSome = true → hget (out.pre st.heap) p = .none)
    (hn : ∀ t, ∀ id ∈ (tget st.tmps t).ids, id < st.heap.length ∧ id ≠ p) : Rel F w0 ⟨putD st.tmps dst (out.val p), placed p out.obj (out.pre st.heap)⟩ a w := by
  have hlen : (out.pre st.heap).length = st.heap.length := (Pointy.pre 0 out).len st.heap
  unfold St.after at hr
  rw [value_eq] at hr
  cases ho : out.obj with
  | none =>
    rw [ho] at hr
    have e : out.val (out.pre st.heap).length = out.val p := by cases out <;> first | rfl | simp [Out.obj] at ho
    rw [e] at hr
    exact hr
  | some o =>
    rw [ho] at hr
    simp only at hr
    have m : Mv p (out.pre st.heap) o := ⟨by rw [hlen]; exact hp, hf (by rw [ho]; rfl)⟩
    obtain ⟨hd, hs, hb, ρ, hH, hV⟩ := hr
    have lv : ∀ b, liveOf w ρ (out.pre st.heap ++ [o]) b → liveOf w (moved p (out.pre st.heap).length ρ) (hset (out.pre st.heap) p o) b := fun b => (m.live b).1
    refine ⟨hd, ?_, hb, moved p (out.pre st.heap).length ρ, m.hrel hpn hH, fun i => ?_⟩
    · rw [hs]; cases dst <;> simp [putD, length_tset]
    · have hv := hV i
      simp only at hv
      show VRel w _ (hset _ _ _) (okOf F w _ (hset (out.pre st.heap) p o)) _ _
      rw [m.ok]
      cases dst with
      | none => exact m.vrel _ _ (fun id hi => by rw [hlen]; exact hn i id hi) lv hv
      | some d =>
        simp only [putD] at hv ⊢
        rw [tget_tset] at hv ⊢
        split
        · rename_i hc
          rw [if_pos hc] at hv
          exact m.newval lv ho hv
        · rename_i hc
          rw [if_neg hc] at hv
          exact m.vrel _ _ (fun id hi => by rw [hlen]; exact hn i id hi) lv hv
mutual
theorem ids_lt {ok : Nat → Prop} : ∀ (v : AVal) (val : Value), VRel w ρ h ok v val → ∀ id ∈ v.ids, id < h.length
  | .osl id ver, val, hv, i, hi => by simp [AVal.ids] at hi; subst hi; exact hv.1
  | .ptr id ver, val, hv, i, hi => by simp [AVal.ids] at hi; subst hi; exact hv.1
  | .eptr id ver _ _, val, hv, i, hi => by simp [AVal.ids] at hi; subst hi; exact hv.1
  | .iter id, val, hv, i, hi => by simp [AVal.ids] at hi; subst hi; exact hv.1
  | .tv id ver p, val, hv, i, hi => by simp [AVal.ids] at hi; subst hi; exact hv.1
  | .ad id ver p, val, hv, i, hi => by simp [AVal.ids] at hi; subst hi; exact hv.1
  | .elt id ver p j q, val, hv, i, hi => by simp [AVal.ids] at hi; subst hi; exact hv.1
  | .lease id s u t x, val, hv, i, hi => by simp [AVal.ids] at hi; subst hi; exact hv.1
  | .fn f c, val, ⟨vs, e, hv⟩, i, hi => ids_lt_list c vs hv i hi
  | .tcons x y, val, ⟨v, vs, e, h1, h2⟩, i, hi => by
    simp only [AVal.ids, List.mem_append] at hi
    rcases hi with hi | hi
    · exact ids_lt x v h1 i hi
    · exact ids_lt_list y vs h2 i hi
  | .data .., _, _, i, hi => by simp [AVal.ids] at hi
  | .rptr .., _, _, i, hi => by simp [AVal.ids] at hi
  | .tnil, _, _, i, hi => by simp [AVal.ids] at hi
  | .nils, _, _, i, hi => by simp [AVal.ids] at hi
  | .nilp, _, _, i, hi => by simp [AVal.ids] at hi
  | .undef, _, _, i, hi => by simp [AVal.ids] at hi
  | .dead, _, _, i, hi => by simp [AVal.ids] at hi
theorem ids_lt_list {ok : Nat → Prop} : ∀ (v : AVal) (vs : List Value), VList w ρ h ok v vs → ∀ id ∈ v.ids, id < h.length
  | .tcons x y, _, ⟨v, vs, e, h1, h2⟩, i, hi => by
    simp only [AVal.ids, List.mem_append] at hi
    rcases hi with hi | hi
    · exact ids_lt x v h1 i hi
    · exact ids_lt_list y vs h2 i hi
  | .tnil, _, _, i, hi => by simp [AVal.ids] at hi
  | .osl .., _, hv, _, _ => hv.elim
  | .ptr .., _, hv, _, _ => hv.elim
  | .eptr .., _, hv, _, _ => hv.elim
  | .iter .., _, hv, _, _ => hv.elim
  | .tv .., _, hv, _, _ => hv.elim
  | .ad .., _, hv, _, _ => hv.elim
  | .elt .., _, hv, _, _ => hv.elim
  | .lease .., _, hv, _, _ => hv.elim
  | .fn .., _, hv, _, _ => hv.elim
  | .data .., _, hv, _, _ => hv.elim
  | .rptr .., _, hv, _, _ => hv.elim
  | .nils, _, hv, _, _ => hv.elim
  | .nilp, _, hv, _, _ => hv.elim
  | .undef, _, hv, _, _ => hv.elim
  | .dead, _, hv, _, _ => hv.elim
end
theorem Rel.nones (hr : Rel F w0 st a w) (n : Nat) : Rel F w0 ⟨st.tmps, st.heap ++ PB.nones n⟩ a w := by
  obtain ⟨ρ, ho⟩ := hr.opened
  have hno : ∀ id b, st.heap.length ≤ id → (hget (st.heap ++ PB.nones n) id).owns = true → b ∈ (ρ id).bs → False := fun id b hl ho _ => by
    obtain ⟨k, rfl⟩ : ∃ k, id = st.heap.length + k := ⟨id - st.heap.length, by omega⟩
    rw [hget_append_ge, hget_nones] at ho; simp [AObj.owns] at ho
  have hle : st.heap.length ≤ (st.heap ++ PB.nones n).length := by simp
  have same : ∀ id, id < st.heap.length → hget (st.heap ++ PB.nones n) id = hget st.heap id ∧ ρ id = ρ id := fun id hl => ⟨hget_append_lt _ _ _ hl, rfl⟩
  have k := keeps_ext (F := F) (fun id b ho' hb => (ho.hrel.own id b ho' hb).2) (w' := w) (Nat.le_refl _) (fun _ _ => rfl) hle same (fun id b h1 h2 h3 => (hno id b h1 h2 h3).elim)
  refine ⟨ho.defers, ho.size, ho.below, ρ, ?_, fun i => VRel.keeps k _ _ (ho.vals i)⟩
  refine hrel_ext ho.hrel ho.base (Nat.le_refl _) (fun _ _ => rfl) hle same (fun id h1 h2 => ?_) (fun id b h1 h2 h3 => (hno id b h1 h2 h3).elim) (fun id id' b h1 _ h2 _ h3 _ => (hno id b h1 h2 h3).elim)
  obtain ⟨k, rfl⟩ : ∃ k, id = st.heap.length + k := ⟨id - st.heap.length, by omega⟩
  rw [hget_append_ge, hget_nones]; trivial
end
end Go.PB
namespace Go.PB
open Go Go.RowKit
section
variable {F : Fr} {P : Program} {G : Gv} {env : Env} {w0 w : World} {st st' : St} {a : Act} {R : Type} {tt : Tab}
def pair2 (e : Foot) (s : St) : Option (Foot × St) := some (e, s)
theorem placeK_eq {p : Nat} {h : List AObj} {o : Option AObj} {K : List AObj → Option R} {r : R} (hk : placeK p h o K = some r) : (o.isSome = true → hget h p = .none) ∧ K (placed p o h) = some r := by
  unfold placeK at hk
  cases o with
  | none => exact ⟨fun h => by simp at h, hk⟩
  | some o =>
    simp only at hk
    split at hk
    · rename_i e; exact ⟨fun _ => e, hk⟩
    · simp at hk
theorem placeK_of {p : Nat} {h : List AObj} {o : Option AObj} {K : List AObj → Option R} (hf : o.isSome = true → hget h p = .none) : placeK p h o K = K (placed p o h) := by
  unfold placeK
  cases o with
  | none => rfl
  | some o => simp only [hf rfl]; rfl
structure OpD (tt : Tab) (env : Env) (o : Oper) (p : Nat) (st : St) (out : Out) : Prop where
  op : opX tt env o (ev st.tmps) (fun x => res (preFreeze o st).heap (ev st.tmps x)) some = some out
  free : out.obj.isSome = true → hget (out.pre (preFreeze o st).heap) p = .none
def footOf (o : Oper) (p : Nat) (st : St) (out : Out) : Foot := ⟨idsAt st.tmps (readsOf o), frzIds (laidRows o st) ++ out.wr p, (out.val p).ids⟩
def stOf (o : Oper) (p : Nat) (st : St) (out : Out) : St := ⟨putD st.tmps o.dst (out.val p), placed p out.obj (out.pre (preFreeze o st).heap)⟩
theorem opD_inv (hn : EnvNat env) {o : Oper} {p : Nat} {K : Foot → St → Option R} {r : R} (hk : opD tt env o p st K = some r) :
    ∃ out, OpD tt env o p st out ∧ K (footOf o p st out) (stOf o p st out) = some r := by
  unfold opD at hk
  rw [opX_nat hn] at hk
  obtain ⟨out, h1, h2⟩ := Option.bind_eq_some_iff.1 hk
  obtain ⟨h3, h4⟩ := placeK_eq h2
  exact ⟨out, ⟨h1, h3⟩, h4⟩
theorem opD_of (hn : EnvNat env) {o : Oper} {p : Nat} {out : Out} (h : OpD tt env o p st out) (K : Foot → St → Option R) : opD tt env o p st K = K (footOf o p st out) (stOf o p st out) := by
  unfold opD
  rw [opX_nat hn, h.op]
  simp only [Option.bind_some]
  rw [placeK_of h.free]
  rfl
theorem opD_nat (hn : EnvNat env) (o : Oper) (p : Nat) (st : St) (K : Foot → St → Option R) : opD tt env o p st K = (opD tt env o p st pair2).bind fun x => K x.1 x.2 := by
  cases hk : opD tt env o p st pair2 with
  | none =>
    cases hk' : opD tt env o p st K with
    | none => rfl
    | some r =>
      obtain ⟨out, h1, h2⟩ := opD_inv hn hk'
      rw [opD_of hn h1] at hk
      simp [pair2] at hk
  | some x =>
    obtain ⟨out, h1, h2⟩ := opD_inv hn hk
    rw [opD_of hn h1]
    obtain rfl : _ = x := Option.some.inj h2
    rfl
theorem stepD_nat (hn : EnvNat env) (ops : List Oper) (o : Oper) (p : Nat) (st : St) (K : Foot → St → Option R) : stepD tt env ops o p st K = (stepD tt env ops o p st pair2).bind fun x => K x.1 x.2 := by
  unfold stepD
  cases o.guard with
  | none => exact opD_nat hn _ _ _ _
  | some jw =>
    obtain ⟨j, want⟩ := jw
    simp only
    split
    · split
      · rename_i b _
        cases b <;> cases want <;> first | rfl | exact opD_nat hn _ _ _ _
      · rfl
      · rfl
    · rfl
structure Alike (W : List Nat) (ts : List Nat) (st st' : St) : Prop where
  len : st.heap.length = st'.heap.length
  heap : ∀ id ∈ W, hget st.heap id = hget st'.heap id
  tmps : ∀ t ∈ ts, tget st.tmps t = tget st'.tmps t
theorem mem_tmpsOf {t : Tmp} : ∀ {l : List Operand}, Operand.tmp t ∈ l → t ∈ tmpsOf l
  | x :: l, h => by
    rcases List.mem_cons.1 h with e | e
    · subst e; simp [tmpsOf]
    · cases x <;> simp [tmpsOf, mem_tmpsOf e]
theorem Alike.ev {W ts : List Nat} (h : Alike W ts st st') {l : List Operand} (ht : ∀ t ∈ tmpsOf l, t ∈ ts) {x : Operand} (hx : x ∈ l) : PB.ev st.tmps x = PB.ev st'.tmps x := by
  cases x with
  | tmp t => exact h.tmps t (ht t (mem_tmpsOf hx))
  | _ => rfl
theorem laid_sub (o : Oper) : ∀ x ∈ laid o, x ∈ o.op.operands.toList := by
  intro x hx
  unfold laid at hx
  cases ho : o.op <;> rw [ho] at hx <;> simp [Op.operands] at hx ⊢ <;> first | exact hx | (subst hx; simp) | skip
  all_goals simp_all
theorem reads_sub (o : Oper) : ∀ x ∈ readsOf o, x ∈ o.op.operands.toList := by
  intro x hx
  unfold readsOf at hx
  split at hx
  · simp at hx
  · simp at hx
  · exact hx
theorem laid_reads (o : Oper) : ∀ x ∈ laid o, x ∈ readsOf o := by
  intro x hx
  have h := laid_sub o x hx
  unfold readsOf
  cases ho : o.op <;> rw [ho] at h <;> first | exact h | (unfold laid at hx; rw [ho] at hx; simp at hx)
structure Local (tt : Tab) (env : Env) (ops : List Oper) (o : Oper) (p : Nat) (st : St) (e : Foot) (s : St) (st' : St) (v : AVal) (M : List AObj → List AObj) : Prop where
  vl : e.vl = v.ids
  here : s = ⟨putD st.tmps o.dst v, M st.heap⟩
  there : stepD tt env ops o p st' pair2 = some (e, ⟨putD st'.tmps o.dst v, M st'.heap⟩)
  pt : Pointy e.wr M
theorem opD_local (hn : EnvNat env) {o : Oper} {p : Nat} {out : Out} (h : OpD tt env o p st out) (al : Alike ((footOf o p st out).rd ++ (footOf o p st out).wr) (tmpsOf o.op.operands.toList) st st') :
    OpD tt env o p st' out ∧ footOf o p st' out = footOf o p st out ∧ ∃ M, Pointy (footOf o p st out).wr M ∧ stOf o p st out = ⟨putD st.tmps o.dst (out.val p), M st.heap⟩ ∧ stOf o p st' out = ⟨putD st'.tmps o.dst (out.val p), M st'.heap⟩ := by
  have hev : ∀ x ∈ o.op.operands.toList, PB.ev st.tmps x = PB.ev st'.tmps x := fun x hx => al.ev (fun _ h => h) hx
  have hres : ∀ x ∈ readsOf o, res st.heap (PB.ev st.tmps x) = res st'.heap (PB.ev st'.tmps x) := fun x hx => by
    rw [← hev x (reads_sub o x hx)]
    exact res_congr _ fun id hi => al.heap id (by simp only [footOf, List.mem_append]; exact .inl (mem_idsAt hx hi))
  have hlr : laidRows o st = laidRows o st' := by
    unfold laidRows
    split
    · rename_i t x lo hi mx he
      rw [hres x (by unfold readsOf; rw [he]; simp [Op.operands])]
    · rename_i t x y he
      rw [hres x (by unfold readsOf; rw [he]; simp [Op.operands]), hres y (by unfold readsOf; rw [he]; simp [Op.operands])]
    · rw [List.map_congr_left fun x hx => hres x (laid_reads o x hx)]
  have hpf : ∀ s : St, (preFreeze o s).heap = freezeRows (laidRows o s) s.heap := fun s => rfl
  have hids : idsAt st'.tmps (readsOf o) = idsAt st.tmps (readsOf o) := idsAt_congr fun x hx => (hev x (reads_sub o x hx)).symm
  have hfoot : footOf o p st' out = footOf o p st out := by unfold footOf; rw [hids, hlr]
  have agree : ∀ id, id ∈ (footOf o p st out).rd ++ (footOf o p st out).wr → hget (preFreeze o st).heap id = hget (preFreeze o st').heap id := fun id hi => by
    rw [hpf, hpf, ← hlr]
    exact (Pointy.freeze (laidRows o st)).at_ _ _ _ al.len (al.heap id hi)
  have plen : (preFreeze o st).heap.length = (preFreeze o st').heap.length := by rw [hpf, hpf, length_freezeRows, length_freezeRows, al.len]
  have hop : OpD tt env o p st' out := by
    refine ⟨?_, fun hs => ?_⟩
    · rw [← h.op]
      refine opX_congr' tt o (fun x hx => (hev x hx).symm) (fun x hx => ?_) _
      rw [← hev x (reads_sub o x hx)]
      exact (res_congr _ fun id hi => agree id (by simp only [footOf, List.mem_append]; exact .inl (mem_idsAt hx hi))).symm
    · rw [← h.free hs]
      have hpw : p ∈ out.wr p := by cases out <;> simp [Out.obj] at hs <;> simp [Out.wr]
      exact ((Pointy.pre p out).at_ _ _ _ plen (agree p (by simp [footOf, hpw]))).symm
  refine ⟨hop, hfoot, fun h => placed p out.obj (out.pre (freezeRows (laidRows o st) h)), ?_, rfl, ?_⟩
  · exact (Pointy.freeze (laidRows o st)).comp (Pointy.placed p out)
  · unfold stOf; rw [hpf, ← hlr]
theorem stepD_local (hn : EnvNat env) {ops : List Oper} {o : Oper} {p : Nat} {e : Foot} {s : St} (h : stepD tt env ops o p st pair2 = some (e, s)) (al : Alike (e.rd ++ e.wr) (opTmps ops o) st st') :
    ∃ v M, Local tt env ops o p st e s st' v M := by
  have plain : o.guard = none ∨ True → ∀ (ho : opD tt env o p st pair2 = some (e, s)), (∀ (K : Foot → St → Option (Foot × St)), stepD tt env ops o p st' K = opD tt env o p st' K) → ∃ v M, Local tt env ops o p st e s st' v M := by
    intro _ ho hst
    obtain ⟨out, h1, h2⟩ := opD_inv hn ho
    simp only [pair2, Option.some.injEq, Prod.mk.injEq] at h2
    obtain ⟨rfl, rfl⟩ := h2
    obtain ⟨h3, h4, M, hM, h5, h6⟩ := opD_local hn h1 (st' := st') ⟨al.len, al.heap, fun t ht => al.tmps t (by unfold opTmps; simp [ht])⟩
    exact ⟨out.val p, M, rfl, h5, by rw [hst, opD_of hn h3, h4, h6]; rfl, hM⟩
  have skip : s = ⟨putD st.tmps o.dst .undef, st.heap⟩ → e = ⟨[], [], []⟩ → stepD tt env ops o p st' pair2 = some (⟨[], [], []⟩, ⟨putD st'.tmps o.dst .undef, st'.heap⟩) → ∃ v M, Local tt env ops o p st e s st' v M := by
    intro h1 h2 h3
    subst h2
    exact ⟨.undef, fun h => h, rfl, h1, h3, Pointy.id _⟩
  unfold stepD at h
  cases hg : o.guard with
  | none =>
    rw [hg] at h
    exact plain (.inr trivial) h fun K => by unfold stepD; rw [hg]
  | some jw =>
    obtain ⟨j, want⟩ := jw
    rw [hg] at h
    simp only at h
    cases hd : (ops[j]?).bind (·.dst) with
    | none => rw [hd] at h; simp at h
    | some d =>
      rw [hd] at h
      simp only at h
      have hdt : tget st.tmps d = tget st'.tmps d := al.tmps d (by unfold opTmps; rw [hg]; simp [hd])
      split at h
      · rename_i b ed
        have ed' : tget st'.tmps d = .data .bool b := by rw [← hdt]; exact ed
        have e1 := tset_same st.tmps d _ ed
        have e2 := tset_same st'.tmps d _ ed'
        cases b <;> cases want <;> simp only [cond_true, cond_false] at h <;> rw [e1] at h
        · exact plain (.inr trivial) h fun K => by unfold stepD; rw [hg]; simp only [hd, ed', cond_false]; rw [e2]
        · simp only [pair2, Option.some.injEq, Prod.mk.injEq] at h
          exact skip h.2.symm h.1.symm (by unfold stepD; rw [hg]; simp only [hd, ed', cond_false, cond_true]; rw [e2]; rfl)
        · simp only [pair2, Option.some.injEq, Prod.mk.injEq] at h
          exact skip h.2.symm h.1.symm (by unfold stepD; rw [hg]; simp only [hd, ed', cond_false, cond_true]; rw [e2]; rfl)
        · exact plain (.inr trivial) h fun K => by unfold stepD; rw [hg]; simp only [hd, ed', cond_true]; rw [e2]
      · rename_i ed
        have ed' : tget st'.tmps d = .undef := by rw [← hdt]; exact ed
        simp only [pair2, Option.some.injEq, Prod.mk.injEq] at h
        exact skip h.2.symm h.1.symm (by unfold stepD; rw [hg]; simp only [hd, ed']; rfl)
      · simp at h
theorem opD_sound (hT : TTOk P tt) (hE : EnvSound P G env) (hn : EnvNat env) (hG : Good G F w) (h : Rel F w0 st a w) (o : Oper) {p : Nat} {out : Out} (ho : OpD tt env o p st out) (hpn : F.n ≤ p) (hp : p < st.heap.length) (hnm : ∀ t, p ∉ (tget st.tmps t).ids)
    (Q : Exit → Act → World → Prop) : o.wp P a w (fun a' w' => Rel F w0 (stOf o p st out) a' w') Q := by
  have hf := h.preFreeze o
  have hpl : (preFreeze o st).heap.length = st.heap.length := length_freezeRows _ _
  have hk : opOn tt env o (preFreeze o st) some = some ((preFreeze o st).after o.dst out) := by
    unfold opOn
    rw [opX_nat hn]
    have : opX tt env o (ev (preFreeze o st).tmps) (fun x => res (preFreeze o st).heap (ev (preFreeze o st).tmps x)) some = some out := ho.op
    rw [this]; rfl
  refine Oper.wp_mono (fun a' w' ⟨s, h1, h2⟩ => ?_) (opOn_sound hT hE hG hf o hk Q)
  obtain rfl : s = _ := Option.some.inj h1
  refine Rel.move h2 hpn (by rw [hpl]; exact hp) ho.free fun t id hi => ?_
  obtain ⟨ρ, hO⟩ := hf.opened
  exact ⟨ids_lt _ _ (hO.vals t) id hi, fun e => hnm t (by subst e; exact hi)⟩
theorem stepD_sound (hT : TTOk P tt) (hE : EnvSound P G env) (hn : EnvNat env) (hG : Good G F w) (h : Rel F w0 st a w) (ops : Array Oper) (o : Oper) {p : Nat} {e : Foot} {s : St} (hk : stepD tt env ops.toList o p st pair2 = some (e, s))
    (hpn : F.n ≤ p) (hp : p < st.heap.length) (hnm : ∀ t, p ∉ (tget st.tmps t).ids) (Q : Exit → Act → World → Prop) :
    if Region.wanted o (yielded ops a.tmps) then o.wp P a w (fun a' w' => Rel F w0 s a' w') Q else Rel F w0 s (a.put o.dst Go.undef) w := by
  have plain : opD tt env o p st pair2 = some (e, s) → o.wp P a w (fun a' w' => Rel F w0 s a' w') Q := by
    intro ho
    obtain ⟨out, h1, h2⟩ := opD_inv hn ho
    simp only [pair2, Option.some.injEq, Prod.mk.injEq] at h2
    obtain ⟨_, rfl⟩ := h2
    exact opD_sound hT hE hn hG h o h1 hpn hp hnm Q
  have skip : ∀ {tm : List AVal}, tm = st.tmps → pair2 ⟨[], [], []⟩ ⟨putD tm o.dst .undef, st.heap⟩ = some (e, s) → Rel F w0 s (a.put o.dst Go.undef) w := by
    intro tm ht h1
    subst ht
    simp only [pair2, Option.some.injEq, Prod.mk.injEq] at h1
    obtain ⟨_, rfl⟩ := h1
    exact h.undef o.dst
  unfold stepD at hk
  cases hg : o.guard with
  | none =>
    rw [hg] at hk
    rw [if_pos (wanted_none hg)]
    exact plain hk
  | some jw =>
    obtain ⟨j, want⟩ := jw
    rw [hg] at hk
    simp only [Array.getElem?_toList] at hk
    cases hd : (ops[j]?).bind (·.dst) with
    | none => rw [hd] at hk; simp at hk
    | some d =>
      rw [hd] at hk
      simp only at hk
      obtain ⟨ρ, ho⟩ := h.opened
      have hvd := ho.vals d
      split at hk
      · rename_i b ed
        rw [ed] at hvd
        rw [wanted_bool hg hd hvd]
        have e1 := tset_same st.tmps d _ ed
        cases b <;> cases want <;> simp only [cond_true, cond_false] at hk
        · rw [e1] at hk; rw [if_pos (by rfl)]; exact plain hk
        · rw [if_neg (by simp)]; exact skip e1 hk
        · rw [if_neg (by simp)]; exact skip e1 hk
        · rw [e1] at hk; rw [if_pos (by rfl)]; exact plain hk
      · rename_i ed
        rw [ed] at hvd
        rw [wanted_undef hg hd hvd, if_neg (by simp)]
        exact skip rfl hk
      · simp at hk
end
end Go.PB
namespace Go.PB
open Go Go.RowKit
theorem tget_ext : ∀ {l l' : List AVal}, l.length = l'.length → (∀ t, tget l t = tget l' t) → l = l'
  | [], [], _, _ => rfl
  | [], _ :: _, h, _ => by simp at h
  | _ :: _, [], h, _ => by simp at h
  | x :: l, y :: l', h, ht => by
    have h0 : x = y := ht 0
    have := tget_ext (l := l) (l' := l') (by simpa using h) fun t => ht (t + 1)
    rw [h0, this]
theorem hget_ext : ∀ {l l' : List AObj}, l.length = l'.length → (∀ t, hget l t = hget l' t) → l = l'
  | [], [], _, _ => rfl
  | [], _ :: _, h, _ => by simp at h
  | _ :: _, [], h, _ => by simp at h
  | x :: l, y :: l', h, ht => by
    have h0 : x = y := ht 0
    have := hget_ext (l := l) (l' := l') (by simpa using h) fun t => ht (t + 1)
    rw [h0, this]
/-! ## What the tests say -/
theorem allFrom_get {α : Type} {f : Nat → α → Bool} : ∀ {l : List α} {s : Nat}, allFrom f s l = true → ∀ i x, l[i]? = some x → f (s + i) x = true
  | y :: l, s, h, 0, x, hx => by
    simp only [allFrom, Bool.and_eq_true] at h
    simp at hx; subst hx; exact h.1
  | y :: l, s, h, i + 1, x, hx => by
    simp only [allFrom, Bool.and_eq_true] at h
    have := allFrom_get h.2 i x (by simpa using hx)
    rw [show s + (i + 1) = s + 1 + i by omega]; exact this
theorem memN_of {x : Nat} : ∀ {l : List Nat}, x ∈ l → memN x l = true
  | y :: l, h => by
    simp only [memN, Bool.or_eq_true]
    rcases List.mem_cons.1 h with e | e
    · subst e; exact .inl (Nat.beq_refl x)
    · exact .inr (memN_of e)
def Ord (ms : List Nat) (i j : Nat) : Prop := Nat.testBit (nget ms i) j = true
theorem edgeMask_spec {ms : List Nat} {j : Nat} : ∀ {es : List Edge}, Nat.testBit (edgeMask ms es) j = true → ∃ e ∈ es, Region.binds .any e = true ∧ (j = e.on ∨ Ord ms e.on j)
  | [], h => by simp [edgeMask] at h
  | e :: es, h => by
    simp only [edgeMask] at h
    cases hb : Region.binds .any e with
    | true =>
      rw [hb] at h
      simp only [cond_true, Nat.testBit_or, Bool.or_eq_true] at h
      rcases h with h | h | h
      · rw [Nat.testBit_two_pow] at h
        exact ⟨e, by simp, hb, .inl (by simpa using h : e.on = j).symm⟩
      · exact ⟨e, by simp, hb, .inr h⟩
      · obtain ⟨e', h1, h2⟩ := edgeMask_spec h; exact ⟨e', by simp [h1], h2⟩
    | false =>
      rw [hb] at h
      obtain ⟨e', h1, h2⟩ := edgeMask_spec h; exact ⟨e', by simp [h1], h2⟩
structure Static (ms : List Nat) (ops : Array Oper) : Prop where
  lt : ∀ i o, ops[i]? = some o → ∀ e ∈ o.after, Region.binds .any e = true → e.on < i
  pre : ∀ i o, ops[i]? = some o → ∀ j, Ord ms i j → ∃ e ∈ o.after, Region.binds .any e = true ∧ (j = e.on ∨ Ord ms e.on j)
  dst : ∀ (i j : Nat) (o o' : Oper) d, ops[i]? = some o → ops[j]? = some o' → o.dst = some d → o'.dst = some d → i = j
  use : ∀ i o, ops[i]? = some o → ∀ t ∈ opTmps ops.toList o, ∀ j o', ops[j]? = some o' → o'.dst = some t → j = i ∨ Ord ms i j ∨ Ord ms j i
theorem ordB_spec {ms : List Nat} {i j : Nat} (h : ordB ms i j = true) : Ord ms i j ∨ Ord ms j i := by simpa [ordB, Ord] using h
theorem drawOk_spec {ms : List Nat} {ops : Array Oper} (h : drawOk ms ops.toList = true) : Static ms ops := by
  have key := fun i o (ho : ops[i]? = some o) => allFrom_get h i o (by simpa using ho)
  simp only [Nat.zero_add, Bool.and_eq_true] at key
  refine ⟨fun i o ho e he hb => ?_, fun i o ho j hj => ?_, fun i j o o' d ho ho' hd hd' => ?_, fun i o ho t ht j o' ho' hd => ?_⟩
  · have := List.all_eq_true.1 (key i o ho).1 e (by simpa using he)
    rw [hb] at this
    simpa [Nat.blt_eq] using this
  · have h1 := Nat.eq_of_beq_eq_true (key i o ho).2.1
    unfold Ord at hj
    rw [h1] at hj
    obtain ⟨e, h2, h3⟩ := edgeMask_spec hj
    exact ⟨e, by simpa using h2, h3⟩
  · have := (key i o ho).2.2.1
    rw [hd] at this
    have := allFrom_get this j o' (by simpa using ho')
    simp only [Nat.zero_add, dstIs, hd', Bool.or_eq_true, Bool.not_eq_true'] at this
    rcases this with h1 | h1
    · exact (Nat.eq_of_beq_eq_true h1).symm
    · simp at h1
  · have := List.all_eq_true.1 (key i o ho).2.2.2 t ht
    have := allFrom_get this j o' (by simpa using ho')
    simp only [Nat.zero_add, dstIs, hd, Bool.or_eq_true, Bool.not_eq_true'] at this
    rcases this with h1 | h1 | h1
    · simp at h1
    · exact .inl (Nat.eq_of_beq_eq_true h1)
    · exact .inr (ordB_spec h1)
theorem logOk_spec {base : Nat} {ms : List Nat} {lg : List Foot} (h : logOk base ms lg = true) :
    (∀ (i j : Nat) (e e' : Foot) id, lg[i]? = some e → lg[j]? = some e' → id ∈ e.wr → (id ∈ e'.rd ∨ id ∈ e'.wr) → j = i ∨ Ord ms i j ∨ Ord ms j i) ∧
    (∀ (i : Nat) (e : Foot) id, lg[i]? = some e → id ∈ e.vl → id < base ∨ id = base + i ∨ Ord ms i (id - base)) := by
  have key := fun i o (ho : lg[i]? = some o) => allFrom_get h i o ho
  simp only [Nat.zero_add, Bool.and_eq_true] at key
  refine ⟨fun i j e e' id he he' hw hr => ?_, fun i e id he hv => ?_⟩
  · have := List.all_eq_true.1 (key i e he).1 id hw
    have := allFrom_get this j e' he'
    simp only [Nat.zero_add, Bool.or_eq_true, Bool.not_eq_true'] at this
    rcases this with h1 | h1 | h1
    · exact .inl (Nat.eq_of_beq_eq_true h1)
    · exact .inr (ordB_spec h1)
    · rcases hr with hr | hr
      · rw [memN_of hr] at h1; simp at h1
      · rw [memN_of hr] at h1; simp at h1
  · have := List.all_eq_true.1 (key i e he).2 id hv
    simp only [Bool.or_eq_true] at this
    rcases this with h1 | h1 | h1
    · exact .inl (by simpa [Nat.blt_eq] using h1)
    · exact .inr (.inl (Nat.eq_of_beq_eq_true h1))
    · exact .inr (.inr h1)
/-! ## The run in the text's order -/
section
variable {F : Fr} {P : Program} {G : Gv} {env : Env} {w0 w : World} {st st' : St} {a : Act} {R : Type} {tt : Tab}
def stAt : St → List (Foot × St) → Nat → St
  | st, _, 0 => st
  | st, [], _ + 1 => st
  | _, x :: tr, n + 1 => stAt x.2 tr n
theorem stAt_zero (st : St) (tr : List (Foot × St)) : stAt st tr 0 = st := by cases tr <;> rfl
theorem runD_trace (hn : EnvNat env) {ops : List Oper} : ∀ (rest : List Oper) (p : Nat) (st : St) (lg : List Foot) (K : List Foot → St → Option R) (r : R), runD tt env ops rest p st lg K = some r →
    ∃ tr : List (Foot × St), tr.length = rest.length ∧ K (lg ++ tr.map (·.1)) (stAt st tr rest.length) = some r ∧
      ∀ i o, rest[i]? = some o → ∃ e, tr[i]? = some (e, stAt st tr (i + 1)) ∧ stepD tt env ops o (p + i) (stAt st tr i) pair2 = some (e, stAt st tr (i + 1))
  | [], p, st, lg, K, r, hk => ⟨[], rfl, by simpa [stAt, runD] using hk, fun i o ho => by simp at ho⟩
  | o :: rest, p, st, lg, K, r, hk => by
    simp only [runD] at hk
    rw [stepD_nat hn] at hk
    obtain ⟨⟨e, s⟩, h1, h2⟩ := Option.bind_eq_some_iff.1 hk
    rw [force_eq] at h2
    obtain ⟨tr, h3, h4, h5⟩ := runD_trace hn rest (p + 1) s _ K r h2
    refine ⟨(e, s) :: tr, by simp [h3], by simpa [stAt] using h4, fun i o' ho => ?_⟩
    cases i with
    | zero =>
      simp at ho; subst ho
      exact ⟨e, by simp [stAt, stAt_zero], by simpa [stAt, stAt_zero] using h1⟩
    | succ i =>
      obtain ⟨e', h6, h7⟩ := h5 i o' (by simpa using ho)
      exact ⟨e', by simpa [stAt] using h6, by rw [show p + (i + 1) = p + 1 + i by omega]; exact h7⟩
structure Run (tt : Tab) (env : Env) (ops : Array Oper) (ms : List Nat) (base : Nat) (S : Nat → St) (L : Nat → Foot) : Prop where
  static : Static ms ops
  step : ∀ i o, ops[i]? = some o → stepD tt env ops.toList o (base + i) (S i) pair2 = some (L i, S (i + 1))
  len : (S 0).heap.length = base + ops.size
  ids : ∀ t, ∀ id ∈ (tget (S 0).tmps t).ids, id < base
  conf : ∀ i j id, i < ops.size → j < ops.size → id ∈ (L i).wr → (id ∈ (L j).rd ∨ id ∈ (L j).wr) → j = i ∨ Ord ms i j ∨ Ord ms j i
  vl : ∀ i id, i < ops.size → id ∈ (L i).vl → id < base ∨ id = base + i ∨ Ord ms i (id - base)
section
variable {ops : Array Oper} {ms : List Nat} {base : Nat} {S : Nat → St} {L : Nat → Foot}
theorem Run.local_ (h : Run tt env ops ms base S L) (hn : EnvNat env) {i : Nat} {o : Oper} (ho : ops[i]? = some o) : ∃ v M, (L i).vl = v.ids ∧ S (i + 1) = ⟨putD (S i).tmps o.dst v, M (S i).heap⟩ ∧ Pointy (L i).wr M := by
  obtain ⟨v, M, hl⟩ := stepD_local hn (h.step i o ho) (st' := S i) ⟨rfl, fun _ _ => rfl, fun _ _ => rfl⟩
  exact ⟨v, M, hl.vl, hl.here, hl.pt⟩
theorem get_of_lt {ops : Array Oper} {i : Nat} (h : i < ops.size) : ∃ o, ops[i]? = some o := ⟨ops[i], by simp [h]⟩
theorem lt_of_get {ops : Array Oper} {i : Nat} {o : Oper} (h : ops[i]? = some o) : i < ops.size := (Array.getElem?_eq_some_iff.1 h).1
theorem putD_length (l : List AVal) (d : Option Tmp) (v : AVal) : (putD l d v).length = l.length := by cases d <;> simp [putD, length_tset]
theorem tget_putD_ne {l : List AVal} {d : Option Tmp} {v : AVal} {t : Nat} (h : d ≠ some t) : tget (putD l d v) t = tget l t := by
  cases d with
  | none => rfl
  | some d => simp only [putD]; rw [tget_tset, if_neg (fun e => h (by rw [e.1]))]
theorem Run.tlen (h : Run tt env ops ms base S L) (hn : EnvNat env) : ∀ i, i ≤ ops.size → (S i).tmps.length = (S 0).tmps.length
  | 0, _ => rfl
  | i + 1, hi => by
    obtain ⟨o, ho⟩ := get_of_lt (ops := ops) (i := i) (by omega)
    obtain ⟨v, M, _, e, _⟩ := h.local_ hn ho
    rw [e]; simp only [putD_length]; exact h.tlen hn i (by omega)
theorem Run.hlen (h : Run tt env ops ms base S L) (hn : EnvNat env) : ∀ i, i ≤ ops.size → (S i).heap.length = (S 0).heap.length
  | 0, _ => rfl
  | i + 1, hi => by
    obtain ⟨o, ho⟩ := get_of_lt (ops := ops) (i := i) (by omega)
    obtain ⟨v, M, _, e, hp⟩ := h.local_ hn ho
    rw [e]; simp only [hp.len]; exact h.hlen hn i (by omega)
theorem Run.tsame (h : Run tt env ops ms base S L) (hn : EnvNat env) {t k : Nat} : ∀ i, k ≤ i → i ≤ ops.size → (∀ j o, k ≤ j → j < i → ops[j]? = some o → o.dst ≠ some t) → tget (S i).tmps t = tget (S k).tmps t := by
  intro i hk hi hno
  induction i with
  | zero => obtain rfl : k = 0 := by omega
            rfl
  | succ i ih =>
    rcases Nat.lt_or_ge i k with hlt | hge
    · obtain rfl : k = i + 1 := by omega
      rfl
    · obtain ⟨o, ho⟩ := get_of_lt (ops := ops) (i := i) (by omega)
      obtain ⟨v, M, _, e, _⟩ := h.local_ hn ho
      rw [e]
      simp only
      rw [tget_putD_ne (hno i o hge (by omega) ho)]
      exact ih hge (by omega) fun j o' h1 h2 h3 => hno j o' h1 (by omega) h3
theorem Run.hsame (h : Run tt env ops ms base S L) (hn : EnvNat env) {id k : Nat} : ∀ i, k ≤ i → i ≤ ops.size → (∀ j, k ≤ j → j < i → id ∉ (L j).wr) → hget (S i).heap id = hget (S k).heap id := by
  intro i hk hi hno
  induction i with
  | zero => obtain rfl : k = 0 := by omega
            rfl
  | succ i ih =>
    rcases Nat.lt_or_ge i k with hlt | hge
    · obtain rfl : k = i + 1 := by omega
      rfl
    · obtain ⟨o, ho⟩ := get_of_lt (ops := ops) (i := i) (by omega)
      obtain ⟨v, M, _, e, hp⟩ := h.local_ hn ho
      rw [e]
      simp only
      rw [hp.out _ _ (hno i hge (by omega))]
      exact ih hge (by omega) fun j h1 h2 => hno j h1 (by omega)
theorem Run.ord_lt (h : Run tt env ops ms base S L) {j : Nat} : ∀ i, i < ops.size → Ord ms i j → j < i := by
  intro i
  induction i using Nat.strongRecOn with
  | ind i ih =>
    intro hi ho
    obtain ⟨o, hoi⟩ := get_of_lt hi
    obtain ⟨e, h1, h2, h3⟩ := h.static.pre i o hoi j ho
    have h4 := h.static.lt i o hoi e h1 h2
    rcases h3 with h3 | h3
    · omega
    · have := ih e.on h4 (by omega) h3; omega
def Lst (ops : Array Oper) (listed : Array Bool) (j : Nat) : Prop := j < ops.size ∧ listed.getD j false = true
structure InvD (F : Fr) (w0 : World) (ops : Array Oper) (ms : List Nat) (S : Nat → St) (L : Nat → Foot) (listed : Array Bool) (a : Act) (w : World) (T : List AVal) (H : List AObj) : Prop where
  size : listed.size = ops.size
  rel : Rel F w0 ⟨T, H⟩ a w
  tlen : T.length = (S 0).tmps.length
  tf : ∀ t i o, ops[i]? = some o → o.dst = some t → Lst ops listed i → tget T t = tget (S (i + 1)).tmps t
  t0 : ∀ t, (∀ i o, ops[i]? = some o → o.dst = some t → ¬ Lst ops listed i) → tget T t = tget (S 0).tmps t
  hlen : H.length = (S 0).heap.length
  hf : ∀ id i, Lst ops listed i → id ∈ (L i).wr → (∀ j, Lst ops listed j → id ∈ (L j).wr → j ≤ i) → hget H id = hget (S (i + 1)).heap id
  h0 : ∀ id, (∀ i, Lst ops listed i → id ∉ (L i).wr) → hget H id = hget (S 0).heap id
  cl : ∀ i j, Lst ops listed i → Ord ms i j → Lst ops listed j
theorem last_writer (p : Nat → Prop) : ∀ i, (∀ j, j < i → ¬ p j) ∨ ∃ m, m < i ∧ p m ∧ ∀ j, m < j → j < i → ¬ p j
  | 0 => .inl fun j hj => by omega
  | i + 1 => by
    by_cases hp : p i
    · exact .inr ⟨i, by omega, hp, fun j h1 h2 => by omega⟩
    · rcases last_writer p i with h | ⟨m, h1, h2, h3⟩
      · exact .inl fun j hj => by
          rcases Nat.lt_or_ge j i with h4 | h4
          · exact h j h4
          · obtain rfl : j = i := by omega
            exact hp
      · exact .inr ⟨m, by omega, h2, fun j h4 h5 => by
          rcases Nat.lt_or_ge j i with h6 | h6
          · exact h3 j h4 h6
          · obtain rfl : j = i := by omega
            exact hp⟩
section
variable {listed : Array Bool} {T : List AVal} {H : List AObj}
theorem InvD.preds (hr : Run tt env ops ms base S L) (hi : InvD F w0 ops ms S L listed a w T H) {i : Nat} {o : Oper} (ho : ops[i]? = some o)
    (hall : ∀ e ∈ o.after, Region.binds .any e = true → listed.getD e.on false = true) {j : Nat} (hj : Ord ms i j) : Lst ops listed j := by
  obtain ⟨e, h1, h2, h3⟩ := hr.static.pre i o ho j hj
  have hlt := hr.static.lt i o ho e h1 h2
  have := lt_of_get ho
  have hle : Lst ops listed e.on := ⟨by omega, hall e h1 h2⟩
  rcases h3 with h3 | h3
  · subst h3; exact hle
  · exact hi.cl e.on j hle h3
theorem InvD.alike (hr : Run tt env ops ms base S L) (hn : EnvNat env) (hi : InvD F w0 ops ms S L listed a w T H) {i : Nat} {o : Oper} (ho : ops[i]? = some o)
    (hall : ∀ e ∈ o.after, Region.binds .any e = true → listed.getD e.on false = true) (hun : ¬ Lst ops listed i) : Alike ((L i).rd ++ (L i).wr) (opTmps ops.toList o) (S i) ⟨T, H⟩ := by
  have hlt := lt_of_get ho
  have preds : ∀ j, Ord ms i j → Lst ops listed j := fun j hj => hi.preds hr ho hall hj
  refine ⟨by rw [hr.hlen hn i (by omega), ← hi.hlen], fun id hid => ?_, fun t ht => ?_⟩
  · have before : ∀ j, j < ops.size → id ∈ (L j).wr → j ≠ i → (Lst ops listed j ↔ j < i) := fun j hj hw hne => by
      have hc := hr.conf j i id hj hlt hw (by simpa using hid)
      rcases hc with hc | hc | hc
      · exact absurd hc.symm hne
      · have := hr.ord_lt j hj hc
        exact ⟨fun hl => absurd (hi.cl j i hl hc) hun, fun hlt' => by omega⟩
      · have := hr.ord_lt i hlt hc
        exact ⟨fun _ => this, fun _ => preds j hc⟩
    rcases last_writer (fun j => id ∈ (L j).wr) i with hno | ⟨m, h1, h2, h3⟩
    · rw [hr.hsame hn (k := 0) i (by omega) (by omega) fun j _ hj => hno j hj]
      exact (hi.h0 id fun j hl hw => by
        by_cases e : j = i
        · subst e; exact hun hl
        · exact hno j ((before j hl.1 hw e).1 hl) hw).symm
    · rw [hr.hsame hn (k := m + 1) i (by omega) (by omega) fun j hj hj' => h3 j (by omega) hj']
      refine (hi.hf id m ((before m (by omega) h2 (by omega)).2 h1) h2 fun j hl hw => ?_).symm
      by_cases e : j = i
      · subst e; exact absurd hl hun
      · have := (before j hl.1 hw e).1 hl
        rcases Nat.lt_or_ge m j with h4 | h4
        · exact absurd hw (h3 j h4 this)
        · exact h4
  · show tget (S i).tmps t = tget T t
    by_cases hw : ∃ (j : Nat) (o' : Oper), ops[j]? = some o' ∧ o'.dst = some t
    · obtain ⟨j, o', hj, hd⟩ := hw
      have only : ∀ j' o'', ops[j']? = some o'' → o''.dst = some t → j' = j := fun j' o'' h1 h2 => hr.static.dst j' j o'' o' t h1 hj h2 hd
      have after : ¬ Lst ops listed j → i ≤ j → tget (S i).tmps t = tget T t := fun hnl hij => by
        rw [hi.t0 t fun j' o'' h1 h2 => by rw [only j' o'' h1 h2]; exact hnl]
        exact hr.tsame hn (k := 0) i (by omega) (by omega) fun j' o'' _ h1 h2 h3 => by have := only j' o'' h2 h3; omega
      rcases hr.static.use i o ho t ht j o' hj hd with h1 | h1 | h1
      · subst h1; exact after hun (by omega)
      · have hlj := preds j h1
        have := hr.ord_lt i hlt h1
        rw [hi.tf t j o' hj hd hlj]
        exact hr.tsame hn (k := j + 1) i (by omega) (by omega) fun j' o'' h2 h3 h4 h5 => by have := only j' o'' h4 h5; omega
      · have := hr.ord_lt j (lt_of_get hj) h1
        exact after (fun hl => hun (hi.cl j i hl h1)) (by omega)
    · have hno : ∀ (j : Nat) (o' : Oper), ops[j]? = some o' → o'.dst ≠ some t := fun j o' h1 h2 => hw ⟨j, o', h1, h2⟩
      rw [hi.t0 t fun j o' h1 h2 => absurd h2 (hno j o' h1)]
      exact hr.tsame hn (k := 0) i (by omega) (by omega) fun j (o' : Oper) _ _ h1 => hno j o' h1
theorem InvD.fresh (hr : Run tt env ops ms base S L) (hn : EnvNat env) (hi : InvD F w0 ops ms S L listed a w T H) {i : Nat} (hlt : i < ops.size) (hun : ¬ Lst ops listed i) (t : Nat) : base + i ∉ (tget T t).ids := by
  intro hm
  by_cases hw : ∃ (j : Nat) (o' : Oper), ops[j]? = some o' ∧ o'.dst = some t ∧ Lst ops listed j
  · obtain ⟨j, o', hj, hd, hl⟩ := hw
    rw [hi.tf t j o' hj hd hl] at hm
    obtain ⟨v, M, h1, h2, _⟩ := hr.local_ hn hj
    rw [h2, hd] at hm
    simp only [putD] at hm
    rw [tget_tset] at hm
    split at hm
    · rw [← h1] at hm
      rcases hr.vl j _ (lt_of_get hj) hm with h3 | h3 | h3
      · omega
      · obtain rfl : i = j := by omega
        exact hun hl
      · rw [show base + i - base = i by omega] at h3
        exact hun (hi.cl j i hl h3)
    · rename_i hc
      rw [tget_ge _ _ (by simp at hc; exact hc)] at hm
      simp [AVal.ids] at hm
  · have := hi.t0 t fun j o' h1 h2 h3 => hw ⟨j, o', h1, h2, h3⟩
    rw [this] at hm
    have := hr.ids t _ hm
    omega
theorem lst_set {i j : Nat} (hs : listed.size = ops.size) (hlt : i < ops.size) : Lst ops (listed.setIfInBounds i true) j ↔ j = i ∨ Lst ops listed j := by
  unfold Lst
  by_cases e : i = j
  · subst e
    have : i < listed.size := by omega
    simp [this, hlt]
  · rw [getD_set_ne false e]
    constructor
    · exact .inr
    · intro h; rcases h with h | h
      · exact absurd h.symm e
      · exact h
theorem InvD.next (hr : Run tt env ops ms base S L) (hn : EnvNat env) (hi : InvD F w0 ops ms S L listed a w T H) {i : Nat} {o : Oper} (ho : ops[i]? = some o)
    (hall : ∀ e ∈ o.after, Region.binds .any e = true → listed.getD e.on false = true) (hun : ¬ Lst ops listed i) :
    ∃ s, stepD tt env ops.toList o (base + i) ⟨T, H⟩ pair2 = some (L i, s) ∧ ∀ a' w', Rel F w0 s a' w' → InvD F w0 ops ms S L (listed.setIfInBounds i true) a' w' s.tmps s.heap := by
  have hlt := lt_of_get ho
  have al := hi.alike hr hn ho hall hun
  obtain ⟨v, M, hl⟩ := stepD_local hn (hr.step i o ho) al
  refine ⟨_, hl.there, fun a' w' hrel => ?_⟩
  have set_ : ∀ j, Lst ops (listed.setIfInBounds i true) j ↔ j = i ∨ Lst ops listed j := fun j => lst_set hi.size hlt
  have hS : S (i + 1) = ⟨putD (S i).tmps o.dst v, M (S i).heap⟩ := hl.here
  have tlen : T.length = (S i).tmps.length := by rw [hi.tlen, hr.tlen hn i (by omega)]
  have hlen : H.length = (S i).heap.length := by rw [hi.hlen, hr.hlen hn i (by omega)]
  refine ⟨by rw [Array.size_setIfInBounds]; exact hi.size, hrel, by rw [putD_length]; exact hi.tlen, ?_, ?_, by rw [hl.pt.len]; exact hi.hlen, ?_, ?_, ?_⟩
  · intro t j o' hj hd hlj
    simp only
    rcases (set_ j).1 hlj with e | e
    · subst e
      obtain rfl : o' = o := by rw [ho] at hj; exact (Option.some.inj hj).symm
      rw [hS, hd]
      simp only [putD]
      rw [tget_tset, tget_tset, tlen]
      split
      · rfl
      · rename_i hc
        rw [tget_ge T t (by rw [tlen]; simpa using hc), tget_ge _ t (by simpa using hc)]
    · have hne : o.dst ≠ some t := fun hd' => by
        have := hr.static.dst j i o' o t hj ho hd hd'
        subst this; exact hun e
      rw [tget_putD_ne hne]
      exact hi.tf t j o' hj hd e
  · intro t hno
    simp only
    rw [tget_putD_ne fun hd => hno i o ho hd ((set_ i).2 (.inl rfl))]
    exact hi.t0 t fun j o' h1 h2 h3 => hno j o' h1 h2 ((set_ j).2 (.inr h3))
  · intro id j hlj hw hmax
    simp only
    by_cases e : j = i
    · subst e
      rw [hS]
      exact hl.pt.at_ _ _ _ hlen (al.heap id (by simp [hw])).symm
    · have hlj' : Lst ops listed j := ((set_ j).1 hlj).resolve_left e
      have hni : id ∉ (L i).wr := fun hwi => by
        have h1 := hmax i ((set_ i).2 (.inl rfl)) hwi
        rcases hr.conf j i id hlj'.1 hlt hw (.inr hwi) with h2 | h2 | h2
        · exact e h2.symm
        · exact hun (hi.cl j i hlj' h2)
        · have := hr.ord_lt i hlt h2; omega
      rw [hl.pt.out _ _ hni]
      exact hi.hf id j hlj' hw fun k hk hwk => hmax k ((set_ k).2 (.inr hk)) hwk
  · intro id hno
    simp only
    rw [hl.pt.out _ _ (hno i ((set_ i).2 (.inl rfl)))]
    exact hi.h0 id fun j hlj => hno j ((set_ j).2 (.inr hlj))
  · intro j k hlj hjk
    rcases (set_ j).1 hlj with e | e
    · subst e; exact (set_ k).2 (.inr (hi.preds hr ho hall hjk))
    · exact (set_ k).2 (.inr (hi.cl j k e hjk))
theorem InvD.all (hr : Run tt env ops ms base S L) (hi : InvD F w0 ops ms S L listed a w T H) (he : Region.ready .any ops listed = []) : ∀ i, i < ops.size → Lst ops listed i := by
  intro i
  induction i using Nat.strongRecOn with
  | ind i ih =>
    intro hlt
    refine Classical.byContradiction fun hun => ?_
    obtain ⟨o, ho⟩ := get_of_lt hlt
    have : i ∈ Region.ready .any ops listed := mem_ready.2 ⟨by
      have h1 : ¬ listed.getD i false = true := fun h => hun ⟨hlt, h⟩
      have hs : i < listed.size := by rw [hi.size]; exact hlt
      simp [hs] at h1 ⊢
      exact h1, o, ho, fun e h1 h2 => by
      have := hr.static.lt i o ho e h1 h2
      exact (ih e.on this (by omega)).2⟩
    rw [he] at this
    simp at this
theorem InvD.done (hr : Run tt env ops ms base S L) (hn : EnvNat env) (hi : InvD F w0 ops ms S L listed a w T H) (hall : ∀ i, i < ops.size → Lst ops listed i) : Rel F w0 (S ops.size) a w := by
  have eT : T = (S ops.size).tmps := tget_ext (by rw [hi.tlen, hr.tlen hn _ (Nat.le_refl _)]) fun t => by
    by_cases hw : ∃ (j : Nat) (o' : Oper), ops[j]? = some o' ∧ o'.dst = some t
    · obtain ⟨j, o', hj, hd⟩ := hw
      have hlt := lt_of_get hj
      rw [hi.tf t j o' hj hd (hall j hlt)]
      exact (hr.tsame hn (k := j + 1) ops.size (by omega) (Nat.le_refl _) fun j' o'' h1 h2 h3 h4 => by have := hr.static.dst j' j o'' o' t h3 hj h4 hd; omega).symm
    · have hno : ∀ (j : Nat) (o' : Oper), ops[j]? = some o' → o'.dst ≠ some t := fun j o' h1 h2 => hw ⟨j, o', h1, h2⟩
      rw [hi.t0 t fun j o' h1 h2 => absurd h2 (hno j o' h1)]
      exact (hr.tsame hn (k := 0) ops.size (by omega) (Nat.le_refl _) fun j (o' : Oper) _ _ h1 => hno j o' h1).symm
  have eH : H = (S ops.size).heap := hget_ext (by rw [hi.hlen, hr.hlen hn _ (Nat.le_refl _)]) fun id => by
    rcases last_writer (fun j => id ∈ (L j).wr) ops.size with hno | ⟨m, h1, h2, h3⟩
    · rw [hi.h0 id fun j hl => hno j hl.1]
      exact (hr.hsame hn (k := 0) ops.size (by omega) (Nat.le_refl _) fun j _ hj => hno j hj).symm
    · rw [hi.hf id m (hall m h1) h2 fun j hl hw => by
        rcases Nat.lt_or_ge m j with h4 | h4
        · exact absurd hw (h3 j h4 hl.1)
        · exact h4]
      exact (hr.hsame hn (k := m + 1) ops.size (by omega) (Nat.le_refl _) fun j hj hj' => h3 j (by omega) hj').symm
  have := hi.rel
  rw [eT, eH] at this
  exact this
end
def unlisted (n : Nat) (listed : Array Bool) : Nat := (List.range n).countP fun i => !listed.getD i false
theorem countP_lt {p q : Nat → Bool} {i : Nat} (hle : ∀ j, q j = true → p j = true) (hp : p i = true) (hq : q i = false) : ∀ {l : List Nat}, i ∈ l → l.countP q < l.countP p
  | x :: l, h => by
    have hmono : l.countP q ≤ l.countP p := List.countP_mono_left fun x _ => hle x
    rw [List.countP_cons, List.countP_cons]
    rcases List.mem_cons.1 h with e | e
    · subst e; rw [hp, hq]; simp; omega
    · have := countP_lt hle hp hq e
      have : (if q x = true then 1 else 0) ≤ (if p x = true then 1 else 0) := by
        by_cases hx : q x = true
        · simp [hx, hle x hx]
        · simp [hx]
      omega
theorem wpAny_of_inv (hT : TTOk P tt) (hE : EnvSound P G env) (hn : EnvNat env) (hL : Lasting G) (hG : Good G F w0) (hr : Run tt env ops ms base S L) (hbn : F.n ≤ base) {Q : Exit → Act → World → Prop} (hQ : ∀ a w, Rel F w0 (S ops.size) a w → Q .normal a w) :
    ∀ (fuel : Nat) (listed : Array Bool) (a : Act) (w : World) (T : List AVal) (H : List AObj), InvD F w0 ops ms S L listed a w T H → unlisted ops.size listed ≤ fuel → wpAny P .any ops Q fuel listed a w := by
  intro fuel
  have fin : ∀ (listed : Array Bool) (a : Act) (w : World) (T : List AVal) (H : List AObj), InvD F w0 ops ms S L listed a w T H → Region.ready .any ops listed = [] → Q .normal a w := fun listed a w T H hi he => hQ a w (hi.done hr hn (hi.all hr he))
  have nolist : ∀ (listed : Array Bool) (i : Nat), i ∈ Region.ready .any ops listed → ¬ Lst ops listed i := fun listed i hm hl => by
    have h0 := (mem_ready.1 hm).1
    have h1 := hl.2
    rcases Nat.lt_or_ge i listed.size with h' | h'
    · simp [h'] at h0 h1; rw [h0] at h1; cases h1
    · simp [Array.getElem?_eq_none h'] at h1
  induction fuel with
  | zero =>
    intro listed a w T H hi hc
    have hall : ∀ i, i < ops.size → Lst ops listed i := fun i hlt => by
      refine ⟨hlt, Classical.byContradiction fun hne => ?_⟩
      have : 0 < unlisted ops.size listed := List.countP_pos_iff.2 ⟨i, by simpa using hlt, by simpa using hne⟩
      omega
    have hready : Region.ready .any ops listed = [] := by
      cases hrd : Region.ready .any ops listed with
      | nil => rfl
      | cons i is =>
        have hm : i ∈ Region.ready .any ops listed := by rw [hrd]; simp
        obtain ⟨_, o, ho, _⟩ := mem_ready.1 hm
        exact absurd (hall i (lt_of_get ho)) (nolist listed i hm)
    exact ⟨hready, fin listed a w T H hi hready⟩
  | succ fuel ih =>
    intro listed a w T H hi hc
    refine ⟨fin listed a w T H hi, fun i hm => ?_⟩
    obtain ⟨_, o, ho, hall⟩ := mem_ready.1 hm
    have hun := nolist listed i hm
    have hlt := lt_of_get ho
    obtain ⟨s, h1, h2⟩ := hi.next hr hn ho hall hun
    have hs := stepD_sound hT hE hn (hi.rel.good hL hG) hi.rel ops o h1 (by omega) (by have := hi.hlen; have := hr.len; simp only; omega) (hi.fresh hr hn hlt hun) Q
    have hcnt : unlisted ops.size (listed.setIfInBounds i true) ≤ fuel := by
      have : unlisted ops.size (listed.setIfInBounds i true) < unlisted ops.size listed := by
        refine countP_lt (i := i) (fun j hj => ?_) ?_ ?_ (by simpa using hlt)
        · by_cases e : i = j
          · subst e
            have : i < listed.size := by rw [hi.size]; exact hlt
            simp [this] at hj
          · rw [getD_set_ne false e] at hj; exact hj
        · have : ¬ listed.getD i false = true := fun h => hun ⟨hlt, h⟩
          simpa using this
        · have : i < listed.size := by rw [hi.size]; exact hlt
          simp [this]
      omega
    unfold wpOp
    simp only [ho]
    split
    · rename_i hw
      rw [if_pos hw] at hs
      exact .inl (Oper.wp_mono (fun a' w' hrel => ih _ a' w' _ _ (h2 a' w' hrel) hcnt) hs)
    · rename_i hw
      rw [if_neg hw] at hs
      exact ih _ _ w _ _ (h2 _ w hs) hcnt
end
theorem drawK_sound (hT : TTOk P tt) (hE : EnvSound P G env) (hn : EnvNat env) (hL : Lasting G) (hG : Good G F w0) (hM : P.follows .mixedOrders = true) {id : Nat} {ops : Array Oper} {K : St → Option R} {r : R} (h : Rel F w0 st a w) (hk : drawK tt env ops.toList st K = some r)
    {Q : Exit → Act → World → Prop} (hQ : ∀ st a w, K st = some r → Rel F w0 st a w → Q .normal a w) : (Code.region id ops true).wp P Q a w := by
  unfold drawK at hk
  cases hd : drawOk (masks ops.toList []) ops.toList with
  | false => rw [hd] at hk; simp at hk
  | true =>
    rw [hd] at hk
    simp only [cond_true, force_eq] at hk
    obtain ⟨tr, h1, h2, h3⟩ := runD_trace hn _ _ _ _ _ _ hk
    simp only [List.nil_append] at h2
    cases hl : logOk st.heap.length (masks ops.toList []) (tr.map (·.1)) with
    | false => rw [hl] at h2; simp at h2
    | true =>
      rw [hl] at h2
      simp only [cond_true] at h2
      obtain ⟨lc, lv⟩ := logOk_spec hl
      refine wp_region_any hM ?_
      have hrel : Rel F w0 ⟨st.tmps, st.heap ++ nones ops.toList.length⟩ a { w with drawn := w.drawn + 1 } := by
        obtain ⟨ρ, ho⟩ := (h.nones ops.toList.length).opened
        exact (ho.later (w' := { w with drawn := w.drawn + 1 }) ⟨rfl, rfl, rfl, Nat.le_refl _, fun _ _ => rfl⟩).rel
      have hget : ∀ i, i < ops.size → ∃ e, (tr.map (·.1))[i]? = some e ∧ e = ((tr.map (·.1))[i]?).getD ⟨[], [], []⟩ := fun i hi => by
        have : i < (tr.map (·.1)).length := by rw [List.length_map, h1]; simpa using hi
        exact ⟨_, List.getElem?_eq_getElem this, by rw [List.getElem?_eq_getElem this]; rfl⟩
      have hrun : Run tt env ops (masks ops.toList []) st.heap.length (stAt ⟨st.tmps, st.heap ++ nones ops.toList.length⟩ tr) (fun i => ((tr.map (·.1))[i]?).getD ⟨[], [], []⟩) := by
        refine ⟨drawOk_spec hd, fun i o ho => ?_, by simp [stAt_zero, length_nones], fun t id hi => ?_, fun i j id hi hj hw hr => ?_, fun i id hi hv => ?_⟩
        · obtain ⟨e, h4, h5⟩ := h3 i o (by simpa using ho)
          rw [h5]
          simp [h4]
        · obtain ⟨ρ, ho⟩ := h.opened
          rw [stAt_zero] at hi
          exact ids_lt _ _ (ho.vals t) id hi
        · obtain ⟨e, h4, h5⟩ := hget i hi
          obtain ⟨e', h6, h7⟩ := hget j hj
          exact lc i j e e' id h4 h6 (by rw [h5]; exact hw) (by rw [h7]; exact hr)
        · obtain ⟨e, h4, h5⟩ := hget i hi
          exact lv i e id h4 (by rw [h5]; exact hv)
      refine wpAny_of_inv hT hE hn hL hG hrun (by obtain ⟨ρ, ho⟩ := h.opened; exact ho.hrel.nle) (fun a w hrel => hQ _ a w (by simpa using h2) hrel) ops.size (Array.replicate ops.size false) a _ st.tmps (st.heap ++ nones ops.toList.length) ?_ ?_
      · have nol : ∀ j, ¬ Lst ops (Array.replicate ops.size false) j := fun j ⟨h4, h5⟩ => by simp [h4] at h5
        exact ⟨by simp, hrel, by rw [stAt_zero], fun t i o _ _ hl => (nol i hl).elim, fun t _ => by rw [stAt_zero], by rw [stAt_zero], fun id i hl => (nol i hl).elim, fun id _ => by rw [stAt_zero], fun i j hl => (nol i hl).elim⟩
      · unfold unlisted
        exact Nat.le_trans List.countP_le_length (by simp)
end
end Go.PB
namespace Go.PB
open Go Go.RowKit
section
variable {F : Fr} {P : Program} {G : Gv} {env : Env} {w0 w w' : World} {st : St} {a : Act} {ρ : Nat → Loc} {R : Type} {tt : Tab}
theorem Rel.forget (hr : Rel F w0 st a w) {h' : List AObj} (hl : h'.length = st.heap.length) (hg : ∀ id, hget h' id = hget st.heap id ∨ hget h' id = .none) : Rel F w0 ⟨st.tmps, h'⟩ a w := by
  obtain ⟨ρ, ho⟩ := hr.opened
  have owns' : ∀ i, (hget h' i).owns = true → (hget st.heap i).owns = true ∧ hget h' i = hget st.heap i := fun i hi => by
    rcases hg i with e | e
    · exact ⟨by rw [e] at hi; exact hi, e⟩
    · rw [e] at hi; simp [AObj.owns] at hi
  have live : ∀ b, liveOf w ρ st.heap b → liveOf w ρ h' b ∧ w.heap[b]? = w.heap[b]? := fun b hb => ⟨⟨hb.1, fun i hi hr => hb.2 i (owns' i hi).1 hr⟩, rfl⟩
  have dat : ∀ b, okOf F w ρ st.heap b → okOf F w ρ h' b ∧ w.heap[b]? = w.heap[b]? := fun b hb => ⟨⟨hb.1, (live b hb.2).1⟩, rfl⟩
  have harg : ∀ k, k < F.n → (hget h' k).isVt = true → (ρ k).cs = F.cs k := fun k hk hv => by
    rcases hg k with e | e
    · exact ho.hrel.arg k hk (by rw [← e]; exact hv)
    · rw [e] at hv; cases hv
  have k : Keeps w ρ st.heap (okOf F w ρ st.heap) w ρ h' (okOf F w ρ h') := by
    refine ⟨dat, live, by omega, ?_, ?_, ?_, ?_, fun i hi => ?_, fun i s u t x val hi hv => ?_⟩
    · intro i v val hi hs
      rcases hg i with e | e
      · rw [e]
        cases hoi : hget st.heap i with
        | row v' t l => rw [hoi] at hs; exact hs
        | frow v' t l => rw [hoi] at hs; exact fun e => SliceW.mono dat (hs e)
        | none => trivial
        | box t x => trivial
        | fbox t x => trivial
        | vt v0 τ0 x0 => trivial
        | iter s p => trivial
      · rw [e]; trivial
    · intro i p val hi hs
      rcases hg i with e | e
      · rw [e]; exact PtRel.mono dat hs
      · rw [e]; trivial
    · intro i v j p val hi hs
      rcases hg i with e | e
      · rw [e]; exact hs
      · rw [e]; trivial
    · intro i val hi hs
      rcases hg i with e | e
      · rw [e]; exact hs
      · rw [e]; trivial
    · rcases hg i with e | e
      · rw [e]; exact trs_rho rfl
      · rw [e]; exact trs_none rfl
    · rcases hg i with e | e
      · rw [e]; exact LeRel.mono dat rfl (fun _ _ _ => rfl) hv
      · rw [e]; exact le_none rfl
  refine ⟨ho.defers, ho.size, ho.below, ρ, ⟨ho.hrel.base, ho.hrel.kb, (by show F.n ≤ h'.length; rw [hl]; exact ho.hrel.nle), harg, fun i hi => ?_, fun i b hi hr => ho.hrel.own i b (owns' i hi).1 hr, fun i j b hi hj hr hr' => ho.hrel.inj i j b (owns' i hi).1 (owns' j hj).1 hr hr'⟩, fun i => VRel.keeps k _ _ (ho.vals i)⟩
  rcases hg i with e | e
  · show ORel w ρ _ i (hget h' i)
    rw [e]; exact ORel.keeps dat rfl (fun _ _ _ => rfl) (ho.hrel.obj i (by rw [← hl]; exact hi))
  · show ORel w ρ _ i (hget h' i)
    rw [e]; trivial
theorem length_maskH : ∀ (s : List ObjS) (h : List AObj), (maskH s h).length = h.length
  | [], h => by simp [maskH]
  | s :: r, [] => by cases s <;> simp [maskH]
  | .none :: r, o :: h => by simp [maskH, length_maskH r h]
  | .box _ :: r, o :: h => by simp [maskH, length_maskH r h]
  | .vt _ :: r, o :: h => by simp [maskH, length_maskH r h]
  | .row _ :: r, o :: h => by simp [maskH, length_maskH r h]
  | .frow _ :: r, o :: h => by simp [maskH, length_maskH r h]
  | .iter :: r, o :: h => by simp [maskH, length_maskH r h]
theorem hget_maskH : ∀ (s : List ObjS) (h : List AObj) (id : Nat), hget (maskH s h) id = hget h id ∨ hget (maskH s h) id = .none
  | [], h, id => by simp [maskH]
  | s :: r, [], id => by cases s <;> simp [maskH]
  | .none :: r, o :: h, 0 => by simp [maskH, hget]
  | .none :: r, o :: h, id + 1 => by simpa [maskH, hget] using hget_maskH r h id
  | .box _ :: r, o :: h, 0 => by simp [maskH, hget]
  | .box _ :: r, o :: h, id + 1 => by simpa [maskH, hget] using hget_maskH r h id
  | .vt _ :: r, o :: h, 0 => by simp [maskH, hget]
  | .vt _ :: r, o :: h, id + 1 => by simpa [maskH, hget] using hget_maskH r h id
  | .row _ :: r, o :: h, 0 => by simp [maskH, hget]
  | .row _ :: r, o :: h, id + 1 => by simpa [maskH, hget] using hget_maskH r h id
  | .frow _ :: r, o :: h, 0 => by simp [maskH, hget]
  | .frow _ :: r, o :: h, id + 1 => by simpa [maskH, hget] using hget_maskH r h id
  | .iter :: r, o :: h, 0 => by simp [maskH, hget]
  | .iter :: r, o :: h, id + 1 => by simpa [maskH, hget] using hget_maskH r h id
theorem Open.retell (h : Open F w0 st a w ρ) (s : Nat) {v : AVal} (hv : VRel w ρ st.heap (okOf F w ρ st.heap) v (a.tmps.getD s Go.undef)) : Rel F w0 ⟨tset st.tmps s v, st.heap⟩ a w := by
  refine ⟨h.defers, by simp [length_tset, h.size], h.below, ρ, h.hrel, fun i => ?_⟩
  show VRel w ρ st.heap _ (tget (tset st.tmps s v) i) _
  rw [tget_tset]
  split
  · rename_i hi; rw [← hi.1]; exact hv
  · exact h.vals i
theorem list_nil_of' {w : World} {ok : Nat → Prop} {t : Ty} : DVal w ok (.list t) ([] : List t.C) (.slice none 0 0) := dval_list ⟨none, 0, rfl, Nat.le_refl _, .inl rfl⟩
theorem Rel.mkData (hr : Rel F w0 st a w) (s : Nat) (t : Ty) : Rel F w0 (PB.mkData s t st) a w := by
  obtain ⟨ρ, h⟩ := hr.opened
  unfold PB.mkData
  split
  · rename_i t' x e
    exact h.retell s (res_data (h.vals s) e)
  · rename_i id v t' l e
    obtain ⟨hl, ho, eu, hx⟩ := row_osl (h.vals s) e
    have hf := h.freeze ho
    have e2 : res (hset st.heap id (.frow v t' l)) (tget st.tmps s) = .data (.list t') l := by
      rw [eu]; simp [res, hget_hset_self hl]
    exact hf.retell s (res_data (hf.vals s) e2)
  · rename_i e
    refine h.retell s ?_
    have hv := h.vals s
    rw [res_nils e] at hv
    have hv' : a.tmps.getD s Go.undef = .slice none 0 0 := hv
    rw [hv']
    exact list_nil_of'
  · exact hr
theorem Rel.mkDatas (hr : Rel F w0 st a w) : ∀ (l : List (Nat × Ty)), Rel F w0 (PB.mkDatas l st) a w := by
  intro l
  induction l generalizing st with
  | nil => exact hr
  | cons p l ih => obtain ⟨s, t⟩ := p; exact ih (hr.mkData s t)
theorem Rel.shape (hr : Rel F w0 st a w) (s : Shape) (hs : F.n ≤ olen s.heap) : Rel F w0 (s.norm st) a w := by
  have h1 := ((hr.mkRows s.rows).mkDatas s.datas).norm (keeps s.tmps) (olen s.heap) hs
  exact h1.forget (length_maskH _ _) (hget_maskH _ _)
theorem eqPath_eq : ∀ {p q : List Nat}, eqPath p q = true → p = q
  | [], [], _ => rfl
  | [], _ :: _, h => by simp [eqPath] at h
  | _ :: _, [], h => by simp [eqPath] at h
  | a :: p, b :: q, h => by
    simp only [eqPath, Bool.and_eq_true] at h
    rw [Nat.eq_of_beq_eq_true h.1, eqPath_eq h.2]
theorem getCatch_inv : ∀ {ts : List Ty} {c : AVal} {K : capsC ts → Option R} {r : R}, getCatch ts c K = some r → ∃ v, K v = some r ∧ mkCatch ts v = c := by
  intro ts
  induction ts with
  | nil =>
    intro c K r hk
    cases c with
    | tnil => exact ⟨(), hk, rfl⟩
    | _ => simp [getCatch] at hk
  | cons t ts ih =>
    intro c K r hk
    cases c with
    | tcons a b =>
      cases a with
      | rptr t' x =>
        simp only [getCatch] at hk
        obtain ⟨e, hk1⟩ := castK_inv hk
        clear hk; subst e
        obtain ⟨u, h1, h2⟩ := ih hk1
        exact ⟨(x, u), h1, by simp [mkCatch, h2]⟩
      | _ => simp [getCatch] at hk
    | _ => simp [getCatch] at hk
theorem eqCapV_eq : ∀ {l : List (Nat × List Nat)} {c : AVal}, eqCapV l c = true → mkCapV l = c
  | [], c, h => by cases c <;> simp [eqCapV] at h; rfl
  | p :: l, c, h => by
    cases c with
    | tcons a b =>
      cases a with
      | tv id ver q =>
        simp only [eqCapV, Bool.and_eq_true] at h
        obtain ⟨h1, h2, h3, h4⟩ := h
        simp [mkCapV, Nat.eq_of_beq_eq_true h1, Nat.eq_of_beq_eq_true h2, eqPath_eq h3, eqCapV_eq h4]
      | _ => simp [eqCapV] at h
    | _ => simp [eqCapV] at h
theorem capT_inv {T : Type} : ∀ {l : List SlotS} {vs : List AVal} {h : T} {K : slotsC T l → Option R} {r : R}, capT l vs h K = some r → ∃ v, K v = some r ∧ mkT l v = vs ∧ restT l v = h := by
  intro l
  induction l with
  | nil =>
    intro vs h K r hk
    cases vs with
    | nil => exact ⟨h, hk, rfl, rfl⟩
    | cons v vs => simp [capT] at hk
  | cons s l ih =>
    intro vs h K r hk
    cases vs with
    | nil => cases s <;> simp [capT] at hk
    | cons v vs =>
      cases s with
      | dead => cases v <;> simp only [capT] at hk <;> first | (simp at hk; done) | (obtain ⟨u, h1, h2, h3⟩ := ih hk; exact ⟨u, h1, by simp [mkT, h2], h3⟩)
      | data t =>
        cases v with
        | data t' x =>
          simp only [capT] at hk
          obtain ⟨e, hk1⟩ := castK_inv hk
          clear hk; subst e
          obtain ⟨u, h1, h2, h3⟩ := ih hk1
          exact ⟨(x, u), h1, by simp [mkT, h2], h3⟩
        | _ => simp [capT] at hk
      | rptr t =>
        cases v with
        | rptr t' x =>
          simp only [capT] at hk
          obtain ⟨e, hk1⟩ := castK_inv hk
          clear hk; subst e
          obtain ⟨u, h1, h2, h3⟩ := ih hk1
          exact ⟨(x, u), h1, by simp [mkT, h2], h3⟩
        | _ => simp [capT] at hk
      | osl id =>
        cases v with
        | osl id' ver =>
          simp only [capT] at hk
          cases hc : (Nat.beq id id' && Nat.beq ver 0) with
          | false => rw [hc] at hk; simp at hk
          | true =>
            rw [hc] at hk; simp only [cond_true] at hk
            simp only [Bool.and_eq_true] at hc
            obtain ⟨u, h1, h2, h3⟩ := ih hk
            exact ⟨u, h1, by simp [mkT, h2, Nat.eq_of_beq_eq_true hc.1, Nat.eq_of_beq_eq_true hc.2], h3⟩
        | _ => simp [capT] at hk
      | ptr id p =>
        cases v with
        | ptr id' p' =>
          simp only [capT] at hk
          cases hc : (Nat.beq id id' && eqPath p p') with
          | false => rw [hc] at hk; simp at hk
          | true =>
            rw [hc] at hk; simp only [cond_true] at hk
            simp only [Bool.and_eq_true] at hc
            obtain ⟨u, h1, h2, h3⟩ := ih hk
            exact ⟨u, h1, by simp [mkT, h2, Nat.eq_of_beq_eq_true hc.1, eqPath_eq hc.2], h3⟩
        | _ => simp [capT] at hk
      | iter id =>
        cases v with
        | iter id' =>
          simp only [capT] at hk
          cases hc : Nat.beq id id' with
          | false => rw [hc] at hk; simp at hk
          | true =>
            rw [hc] at hk; simp only [cond_true] at hk
            obtain ⟨u, h1, h2, h3⟩ := ih hk
            exact ⟨u, h1, by simp [mkT, h2, Nat.eq_of_beq_eq_true hc], h3⟩
        | _ => simp [capT] at hk
      | fn f =>
        cases v with
        | fn f' c =>
          cases c with
          | tnil =>
            simp only [capT] at hk
            cases hc : Nat.beq f f' with
            | false => rw [hc] at hk; simp at hk
            | true =>
              rw [hc] at hk; simp only [cond_true] at hk
              obtain ⟨u, h1, h2, h3⟩ := ih hk
              exact ⟨u, h1, by simp [mkT, h2, Nat.eq_of_beq_eq_true hc], h3⟩
          | _ => simp [capT] at hk
        | _ => simp [capT] at hk
      | fnc f ts =>
        cases v with
        | fn f' c =>
          simp only [capT] at hk
          cases hc : Nat.beq f f' with
          | false => rw [hc] at hk; simp at hk
          | true =>
            rw [hc] at hk; simp only [cond_true] at hk
            obtain ⟨u0, h0, h0'⟩ := getCatch_inv hk
            obtain ⟨u, h1, h2, h3⟩ := ih h0
            exact ⟨(u0, u), h1, by simp [mkT, h2, h0', Nat.eq_of_beq_eq_true hc], h3⟩
        | _ => simp [capT] at hk
      | fnv f l =>
        cases v with
        | fn f' c =>
          simp only [capT] at hk
          cases hc : (Nat.beq f f' && eqCapV l c) with
          | false => rw [hc] at hk; simp at hk
          | true =>
            rw [hc] at hk; simp only [cond_true] at hk
            simp only [Bool.and_eq_true] at hc
            obtain ⟨u, h1, h2, h3⟩ := ih hk
            exact ⟨u, h1, by simp [mkT, h2, Nat.eq_of_beq_eq_true hc.1, eqCapV_eq hc.2], h3⟩
        | _ => simp [capT] at hk
      | tv id p =>
        cases v with
        | tv id' ver p' =>
          simp only [capT] at hk
          cases hc : (Nat.beq id id' && (Nat.beq ver 0 && eqPath p p')) with
          | false => rw [hc] at hk; simp at hk
          | true =>
            rw [hc] at hk; simp only [cond_true] at hk
            simp only [Bool.and_eq_true] at hc
            obtain ⟨u, h1, h2, h3⟩ := ih hk
            exact ⟨u, h1, by simp [mkT, h2, Nat.eq_of_beq_eq_true hc.1, Nat.eq_of_beq_eq_true hc.2.1, eqPath_eq hc.2.2], h3⟩
        | _ => simp [capT] at hk
      | ad id p =>
        cases v with
        | ad id' ver p' =>
          simp only [capT] at hk
          cases hc : (Nat.beq id id' && (Nat.beq ver 0 && eqPath p p')) with
          | false => rw [hc] at hk; simp at hk
          | true =>
            rw [hc] at hk; simp only [cond_true] at hk
            simp only [Bool.and_eq_true] at hc
            obtain ⟨u, h1, h2, h3⟩ := ih hk
            exact ⟨u, h1, by simp [mkT, h2, Nat.eq_of_beq_eq_true hc.1, Nat.eq_of_beq_eq_true hc.2.1, eqPath_eq hc.2.2], h3⟩
        | _ => simp [capT] at hk
      | nils => cases v <;> simp only [capT] at hk <;> first | (simp at hk; done) | (obtain ⟨u, h1, h2, h3⟩ := ih hk; exact ⟨u, h1, by simp [mkT, h2], h3⟩)
      | nilp => cases v <;> simp only [capT] at hk <;> first | (simp at hk; done) | (obtain ⟨u, h1, h2, h3⟩ := ih hk; exact ⟨u, h1, by simp [mkT, h2], h3⟩)
theorem capH_inv : ∀ {l : List ObjS} {vs : List AObj} {K : objsC l → Option R} {r : R}, capH l vs K = some r → ∃ v, K v = some r ∧ mkH l v = vs := by
  intro l
  induction l with
  | nil =>
    intro vs K r hk
    cases vs with
    | nil => exact ⟨(), hk, rfl⟩
    | cons v vs => simp [capH] at hk
  | cons s l ih =>
    intro vs K r hk
    cases vs with
    | nil => cases s <;> simp [capH] at hk
    | cons v vs =>
      cases s with
      | none => cases v <;> simp only [capH] at hk <;> first | (simp at hk; done) | (obtain ⟨u, h1, h2⟩ := ih hk; exact ⟨u, h1, by simp [mkH, h2]⟩)
      | box t =>
        cases v with
        | box t' x =>
          simp only [capH] at hk
          obtain ⟨e, hk1⟩ := castK_inv hk
          clear hk; subst e
          obtain ⟨u, h1, h2⟩ := ih hk1
          exact ⟨(x, u), h1, by simp [mkH, h2]⟩
        | _ => simp [capH] at hk
      | vt τ =>
        cases v with
        | vt ver τ' x =>
          simp only [capH] at hk
          cases hc : (Nat.beq ver.s 0 && Nat.beq ver.w 0) with
          | false => rw [hc] at hk; simp at hk
          | true =>
            rw [hc] at hk; simp only [cond_true] at hk
            obtain ⟨e, hk1⟩ := castT_inv hk
            clear hk
            subst e
            obtain ⟨u, h1, h2⟩ := ih hk1
            simp only [Bool.and_eq_true] at hc
            have hver : ver = ⟨0, 0⟩ := by cases ver; simp at hc ⊢; exact ⟨hc.1, hc.2⟩
            exact ⟨(x, u), h1, by simp [mkH, h2, hver]⟩
        | _ => simp [capH] at hk
      | row t =>
        cases v with
        | row ver t' x =>
          simp only [capH] at hk
          cases hc : Nat.beq ver 0 with
          | false => rw [hc] at hk; simp at hk
          | true =>
            rw [hc] at hk; simp only [cond_true] at hk
            obtain ⟨e, hk1⟩ := castK_inv hk
            clear hk
            injection e with e
            subst e
            obtain ⟨u, h1, h2⟩ := ih hk1
            exact ⟨(x, u), h1, by simp [mkH, h2, Nat.eq_of_beq_eq_true hc]⟩
        | _ => simp [capH] at hk
      | frow t =>
        cases v with
        | frow ver t' x =>
          simp only [capH] at hk
          cases hc : Nat.beq ver 0 with
          | false => rw [hc] at hk; simp at hk
          | true =>
            rw [hc] at hk; simp only [cond_true] at hk
            obtain ⟨e, hk1⟩ := castK_inv hk
            clear hk
            injection e with e
            subst e
            obtain ⟨u, h1, h2⟩ := ih hk1
            exact ⟨(x, u), h1, by simp [mkH, h2, Nat.eq_of_beq_eq_true hc]⟩
        | _ => simp [capH] at hk
      | iter =>
        cases v with
        | iter s p =>
          simp only [capH] at hk
          obtain ⟨u, h1, h2⟩ := ih hk
          exact ⟨(s, p, u), h1, by simp [mkH, h2]⟩
        | _ => simp [capH] at hk
theorem capSt_inv {s : Shape} {K : s.C → Option R} {r : R} (hk : capSt s st K = some r) : ∃ v, K v = some r ∧ mkSt s v = s.norm st := by
  obtain ⟨h, h1, h2⟩ := capH_inv hk
  obtain ⟨v, h3, h4, h5⟩ := capT_inv h1
  refine ⟨v, h3, ?_⟩
  unfold mkSt
  rw [h4, h5, h2]
theorem same_eq {k k' : Kind} (h : k.same k' = true) : k = k' := by
  cases k <;> cases k' <;> simp [Kind.same] at h <;> first | rfl | (subst h; rfl)
theorem capW_inv {n : Nat} : ∀ {ws : List Way} {k : Kind} {st : St} {o : WaysC ws}, fitWays n ws = true → capW ws k st = some o →
    ∃ (s : Shape) (v : s.C), n ≤ olen s.heap ∧ mkSt s v = s.norm st ∧ ∀ (R : Type) (ks : Ks R), dispatch ws o ks = goto_ k (mkSt s v) ks
  | [], k, st, o, hf, h => by simp [capW] at h
  | [w], k, st, o, hf, h => by
    simp only [fitWays, Bool.and_eq_true] at hf
    simp only [capW] at h
    cases hc : k.same w.kind with
    | false => rw [hc] at h; simp at h
    | true =>
      rw [hc] at h; simp only [cond_true] at h
      obtain ⟨v, h1, h2⟩ := capSt_inv h
      obtain rfl : v = o := Option.some.inj h1
      exact ⟨w.shape, v, Nat.le_of_ble_eq_true hf.1, h2, fun R ks => by rw [same_eq hc]; rfl⟩
  | w :: w' :: ws, k, st, o, hf, h => by
    have hf2 := hf
    rw [fitWays, Bool.and_eq_true] at hf2
    have hf := hf2
    simp only [capW] at h
    cases hc : k.same w.kind with
    | false =>
      rw [hc] at h; simp only [cond_false] at h
      obtain ⟨o', h1, h2⟩ := Option.map_eq_some_iff.1 h
      subst h2
      obtain ⟨s, v, h0, h3, h4⟩ := capW_inv hf.2 h1
      exact ⟨s, v, h0, h3, fun R ks => h4 R ks⟩
    | true =>
      rw [hc] at h; simp only [cond_true] at h
      obtain ⟨v, h1, h2⟩ := capSt_inv h
      obtain rfl : _ = o := Option.some.inj h1
      exact ⟨w.shape, v, Nat.le_of_ble_eq_true hf.1, h2, fun R ks => by rw [same_eq hc]; rfl⟩
end
end Go.PB
namespace Go.PB
open Go Go.RowKit
section
variable {F : Fr} {P : Program} {G : Gv} {env : Env} {w0 w w' : World} {st : St} {a : Act} {ρ : Nat → Loc} {R : Type} {tt : Tab}
def Qof (F : Fr) (w0 : World) (ks : Ks R) (r : R) : Exit → Act → World → Prop
  | .normal, a, w => ∃ st, ks.n st = some r ∧ Rel F w0 st a w
  | .ret, a, w => ∃ st, ks.ret st = some r ∧ Rel F w0 st a w
  | .exit id, a, w => ∃ st, exitK ks.x id st = some r ∧ Rel F w0 st a w
  | _, _, _ => False
def SubSound (P : Program) (G : Gv) (s : Sub) (c : Code) : Prop :=
  ∀ (F : Fr) (w0 : World) (R : Type) (st : St) (ks : Ks R) (r : R) (a : Act) (w : World), F.n ≤ s.n → Good G F w0 → subK s st ks = some r → Rel F w0 st a w → c.wp P (Qof F w0 ks r) a w
def SubsSound (P : Program) (G : Gv) (subs : List Sub) (root : Code) : Prop :=
  ∀ (k : Nat) (s : Sub) (c : Code), findSub subs k = some s → c ∈ nodesAt k root → SubSound P G s c
theorem fitWays_le {n m : Nat} (h : m ≤ n) : ∀ {ws : List Way}, fitWays n ws = true → fitWays m ws = true
  | [], _ => rfl
  | w :: ws, hf => by
    simp only [fitWays, Bool.and_eq_true] at hf ⊢
    exact ⟨Nat.ble_eq_true_of_le (Nat.le_trans h (Nat.le_of_ble_eq_true hf.1)), fitWays_le h hf.2⟩
theorem fitSubs_find {n : Nat} : ∀ {subs : List Sub} {k : Nat} {s : Sub}, fitSubs n subs = true → findSub subs k = some s → n ≤ s.n
  | [], _, _, _, h => by simp [findSub] at h
  | t :: ts, k, s, hf, h => by
    simp only [fitSubs, Bool.and_eq_true] at hf
    simp only [findSub] at h
    cases hb : Nat.beq t.key k with
    | true => rw [hb] at h; obtain rfl : t = s := Option.some.inj h; exact Nat.le_of_ble_eq_true hf.1
    | false => rw [hb] at h; exact fitSubs_find hf.2 h
theorem exec_sound (hT : TTOk P tt) (hE : EnvSound P G env) (hn : EnvNat env) (hM : P.follows .mixedOrders = true) (hL : Lasting G) (hG : Good G F w0) {subs : List Sub} {root : Code} (hS : SubsSound P G subs root) (hF : ∀ k s, findSub subs k = some s → F.n ≤ s.n) :
    ∀ (c : Code) (st : St) (ks : Ks R) (r : R) (a : Act) (w : World), (∀ k x, x ∈ nodesAt k c → x ∈ nodesAt k root) → exec tt env subs c st ks = some r → Rel F w0 st a w → c.wp P (Qof F w0 ks r) a w
  | .skip, st, ks, r, a, w, hc, hk, h => wp_skip ⟨st, hk, h⟩
  | .region id ops draw, st, ks, r, a, w, hc, hk, h => by
    simp only [exec] at hk
    cases draw with
    | true =>
      simp only [cond_true] at hk
      exact drawK_sound hT hE hn hL hG hM (Rel.preArr _ h) hk (fun st a w h1 h2 => ⟨st, h1, h2⟩)
    | false =>
      simp only [cond_false] at hk
      exact wp_region_list (seqK_sound hT hE hL hG ops (fun st a w h1 h2 => ⟨st, h1, h2⟩) ops.toList st a w h hk)
  | .seq x y, st, ks, r, a, w, hc, hk, h => by
    simp only [exec] at hk
    refine wp_seq (wp_mono (exec_sound hT hE hn hM hL hG hS hF x st _ r a w (fun k z hz => hc k z (by simp [nodesAt, hz])) hk h) fun e a' w' q => ?_)
    cases e with
    | normal => obtain ⟨st', h1, h2⟩ := q; exact exec_sound hT hE hn hM hL hG hS hF y st' ks r a' w' (fun k z hz => hc k z (by simp [nodesAt, hz])) h1 h2
    | _ => exact q
  | .cond c x y, st, ks, r, a, w, hc, hk, h => by
    simp only [exec] at hk
    split at hk
    · rename_i s hs
      exact hS _ s _ hs (hc _ _ (by simp [nodesAt])) F w0 R st ks r a w (hF _ _ hs) hG hk h
    · split at hk
      · rename_i b ec
        obtain ⟨ρ, ho⟩ := h.opened
        have hv := ho.ev c
        rw [ec] at hv
        refine wp_cond (DVal.bool_inv hv) ?_
        cases b with
        | true => exact exec_sound hT hE hn hM hL hG hS hF x st ks r a w (fun k z hz => hc k z (by simp [nodesAt, hz])) hk h
        | false => exact exec_sound hT hE hn hM hL hG hS hF y st ks r a w (fun k z hz => hc k z (by simp [nodesAt, hz])) hk h
      · simp at hk
  | .block id c, st, ks, r, a, w, hc, hk, h => by
    simp only [exec] at hk
    refine wp_block (wp_mono (exec_sound hT hE hn hM hL hG hS hF c st _ r a w (fun k z hz => hc k z (by simpa [nodesAt] using hz)) hk h) fun e a' w' q => ?_)
    cases e with
    | exit id' =>
      obtain ⟨st', h1, h2⟩ := q
      simp only [exitK] at h1
      simp only [Exit.inBlock]
      by_cases e : id' = id
      · rw [if_pos e]
        have : (id == id') = true := by simp [e]
        rw [this] at h1
        exact ⟨st', h1, h2⟩
      · rw [if_neg e]
        have : (id == id') = false := by simp; exact fun x => e x.symm
        rw [this] at h1
        exact ⟨st', h1, h2⟩
    | _ => exact q
  | .loop c, st, ks, r, a, w, hc, hk, h => by
    simp only [exec] at hk
    split at hk
    · rename_i s hs
      exact hS _ s _ hs (hc _ _ (by simp [nodesAt])) F w0 R st ks r a w (hF _ _ hs) hG hk h
    · simp at hk
  | .exit id, st, ks, r, a, w, hc, hk, h => wp_exit ⟨st, hk, h⟩
  | .ret, st, ks, r, a, w, hc, hk, h => wp_ret ⟨st, hk, h⟩
  | .rangeFunc _ _ _ _, st, ks, r, a, w, hc, hk, h => by simp [exec] at hk
  | .scope _, st, ks, r, a, w, hc, hk, h => by simp [exec] at hk
  | .label _, st, ks, r, a, w, hc, hk, h => by simp [exec] at hk
  | .goto _, st, ks, r, a, w, hc, hk, h => by simp [exec] at hk
  | .refuse _, st, ks, r, a, w, hc, hk, h => by simp [exec] at hk
theorem exitK_map {A : Type} (f : Nat → St → Option A) : ∀ (l : List Nat) (id : Nat) (st : St) (o : A), exitK (l.map fun i => (i, f i)) id st = some o → f id st = some o
  | [], id, st, o, h => by simp [exitK] at h
  | i :: l, id, st, o, h => by
    simp only [List.map_cons, exitK] at h
    cases hb : (i == id) with
    | true => rw [hb] at h; obtain rfl : i = id := by simpa using hb
              exact h
    | false => rw [hb] at h; exact exitK_map f l id st o h
theorem Qof.of_cap {ws : List Way} {o : WaysC ws} {ks : Ks R} {r : R} (hfit : fitWays F.n ws = true) (hd : dispatch ws o ks = some r) {e : Exit} {a' : Act} {w' : World} (q : Qof F w0 (capKs ws) o e a' w') : Qof F w0 ks r e a' w' := by
  have key : ∀ (k : Kind) (st : St), capW ws k st = some o → Rel F w0 st a' w' → ∃ st', goto_ k st' ks = some r ∧ Rel F w0 st' a' w' := fun k st h1 h2 => by
    obtain ⟨s, v, h0, h3, h4⟩ := capW_inv hfit h1
    exact ⟨mkSt s v, by rw [← h4 R ks]; exact hd, by rw [h3]; exact h2.shape s h0⟩
  cases e with
  | normal => obtain ⟨st, h1, h2⟩ := q; exact key .n st h1 h2
  | ret => obtain ⟨st, h1, h2⟩ := q; exact key .ret st h1 h2
  | exit id => obtain ⟨st, h1, h2⟩ := q; exact key (.x id) st (exitK_map _ _ _ _ _ h1) h2
  | goto l => exact q.elim
  | panic ch => exact q.elim
  | outgrown => exact q.elim
theorem sub_plain (hT : TTOk P tt) (hE : EnvSound P G env) (hn : EnvNat env) (hM : P.follows .mixedOrders = true) (hL : Lasting G) {subs : List Sub} {c : Code} {x y : Code} {b : Operand} (hc : c = .cond b x y) (hx : SubsSound P G subs x) (hy : SubsSound P G subs y)
    {s : Sub} (hr : ∀ (v : s.inp.C) (o : WaysC s.ways), s.run v = some o → (match ev (mkSt s.inp v).tmps b with
      | .data .bool b => cond b (exec tt env subs x (mkSt s.inp v) (capKs s.ways)) (exec tt env subs y (mkSt s.inp v) (capKs s.ways))
      | _ => none) = some o) (hfit : fitAll s subs = true) : SubSound P G s c := by
  intro F w0 R st ks r a w hn0 hG hk h
  simp only [fitAll, Bool.and_eq_true] at hfit
  have hFs : ∀ k s', findSub subs k = some s' → F.n ≤ s'.n := fun k s' hs => Nat.le_trans hn0 (fitSubs_find hfit.2.2 hs)
  have hinp : F.n ≤ olen s.inp.heap := Nat.le_trans hn0 (Nat.le_of_ble_eq_true hfit.1)
  have hways := fitWays_le hn0 hfit.2.1
  obtain ⟨v, h1, h2⟩ := capSt_inv hk
  obtain ⟨o, h3, h4⟩ := Option.bind_eq_some_iff.1 h1
  have hrel : Rel F w0 (mkSt s.inp v) a w := by rw [h2]; exact h.shape s.inp hinp
  have he := hr v o h3
  subst hc
  split at he
  · rename_i b' ec
    obtain ⟨ρ, ho⟩ := hrel.opened
    have hv := ho.ev b
    rw [ec] at hv
    refine wp_cond (DVal.bool_inv hv) ?_
    cases b' with
    | true => exact wp_mono (exec_sound hT hE hn hM hL hG hx hFs x _ _ o a w (fun _ _ hz => hz) he hrel) fun e a' w' q => q.of_cap hways h4
    | false => exact wp_mono (exec_sound hT hE hn hM hL hG hy hFs y _ _ o a w (fun _ _ hz => hz) he hrel) fun e a' w' q => q.of_cap hways h4
  · simp at he
theorem iter_succ {A B : Type} (step : A → Option (A ⊕ B)) (n : Nat) (v : A) : iter step (n + 1) v = (step v).bind fun o => match o with
    | .inl v' => iter step n v'
    | .inr b => some b := rfl
theorem sub_loop (hT : TTOk P tt) (hE : EnvSound P G env) (hn : EnvNat env) (hM : P.follows .mixedOrders = true) (hL : Lasting G) {subs : List Sub} {c : Code} (hs : SubsSound P G subs c)
    {s : Sub} (step : s.inp.C → Option (s.inp.C ⊕ WaysC s.ways)) (n : Nat) (hrun : ∀ v, s.run v = iter step n v) (hr : ∀ (v : s.inp.C) (o : s.inp.C ⊕ WaysC s.ways), step v = some o → exec tt env subs c (mkSt s.inp v) (loopKs s.inp s.ways) = some o) (hfit : fitAll s subs = true) : SubSound P G s (.loop c) := by
  intro F w0 R st ks r a w hn0 hG hk h
  simp only [fitAll, Bool.and_eq_true] at hfit
  have hFs : ∀ k s', findSub subs k = some s' → F.n ≤ s'.n := fun k s' hs => Nat.le_trans hn0 (fitSubs_find hfit.2.2 hs)
  have hinp : F.n ≤ olen s.inp.heap := Nat.le_trans hn0 (Nat.le_of_ble_eq_true hfit.1)
  have hways := fitWays_le hn0 hfit.2.1
  obtain ⟨v, h1, h2⟩ := capSt_inv hk
  obtain ⟨o, h3, h4⟩ := Option.bind_eq_some_iff.1 h1
  rw [hrun] at h3
  refine wp_loop_ghost (fun n a w => ∃ v', iter step n v' = some o ∧ Rel F w0 (mkSt s.inp v') a w) n ⟨v, h3, by rw [h2]; exact h.shape s.inp hinp⟩ ?_
  intro m a' w' ⟨v', h5, h6⟩
  cases m with
  | zero => simp [iter] at h5
  | succ m =>
    rw [iter_succ] at h5
    obtain ⟨q, h7, h8⟩ := Option.bind_eq_some_iff.1 h5
    refine wp_mono (exec_sound hT hE hn hM hL hG hs hFs c _ _ q a' w' (fun _ _ hz => hz) (hr v' q h7) h6) fun e a2 w2 hq => ?_
    have out : ∀ (k : Kind) (st2 : St), (capW s.ways k st2).map .inr = some q → Rel F w0 st2 a2 w2 → ∃ st', goto_ k st' ks = some r ∧ Rel F w0 st' a2 w2 := fun k st2 g1 g2 => by
      obtain ⟨o', g3, g4⟩ := Option.map_eq_some_iff.1 g1
      subst g4
      obtain rfl : o' = o := Option.some.inj h8
      obtain ⟨sh, u, g0, g5, g6⟩ := capW_inv hways g3
      exact ⟨mkSt sh u, by rw [← g6 R ks]; exact h4, by rw [g5]; exact g2.shape sh g0⟩
    cases e with
    | normal =>
      obtain ⟨st2, g1, g2⟩ := hq
      obtain ⟨u, g3, g4⟩ := capSt_inv g1
      obtain rfl : _ = q := Option.some.inj g3
      exact ⟨m, Nat.lt_succ_self m, u, h8, by rw [g4]; exact g2.shape s.inp hinp⟩
    | ret => obtain ⟨st2, g1, g2⟩ := hq; exact out .ret st2 g1 g2
    | exit id => obtain ⟨st2, g1, g2⟩ := hq; exact out (.x id) st2 (exitK_map (fun id st => (capW s.ways (.x id) st).map Sum.inr) _ _ _ _ g1) g2
    | goto l => exact hq.elim
    | panic ch => exact hq.elim
    | outgrown => exact hq.elim
theorem subs_nil (P : Program) (G : Gv) (root : Code) : SubsSound P G [] root := fun k s c h => by simp [findSub] at h
/-! ## Functions -/
theorem list_nil_of {w : World} {ok : Nat → Prop} {t : Ty} : DVal w ok (.list t) ([] : List t.C) (.slice none 0 0) := dval_list ⟨none, 0, rfl, Nat.le_refl _, .inl rfl⟩
theorem ResList.mono {w : World} {ok ok' : Nat → Prop} {B : Nat} (hok : ∀ b, ok b → ok' b ∧ w.heap[b]? = w.heap[b]?) : ∀ {rs : List ARes} {vs : List Value} {gs : List Nat}, ResList w ok B rs vs gs → ResList w ok' B rs vs gs
  | [], _, _, h => h
  | .data t x :: rs, _, _, ⟨v, vs', e, hd, hr⟩ => ⟨v, vs', e, DVal.mono hok hd, ResList.mono hok hr⟩
  | .own t l :: rs, _, _, ⟨v, vs', e, hv, h⟩ => by
    refine ⟨v, vs', e, hv, ?_⟩
    rcases h with ⟨h1, h2, h3⟩ | ⟨b, c, cs, T, cc, rest, gs', h1, h2, h3, h4, h5, h6, h7, h8, h9, h10⟩
    · exact .inl ⟨h1, h2, ResList.mono hok h3⟩
    · exact .inr ⟨b, c, cs, T, cc, rest, gs', h1, h2, h3, h4, h5, h6, h7, h8, RowC.mono (fun x cs => Cells.mono hok t x cs) _ _ h9, ResList.mono hok h10⟩
def readRes (a : Act) : ResultVar → Sem Value
  | .tmp t => pure (a.tmps.getD t Go.undef)
  | .cell c t => do loadVar t (← asAddr (a.tmps.getD c Go.undef))
def RetR (F : Fr) (w : World) (ρ : Nat → Loc) (h : List AObj) (n : Nat) : ARes → Value → Prop
  | .data t x, v => DVal w (fun b => F b ∧ b < w.heap.size ∧ ∀ id, (hget h id).isVt = true → b ∉ (ρ id).bs) t x v
  | .tree σ z, v => ∃ s, (s.blocks = [] ∨ ∃ id, n ≤ id ∧ (hget h id).isVt = true ∧ ∀ b ∈ s.blocks, b ∈ (ρ id).bs) ∧ TVal w (okOf F w ρ h) σ z s v ∧ s.blocks.Nodup
  | _, _ => False
def RetL (F : Fr) (w : World) (ρ : Nat → Loc) (h : List AObj) (n : Nat) : List ARes → List Value → Prop
  | [], vs => vs = []
  | r :: rs, vs => ∃ v vs', vs = v :: vs' ∧ RetR F w ρ h n r v ∧ RetL F w ρ h n rs vs'
theorem load_var {ty : TypeId} {v val : Value} (hrun : (Instr.loadAt ty v).run P w = .ok val w) : (do loadVar ty (← asAddr v) : Sem Value).run P w = .ok val w := by
  unfold Instr.loadAt at hrun
  cases v with
  | pointer p => cases p with
    | some p => simpa [Instr.sureAddr, asAddr] using hrun
    | none => simp [Instr.sureAddr] at hrun
  | _ => simp [Instr.sureAddr] at hrun
theorem ble_of {n m : Nat} {x : Option R} {r : R} (h : cond (Nat.ble n m) x none = some r) : n ≤ m ∧ x = some r := by
  cases hb : Nat.ble n m with
  | false => rw [hb] at h; simp at h
  | true => rw [hb] at h; exact ⟨Nat.le_of_ble_eq_true hb, h⟩
theorem retOne_sound (hT : TTOk P tt) (h : Open F w0 st a w ρ) {n : Nat} {x : ResultVar} {ty : TypeId} {K : ARes → Option R} {r : R} (hk : retOne n tt st x ty K = some r) :
    ∃ res val, K res = some r ∧ (readRes a x).run P w = .ok val w ∧ RetR F w ρ st.heap n res val := by
  have okl : ∀ b, okOf F w ρ st.heap b → (F b ∧ b < w.heap.size ∧ ∀ id, (hget st.heap id).isVt = true → b ∉ (ρ id).bs) ∧ w.heap[b]? = w.heap[b]? := fun b hb => ⟨⟨hb.1, hb.2.1, fun id hv => hb.2.2 id (isVt_owns hv)⟩, rfl⟩
  unfold retOne at hk
  cases x with
  | tmp t =>
    simp only at hk
    have tree : takeK (res st.heap (tget st.tmps t)) (fun id σ z => cond (Nat.ble n id) (K (.tree σ z)) none) = some r → ∃ res val, K res = some r ∧ (readRes a (.tmp t)).run P w = .ok val w ∧ RetR F w ρ st.heap n res val := by
      intro hk
      obtain ⟨g, σ, z, s, hk, src, hvt⟩ := takeK_inv h.hrel.obj (h.vals t) hk
      obtain ⟨hn, hk⟩ := ble_of hk
      exact ⟨_, _, hk, rfl, s, .inr ⟨g, hn, hvt, src.sub⟩, ⟨_, src.cells, src.agg, src.one⟩, src.nodup⟩
    split at hk
    · rename_i u y e
      exact ⟨_, _, hk, rfl, DVal.mono okl (res_data (h.vals t) e)⟩
    · rename_i id ver u l e
      obtain ⟨hl, ho, eu, hx⟩ := row_osl (h.vals t) e
      refine ⟨_, _, hk, rfl, ?_⟩
      have hf := h.freeze ho
      have hv := hf.vals t
      have e2 : res (hset st.heap id (.frow ver u l)) (tget st.tmps t) = .data (.list u) l := by
        rw [eu]; simp [res, hget_hset_self hl]
      refine DVal.mono (fun b hb => ⟨⟨hb.1, hb.2.1, fun i hi => ?_⟩, rfl⟩) (res_data hv e2)
      have hne : i ≠ id := fun e => by subst e; rw [ho] at hi; simp [AObj.isVt] at hi
      exact hb.2.2 i (by rw [hget_hset_ne hne]; exact isVt_owns hi)
    · rename_i e
      split at hk
      · rename_i u hu
        have hv := h.vals t
        rw [res_nils e] at hv
        have hv' : a.tmps.getD t Go.undef = .slice none 0 0 := hv
        exact ⟨_, .slice none 0 0, hk, by simp [readRes, hv'], list_nil_of⟩
      · simp at hk
    · rename_i e
      split at hk
      · rename_i σ hm
        have hv : a.tmps.getD t Go.undef = .pointer none := res_nilp (h.vals t) e
        exact ⟨_, .pointer none, hk, by simp [readRes, hv], .nil, .inl rfl, ⟨[.pointer none], ⟨rfl, rfl⟩, fun h => by simp [TT.isAgg] at h, fun _ => rfl⟩, by simp [Skel.blocks]⟩
      · simp at hk
    · exact tree hk
    · exact tree hk
    · simp at hk
  | cell c ty' =>
    simp only at hk
    have fin : ∀ {v : AVal} {val : Value}, (match (Out.q v : Out) with | .q (.data t x) => K (.data t x) | _ => none) = some r → VRel w ρ st.heap (okOf F w ρ st.heap) v val → (Instr.loadAt ty' (a.tmps.getD c Go.undef)).run P w = .ok val w →
        ∃ res val, K res = some r ∧ (readRes a (.cell c ty')).run P w = .ok val w ∧ RetR F w ρ st.heap n res val := by
      intro v val hk1 hv hrun
      split at hk1
      · rename_i t y e
        injection e with e
        subst e
        exact ⟨_, val, hk1, load_var hrun, DVal.mono okl hv⟩
      · simp at hk1
    unfold retCell at hk
    split at hk
    · rename_i id ver p τ y e
      split at hk
      · obtain ⟨v, val, hk1, hv, hrun⟩ := loadX_yield (P := P) hT h.hrel.obj (h.vals c) hk
        exact fin hk1 hv hrun
      · rename_i σ y _
        obtain ⟨v0, eu, ho, hc⟩ := res_tr e
        have hv := h.vals c
        rw [eu] at hv
        obtain ⟨_, hval⟩ := tv_val hv ho hc
        obtain ⟨g1, g2, b, cc, T, s, e1, e2, e3, e4⟩ := vt_orel h.hrel.obj ho
        have hval' := hval.2 rfl
        rw [e2] at hval'
        have hval' : a.tmps.getD c Go.undef = .pointer (some ⟨b, 0, none⟩) := by simpa using hval'.symm
        have hcell : ∀ (j : Nat) (u : Value), cc.toList[j]? = some u → w.cell? ⟨b, 0 + j, none⟩ = some u := fun j u hj => by
          rw [Nat.zero_add, cell_of_row w b j cc T _ e3, ← Array.getElem?_toList]; exact hj
        have hlen := TCells.length _ _ _ _ e4
        have hvt : (hget st.heap id).isVt = true := by rw [ho]; rfl
        have hsub : ∀ k ∈ s.blocks, k ∈ (ρ id).bs := fun k hk => by rw [g1, e1]; simp [Skel.blocks, hk]
        have hnd : s.blocks.Nodup := by rw [e1] at g2; simp only [Skel.blocks, List.nodup_cons] at g2; exact g2.2
        unfold outK at hk
        obtain ⟨hn, hk⟩ := ble_of hk
        cases ha : σ.isAgg with
        | true =>
          rw [ha] at hk
          simp only [cond_true] at hk
          split at hk
          · rename_i m em
            cases hb : Nat.beq σ.width m with
            | false => rw [hb] at hk; simp at hk
            | true =>
              rw [hb] at hk
              obtain ⟨h1, h2⟩ := aggW_ok (w := w) hT em
              have := run_loadAgg (P := P) (t := ty') h2 (by rw [h1, hlen, Nat.eq_of_beq_eq_true hb]) hcell
              exact ⟨_, _, hk, load_var (by rw [hval']; exact this), s, .inr ⟨id, hn, hvt, hsub⟩, ⟨_, e4, fun _ => rfl, fun h => by rw [ha] at h; cases h⟩, hnd⟩
          · simp at hk
        | false =>
          rw [ha] at hk
          simp only [cond_false] at hk
          cases hb : (tt.one ty' && Nat.beq σ.width 1) with
          | false => rw [hb] at hk; simp at hk
          | true =>
            rw [hb] at hk
            simp only [Bool.and_eq_true] at hb
            have h1 : cc.toList.length = 1 := by rw [hlen, Nat.eq_of_beq_eq_true hb.2]
            obtain ⟨u, hu⟩ := List.length_eq_one_iff.1 h1
            have := run_load1 (P := P) hT hb.1 (by simpa using hcell 0 u (by rw [hu]; rfl))
            exact ⟨_, _, hk, load_var (by rw [hval']; exact this), s, .inr ⟨id, hn, hvt, hsub⟩, ⟨_, e4, fun h => (by rw [ha] at h; cases h), fun _ => hu⟩, hnd⟩
      · simp at hk
    · obtain ⟨v, val, hk1, hv, hrun⟩ := loadK_yield (P := P) hT h.hrel.obj (h.vals c) hk
      exact fin hk1 hv hrun
theorem retK_sound (hT : TTOk P tt) (h : Open F w0 st a w ρ) {n : Nat} : ∀ (xs : List ResultVar) (tys : List TypeId) (K : List ARes → Option R) (r : R), retK n tt st xs tys K = some r →
    ∃ rs vs, K rs = some r ∧ (xs.mapM (readRes a)).run P w = .ok vs w ∧ RetL F w ρ st.heap n rs vs
  | [], _, K, r, hk => ⟨[], [], hk, by simp, rfl⟩
  | x :: xs, [], K, r, hk => by simp [retK] at hk
  | x :: xs, ty :: tys, K, r, hk => by
    obtain ⟨res, val, hk1, hrun, hd⟩ := retOne_sound hT h hk
    obtain ⟨rs, vs, hk2, hrun2, hrl⟩ := retK_sound hT h xs tys _ r hk1
    exact ⟨_, val :: vs, hk2, by simp [List.mapM_cons, hrun, hrun2], val, vs, rfl, hd, hrl⟩
theorem run_results {fn : Func} {vs : List Value} (hr : (fn.results.toList.mapM (readRes a)).run P w = .ok vs w) : (results fn a.tmps).run P w = .ok (tupleOf vs) w := by
  have e : results fn a.tmps = (do
      let vs ← fn.results.mapM (readRes a)
      pure (if h : vs.size = 1 then vs[0] else .tuple vs)) := by
    unfold results
    congr 1
  rw [e, Array.mapM_eq_mapM_toList]
  simp [hr, tupleOf]
theorem tget_append_undefs : ∀ (l : List AVal) (n i : Nat), tget (l ++ undefs n) i = if i < l.length then tget l i else .undef
  | [], n, i => by
    induction n generalizing i with
    | zero => rfl
    | succ n ih => cases i with
      | zero => rfl
      | succ i => simpa [undefs, tget] using ih i
  | v :: l, n, 0 => by simp [tget]
  | v :: l, n, i + 1 => by simp [tget, tget_append_undefs l n i]
theorem length_undefs : ∀ n, (undefs n).length = n
  | 0 => rfl
  | n + 1 => by simp [undefs, length_undefs n]
theorem argVal_rel {F : Fr} {w : World} {ok : Nat → Prop} {ρ : Nat → Loc} {h : List AObj} (dat : ∀ b, ok b → okOf F w ρ h b) (hlv : ∀ b, b < w.heap.size → liveOf w ρ h b) : ∀ (x : RVal), (∀ v, ARel w ok x v → VRel w ρ h (okOf F w ρ h) (argVal x) v) ∧ (∀ vs, ARel.AList w ok x vs → VList w ρ h (okOf F w ρ h) (argCaps x) vs) := by
  have dat : ∀ b, ok b → okOf F w ρ h b ∧ w.heap[b]? = w.heap[b]? := fun b hb => ⟨dat b hb, rfl⟩
  intro x
  induction x with
  | data t y => exact ⟨fun v hv => DVal.mono dat hv, fun vs hv => hv.elim⟩
  | rptr t y =>
    refine ⟨fun v ⟨b, o, cs, e, hb, hc, hj⟩ => ⟨b, o, cs, e, hlv b hb, Cells.mono dat _ _ _ hc, hj⟩, fun vs hv => hv.elim⟩
  | fn f c ih => exact ⟨fun v ⟨vs, e, hv⟩ => ⟨vs, e, ih.2 vs hv⟩, fun vs hv => hv.elim⟩
  | tnil => exact ⟨fun v _ => trivial, fun vs hv => hv⟩
  | tcons a b iha ihb => exact ⟨fun v _ => trivial, fun vs ⟨v, vs', e, h1, h2⟩ => ⟨v, vs', e, iha.1 v h1, ihb.2 vs' h2⟩⟩
  | nils => exact ⟨fun v hv => hv, fun vs hv => hv.elim⟩
  | nilp => exact ⟨fun v hv => hv, fun vs hv => hv.elim⟩
  | row id v t l => exact ⟨fun _ _ => trivial, fun vs hv => hv.elim⟩
  | box id t y p => exact ⟨fun _ _ => trivial, fun vs hv => hv.elim⟩
  | fbox t y p => exact ⟨fun _ _ => trivial, fun vs hv => hv.elim⟩
  | elem id v t l i p => exact ⟨fun _ _ => trivial, fun vs hv => hv.elim⟩
  | iter id s p => exact ⟨fun _ _ => trivial, fun vs hv => hv.elim⟩
  | tr id v p τ y => exact ⟨fun _ _ => trivial, fun vs hv => hv.elim⟩
  | ad id v p τ y => exact ⟨fun _ _ => trivial, fun vs hv => hv.elim⟩
  | elt id v p τ y i q => exact ⟨fun _ _ => trivial, fun vs hv => hv.elim⟩
  | lease id g t y => exact ⟨fun _ _ => trivial, fun vs hv => hv.elim⟩
  | tree τ y => exact ⟨fun _ _ => trivial, fun vs hv => hv.elim⟩
  | dead => exact ⟨fun _ _ => trivial, fun vs hv => hv.elim⟩
theorem argVal_plain {F : Fr} {w : World} {ok : Nat → Prop} {ρ : Nat → Loc} {h : List AObj} (dat : ∀ b, ok b → okOf F w ρ h b) {x : RVal} (hp : x.plain = true) {v : Value} (hv : ARel w ok x v) : VRel w ρ h (okOf F w ρ h) (argVal x) v := by
  cases x with
  | data t y => exact DVal.mono (fun b hb => ⟨dat b hb, rfl⟩) hv
  | nils => exact hv
  | nilp => exact hv
  | dead => trivial
  | fn f c =>
    cases c with
    | tnil => exact hv
    | _ => simp [RVal.plain] at hp
  | _ => simp [RVal.plain] at hp
def HL (w : World) (ok : Nat → Prop) (lone : Prop) : List RVal → List Value → List Loc → Prop
  | [], vs, ls => vs = [] ∧ ls = []
  | .tree τ x :: as, vs, ls => ∃ v vs' l ls', vs = v :: vs' ∧ ls = l :: ls' ∧ l.bs = l.sk.blocks ∧ TCells w ok τ x l.sk l.cs ∧ (τ.isAgg = true → v = .agg l.cs.toArray) ∧ (τ.isAgg = false → l.cs = [v]) ∧ HL w ok lone as vs' ls'
  | a :: as, vs, ls => ∃ v vs', vs = v :: vs' ∧ (ARel w ok a v ∧ (a.plain = true ∨ lone)) ∧ HL w ok lone as vs' ls
theorem HArgs.hl {ok : Nat → Prop} {lone : Prop} : ∀ {as : List RVal} {vs : List Value} {hs : List Nat}, HArgs w ok as vs hs → ∃ ls, HL w ok lone as vs ls ∧ hs = ls.flatMap Loc.bs
  | [], vs, hs, ⟨h1, h2⟩ => ⟨[], ⟨h1, rfl⟩, h2⟩
  | a :: as, vs, hs, h => by
    have plain : (∃ v vs', vs = v :: vs' ∧ (ARel w ok a v ∧ a.plain = true) ∧ HArgs w ok as vs' hs) → ∃ ls, (∃ v vs', vs = v :: vs' ∧ (ARel w ok a v ∧ (a.plain = true ∨ lone)) ∧ HL w ok lone as vs' ls) ∧ hs = ls.flatMap Loc.bs := by
      rintro ⟨v, vs', h1, h2, h3⟩
      obtain ⟨ls, g1, g2⟩ := HArgs.hl h3
      exact ⟨ls, ⟨v, vs', h1, ⟨h2.1, .inl h2.2⟩, g1⟩, g2⟩
    cases a with
    | tree τ x =>
      obtain ⟨v, vs', s, hs', h1, h2, ⟨cs, h3, h4, h5⟩, h6⟩ := h
      obtain ⟨ls, g1, g2⟩ := HArgs.hl h6
      exact ⟨⟨s.blocks, cs, s⟩ :: ls, ⟨v, vs', _, ls, h1, rfl, rfl, h3, h4, h5, g1⟩, by rw [h2, g2]; rfl⟩
    | _ => exact plain h
theorem ArgsRel.hl {ok : Nat → Prop} : ∀ {as : List RVal} {vs : List Value}, (∀ τ x, RVal.tree τ x ∉ as) → ArgsRel w ok as vs → HL w ok True as vs []
  | [], vs, _, h => ⟨h, rfl⟩
  | a :: as, vs, hn, ⟨v, vs', h1, h2, h3⟩ => by
    have ih := ArgsRel.hl (fun τ x hm => hn τ x (List.mem_cons_of_mem _ hm)) h3
    cases a with
    | tree τ x => exact absurd List.mem_cons_self (hn τ x)
    | _ => exact ⟨v, vs', h1, ⟨h2, .inr trivial⟩, ih⟩
theorem HL.length {ok : Nat → Prop} {lone : Prop} : ∀ {as : List RVal} {vs : List Value} {ls : List Loc}, HL w ok lone as vs ls → vs.length = as.length ∧ ls.length = (entH as).length
  | [], vs, ls, ⟨h1, h2⟩ => by subst h1 h2; exact ⟨rfl, rfl⟩
  | a :: as, vs, ls, h => by
    cases a with
    | tree τ x =>
      obtain ⟨v, vs', l, ls', rfl, rfl, _, _, _, _, h⟩ := h
      obtain ⟨g1, g2⟩ := HL.length h
      simp [entH, g1, g2]
    | _ =>
      obtain ⟨v, vs', rfl, _, h⟩ := h
      obtain ⟨g1, g2⟩ := HL.length h
      simp [entH, g1, g2]
def locAt : List Loc → Nat → Loc
  | [], _ => Loc.nil
  | l :: _, 0 => l
  | _ :: ls, n + 1 => locAt ls n
theorem HL.obj {ok : Nat → Prop} {lone : Prop} : ∀ {as : List RVal} {vs : List Value} {ls : List Loc}, HL w ok lone as vs ls → ∀ k, k < (entH as).length → ∃ τ x, hget (entH as) k = .vt ⟨0, 0⟩ τ x ∧ (locAt ls k).bs = (locAt ls k).sk.blocks ∧ TCells w ok τ x (locAt ls k).sk (locAt ls k).cs
  | [], vs, ls, _, k, hk => by simp [entH] at hk
  | a :: as, vs, ls, h, k, hk => by
    cases a with
    | tree τ x =>
      obtain ⟨v, vs', l, ls', rfl, rfl, h1, h2, _, _, h⟩ := h
      cases k with
      | zero => exact ⟨τ, x, rfl, h1, h2⟩
      | succ k => exact HL.obj h k (by simpa [entH] using hk)
    | _ =>
      obtain ⟨v, vs', rfl, _, h⟩ := h
      exact HL.obj h k hk
theorem HL.vals {F : Fr} {ok : Nat → Prop} {lone : Prop} {ρ : Nat → Loc} {h : List AObj} (dat : ∀ b, ok b → okOf F w ρ h b) (hlv : lone → ∀ b, b < w.heap.size → liveOf w ρ h b) (m : Nat) : ∀ {as : List RVal} {vs : List Value} {ls : List Loc} (n i : Nat), HL w ok lone as vs ls →
    (∀ k, k < (entH as).length → n + k < h.length ∧ hget h (n + k) = hget (entH as) k ∧ ρ (n + k) = locAt ls k) →
    VRel w ρ h (okOf F w ρ h) (tget (entT as n ++ undefs m) i) ((vs.toArray ++ Array.replicate m Go.undef).getD i Go.undef)
  | [], vs, ls, n, i, ⟨e, _⟩, _ => by
    subst e
    have e := tget_append_undefs [] m i
    simp only [List.length_nil, Nat.not_lt_zero, if_false, List.nil_append] at e
    simp only [entT, List.nil_append, e]
    show _ = _
    have : ((([] : List Value).toArray ++ Array.replicate m Go.undef)[i]?).getD Go.undef = Go.undef := by
      simp only [← Array.getElem?_toList, Array.toList_append, List.nil_append, Array.toList_replicate, List.getElem?_replicate]
      split <;> rfl
    rw [Array.getD_eq_getD_getElem?]; exact this
  | a :: as, vs, ls, n, i, hh, hpos => by
    have step : ∀ (v : Value) (vs' : List Value) (u : AVal) (n' : Nat) (ls' : List Loc), HL w ok lone as vs' ls' → (∀ k, k < (entH as).length → n' + k < h.length ∧ hget h (n' + k) = hget (entH as) k ∧ ρ (n' + k) = locAt ls' k) → VRel w ρ h (okOf F w ρ h) u v →
        VRel w ρ h (okOf F w ρ h) (tget ((u :: entT as n') ++ undefs m) i) (((v :: vs').toArray ++ Array.replicate m Go.undef).getD i Go.undef) := by
      intro v vs' u n' ls' h1 h2 h3
      cases i with
      | zero =>
        have e2 : (((v :: vs').toArray ++ Array.replicate m Go.undef).getD 0 Go.undef) = v := by
          rw [Array.getD_eq_getD_getElem?, ← Array.getElem?_toList]; simp
        rw [e2]; exact h3
      | succ i =>
        have := HL.vals dat hlv m n' i h1 h2
        simp only [List.cons_append, tget]
        have e2 : (((v :: vs').toArray ++ Array.replicate m Go.undef).getD (i + 1) Go.undef) = ((vs'.toArray ++ Array.replicate m Go.undef).getD i Go.undef) := by
          simp only [Array.getD_eq_getD_getElem?, ← Array.getElem?_toList, Array.toList_append]
          simp
        rw [e2]; exact this
    have plain : entT (a :: as) n = argVal a :: entT as n → entH (a :: as) = entH as → (∃ v vs', vs = v :: vs' ∧ (ARel w ok a v ∧ (a.plain = true ∨ lone)) ∧ HL w ok lone as vs' ls) → VRel w ρ h (okOf F w ρ h) (tget (entT (a :: as) n ++ undefs m) i) ((vs.toArray ++ Array.replicate m Go.undef).getD i Go.undef) := by
      rintro e1 e2 ⟨v, vs', rfl, ⟨h1, h2⟩, h3⟩
      rw [e1]
      rw [e2] at hpos
      refine step v vs' _ n ls h3 hpos ?_
      rcases h2 with h2 | h2
      · exact argVal_plain dat h2 h1
      · exact (argVal_rel dat (hlv h2) a).1 v h1
    cases a with
    | tree τ x =>
      obtain ⟨v, vs', l, ls', rfl, rfl, h1, h2, h3, h4, h5⟩ := hh
      obtain ⟨p1, p2, p3⟩ := hpos 0 (by simp [entH])
      refine step v vs' (.tv n 0 []) (n + 1) ls' h5 (fun k hk => ?_) ?_
      · obtain ⟨q1, q2, q3⟩ := hpos (k + 1) (by simp [entH]; omega)
        rw [show n + 1 + k = n + (k + 1) by omega]
        exact ⟨q1, q2, q3⟩
      · refine ⟨p1, ?_⟩
        rw [show hget h n = .vt ⟨0, 0⟩ τ x from p2]
        refine ⟨Nat.le_refl _, fun _ => ?_⟩
        rw [show ρ n = l from p3]
        exact ⟨h3, h4⟩
    | _ => exact plain rfl rfl hh
theorem locAt_mem : ∀ {ls : List Loc} {k : Nat} {b : Nat}, b ∈ (locAt ls k).bs → b ∈ ls.flatMap Loc.bs
  | [], k, b, h => by simp [locAt, Loc.nil] at h
  | l :: ls, 0, b, h => by rw [List.flatMap_cons]; exact List.mem_append_left _ h
  | l :: ls, k + 1, b, h => by rw [List.flatMap_cons]; exact List.mem_append_right _ (locAt_mem h)
theorem locAt_inj : ∀ {ls : List Loc}, (ls.flatMap Loc.bs).Nodup → ∀ {k k' b : Nat}, b ∈ (locAt ls k).bs → b ∈ (locAt ls k').bs → k = k'
  | [], _, k, k', b, h, _ => by simp [locAt, Loc.nil] at h
  | l :: ls, hn, 0, 0, b, _, _ => rfl
  | l :: ls, hn, 0, k' + 1, b, h, h' => by
    rw [List.flatMap_cons, List.nodup_append] at hn
    exact absurd rfl (hn.2.2 b h b (locAt_mem h'))
  | l :: ls, hn, k + 1, 0, b, h, h' => by
    rw [List.flatMap_cons, List.nodup_append] at hn
    exact absurd rfl (hn.2.2 b h' b (locAt_mem h))
  | l :: ls, hn, k + 1, k' + 1, b, h, h' => by
    rw [List.flatMap_cons, List.nodup_append] at hn
    rw [locAt_inj hn.2.1 (k := k) (k' := k') h h']
theorem locAt_nodup : ∀ {ls : List Loc}, (ls.flatMap Loc.bs).Nodup → ∀ k, (locAt ls k).bs.Nodup
  | [], _, k => by simp [locAt, Loc.nil]
  | l :: ls, hn, 0 => by rw [List.flatMap_cons, List.nodup_append] at hn; exact hn.1
  | l :: ls, hn, k + 1 => by rw [List.flatMap_cons, List.nodup_append] at hn; exact locAt_nodup hn.2.1 k
end
end Go.PB
namespace Go.PB
open Go Go.RowKit
section
variable {F : Fr} {P : Program} {G : Gv} {env : Env} {w0 w w' : World} {st : St} {a : Act} {ρ : Nat → Loc} {R : Type} {tt : Tab}
def OutL (h : List AObj) : List RVal → Nat → Nat → List ARes → Prop
  | [], _, _, os => os = []
  | .tree τ _ :: as, i, n, os => ∃ v τ' x' os', os = .out i τ' x' :: os' ∧ hget h n = .vt v τ' x' ∧ τ'.isAgg = τ.isAgg ∧ OutL h as (i + 1) (n + 1) os'
  | _ :: as, i, n, os => OutL h as (i + 1) n os
theorem outsK_inv {h : List AObj} : ∀ {as : List RVal} {i n : Nat} {K : List ARes → Option R} {r : R}, outsK h as i n K = some r → ∃ os, K os = some r ∧ OutL h as i n os
  | [], i, n, K, r, hk => ⟨[], hk, rfl⟩
  | a :: as, i, n, K, r, hk => by
    cases a with
    | tree τ x =>
      simp only [outsK] at hk
      split at hk
      · rename_i v τ' x' e
        cases hc : (Nat.beq τ'.width τ.width && (τ'.isAgg == τ.isAgg)) with
        | false => rw [hc] at hk; simp at hk
        | true =>
          rw [hc] at hk
          simp only [cond_true] at hk
          simp only [Bool.and_eq_true, beq_iff_eq] at hc
          obtain ⟨os, h1, h2⟩ := outsK_inv hk
          exact ⟨_, h1, v, τ', x', os, rfl, e, hc.2, h2⟩
      · simp at hk
    | _ => exact outsK_inv (as := as) (i := i + 1) (n := n) hk
def blksFrom (ρ : Nat → Loc) : Nat → Nat → List Nat
  | _, 0 => []
  | n, m + 1 => (ρ n).sk.blocks ++ blksFrom ρ (n + 1) m
theorem mem_blksFrom {b : Nat} : ∀ {m n : Nat}, b ∈ blksFrom ρ n m → ∃ k, n ≤ k ∧ k < n + m ∧ b ∈ (ρ k).sk.blocks
  | 0, n, h => by simp [blksFrom] at h
  | m + 1, n, h => by
    rcases List.mem_append.1 h with h | h
    · exact ⟨n, Nat.le_refl _, by omega, h⟩
    · obtain ⟨k, h1, h2, h3⟩ := mem_blksFrom h
      exact ⟨k, by omega, by omega, h3⟩
theorem OutL.hres {ok ok1 : Nat → Prop} {h : List AObj} {lone : Prop} {argv : List Value} {w : World} (hok : ∀ b, okOf F w ρ h b → ok1 b)
    (hob : ∀ n v τ x, hget h n = .vt v τ x → TCells w (okOf F w ρ h) τ x (ρ n).sk (ρ n).cs) {w1 : World} : ∀ {as : List RVal} {vs : List Value} {ls : List Loc} {i n : Nat} {os : List ARes}, OutL h as i n os → HL w1 ok lone as vs ls →
    (∀ k, k < (entH as).length → (hget h (n + k)).isVt = true → (ρ (n + k)).cs = (locAt ls k).cs) → (∀ j, j < vs.length → argv[i + j]? = vs[j]?) →
    HRes w ok1 argv os [] (blksFrom ρ n (entH as).length)
  | [], vs, ls, i, n, os, ho, hh, hc, hv => by
    simp only [OutL] at ho
    subst ho
    exact ⟨rfl, rfl⟩
  | a :: as, vs, ls, i, n, os, ho, hh, hc, hv => by
    have plain : entH (a :: as) = entH as → OutL h as (i + 1) n os → (∃ v vs', vs = v :: vs' ∧ (ARel w1 ok a v ∧ (a.plain = true ∨ lone)) ∧ HL w1 ok lone as vs' ls) → HRes w ok1 argv os [] (blksFrom ρ n (entH (a :: as)).length) := by
      rintro e h1 ⟨v, vs', rfl, _, h2⟩
      rw [e] at hc ⊢
      exact OutL.hres hok hob h1 h2 hc (fun j hj => by rw [show i + 1 + j = i + (j + 1) by omega, hv (j + 1) (by simpa using hj)]; rfl)
    cases a with
    | tree τ x =>
      obtain ⟨v1, τ', x', os', rfl, e1, e2, h1⟩ := ho
      obtain ⟨v, vs', l, ls', rfl, rfl, _, _, g3, g4, h5⟩ := hh
      have hcs := hc 0 (by simp [entH]) (by rw [Nat.add_zero, e1]; rfl)
      rw [Nat.add_zero] at hcs
      have ht := hob n v1 τ' x' e1
      have hcs' : (ρ n).cs = l.cs := hcs
      refine ⟨v, (ρ n).sk, blksFrom ρ (n + 1) (entH as).length, by rw [← Nat.add_zero i, hv 0 (by simp)]; rfl, rfl, ⟨(ρ n).cs, TCells.mono (fun b hb => ⟨hok b hb, rfl⟩) _ _ _ _ (fun _ _ => rfl) ht, fun ha => by rw [hcs']; exact g3 (by rw [← e2]; exact ha), fun ha => by rw [hcs']; exact g4 (by rw [← e2]; exact ha)⟩, ?_⟩
      exact OutL.hres hok hob h1 h5 (fun k hk hvt => by
        have := hc (k + 1) (by simp [entH]; omega) (by rw [show n + (k + 1) = n + 1 + k by omega]; exact hvt)
        rw [show n + 1 + k = n + (k + 1) by omega]; exact this) (fun j hj => by rw [show i + 1 + j = i + (j + 1) by omega, hv (j + 1) (by simpa using hj)]; rfl)
    | _ => exact plain rfl ho hh
theorem HRes.append {ok : Nat → Prop} {argv : List Value} : ∀ {rs os : List ARes} {vs : List Value} {g1 g2 : List Nat}, HRes w ok argv rs vs g1 → HRes w ok argv os [] g2 → HRes w ok argv (rs ++ os) vs (g1 ++ g2)
  | [], os, vs, g1, g2, ⟨h1, h2⟩, h => by subst h1 h2; exact h
  | .data t x :: rs, os, vs, g1, g2, ⟨v, vs', h1, h2, h3⟩, h => ⟨v, vs', h1, h2, HRes.append h3 h⟩
  | .tree τ x :: rs, os, vs, g1, g2, ⟨v, vs', s, gs', h1, h2, h3, h4⟩, h => ⟨v, vs', s, gs' ++ g2, h1, by rw [h2, List.append_assoc], h3, HRes.append h4 h⟩
  | .out i τ x :: rs, os, vs, g1, g2, ⟨v, s, gs', h1, h2, h3, h4⟩, h => ⟨v, s, gs' ++ g2, h1, by rw [h2, List.append_assoc], h3, HRes.append h4 h⟩
  | .own _ _ :: _, _, _, _, _, h, _ => h.elim
  | .upd _ _ :: _, _, _, _, _, h, _ => h.elim
theorem RetL.hres {h : List AObj} {n : Nat} {argv : List Value} : ∀ {rs : List ARes} {vs : List Value}, RetL F w ρ h n rs vs → oneTree rs = true →
    ∃ gr, ((gr = [] ∨ ∃ id, n ≤ id ∧ (hget h id).isVt = true ∧ ∀ b ∈ gr, b ∈ (ρ id).bs) ∧ gr.Nodup) ∧ (∀ ok1 : Nat → Prop, (∀ b, okOf F w ρ h b → ok1 b) → (∀ b, (F b ∧ b < w.heap.size ∧ ∀ id, (hget h id).isVt = true → b ∉ (ρ id).bs) → ok1 b) → HRes w ok1 argv rs vs gr)
  | [], vs, hr, _ => ⟨[], ⟨.inl rfl, by simp⟩, fun _ _ _ => ⟨hr, rfl⟩⟩
  | r :: rs, vs, ⟨v, vs', e, h1, h2⟩, ho => by
    subst e
    cases r with
    | data t x =>
      obtain ⟨gr, g1, g2⟩ := RetL.hres (argv := argv) h2 (by simpa [oneTree] using ho)
      exact ⟨gr, g1, fun ok1 k1 k2 => ⟨v, vs', rfl, DVal.mono (fun b hb => ⟨k2 b hb, rfl⟩) h1, g2 ok1 k1 k2⟩⟩
    | tree σ z =>
      obtain ⟨s, g0, ⟨cs, g3, g3', g3''⟩, g5⟩ := h1
      have rest : ∀ (ok1 : Nat → Prop) {rs : List ARes} {vs : List Value}, noTree rs = true → RetL F w ρ h n rs vs → (∀ b, (F b ∧ b < w.heap.size ∧ ∀ id, (hget h id).isVt = true → b ∉ (ρ id).bs) → ok1 b) → HRes w ok1 argv rs vs [] := by
        intro ok1 rs
        induction rs with
        | nil => intro vs _ hr _; exact ⟨hr, rfl⟩
        | cons r rs ih =>
          rintro vs hn ⟨v, vs', e, h1, h2⟩ k2
          subst e
          cases r with
          | data t x => exact ⟨v, vs', rfl, DVal.mono (fun b hb => ⟨k2 b hb, rfl⟩) h1, ih (by simpa [noTree] using hn) h2 k2⟩
          | tree σ z => simp [noTree] at hn
          | _ => exact h1.elim
      refine ⟨s.blocks, ⟨g0, g5⟩, fun ok1 k1 k2 => ⟨v, vs', s, [], rfl, by simp, ⟨cs, TCells.mono (fun b hb => ⟨k1 b hb, rfl⟩) _ _ _ _ (fun _ _ => rfl) g3, g3', g3''⟩, rest ok1 (by simpa [oneTree] using ho) h2 k2⟩⟩
    | _ => exact h1.elim
theorem OutL.vt {h : List AObj} : ∀ {as : List RVal} {i n : Nat} {os : List ARes}, OutL h as i n os → ∀ k, k < (entH as).length → (hget h (n + k)).isVt = true
  | [], i, n, os, _, k, hk => by simp [entH] at hk
  | a :: as, i, n, os, ho, k, hk => by
    cases a with
    | tree τ x =>
      obtain ⟨v1, τ', x', os', rfl, e1, _, h1⟩ := ho
      cases k with
      | zero => rw [Nat.add_zero, e1]; rfl
      | succ k =>
        rw [show n + (k + 1) = n + 1 + k by omega]
        exact OutL.vt h1 k (by simpa [entH] using hk)
    | _ => exact OutL.vt (as := as) (i := i + 1) (n := n) ho k hk
theorem vt_of {o : AObj} (h : o.isVt = true) : ∃ v τ x, o = .vt v τ x := by cases o <;> first | exact ⟨_, _, _, rfl⟩ | simp [AObj.isVt] at h
theorem blksFrom_nodup {B : Nat} {h : List AObj} (hH : HRel F B w ρ h) : ∀ {m n : Nat}, (∀ k, n ≤ k → k < n + m → (hget h k).isVt = true) → (blksFrom ρ n m).Nodup
  | 0, n, _ => by simp [blksFrom]
  | m + 1, n, hv => by
    obtain ⟨v, τ, x, e⟩ := vt_of (hv n (Nat.le_refl _) (by omega))
    obtain ⟨g1, g2, _⟩ := vt_orel hH.obj e
    refine List.nodup_append.2 ⟨g2, blksFrom_nodup hH fun k h1 h2 => hv k (by omega) (by omega), fun b hb b' hb' e' => ?_⟩
    subst e'
    obtain ⟨k, h1, h2, h3⟩ := mem_blksFrom hb'
    obtain ⟨v', τ', x', e'⟩ := vt_of (hv k (by omega) (by omega))
    obtain ⟨g1', _⟩ := vt_orel hH.obj e'
    have := hH.inj n k b (by rw [e]; rfl) (by rw [e']; rfl) (by rw [g1]; exact hb) (by rw [g1']; exact h3)
    omega
theorem fexec_sound (hT : TTOk P tt) (hE : EnvSound P G env) (hn : EnvNat env) (hM : P.follows .mixedOrders = true) (hL : Lasting G) {f : FuncId} {fn : Func} {c : Code} (hf : P.funcs[f]? = some fn) (hb : fn.body = some c) {subs : List Sub} (hS : SubsSound P G subs c) {args : List RVal} {K : List ARes → Option R} {r : R}
    (hk : fexec tt env subs fn c args K = some r) :
    ∀ (w : World) (ok : Nat → Prop) (vals : Array Value) (ls : List Loc), G w → (∀ b, ok b → b < w.heap.size ∧ b ∉ ls.flatMap Loc.bs) → (ls.flatMap Loc.bs).Nodup → (∀ b ∈ ls.flatMap Loc.bs, G.low ≤ b ∧ b < w.heap.size) → HL w ok (ls = []) args vals.toList ls →
      Calls P f vals w fun e w' => ∃ rs, K rs = some r ∧ ∃ vs gs, e = .returned (tupleOf vs) ∧ Near (fun b => b < w.heap.size ∧ b ∉ ls.flatMap Loc.bs) w w' ∧ gs.Nodup ∧ (∀ b ∈ gs, b < w'.heap.size ∧ (b ∈ ls.flatMap Loc.bs ∨ w.heap.size ≤ b)) ∧
        HRes w' (fun b => (ok b ∨ b ∈ ls.flatMap Loc.bs ∨ (w.heap.size ≤ b ∧ b < w'.heap.size)) ∧ b ∉ gs) vals.toList rs vs gs := by
  intro w ok vals ls hG hok hnd hlow hargs
  unfold fexec at hk
  cases hfs : fitSubs (entH args).length subs with
  | false => rw [hfs] at hk; simp at hk
  | true =>
    rw [hfs] at hk
    simp only [cond_true] at hk
    obtain ⟨hlen, hlen2⟩ := hargs.length
    let F : Fr := ⟨fun b => ok b ∨ b ∈ ls.flatMap Loc.bs ∨ w.heap.size ≤ b, fun b => b < w.heap.size ∧ b ∉ ls.flatMap Loc.bs, (entH args).length, fun k => (locAt ls k).cs⟩
    have hgood : Good G F w := ⟨hG, fun b hb => ⟨Nat.lt_of_lt_of_le hb hG.2, fun hm => by have := (hlow b hm).1; omega⟩⟩
    refine calls_of_wp hf hb ?_
    have hsz : vals.size = args.length := by simpa using hlen
    have owned : ∀ id b, (hget (entH args) id).owns = true → b ∈ (locAt ls id).bs → b ∈ ls.flatMap Loc.bs := fun id b _ hb => locAt_mem hb
    have dat : ∀ b, ok b → okOf F w (locAt ls) (entH args) b := fun b hb => ⟨.inl hb, (hok b hb).1, fun id ho hm => (hok b hb).2 (locAt_mem hm)⟩
    have hrel : Rel F w ⟨entT args 0 ++ undefs (fn.ntmps - args.length), entH args⟩ { tmps := vals ++ Array.replicate (fn.ntmps - vals.size) Go.undef, defers := [] } w := by
      have htl : (entT args 0).length = args.length := by
        have : ∀ (as : List RVal) (n : Nat), (entT as n).length = as.length := by
          intro as
          induction as with
          | nil => intro n; rfl
          | cons a as ih => intro n; cases a <;> simp [entT, ih]
        exact this args 0
      refine ⟨rfl, by simp [length_undefs, hsz, htl], Near.refl _ _, locAt ls, ⟨fun b hb => ?_, fun b hb => hb.1, Nat.le_refl _, fun k hk _ => rfl, fun id hid => ?_, fun id b ho hb => ?_, fun id id' b _ _ hb hb' => locAt_inj hnd hb hb'⟩, fun i => ?_⟩
      · by_cases h1 : b ∈ ls.flatMap Loc.bs
        · exact .inr (.inl h1)
        · exact .inr (.inr (Nat.le_of_not_lt fun h2 => hb ⟨h2, h1⟩))
      · obtain ⟨τ, x, h1, h2, h3⟩ := hargs.obj id hid
        rw [h1]
        exact ⟨h2, locAt_nodup hnd id, TCells.mono (fun b hb => ⟨dat b hb, rfl⟩) _ _ _ _ (fun _ _ => rfl) h3⟩
      · have hm := locAt_mem hb
        exact ⟨fun hk => hk.2 hm, (hlow b hm).2⟩
      · have := HL.vals (F := F) (ρ := locAt ls) (h := entH args) dat (fun hl b hb => ⟨hb, fun id _ hm => by subst hl; simp [locAt, Loc.nil] at hm⟩) (fn.ntmps - args.length) 0 i hargs (fun k hk => by simp; exact hk)
        rw [← hsz] at this ⊢
        simpa using this
    have fin : ∀ (st : St) (a : Act) (w' : World), endK (entH args).length tt fn args K st = some r → Rel F w st a w' →
        a.defers = [] ∧ ∃ v, (results fn a.tmps).run P w' = .ok v w' ∧ ∃ rs, K rs = some r ∧ ∃ vs gs, Ending.returned v = .returned (tupleOf vs) ∧ Near (fun b => b < w.heap.size ∧ b ∉ ls.flatMap Loc.bs) w w' ∧ gs.Nodup ∧ (∀ b ∈ gs, b < w'.heap.size ∧ (b ∈ ls.flatMap Loc.bs ∨ w.heap.size ≤ b)) ∧
          HRes w' (fun b => (ok b ∨ b ∈ ls.flatMap Loc.bs ∨ (w.heap.size ≤ b ∧ b < w'.heap.size)) ∧ b ∉ gs) vals.toList rs vs gs := by
      intro st a w' hk' hr
      obtain ⟨ρ, ho⟩ := hr.opened
      unfold endK at hk'
      obtain ⟨rs, vs, h1, h2, h3⟩ := retK_sound hT ho _ _ _ _ hk'
      cases h1t : oneTree rs with
      | false => rw [h1t] at h1; simp at h1
      | true =>
        rw [h1t] at h1
        simp only [cond_true] at h1
        obtain ⟨os, h4, h5⟩ := outsK_inv h1
        -- the blocks that go out
        obtain ⟨gr, ⟨g1, g1'⟩, g2⟩ := RetL.hres (argv := vals.toList) h3 h1t
        have hvt : ∀ k, 0 ≤ k → k < 0 + (entH args).length → (hget st.heap k).isVt = true := fun k _ hk => by
          have := h5.vt k (by simpa using hk)
          simpa using this
        have own0 : ∀ b ∈ blksFrom ρ 0 (entH args).length, ∃ id, id < (entH args).length ∧ (hget st.heap id).isVt = true ∧ b ∈ (ρ id).bs := fun b hb => by
          obtain ⟨k, _, k2, k3⟩ := mem_blksFrom hb
          have hv := hvt k (Nat.zero_le _) k2
          obtain ⟨v', τ', x', e'⟩ := vt_of hv
          obtain ⟨g, _⟩ := vt_orel ho.hrel.obj e'
          exact ⟨k, by omega, hv, by rw [g]; exact k3⟩
        have own1 : ∀ b ∈ gr, ∃ id, (entH args).length ≤ id ∧ (hget st.heap id).isVt = true ∧ b ∈ (ρ id).bs := fun b hb => by
          rcases g1 with g1 | ⟨id, q1, q2, q3⟩
          · rw [g1] at hb; simp at hb
          · exact ⟨id, q1, q2, q3 b hb⟩
        have own : ∀ b ∈ gr ++ blksFrom ρ 0 (entH args).length, ∃ id, (hget st.heap id).isVt = true ∧ b ∈ (ρ id).bs := fun b hb => by
          rcases List.mem_append.1 hb with hb | hb
          · obtain ⟨id, _, q2, q3⟩ := own1 b hb; exact ⟨id, q2, q3⟩
          · obtain ⟨id, _, q2, q3⟩ := own0 b hb; exact ⟨id, q2, q3⟩
        have hFb : ∀ b, F b → b < w'.heap.size → ok b ∨ b ∈ ls.flatMap Loc.bs ∨ (w.heap.size ≤ b ∧ b < w'.heap.size) := fun b hb hs => by
          rcases hb with hb | hb | hb
          · exact .inl hb
          · exact .inr (.inl hb)
          · exact .inr (.inr ⟨hb, hs⟩)
        refine ⟨hr.defers, _, run_results h2, rs ++ os, h4, vs, gr ++ blksFrom ρ 0 (entH args).length, rfl, ⟨hr.below.os, hr.below.tape, hr.below.output, hr.below.size, hr.below.block⟩, ?_, fun b hb => ?_, ?_⟩
        · refine List.nodup_append.2 ⟨g1', blksFrom_nodup ho.hrel hvt, fun b hb b' hb' e => ?_⟩
          subst e
          obtain ⟨id, q1, q2, q3⟩ := own1 b hb
          obtain ⟨id', p1, p2, p3⟩ := own0 b hb'
          have := ho.hrel.inj id id' b (isVt_owns q2) (isVt_owns p2) q3 p3
          omega
        · obtain ⟨id, q2, q3⟩ := own b hb
          obtain ⟨k1, k2⟩ := ho.hrel.own id b (isVt_owns q2) q3
          refine ⟨k2, ?_⟩
          by_cases hm : b ∈ ls.flatMap Loc.bs
          · exact .inl hm
          · exact .inr (Nat.le_of_not_lt fun hlt => k1 ⟨hlt, hm⟩)
        · have k1 : ∀ b, okOf F w' ρ st.heap b → (ok b ∨ b ∈ ls.flatMap Loc.bs ∨ (w.heap.size ≤ b ∧ b < w'.heap.size)) ∧ b ∉ gr ++ blksFrom ρ 0 (entH args).length := fun b hb => ⟨hFb b hb.1 hb.2.1, fun hm => by
            obtain ⟨id, q2, q3⟩ := own b hm
            exact hb.2.2 id (isVt_owns q2) q3⟩
          refine HRes.append (g2 _ k1 fun b hb => ⟨hFb b hb.1 hb.2.1, fun hm => by
            obtain ⟨id, q2, q3⟩ := own b hm
            exact hb.2.2 id q2 q3⟩) ?_
          refine OutL.hres (F := F) (h := st.heap) (w := w') k1 (fun n v τ x e => (vt_orel ho.hrel.obj e).2.2) h5 hargs (fun k hk hv => ?_) (fun j hj => by simp)
          rw [Nat.zero_add] at hv ⊢
          exact ho.hrel.arg k hk hv
    refine wp_mono (exec_sound hT hE hn hM hL hgood hS (fun k s hs => fitSubs_find hfs hs) c _ _ r _ w (fun _ _ hz => hz) hk hrel) fun e a' w' q => ?_
    cases e with
    | normal => obtain ⟨st, h1, h2⟩ := q; exact fin st a' w' h1 h2
    | ret => obtain ⟨st, h1, h2⟩ := q; exact fin st a' w' h1 h2
    | exit id => obtain ⟨st, h1, _⟩ := q; simp [exitK] at h1
    | goto l => exact q.elim
    | panic ch => exact q.elim
    | outgrown => exact q.elim
theorem near_nil {w w' : World} (h : Near (fun b => b < w.heap.size ∧ b ∉ ([] : List Loc).flatMap Loc.bs) w w') : Below w.heap.size w w' := ⟨h.os, h.tape, h.output, h.size, fun k hk => h.block k ⟨hk, by simp⟩⟩
theorem HRes.pure {ok ok1 : Nat → Prop} {argv : List Value} {B : Nat} (hok : ∀ b, ok b → ok1 b) : ∀ {rs : List ARes} {vs : List Value} {gs : List Nat}, hasT rs = false → HRes w ok argv rs vs gs → gs = [] ∧ ResList w ok1 B rs vs []
  | [], vs, gs, _, ⟨h1, h2⟩ => ⟨h2, h1, rfl⟩
  | .data t x :: rs, vs, gs, ht, ⟨v, vs', h1, h2, h3⟩ => by
    obtain ⟨g1, g2⟩ := HRes.pure (B := B) hok (rs := rs) ht h3
    exact ⟨g1, v, vs', h1, DVal.mono (fun b hb => ⟨hok b hb, rfl⟩) h2, g2⟩
  | .tree _ _ :: _, _, _, ht, _ => by simp [hasT] at ht
  | .out _ _ _ :: _, _, _, ht, _ => by simp [hasT] at ht
  | .own _ _ :: _, _, _, _, h => h.elim
  | .upd _ _ :: _, _, _, _, h => h.elim
theorem HL.weaken {ok : Nat → Prop} {p q : Prop} (hpq : p → q) : ∀ {as : List RVal} {vs : List Value} {ls : List Loc}, HL w ok p as vs ls → HL w ok q as vs ls
  | [], vs, ls, h => h
  | a :: as, vs, ls, h => by
    cases a with
    | tree τ x =>
      obtain ⟨v, vs', l, ls', h1, h2, h3, h4, h5, h6, h⟩ := h
      exact ⟨v, vs', l, ls', h1, h2, h3, h4, h5, h6, HL.weaken hpq h⟩
    | _ =>
      obtain ⟨v, vs', h1, h2, h⟩ := h
      exact ⟨v, vs', h1, ⟨h2.1, h2.2.imp (fun h => h) hpq⟩, HL.weaken hpq h⟩
theorem hand_of_fexec (hT : TTOk P tt) (hE : EnvSound P G env) (hn : EnvNat env) (hM : P.follows .mixedOrders = true) (hL : Lasting G) {f : FuncId} {fn : Func} {c : Code} (hf : P.funcs[f]? = some fn) (hb : fn.body = some c) {subs : List Sub} (hS : SubsSound P G subs c) {args : List RVal} {K : List ARes → Option R} {r : R}
    (hk : fexec tt env subs fn c args K = some r) {rs : List ARes} (hrs : ∀ rs', K rs' = some r → rs' = rs) : HandCall P G f args rs := by
  intro w ok vals hs hG hok hnd hlow hargs
  obtain ⟨ls, h1, rfl⟩ := hargs.hl (lone := False)
  refine (fexec_sound hT hE hn hM hL hf hb hS hk w ok vals ls hG hok hnd hlow (h1.weaken False.elim)).mono ?_
  rintro e w' ⟨rs', k1, vs, gs, k2, k3, k4, k5, k6⟩
  rw [hrs rs' k1] at k6
  exact ⟨vs, gs, k2, k3, k4, k5, k6⟩
theorem pure_of_fexec (hT : TTOk P tt) (hE : EnvSound P G env) (hn : EnvNat env) (hM : P.follows .mixedOrders = true) (hL : Lasting G) {f : FuncId} {fn : Func} {c : Code} (hf : P.funcs[f]? = some fn) (hb : fn.body = some c) {subs : List Sub} (hS : SubsSound P G subs c) {args : List RVal} {K : List ARes → Option R} {r : R}
    (hk : fexec tt env subs fn c args K = some r) {rs : List ARes} (hrs : ∀ rs', K rs' = some r → rs' = rs) (hnt : ∀ τ x, RVal.tree τ x ∉ args) (ht : hasT rs = false) : PureCall P G f args rs := by
  intro w ok vals hG hok hargs
  refine (fexec_sound hT hE hn hM hL hf hb hS hk w ok vals [] hG (fun b hb => ⟨hok b hb, by simp⟩) (by simp) (fun b hb => by simp at hb) ((ArgsRel.hl hnt hargs).weaken fun _ => rfl)).mono ?_
  rintro e w' ⟨rs', k1, vs, gs, k2, k3, k4, k5, k6⟩
  rw [hrs rs' k1] at k6
  obtain ⟨rfl, h⟩ := HRes.pure (ok1 := fun b => (ok b ∨ (w.heap.size ≤ b ∧ b < w'.heap.size)) ∧ b ∉ []) (B := w.heap.size) (fun b hb => ⟨by
    rcases hb.1 with h | h | h
    · exact .inl h
    · simp at h
    · exact .inr h, by simp⟩) ht k6
  exact ⟨vs, [], k2, near_nil k3, h⟩
end
end Go.PB
