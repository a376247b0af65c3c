/-
  The second part of the proof that the interpreter is sound; tables of functions.
-/
import Derived.Test.YtjbaeojagkkbgaaDoorQA
import Derived.Great.BuildSlice
import Derived.Deep.LoopGhost
import Derived.Tactics
import Derived.KernelRfl
set_option linter.unusedVariables false
namespace Go.PB
open Go Go.RowKit

theorem Cells.plain {w w' : World} {ok ok' : Nat → Prop} : ∀ (t : Ty) (x : t.C) (cs : List Value), t.refs = false → Cells w ok t x cs → Cells w' ok' t x cs
  | .int _, _, _, _, h => h
  | .bool, _, _, _, h => h
  | .str, _, _, _, h => h
  | .unit, _, _, _, h => h
  | .list _, _, _, hr, _ => by simp [Ty.refs] at hr
  | .pair a b, x, _, hr, ⟨c1, c2, e, h1, h2⟩ => by
    simp only [Ty.refs, Bool.or_eq_false_iff] at hr
    exact ⟨c1, c2, e, Cells.plain a x.1 c1 hr.1 h1, Cells.plain b x.2 c2 hr.2 h2⟩
  | .agg t, x, cs, hr, h => Cells.plain t x cs hr h

section
variable {F : Nat → Prop} {P : Program} {G : World → Prop} {w0 w w' : World} {st : St} {a : Act} {ρ : Nat → Option Nat} {h : List AObj} {R : Type}

/-- A row that is frozen. -/
theorem Open.freeze (ho : Open F w0 st a w ρ) {id ver : Nat} {t : Ty} {l : List t.C} (he : hget st.heap id = .row ver t l) : Open F w0 ⟨st.tmps, hset st.heap id (.frow ver t l)⟩ a w ρ := by
  have hl : id < st.heap.length := by
    rcases Nat.lt_or_ge id st.heap.length with h | h
    · exact h
    · rw [hget_ge _ _ h] at he; cases he
  have hself : hget (hset st.heap id (.frow ver t l)) id = .frow ver t l := hget_hset_self hl
  have hne : ∀ i, i ≠ id → hget (hset st.heap id (.frow ver t l)) i = hget st.heap i := fun i hi => hget_hset_ne hi
  have owns' : ∀ i, (hget (hset st.heap id (.frow ver t l)) i).owns = true → i ≠ id ∧ (hget st.heap i).owns = true := fun i hi => by
    by_cases e : i = id
    · subst e; rw [hself] at hi; simp [AObj.owns] at hi
    · exact ⟨e, by rw [hne i e] at hi; exact hi⟩
  have live : ∀ b, liveOf w ρ st.heap b → liveOf w ρ (hset st.heap id (.frow ver t l)) b ∧ w.heap[b]? = w.heap[b]? := fun b hb => ⟨⟨hb.1, fun i hi hr => hb.2 i (owns' i hi).2 hr⟩, rfl⟩
  have dat : ∀ b, okOf F w ρ st.heap b → okOf F w ρ (hset st.heap id (.frow ver t l)) b ∧ w.heap[b]? = w.heap[b]? := fun b hb => ⟨⟨hb.1, (live b hb.2).1⟩, rfl⟩
  have hob := ho.hrel.obj id hl
  rw [he] at hob
  have k : Keeps w ρ st.heap (okOf F w ρ st.heap) w ρ (hset st.heap id (.frow ver t l)) (okOf F w ρ (hset st.heap id (.frow ver t l))) := by
    refine ⟨dat, live, by rw [length_hset]; exact Nat.le_refl _, ?_, ?_, ?_, ?_⟩
    · intro i v val hi hs
      by_cases e : i = id
      · subst e
        rw [he] at hs; rw [hself]
        intro ev
        rcases hs.2 ev with ⟨h1, rfl⟩ | ⟨b, c, cs, T, h1, rfl, h3, h4, h5⟩
        · rcases hob with ⟨_, h0⟩ | ⟨b, _, _, _, _, hb, _⟩
          · exact ⟨none, 0, by rw [h0]; rfl, by rw [h0]; exact Nat.le_refl _, .inl h0⟩
          · rw [h1] at hb; cases hb
        · rcases hob with ⟨h0, _⟩ | ⟨b', cs', T', cc, rest, hb, hrow, ecc, hrc⟩
          · rw [h1] at h0; cases h0
          · obtain rfl : b = b' := by rw [h1] at hb; simpa using hb
            refine ⟨_, c, rfl, h5, .inr ⟨b, 0, cc, rfl, ⟨ho.hrel.base b (ho.hrel.own i b (by rw [he]; rfl) h1).1, lt_of_heap hrow, fun j hj hr => ?_⟩, RowC.mono (fun x cs => Cells.mono dat t x cs) l cc hrc, fun j u hj => ?_⟩⟩
            · exact (owns' j hj).1 (ho.hrel.inj j i b (owns' j hj).2 (by rw [he]; rfl) hr h1)
            · rw [Nat.zero_add, cell_of_row w b j cs' T' _ hrow, ← Array.getElem?_toList, ecc, List.getElem?_append_left (List.getElem?_eq_some_iff.1 hj).1]; exact hj
      · rw [hne i e]
        cases hoi : hget st.heap i with
        | row v' t l => rw [hoi] at hs; exact hs
        | frow v' t l => rw [hoi] at hs; exact fun e => SliceW.mono dat (hs e)
        | none => trivial
        | box t x => trivial
        | iter s p => trivial
    · intro i p val hi hs
      by_cases e : i = id
      · subst e; rw [hself]; trivial
      · rw [hne i e]; exact hs
    · intro i v j p val hi hs
      by_cases e : i = id
      · subst e; rw [hself]; trivial
      · rw [hne i e]; exact hs
    · intro i val hi hs
      by_cases e : i = id
      · subst e; rw [hself]; trivial
      · rw [hne i e]; exact hs
  refine ⟨ho.defers, ho.size, ho.below, ⟨ho.hrel.base, fun i hi => ?_, fun i b hi hr => ho.hrel.own i b (owns' i hi).2 hr, fun i j b hi hj hr hr' => ho.hrel.inj i j b (owns' i hi).2 (owns' j hj).2 hr hr'⟩, fun i => VRel.keeps k _ _ (ho.vals i)⟩
  show ORel w ρ _ i (hget (hset st.heap id (.frow ver t l)) i)
  by_cases e : i = id
  · subst e; rw [hself]; trivial
  · rw [hne i e]
    exact ORel.keeps dat rfl (fun _ _ _ => rfl) (ho.hrel.obj i (by simpa [length_hset] using hi))

/-- Is it a list of rows as they lie in h? -/
def RowsIn (h : List AObj) : List RVal → Prop
  | [] => True
  | .row id v t l :: r => (hget h id = .row v t l ∨ hget h id = .frow v t l) ∧ RowsIn h r
  | _ :: r => RowsIn h r

theorem hset_same {h : List AObj} {id : Nat} {o : AObj} (he : hget h id = o) : hset h id o = h := by
  induction h generalizing id with
  | nil => rfl
  | cons x h ih =>
    cases id with
    | zero => simp [hget] at he; simp [hset, he]
    | succ n => simp [hget] at he; simp [hset, ih he]

theorem RowsIn.set {h : List AObj} {id ver : Nat} {t : Ty} {l : List t.C} (he : hget h id = .row ver t l ∨ hget h id = .frow ver t l) : ∀ {rs : List RVal}, RowsIn h rs → RowsIn (hset h id (.frow ver t l)) rs
  | [], _ => trivial
  | .row id' v' t' l' :: r, ⟨h1, h2⟩ => by
    refine ⟨?_, RowsIn.set he h2⟩
    by_cases e : id' = id
    · subst e
      have hl : id' < h.length := by
        rcases Nat.lt_or_ge id' h.length with h | h
        · exact h
        · rw [hget_ge _ _ h] at he; rcases he with he | he <;> cases he
      rw [hget_hset_self hl]
      right
      rcases he with he | he <;> rcases h1 with h1 | h1 <;> rw [he] at h1
      · injection h1 with e1 e2 e3; subst e1 e2; obtain rfl := eq_of_heq e3; rfl
      · cases h1
      · cases h1
      · exact h1
    · rw [hget_hset_ne e]; exact h1
  | .data .. :: r, h2 => RowsIn.set (rs := r) he h2
  | .box .. :: r, h2 => RowsIn.set (rs := r) he h2
  | .rptr .. :: r, h2 => RowsIn.set (rs := r) he h2
  | .elem .. :: r, h2 => RowsIn.set (rs := r) he h2
  | .iter .. :: r, h2 => RowsIn.set (rs := r) he h2
  | .fn .. :: r, h2 => RowsIn.set (rs := r) he h2
  | .tnil :: r, h2 => RowsIn.set (rs := r) he h2
  | .tcons .. :: r, h2 => RowsIn.set (rs := r) he h2
  | .nils :: r, h2 => RowsIn.set (rs := r) he h2
  | .nilp :: r, h2 => RowsIn.set (rs := r) he h2
  | .dead :: r, h2 => RowsIn.set (rs := r) he h2

theorem Open.freezeAll : ∀ {rs : List RVal} {st : St}, Open F w0 st a w ρ → RowsIn st.heap rs → Open F w0 ⟨st.tmps, freezeRows rs st.heap⟩ a w ρ
  | [], _, ho, _ => ho
  | .row id v t l :: r, st, ho, ⟨h1, h2⟩ => by
    rcases h1 with h1 | h1
    · exact Open.freezeAll (st := ⟨st.tmps, hset st.heap id (.frow v t l)⟩) (ho.freeze h1) (RowsIn.set (.inl h1) h2)
    · show Open F w0 ⟨st.tmps, freezeRows r (hset st.heap id (.frow v t l))⟩ a w ρ
      rw [hset_same h1]
      exact Open.freezeAll ho h2
  | .data .. :: r, _, ho, h2 => Open.freezeAll (rs := r) ho h2
  | .box .. :: r, _, ho, h2 => Open.freezeAll (rs := r) ho h2
  | .rptr .. :: r, _, ho, h2 => Open.freezeAll (rs := r) ho h2
  | .elem .. :: r, _, ho, h2 => Open.freezeAll (rs := r) ho h2
  | .iter .. :: r, _, ho, h2 => Open.freezeAll (rs := r) ho h2
  | .fn .. :: r, _, ho, h2 => Open.freezeAll (rs := r) ho h2
  | .tnil :: r, _, ho, h2 => Open.freezeAll (rs := r) ho h2
  | .tcons .. :: r, _, ho, h2 => Open.freezeAll (rs := r) ho h2
  | .nils :: r, _, ho, h2 => Open.freezeAll (rs := r) ho h2
  | .nilp :: r, _, ho, h2 => Open.freezeAll (rs := r) ho h2
  | .dead :: r, _, ho, h2 => Open.freezeAll (rs := r) ho h2

end
end Go.PB
namespace Go.PB
open Go Go.RowKit
section
variable {F : Nat → Prop} {P : Program} {G : World → Prop} {w0 w w' : World} {st : St} {a : Act} {ρ : Nat → Option Nat} {R : Type}

/-! ## What is handed over -/
/-- Plain memory, and the blocks of the rows that are handed over. -/
def okArgs (F : Nat → Prop) (w : World) (ρ : Nat → Option Nat) (h : List AObj) (rs : List RVal) (b : Nat) : Prop :=
  okOf F w ρ h b ∨ ∃ id ver t l, RVal.row id ver t l ∈ rs ∧ hget h id = .row ver t l ∧ ρ id = some b

/-- Resolved values and the values that they are. -/
inductive Zip (F : Nat → Prop) (w : World) (ρ : Nat → Option Nat) (h : List AObj) : List RVal → List Value → Prop
  | nil : Zip F w ρ h [] []
  | cons (u : AVal) (v : Value) {rs : List RVal} {vs : List Value} : VRel w ρ h (okOf F w ρ h) u v → Zip F w ρ h rs vs → Zip F w ρ h (res h u :: rs) (v :: vs)

theorem Zip.append {h : List AObj} : ∀ {rs rs' : List RVal} {vs vs' : List Value}, Zip F w ρ h rs vs → Zip F w ρ h rs' vs' → Zip F w ρ h (rs ++ rs') (vs ++ vs')
  | _, _, _, _, .nil, h' => h'
  | _, _, _, _, .cons u v h1 h2, h' => .cons u v h1 (Zip.append h2 h')

theorem zip_args (h : Open F w0 st a w ρ) : ∀ l : List Operand, Zip F w ρ st.heap (l.map fun x => res st.heap (PB.ev st.tmps x)) (l.map a.eval)
  | [] => .nil
  | x :: l => .cons _ _ (h.ev x) (zip_args h l)

theorem zip_caps {h : List AObj} : ∀ (c : AVal) (vs : List Value), VList w ρ h (okOf F w ρ h) c vs → Zip F w ρ h (res h c).flat vs
  | .tnil, vs, hv => by simp only [VList] at hv; subst hv; exact .nil
  | .tcons a b, _, ⟨v, vs', e, h1, h2⟩ => by subst e; exact .cons a v h1 (zip_caps b vs' h2)
  | .data .., _, hv => hv.elim
  | .osl .., _, hv => hv.elim
  | .ptr .., _, hv => hv.elim
  | .rptr .., _, hv => hv.elim
  | .eptr .., _, hv => hv.elim
  | .iter .., _, hv => hv.elim
  | .fn .., _, hv => hv.elim
  | .nils, _, hv => hv.elim
  | .nilp, _, hv => hv.elim
  | .undef, _, hv => hv.elim
  | .dead, _, hv => hv.elim

theorem box_rptr {h : List AObj} {okA : Nat → Prop} (hH : ∀ id, id < h.length → ORel w ρ (okOf F w ρ h) id (hget h id)) (hok : ∀ b, okOf F w ρ h b → okA b) {id : Nat} {p : List Nat} {t : Ty} {x : t.C} {val : Value}
    (hv : VRel w ρ h (okOf F w ρ h) (.ptr id p) val) (ho : hget h id = .box t x) {t' : Ty} {y : t'.C} (hg : (Ty.getK p t x fun t' y => some (⟨t', y⟩ : (t : Ty) × t.C)) = some ⟨t', y⟩) : ARel w okA (.rptr t' y) val := by
  obtain ⟨hl, hpt⟩ := hv
  rw [ho] at hpt
  obtain ⟨t2, y2, off, e2, hpo, hparts⟩ := getK_inv hg
  simp only [Option.some.injEq, Sigma.mk.injEq] at e2
  obtain ⟨rfl, e2⟩ := e2
  obtain rfl := eq_of_heq e2
  obtain ⟨b, off', t3, hb, hoff, rfl⟩ := hpt
  rw [hpo] at hoff
  simp only [Option.some.injEq, Prod.mk.injEq] at hoff
  obtain ⟨rfl, rfl⟩ := hoff
  have hob := hH id hl
  rw [ho] at hob
  obtain ⟨b', cs, T, hb', hrow, hcs⟩ := hob
  obtain rfl : b = b' := by rw [hb] at hb'; simpa using hb'
  obtain ⟨c1, c2, c3, ecs, hl1, h2⟩ := hparts hcs
  refine ⟨b, off, c2, rfl, lt_of_heap hrow, Cells.mono (fun b hb => ⟨hok b hb, rfl⟩) _ _ _ h2, fun j u hj => ?_⟩
  rw [cell_of_row w b _ cs T _ hrow, ← Array.getElem?_toList, ecs]
  have hlt : j < c2.length := (List.getElem?_eq_some_iff.1 hj).1
  rw [List.getElem?_append_right (by omega), hl1, Nat.add_sub_cancel_left, List.getElem?_append_left hlt]; exact hj

theorem arel_caps {h : List AObj} {okA : Nat → Prop} (hH : ∀ id, id < h.length → ORel w ρ (okOf F w ρ h) id (hget h id)) (hok : ∀ b, okOf F w ρ h b → okA b) (hlt : ∀ b, liveOf w ρ h b → b < w.heap.size) :
    ∀ (c : AVal), (∀ (val : Value), VRel w ρ h (okOf F w ρ h) c val → ARel w okA (borrowC (res h c)) val) ∧ (∀ (vs : List Value), VList w ρ h (okOf F w ρ h) c vs → ARel.AList w okA (borrowC (res h c)) vs) := by
  intro c
  induction c with
  | data t x => exact ⟨fun val hv => DVal.mono (fun b hb => ⟨hok b hb, rfl⟩) hv, fun vs hv => hv.elim⟩
  | tnil => exact ⟨fun _ _ => trivial, fun vs hv => hv⟩
  | tcons a b iha ihb => exact ⟨fun _ _ => trivial, fun vs ⟨v, vs', e, h1, h2⟩ => ⟨v, vs', e, iha.1 v h1, ihb.2 vs' h2⟩⟩
  | rptr t x =>
    refine ⟨fun val ⟨b, o, cs, e, hb, hc, hj⟩ => ⟨b, o, cs, e, hlt b hb, Cells.mono (fun b hb => ⟨hok b hb, rfl⟩) _ _ _ hc, hj⟩, fun vs hv => hv.elim⟩
  | ptr id p =>
    refine ⟨fun val hv => ?_, fun vs hv => hv.elim⟩
    simp only [res]
    cases ho : hget h id with
    | box t x =>
      simp only [borrowC]
      split
      · rename_i t' y hg; exact box_rptr hH hok hv ho hg
      · trivial
    | _ => trivial
  | fn f c ih =>
    refine ⟨fun val ⟨vs, e, hv⟩ => ?_, fun vs hv => hv.elim⟩
    cases c with
    | tnil => exact ⟨vs, e, hv⟩
    | data t x => exact hv.elim
    | _ => simp only [res]; first | trivial | (split <;> trivial) | (split <;> (try split) <;> trivial)
  | osl id ver =>
    refine ⟨fun val hv => ?_, fun vs hv => hv.elim⟩
    simp only [res]
    cases ho : hget h id with
    | row v' t l => simp only []; cases hc : (ver == v') <;> trivial
    | frow v' t l =>
      cases hc : (ver == v') with
      | true =>
        have : res h (.osl id ver) = .data (.list t) l := by simp [res, ho, hc]
        simp only [hc, cond_true, borrowC]
        exact DVal.mono (fun b hb => ⟨hok b hb, rfl⟩) (res_data hv this)
      | false => simp only [hc, cond_false, borrowC]; trivial
    | _ => trivial
  | eptr id v i p =>
    refine ⟨fun val hv => ?_, fun vs hv => hv.elim⟩
    simp only [res]
    cases ho : hget h id with
    | row v' t l => simp only []; cases hc : (v == v') <;> trivial
    | _ => trivial
  | iter id =>
    refine ⟨fun val hv => ?_, fun vs hv => hv.elim⟩
    simp only [res]
    cases ho : hget h id <;> trivial
  | nils => exact ⟨fun _ _ => trivial, fun vs hv => hv.elim⟩
  | nilp => exact ⟨fun _ _ => trivial, fun vs hv => hv.elim⟩
  | undef => exact ⟨fun _ _ => trivial, fun vs hv => hv.elim⟩
  | dead => exact ⟨fun _ _ => trivial, fun vs hv => hv.elim⟩

/-- A value that is handed over, as the callee has it. -/
theorem arel_borrow {h : List AObj} {okA : Nat → Prop} (hH : HRel F w0.heap.size w ρ h) (hok : ∀ b, okOf F w ρ h b → okA b) {u : AVal} {val : Value} (hv : VRel w ρ h (okOf F w ρ h) u val)
    (hrow : ∀ id ver t l b, res h u = .row id ver t l → hget h id = .row ver t l → ρ id = some b → okA b) : ARel w okA (borrow (res h u)) val := by
  have hlt : ∀ b, liveOf w ρ h b → b < w.heap.size := fun b hb => hb.1
  cases hu : res h u with
  | data t x => exact DVal.mono (fun b hb => ⟨hok b hb, rfl⟩) (res_data hv hu)
  | row id ver t l =>
    obtain ⟨hl, ho, rfl, hx'⟩ := row_osl hv hu
    have hob := hH.obj id hl
    rw [ho] at hob
    rcases hx' with ⟨hn, rfl⟩ | ⟨b, c, cs, T, hb, rfl, hr, hsz, hlc⟩
    · rcases hob with ⟨_, rfl⟩ | ⟨b, _, _, _, _, hb, _⟩
      · exact dval_list ⟨none, 0, rfl, Nat.le_refl _, .inl rfl⟩
      · rw [hn] at hb; cases hb
    · rcases hob with ⟨hn, _⟩ | ⟨b', cs', T', cc, rest, hb', hr', ecc, hrc⟩
      · rw [hn] at hb; cases hb
      · obtain rfl : b = b' := by rw [hb] at hb'; simpa using hb'
        refine dval_list ⟨_, c, rfl, hlc, .inr ⟨b, 0, cc, rfl, hrow id ver t l b hu ho hb, RowC.mono (fun x cs => Cells.mono (fun b hb => ⟨hok b hb, rfl⟩) t x cs) l cc hrc, fun j v hj => ?_⟩⟩
        rw [Nat.zero_add, cell_of_row w b j cs' T' _ hr', ← Array.getElem?_toList, ecc, List.getElem?_append_left (List.getElem?_eq_some_iff.1 hj).1]; exact hj
  | box id t x p =>
    obtain ⟨rfl, ho⟩ := res_box hu
    simp only [borrow]
    split
    · rename_i t' y hg; exact box_rptr hH.obj hok hv ho hg
    · trivial
  | elem id ver t l i p =>
    obtain ⟨rfl, ho⟩ := res_elem hu
    simp only [borrow]
    cases hil : decide (i < l.length) with
    | false => trivial
    | true =>
      simp only [cond_true]
      split
      · rename_i t' y hg
        obtain ⟨hl, hpt⟩ := hv
        rw [ho] at hpt
        obtain ⟨hil', b, off', t3, hb, hoff, rfl⟩ := hpt.2 rfl
        obtain ⟨t2, y2, off, e2, hpo, hparts⟩ := getK_inv hg
        simp only [Option.some.injEq, Sigma.mk.injEq] at e2
        obtain ⟨rfl, e2⟩ := e2
        obtain rfl := eq_of_heq e2
        rw [hpo] at hoff
        simp only [Option.some.injEq, Prod.mk.injEq] at hoff
        obtain ⟨rfl, rfl⟩ := hoff
        have hob := hH.obj id hl
        rw [ho] at hob
        rcases hob with ⟨hn, _⟩ | ⟨b', cs, T, cc, rest, hb', hr, hcs, hrc⟩
        · rw [hn] at hb; cases hb
        · obtain rfl : b = b' := by rw [hb] at hb'; simpa using hb'
          obtain ⟨ce, hce, hcl, hgt⟩ := RowC.get (fun x cs => Cells.length t x cs) t.zero l cc i hrc hil'
          obtain ⟨c1, c2, c3, ecs, hl1, h2⟩ := hparts hce
          refine ⟨b, i * t.width + off, c2, rfl, lt_of_heap hr, Cells.mono (fun b hb => ⟨hok b hb, rfl⟩) _ _ _ h2, fun j u hj => ?_⟩
          have hlt : j < c2.length := (List.getElem?_eq_some_iff.1 hj).1
          have h3 : ce[off + j]? = some u := by
            rw [ecs, List.getElem?_append_right (by omega), hl1, Nat.add_sub_cancel_left, List.getElem?_append_left hlt]; exact hj
          have h4 := hgt _ _ h3
          rw [cell_of_row w b _ cs T _ hr, ← Array.getElem?_toList, hcs, Nat.add_assoc, List.getElem?_append_left (List.getElem?_eq_some_iff.1 h4).1]; exact h4
      · trivial
  | rptr t x =>
    obtain ⟨rfl, b, o, cs, e, hb, hc, hj⟩ := res_rptr hv hu
    exact ⟨b, o, cs, e, hlt b hb, Cells.mono (fun b hb => ⟨hok b hb, rfl⟩) _ _ _ hc, hj⟩
  | iter id s pos => trivial
  | fn f c =>
    obtain ⟨c', rfl, rfl⟩ := res_fn hu
    obtain ⟨vs, e, hvs⟩ := hv
    exact ⟨vs, e, (arel_caps hH.obj hok hlt c').2 vs hvs⟩
  | tnil => trivial
  | tcons a b => trivial
  | nils => rw [res_nils hu] at hv; exact hv
  | nilp =>
    have : u = .nilp := by
      cases u with
      | nilp => rfl
      | ptr id p => simp only [res] at hu; split at hu <;> simp at hu
      | osl id ver => simp only [res] at hu; split at hu <;> (try (cases hc : (ver == ‹Nat›) <;> simp [hc] at hu)) <;> simp at hu
      | eptr id v i p => simp only [res] at hu; split at hu <;> (try (cases hc : (v == ‹Nat›) <;> simp [hc] at hu)) <;> simp at hu
      | iter id => simp only [res] at hu; split at hu <;> simp at hu
      | _ => simp [res] at hu
    rw [this] at hv; exact hv
  | dead => trivial

theorem args_rel {h : List AObj} {okA : Nat → Prop} (hH : HRel F w0.heap.size w ρ h) (hok : ∀ b, okOf F w ρ h b → okA b) : ∀ {rs : List RVal} {vs : List Value}, Zip F w ρ h rs vs →
    (∀ id ver t l b, RVal.row id ver t l ∈ rs → hget h id = .row ver t l → ρ id = some b → okA b) → ArgsRel w okA (rs.map borrow) vs
  | _, _, .nil, _ => rfl
  | _, _, .cons u v h1 h2, hr => ⟨v, _, rfl, arel_borrow hH hok h1 (fun id ver t l b e ho hb => hr id ver t l b (by rw [← e]; exact List.mem_cons_self) ho hb), args_rel hH hok h2 (fun id ver t l b hm => hr id ver t l b (List.mem_cons_of_mem _ hm))⟩

theorem rowsIn_of_zip {h : List AObj} : ∀ {rs : List RVal} {vs : List Value}, Zip F w ρ h rs vs → RowsIn h (rowsOf rs)
  | _, _, .nil => trivial
  | _, _, .cons u v h1 h2 => by
    have ih := rowsIn_of_zip h2
    cases hu : res h u with
    | row id ver t l => exact ⟨.inl (res_row hu).2, ih⟩
    | _ => exact ih

theorem mem_rowsOf {id ver : Nat} {t : Ty} {l : List t.C} : ∀ {rs : List RVal}, RVal.row id ver t l ∈ rs → RVal.row id ver t l ∈ rowsOf rs
  | r :: rs, h => by
    rcases List.mem_cons.1 h with e | e
    · rw [← e]; exact List.mem_cons_self
    · have := mem_rowsOf e
      cases r <;> first | exact this | exact List.mem_cons_of_mem _ this

/-- Behind the freezing no object owns what was handed over. -/
theorem freezeRows_owns {h : List AObj} (hi : Nat) : ∀ {rs : List RVal} {h : List AObj}, (hget (freezeRows rs h) hi).owns = true → (hget h hi).owns = true ∧ ∀ ver t l, RVal.row hi ver t l ∈ rs → hi < h.length → False
  | [], _, ho => ⟨ho, fun _ _ _ hm => by cases hm⟩
  | .row id v t l :: r, h, ho => by
    obtain ⟨h1, h2⟩ := freezeRows_owns hi (rs := r) (h := hset h id (.frow v t l)) ho
    by_cases e : hi = id ∧ id < h.length
    · obtain ⟨rfl, hl⟩ := e
      rw [hget_hset_self hl] at h1; simp [AObj.owns] at h1
    · refine ⟨by rw [hget_hset] at h1; rw [if_neg (fun e' => e ⟨e'.1.symm, e'.2⟩)] at h1; exact h1, fun ver t' l' hm hl => ?_⟩
      rcases List.mem_cons.1 hm with e' | e'
      · injection e' with e1; exact e ⟨e1, e1 ▸ hl⟩
      · exact h2 ver t' l' e' (by rw [length_hset]; exact hl)
  | .data .. :: r, h, ho => ⟨(freezeRows_owns hi (rs := r) (h := h) ho).1, fun v t l hm hl => (freezeRows_owns hi (rs := r) (h := h) ho).2 v t l ((List.mem_cons.1 hm).resolve_left (fun e => by cases e)) hl⟩
  | .box .. :: r, h, ho => ⟨(freezeRows_owns hi (rs := r) (h := h) ho).1, fun v t l hm hl => (freezeRows_owns hi (rs := r) (h := h) ho).2 v t l ((List.mem_cons.1 hm).resolve_left (fun e => by cases e)) hl⟩
  | .rptr .. :: r, h, ho => ⟨(freezeRows_owns hi (rs := r) (h := h) ho).1, fun v t l hm hl => (freezeRows_owns hi (rs := r) (h := h) ho).2 v t l ((List.mem_cons.1 hm).resolve_left (fun e => by cases e)) hl⟩
  | .elem .. :: r, h, ho => ⟨(freezeRows_owns hi (rs := r) (h := h) ho).1, fun v t l hm hl => (freezeRows_owns hi (rs := r) (h := h) ho).2 v t l ((List.mem_cons.1 hm).resolve_left (fun e => by cases e)) hl⟩
  | .iter .. :: r, h, ho => ⟨(freezeRows_owns hi (rs := r) (h := h) ho).1, fun v t l hm hl => (freezeRows_owns hi (rs := r) (h := h) ho).2 v t l ((List.mem_cons.1 hm).resolve_left (fun e => by cases e)) hl⟩
  | .fn .. :: r, h, ho => ⟨(freezeRows_owns hi (rs := r) (h := h) ho).1, fun v t l hm hl => (freezeRows_owns hi (rs := r) (h := h) ho).2 v t l ((List.mem_cons.1 hm).resolve_left (fun e => by cases e)) hl⟩
  | .tnil :: r, h, ho => ⟨(freezeRows_owns hi (rs := r) (h := h) ho).1, fun v t l hm hl => (freezeRows_owns hi (rs := r) (h := h) ho).2 v t l ((List.mem_cons.1 hm).resolve_left (fun e => by cases e)) hl⟩
  | .tcons .. :: r, h, ho => ⟨(freezeRows_owns hi (rs := r) (h := h) ho).1, fun v t l hm hl => (freezeRows_owns hi (rs := r) (h := h) ho).2 v t l ((List.mem_cons.1 hm).resolve_left (fun e => by cases e)) hl⟩
  | .nils :: r, h, ho => ⟨(freezeRows_owns hi (rs := r) (h := h) ho).1, fun v t l hm hl => (freezeRows_owns hi (rs := r) (h := h) ho).2 v t l ((List.mem_cons.1 hm).resolve_left (fun e => by cases e)) hl⟩
  | .nilp :: r, h, ho => ⟨(freezeRows_owns hi (rs := r) (h := h) ho).1, fun v t l hm hl => (freezeRows_owns hi (rs := r) (h := h) ho).2 v t l ((List.mem_cons.1 hm).resolve_left (fun e => by cases e)) hl⟩
  | .dead :: r, h, ho => ⟨(freezeRows_owns hi (rs := r) (h := h) ho).1, fun v t l hm hl => (freezeRows_owns hi (rs := r) (h := h) ho).2 v t l ((List.mem_cons.1 hm).resolve_left (fun e => by cases e)) hl⟩

theorem okArgs_frozen {h : List AObj} (hH : HRel F w0.heap.size w ρ h) {rs : List RVal} {b : Nat} (hb : okArgs F w ρ h rs b) : okOf F w ρ (freezeRows (rowsOf rs) h) b := by
  rcases hb with hb | ⟨id, ver, t, l, hm, ho, hr⟩
  · exact ⟨hb.1, hb.2.1, fun i hi => hb.2.2 i (freezeRows_owns (h := h) i hi).1⟩
  · refine ⟨hH.base b (hH.own id b (by rw [ho]; rfl) hr).1, (hH.own id b (by rw [ho]; rfl) hr).2, fun i hi hri => ?_⟩
    obtain ⟨h1, h2⟩ := freezeRows_owns (h := h) i hi
    obtain rfl := hH.inj i id b h1 (by rw [ho]; rfl) hri hr
    have hl : i < h.length := by
      rcases Nat.lt_or_ge i h.length with h' | h'
      · exact h'
      · rw [hget_ge _ _ h'] at ho; cases ho
    exact h2 ver t l (mem_rowsOf hm) hl

end
end Go.PB

namespace Go.PB
open Go Go.RowKit

section
variable {F : Nat → Prop} {P : Program} {G : World → Prop} {env : Env} {w0 w w' : World} {st : St} {a : Act} {ρ : Nat → Option Nat} {R : Type}

/-- Later, when all that was there is as it was. -/
theorem Open.later (h : Open F w0 st a w ρ) (hb : Below w.heap.size w w') : Open F w0 st a w' ρ := by
  have hno : ∀ id b, st.heap.length ≤ id → (hget st.heap id).owns = true → ρ id = some b → False := fun id b hid ho _ => by
    rw [hget_ge _ id hid] at ho; simp [AObj.owns] at ho
  exact ⟨h.defers, h.size, h.below.trans (hb.mono h.base), hrel_ext h.hrel h.base hb.size hb.block (Nat.le_refl _) (fun _ _ => ⟨rfl, rfl⟩) (fun id h1 h2 => by omega) (fun id b h1 h2 h3 => (hno id b h1 h2 h3).elim) (fun id id' b h1 _ h2 _ h3 _ => (hno id b h1 h2 h3).elim),
    fun i => VRel.keeps (keeps_ext hb.size hb.block (Nat.le_refl _) (fun _ _ => ⟨rfl, rfl⟩) (fun id b h1 h2 h3 => (hno id b h1 h2 h3).elim)) _ _ (h.vals i)⟩

theorem okOf_new {h : List AObj} (hH : HRel F w0.heap.size w ρ h) (hbase : w0.heap.size ≤ w.heap.size) {b : Nat} (hbn : w.heap.size ≤ b ∧ b < w'.heap.size) : okOf F w' ρ h b :=
  ⟨hH.base b (Nat.le_trans hbase hbn.1), hbn.2, fun i hi hr => by have := (hH.own i b hi hr).2; omega⟩

theorem okOf_later {h : List AObj} (hb : Below w.heap.size w w') {b : Nat} (h1 : okOf F w ρ h b) : okOf F w' ρ h b := ⟨h1.1, Nat.lt_of_lt_of_le h1.2.1 hb.size, h1.2.2⟩

theorem DVal.plain {w w' : World} {ok ok' : Nat → Prop} {t : Ty} {x : t.C} {v : Value} (hr : t.refs = false) (h : DVal w ok t x v) : DVal w' ok' t x v := ⟨Cells.plain t x _ hr h.1, h.2.1, h.2.2⟩

/-- Results that are plain data, as values. -/
theorem layRes_rel {h : List AObj} {okr ok' : Nat → Prop} {B : Nat} : ∀ {rs : List ARes} {vs : List Value} {gs : List Nat}, allData rs = true → ResList w' okr B rs vs gs →
    (∀ (t : Ty) (x : t.C) (v : Value), ARes.data t x ∈ rs → DVal w' okr t x v → DVal w' ok' t x v) → VList w' ρ h ok' (layRes rs) vs ∧ rs.length = vs.length
  | [], vs, gs, _, ⟨h1, _⟩, _ => by subst h1; exact ⟨rfl, rfl⟩
  | .data t x :: rs, _, gs, ha, ⟨v, vs', e, hd, hr⟩, hm => by
    subst e
    obtain ⟨i1, i2⟩ := layRes_rel (rs := rs) ha hr (fun t x v hmem => hm t x v (List.mem_cons_of_mem _ hmem))
    exact ⟨⟨v, vs', rfl, hm t x v List.mem_cons_self hd, i1⟩, by simp [i2]⟩
  | .own t l :: rs, _, _, ha, _, _ => by simp [allData] at ha
  | .upd t l :: rs, _, _, ha, _, _ => by simp [allData] at ha

theorem allData_gs {ok : Nat → Prop} {B : Nat} : ∀ {rs : List ARes} {vs : List Value} {gs : List Nat}, allData rs = true → ResList w' ok B rs vs gs → gs = []
  | [], _, _, _, ⟨_, h⟩ => h
  | .data t x :: rs, _, _, ha, ⟨_, _, _, _, hr⟩ => allData_gs (rs := rs) ha hr
  | .own _ _ :: _, _, _, ha, _ => by simp [allData] at ha
  | .upd _ _ :: _, _, _, ha, _ => by simp [allData] at ha

theorem anyRefs_mem : ∀ {rs : List ARes} {t : Ty} {x : t.C}, anyRefs rs = false → ARes.data t x ∈ rs → t.refs = false
  | r :: rs, t, x, h, hm => by
    simp only [anyRefs, Bool.or_eq_false_iff] at h
    rcases List.mem_cons.1 hm with e | e
    · subst e; exact h.1
    · exact anyRefs_mem h.2 e

theorem oneOf_rel {h : List AObj} {ok' : Nat → Prop} {v : AVal} {vs : List Value} (hv : VList w' ρ h ok' v vs) {n : Nat} (hn : n = vs.length) : VRel w' ρ h ok' (oneOf n v) (tupleOf vs) := by
  subst hn
  cases v with
  | tnil => simp only [VList] at hv; subst hv; simp [oneOf, tupleOf, VRel]
  | tcons x y =>
    obtain ⟨u, us, rfl, h1, h2⟩ := hv
    cases y with
    | tnil => simp only [VList] at h2; subst h2; simpa [oneOf, tupleOf] using h1
    | tcons x' y' =>
      obtain ⟨u', us', rfl, h3, h4⟩ := h2
      simp only [oneOf, tupleOf]
      exact ⟨u, u' :: us', by simp, h1, u', us', rfl, h3, h4⟩
    | _ => exact h2.elim
  | _ => exact hv.elim

/-- A call that leaves all that was there alone. -/
theorem Open.callPure (hG : G w) (h : Open F w0 st a w ρ) {args : List RVal} {vals : List Value} (hz : Zip F w ρ st.heap args vals) {f : FuncId} {rs : List ARes} (hP : PureCall P G f (args.map borrow) rs) {K : Out → Option R} {r : R}
    (hK1 : ∀ t l, rs = [.own t l] → K (.ownr t l (cond t.refs (rowsOf args) [])) = some r) (hK2 : (∀ t l, rs ≠ [.own t l]) → cond (allData rs) (K (.results rs (cond (anyRefs rs) (rowsOf args) []))) none = some r) :
    Calls P f vals.toArray w fun e w' => ∃ out val, K out = some r ∧ e = .returned val ∧ ∀ dst, Rel F w0 (st.after dst out) (a.put dst val) w' := by
  refine (hP w (okArgs F w ρ st.heap args) vals.toArray hG ?_ ?_).mono ?_
  · intro b hb
    rcases hb with hb | ⟨id, ver, t, l, _, ho, hr⟩
    · exact hb.2.1
    · exact (h.hrel.own id b (by rw [ho]; rfl) hr).2
  · exact args_rel h.hrel (fun b hb => .inl hb) hz (fun id ver t l b hm ho hr => .inr ⟨id, ver, t, l, hm, ho, hr⟩)
  · rintro e w' ⟨vs, gs, rfl, hB, hRL⟩
    have hfz := h.freezeAll (rowsIn_of_zip hz)
    have hfz' := hfz.later hB
    have data : ∀ rs' : List ARes, rs' = rs → cond (allData rs') (K (.results rs' (cond (anyRefs rs') (rowsOf args) []))) none = some r →
        ∃ out val, K out = some r ∧ Ending.returned (tupleOf vs) = .returned val ∧ ∀ dst, Rel F w0 (st.after dst out) (a.put dst val) w' := by
      intro rs' e hK'
      subst e
      cases had : allData rs' with
      | false => rw [had] at hK'; simp at hK'
      | true =>
        rw [had] at hK'
        simp only [cond_true] at hK'
        have hgs := allData_gs had hRL
        subst hgs
        cases har : anyRefs rs' with
        | true =>
          rw [har] at hK'
          simp only [cond_true] at hK'
          refine ⟨_, _, hK', rfl, fun dst => ?_⟩
          obtain ⟨hl, hn⟩ := layRes_rel (ρ := ρ) (h := freezeRows (rowsOf args) st.heap) (ok' := okOf F w' ρ (freezeRows (rowsOf args) st.heap)) had hRL (fun t x v _ hd => DVal.mono (fun b hb => by
            refine ⟨?_, rfl⟩
            rcases hb.1 with h1 | h1
            · exact okOf_later hB (okArgs_frozen h.hrel h1)
            · exact okOf_new hfz.hrel h.base h1) hd)
          exact hfz'.q (oneOf_rel hl hn) dst
        | false =>
          rw [har] at hK'
          simp only [cond_false] at hK'
          refine ⟨_, _, hK', rfl, fun dst => ?_⟩
          obtain ⟨hl, hn⟩ := layRes_rel (ρ := ρ) (h := st.heap) (ok' := okOf F w' ρ st.heap) had hRL (fun t x v hm hd => DVal.plain (anyRefs_mem har hm) hd)
          exact (h.later hB).q (oneOf_rel hl hn) dst
    have own : ∀ t l, rs = [.own t l] → K (.ownr t l (cond t.refs (rowsOf args) [])) = some r → ∃ out val, K out = some r ∧ Ending.returned (tupleOf vs) = .returned val ∧ ∀ dst, Rel F w0 (st.after dst out) (a.put dst val) w' := by
      intro t l e hK'
      subst e
      obtain ⟨v, vs', rfl, hval, hcase⟩ := hRL
      have hvs' : vs' = [] := by
        rcases hcase with ⟨_, _, h1, _⟩ | ⟨_, _, _, _, _, _, _, _, _, _, _, _, _, _, _, _, h1, _⟩ <;> exact h1
      subst hvs'
      refine ⟨_, _, hK', rfl, fun dst => ?_⟩
      have push : ∀ (h1 : List AObj), Open F w0 ⟨st.tmps, h1⟩ a w ρ → (∀ (ok' : Nat → Prop) (x : t.C) (cs : List Value), (∀ b, (okOf F w ρ h1 b ∨ (w.heap.size ≤ b ∧ b < w'.heap.size)) ∧ b ∉ gs → ok' b) → Cells w' (fun b => (okArgs F w ρ st.heap args b ∨ (w.heap.size ≤ b ∧ b < w'.heap.size)) ∧ b ∉ gs) t x cs → Cells w' ok' t x cs) →
          Rel F w0 ⟨putD st.tmps dst (.osl h1.length 0), h1 ++ [.row 0 t l]⟩ (a.put dst v) w' := by
        intro h1 ho hcells
        rcases hcase with ⟨rfl, rfl, _, hg⟩ | ⟨g, c, cs, T, cc, rest, gs', hg, hgn, hgB, rfl, hrow, hsz, hlc, ecc, hrc, _, hg'⟩
        · have hsame : ∀ id, id < h1.length → hget (h1 ++ [.row 0 t []]) id = hget h1 id ∧ (fun i => if i = h1.length then none else ρ i) id = ρ id := fun id hid => by
            rw [hget_append, if_neg (by omega)]; simp; omega
          have hno : ∀ id b, h1.length ≤ id → (hget (h1 ++ [.row 0 t []]) id).owns = true → (fun i => if i = h1.length then none else ρ i) id = some b → False := fun id b hid hown hr => by
            by_cases e : id = h1.length
            · simp [e] at hr
            · rw [hget_ge _ id (by simp; omega)] at hown; simp [AObj.owns] at hown
          refine Rel.put (st := ⟨st.tmps, h1⟩) (ρ := ρ) (ρ' := fun i => if i = h1.length then none else ρ i) ho.defers ho.size ho.vals (ho.below.trans (hB.mono ho.base))
            (hrel_ext ho.hrel ho.base hB.size hB.block (by simp) hsame ?_ (fun id b h1 h2 h3 => (hno id b h1 h2 h3).elim) (fun id id' b h1 _ h2 _ h3 _ => (hno id b h1 h2 h3).elim))
            (keeps_ext hB.size hB.block (by simp) hsame (fun id b h1 h2 h3 => (hno id b h1 h2 h3).elim)) ?_ dst
          · intro id h1' h2
            have h2' : id < h1.length + 1 := by simpa using h2
            have h1'' : h1.length ≤ id := h1'
            obtain rfl : id = h1.length := by omega
            rw [hget_append, if_pos rfl]
            exact .inl ⟨by simp, rfl⟩
          · refine ⟨by simp, ?_⟩
            rw [hget_append, if_pos rfl]
            exact ⟨Nat.le_refl _, fun _ => .inl ⟨by simp, rfl⟩⟩
        · subst hg' hg
          have hgl : g < w'.heap.size := lt_of_heap hrow
          have hsame : ∀ id, id < h1.length → hget (h1 ++ [.row 0 t l]) id = hget h1 id ∧ newρ ρ h1.length g id = ρ id := fun id hid => by
            rw [hget_append, if_neg (by omega)]; simp [newρ]; omega
          have hnew : ∀ id b, h1.length ≤ id → (hget (h1 ++ [.row 0 t l]) id).owns = true → newρ ρ h1.length g id = some b → id = h1.length ∧ b = g := fun id b hid hown hr => by
            by_cases e : id = h1.length
            · subst e; simp [newρ] at hr; exact ⟨rfl, hr.symm⟩
            · rw [hget_ge _ id (by simp; omega)] at hown; simp [AObj.owns] at hown
          have okg : ∀ b, (okOf F w ρ h1 b ∨ (w.heap.size ≤ b ∧ b < w'.heap.size)) ∧ b ∉ [g] → okOf F w' (newρ ρ h1.length g) (h1 ++ [.row 0 t l]) b := by
            intro b ⟨h1b, h2b⟩
            have hbg : b ≠ g := by simpa using h2b
            have hok' : okOf F w' ρ h1 b := by
              rcases h1b with h3 | h3
              · exact okOf_later hB h3
              · exact okOf_new ho.hrel h.base h3
            refine ⟨hok'.1, hok'.2.1, fun id hown hr => ?_⟩
            by_cases e : id = h1.length
            · subst e; simp [newρ] at hr; exact hbg hr.symm
            · rw [hget_append, if_neg e] at hown; simp [newρ, e] at hr; exact hok'.2.2 id hown hr
          refine Rel.put (st := ⟨st.tmps, h1⟩) (ρ := ρ) ho.defers ho.size ho.vals (ho.below.trans (hB.mono ho.base))
            (hrel_ext ho.hrel ho.base hB.size hB.block (by simp) hsame ?_ (fun id b h1 h2 h3 => by obtain ⟨_, rfl⟩ := hnew id b h1 h2 h3; exact ⟨hgB, hgl⟩) (fun id id' b h1 h1' h2 h2' h3 h3' => by rw [(hnew id b h1 h2 h3).1, (hnew id' b h1' h2' h3').1]))
            (keeps_ext hB.size hB.block (by simp) hsame (fun id b h1 h2 h3 => by obtain ⟨_, rfl⟩ := hnew id b h1 h2 h3; exact hgB)) ?_ dst
          · intro id h1' h2
            have h2' : id < h1.length + 1 := by simpa using h2
            have h1'' : h1.length ≤ id := h1'
            obtain rfl : id = h1.length := by omega
            rw [hget_append, if_pos rfl]
            exact .inr ⟨g, cs, T, cc, rest, by simp [newρ], hrow, ecc, RowC.mono (fun x cs hc => hcells _ x cs okg hc) l cc hrc⟩
          · refine ⟨by simp, ?_⟩
            rw [hget_append, if_pos rfl]
            exact ⟨Nat.le_refl _, fun _ => .inr ⟨g, c, cs, T, by simp [newρ], rfl, hrow, hsz, hlc⟩⟩
      cases htr : t.refs with
      | true => exact push _ hfz (fun ok' x cs hok hc => Cells.mono (fun b hb => ⟨hok b ⟨by
          rcases hb.1 with h1 | h1
          · exact .inl (okArgs_frozen h.hrel h1)
          · exact .inr h1, hb.2⟩, rfl⟩) t x cs hc)
      | false => exact push _ h (fun ok' x cs _ hc => Cells.plain t x cs htr hc)
    by_cases hc : ∃ t l, rs = [.own t l]
    · obtain ⟨t, l, e⟩ := hc
      exact own t l e (hK1 t l e)
    · exact data _ rfl (hK2 fun t l e => hc ⟨t, l, e⟩)

theorem OwnRow.row {w : World} {t : Ty} {l : List t.C} {v : Value} {b : Nat} (h : OwnRow w t l v b) (htr : t.refs = false) (ok : Nat → Prop) : ∃ c cs T cc rest, v = .slice (some ⟨b, 0, none⟩) l.length c ∧ w.heap[b]? = some (.cells cs T (0, 0)) ∧ cs.size = c * t.width ∧ l.length ≤ c ∧ cs.toList = cc ++ rest ∧ RowC (Cells w ok t) l cc := by
  obtain ⟨c, cs, T, cc, rest, h1, h2, h3, h4, h5, h6⟩ := h
  exact ⟨c, cs, T, cc, rest, h1, h2, h3, h4, h5, RowC.mono (fun x cs hc => Cells.plain t x cs htr hc) l cc h6⟩

theorem zip_cons {h : List AObj} {r : RVal} {rs : List RVal} {vals : List Value} (hz : Zip F w ρ h (r :: rs) vals) : ∃ u v vs, r = res h u ∧ vals = v :: vs ∧ VRel w ρ h (okOf F w ρ h) u v ∧ Zip F w ρ h rs vs := by
  generalize e : r :: rs = l at hz
  cases hz with
  | nil => cases e
  | cons u v h1 h2 => injection e with e1 e2; subst e2; exact ⟨u, v, _, e1, rfl, h1, h2⟩

/-- A row of the caller's own, as plain data. -/
theorem row_arel {h : List AObj} {okA : Nat → Prop} (hH : HRel F w0.heap.size w ρ h) {id ver : Nat} {t : Ty} {l : List t.C} {val : Value} (hv : VRel w ρ h (okOf F w ρ h) (.osl id ver) val) (ho : hget h id = .row ver t l) (htr : t.refs = false) (hA : ∀ b, ρ id = some b → okA b) : DVal w okA (.list t) l val := by
  obtain ⟨hl, hsl⟩ := hv
  rw [ho] at hsl
  have hsv := hsl.2 rfl
  have hob := hH.obj id hl
  rw [ho] at hob
  rcases hsv with ⟨hn, e⟩ | ⟨b, c, cs, T, hb, e, hrow, hsz, hlc⟩
  · rcases hob with ⟨_, h0⟩ | ⟨b, _, _, _, _, hb, _⟩
    · subst h0; subst e; exact dval_list ⟨none, 0, rfl, Nat.le_refl _, .inl rfl⟩
    · rw [hn] at hb; cases hb
  · rcases hob with ⟨hn, _⟩ | ⟨b', cs', T', cc, rst, hb', hrow', ecc, hrc⟩
    · rw [hn] at hb; cases hb
    obtain rfl : b = b' := by rw [hb] at hb'; simpa using hb'
    subst e
    refine dval_list ⟨_, c, rfl, hlc, .inr ⟨b, 0, cc, rfl, hA b hb, RowC.mono (fun x cs hc => Cells.plain t x cs htr hc) l cc hrc, fun j v hj => ?_⟩⟩
    rw [Nat.zero_add, cell_of_row w b j cs' T' _ hrow', ← Array.getElem?_toList, ecc, List.getElem?_append_left (List.getElem?_eq_some_iff.1 hj).1]; exact hj

/-- None of the further arguments leads into the row. -/
theorem rest_args {h : List AObj} {id : Nat} {okA : Nat → Prop} (hH : HRel F w0.heap.size w ρ h) : ∀ {rs : List RVal} {vs : List Value}, Zip F w ρ h rs vs → restOk id rs = true →
    (∀ id' ver t l b, id' ≠ id → RVal.row id' ver t l ∈ rs → hget h id' = .row ver t l → ρ id' = some b → okA b) → ArgsRel w okA (rs.map borrow) vs := by
  intro rs vs hz
  induction hz with
  | nil => intro _ _; rfl
  | cons u v h1 h2 ih =>
    rename_i rs vs
    intro hr hrow
    have step : ∀ (h3 : restOk id rs = true), ARel w okA (borrow (res h u)) v → ArgsRel w okA ((res h u :: rs).map borrow) (v :: vs) := fun h3 h4 => ⟨v, vs, rfl, h4, ih h3 fun id' ver t l b hne hm => hrow id' ver t l b hne (List.mem_cons_of_mem _ hm)⟩
    cases hu : res h u with
    | data t x =>
      rw [hu] at hr step
      simp only [restOk, Bool.and_eq_true, Bool.not_eq_true'] at hr
      exact step hr.2 (DVal.plain hr.1 (res_data h1 hu))
    | row id' ver t l =>
      obtain ⟨rfl, ho⟩ := res_row hu
      rw [hu] at hr step
      simp only [restOk, Bool.and_eq_true, Bool.not_eq_true'] at hr
      refine step hr.2.2 (row_arel hH h1 ho hr.2.1 fun b hb => hrow id' ver t l b ?_ (by rw [hu]; exact List.mem_cons_self) ho hb)
      intro e; rw [e] at hr; simp at hr
    | nils =>
      have := res_nils hu
      subst this
      rw [hu] at hr step
      exact step hr h1
    | fn g c =>
      obtain ⟨c', rfl, hc⟩ := res_fn hu
      rw [hu] at hr step
      cases c with
      | tnil =>
        refine step hr ?_
        obtain ⟨vs', e, hl⟩ := h1
        cases c' with
        | tnil => exact ⟨vs', e, hl⟩
        | tcons a b => simp [res] at hc
        | _ => exact hl.elim
      | _ => simp [restOk] at hr
    | _ => rw [hu] at hr; simp [restOk] at hr

/-- A call that turns the row of its first argument. -/
theorem Open.callRow (hG : G w) (h : Open F w0 st a w ρ) {id ver : Nat} {t : Ty} {l : List t.C} {rest : List RVal} {vals : List Value} (hz : Zip F w ρ st.heap (.row id ver t l :: rest) vals) {f : FuncId} {m : List t.C}
    (htv : t.isVal = true) (hP : RowCall P G f t l (rest.map borrow) m) (hrest : restOk id rest = true) (htr : t.refs = false) {K : Out → Option R} {r : R} (hK : K (.upd (.osl id (ver + 1)) id (.row (ver + 1) t m)) = some r) :
    Calls P f vals.toArray w fun e w' => ∃ out val, K out = some r ∧ e = .returned val ∧ ∀ dst, Rel F w0 (st.after dst out) (a.put dst val) w' := by
  obtain ⟨u, v0, vs, eu, rfl, hv, hz'⟩ := zip_cons hz
  obtain ⟨rfl, ho⟩ := res_row eu.symm
  obtain ⟨hl, hsl⟩ := hv
  rw [ho] at hsl
  have hsv := hsl.2 rfl
  have hob := h.hrel.obj id hl
  rw [ho] at hob
  have howns : (hget st.heap id).owns = true := by rw [ho]; rfl
  have hblk : ∀ k c, v0 = .slice (some ⟨k, 0, none⟩) l.length c → ρ id = some k := fun k c e => by
    rcases hsv with ⟨_, e'⟩ | ⟨b, c', cs, T, hb, e', _⟩
    · rw [e] at e'; cases e'
    · rw [e] at e'; simp only [Value.slice.injEq, Option.some.injEq, Addr.mk.injEq, and_true, true_and] at e'; rw [e'.1]; exact hb
  have hfirst : (v0 = .slice none 0 0 ∧ l = []) ∨ ∃ b, ¬ (∃ id' ver' t' l', id' ≠ id ∧ RVal.row id' ver' t' l' ∈ rest ∧ hget st.heap id' = .row ver' t' l' ∧ ρ id' = some b) ∧ OwnRow w t l v0 b := by
    rcases hsv with ⟨hn, e⟩ | ⟨b, c, cs, T, hb, e, hrow, hsz, hlc⟩
    · rcases hob with ⟨_, h0⟩ | ⟨b, _, _, _, _, hb, _⟩
      · exact .inl ⟨e, h0⟩
      · rw [hn] at hb; cases hb
    · rcases hob with ⟨hn, _⟩ | ⟨b', cs', T', cc, rst, hb', hrow', ecc, hrc⟩
      · rw [hn] at hb; cases hb
      obtain rfl : b = b' := by rw [hb] at hb'; simpa using hb'
      rw [hrow] at hrow'
      simp only [Option.some.injEq, Obj.cells.injEq] at hrow'
      obtain ⟨rfl, rfl, _⟩ := hrow'
      refine .inr ⟨b, ?_, c, cs, T, cc, rst, e, hrow, hsz, hlc, ecc, RowC.mono (fun x cs hc => Cells.plain t x cs htr hc) l cc hrc⟩
      rintro ⟨id', ver', t', l', hne, hm, ho', hr'⟩
      exact hne (h.hrel.inj id' id b (by rw [ho']; rfl) howns hr' hb)
  have hargs : ArgsRel w (fun b => ∃ id' ver' t' l', id' ≠ id ∧ RVal.row id' ver' t' l' ∈ rest ∧ hget st.heap id' = .row ver' t' l' ∧ ρ id' = some b) (rest.map borrow) vs :=
    rest_args h.hrel hz' hrest (fun id' ver' t' l' b hne hm ho' hb => ⟨id', ver', t', l', hne, hm, ho', hb⟩)
  refine (hP w _ v0 vs hG (fun b hb => ?_) hargs hfirst).mono ?_
  · obtain ⟨id', ver', t', l', _, _, ho', hr'⟩ := hb
    have hlt : id' < st.heap.length := by
      rcases Nat.lt_or_ge id' st.heap.length with h1 | h1
      · exact h1
      · rw [hget_ge _ _ h1] at ho'; cases ho'
    have hob' := h.hrel.obj id' hlt
    rw [ho'] at hob'
    rcases hob' with ⟨hn, _⟩ | ⟨b', cs', T', _, _, hb', hrow', _⟩
    · rw [hn] at hr'; cases hr'
    · obtain rfl : b = b' := by rw [hr'] at hb'; simpa using hb'
      exact ⟨cs', T', hrow'⟩
  rintro e w' ⟨v', rfl, hos, htape, hout, hsz, hkeep, hres⟩
  refine ⟨_, v', hK, rfl, fun dst => ?_⟩
  have hbel : Below w0.heap.size w0 w' := h.below.trans ⟨hos, htape, hout, hsz, fun k hk => hkeep k (Nat.lt_of_lt_of_le hk h.base) fun c e => by
    have := (h.hrel.own id k howns (hblk k c e)).1; omega⟩
  have hkept : ∀ b, b < w.heap.size → ρ id ≠ some b → w'.heap[b]? = w.heap[b]? := fun b hb hne => hkeep b hb fun c e => hne (hblk b c e)
  have stale : ∀ (w' : World) (ρ' : Nat → Option Nat) (ok' : Nat → Prop) (v : Nat) (val : Value), SlRel w ρ (okOf F w ρ st.heap) id v val (hget st.heap id) → SlRel w' ρ' ok' id v val (.row (ver + 1) t m) := by
    intro w' ρ' ok' v val hsl
    rw [ho] at hsl
    exact ⟨by have := hsl.1; omega, fun e => by have := hsl.1; omega⟩
  have stale' : ∀ (ρ' : Nat → Option Nat) (v j : Nat) (p : List Nat) (val : Value), ElRel ρ id v j p val (hget st.heap id) → ElRel ρ' id v j p val (.row (ver + 1) t m) := by
    intro ρ' v j p val hsl
    rw [ho] at hsl
    exact ⟨by have := hsl.1; omega, fun e => by have := hsl.1; omega⟩
  have fin : ∀ (ρ' : Nat → Option Nat), Changes w ρ st.heap id (.row (ver + 1) t m) w' ρ' → ((ρ' id = none ∧ m = [] ∧ v' = .slice none 0 0) ∨ ∃ b, ρ' id = some b ∧ OwnRow w' t m v' b) →
      Rel F w0 (st.after dst (.upd (.osl id (ver + 1)) id (.row (ver + 1) t m))) (a.put dst v') w' := by
    intro ρ' ch hcase
    refine h.upd ch hbel (fun v val hsl => stale _ _ _ v val hsl) (fun p val hp => ?_) (fun v j p val hsl => stale' _ v j p val hsl) (fun val hi => trivial) ?_ ?_ dst
    · trivial
    · rcases hcase with ⟨h1, h2, _⟩ | ⟨b, h1, h2⟩
      · exact .inl ⟨h1, h2⟩
      · obtain ⟨c, cs, T, cc, rst, _, h3, _, _, h4, h5⟩ := h2.row htr (okOf F w' ρ' (hset st.heap id (.row (ver + 1) t m)))
        exact .inr ⟨b, cs, T, cc, rst, h1, h3, h4, h5⟩
    · refine ⟨by rw [length_hset]; exact hl, ?_⟩
      rw [hget_hset_self hl]
      refine ⟨Nat.le_refl _, fun _ => ?_⟩
      rcases hcase with ⟨h1, _, h2⟩ | ⟨b, h1, c, cs, T, cc, rst, h2, h3, h4, h5, _⟩
      · exact .inl ⟨h1, h2⟩
      · exact .inr ⟨b, c, cs, T, h1, h2, h3, h4, h5⟩
  rcases hres with ⟨rfl, rfl, e0⟩ | ⟨b, hown, hb⟩
  · have hn : ρ id = none := by
      rcases hsv with ⟨hn, _⟩ | ⟨b, c', cs, T, hb, e', _⟩
      · exact hn
      · rw [e0] at e'; cases e'
    exact fin ρ ⟨hl, howns, rfl, hsz, hkept, fun _ _ => rfl, fun _ hr => .inl hr⟩ (.inl ⟨hn, rfl, rfl⟩)
  · have hlt : b < w'.heap.size := by
      obtain ⟨c, cs, T, cc, rst, _, h3, _⟩ := hown
      exact lt_of_heap h3
    rcases hb with hb | ⟨c, e⟩
    · exact fin (newρ ρ id b) ⟨hl, howns, rfl, hsz, hkept, fun i hi => by simp [newρ, hi], fun b' hb' => .inr (by simp [newρ] at hb'; omega)⟩ (.inr ⟨b, by simp [newρ], hown⟩)
    · exact fin ρ ⟨hl, howns, rfl, hsz, hkept, fun _ _ => rfl, fun _ hr => .inl hr⟩ (.inr ⟨b, hblk b c e, hown⟩)

theorem Open.call (hE : EnvSound P G env) (hG : G w) (h : Open F w0 st a w ρ) {args : List RVal} {vals : List Value} (hz : Zip F w ρ st.heap args vals) {f : FuncId} {K : Out → Option R} {r : R} (hk : callK env f args K = some r) :
    Enters P f ∧ Calls P f vals.toArray w fun e w' => ∃ out val, K out = some r ∧ e = .returned val ∧ ∀ dst, Rel F w0 (st.after dst out) (a.put dst val) w' := by
  obtain ⟨rs, hK, hEnt, hP⟩ := hE _ _ _ _ _ hk
  refine ⟨hEnt, ?_⟩
  split at hK
  · rename_i t l
    exact h.callPure hG hz hP (fun t' l' e => by simp only [List.cons.injEq, ARes.own.injEq, and_true] at e; obtain ⟨rfl, e⟩ := e; obtain rfl := eq_of_heq e; exact hK) (fun hn => absurd rfl (hn t l))
  · rename_i t m
    split at hK
    · rename_i id v t' l0 rest
      cases hc : (restOk id rest && !t.refs) with
      | false => rw [hc] at hK; simp at hK
      | true =>
        rw [hc] at hK
        simp only [cond_true] at hK
        obtain ⟨e, hK⟩ := sameK_inv hK
        subst e
        simp only [Bool.and_eq_true, Bool.not_eq_true'] at hc
        obtain ⟨htv, hP⟩ := hP
        exact h.callRow hG hz htv (hP l0 (rest.map borrow) rfl) hc.1 hc.2 hK
    · simp at hK
  · rename_i hn1 hn2
    refine h.callPure hG hz (?_ : PureCall P G f _ rs) (fun t l e => absurd e (hn1 t l)) (fun _ => hK)
    unfold CallOk at hP
    split at hP
    · rename_i t m; exact absurd rfl (hn2 t m)
    · exact hP

end
end Go.PB

namespace Go.PB
open Go Go.RowKit

/-! ## 1. Filling cells -/
theorem foldl_set : ∀ (vs : List Value) (off k : Nat) (cells : Array Value) (c1 c2 c3 : List Value), cells.toList = c1 ++ (c2 ++ c3) → c1.length = off + k → c2.length = vs.length →
    ((vs.zipIdx k).foldl (fun (cs : Array Value) (x : Value × Nat) => cs.setIfInBounds (off + x.2) x.1) cells).toList = c1 ++ (vs ++ c3)
  | [], _, _, cells, c1, c2, c3, e, _, h2 => by
    have : c2 = [] := List.eq_nil_of_length_eq_zero h2
    subst this; simpa using e
  | v :: vs, off, k, cells, c1, c2, c3, e, h1, h2 => by
    cases c2 with
    | nil => simp at h2
    | cons d c2 =>
      simp only [List.zipIdx_cons, List.foldl_cons]
      have := foldl_set vs off (k + 1) (cells.setIfInBounds (off + k) v) (c1 ++ [v]) c2 c3 (by
        rw [Array.toList_setIfInBounds, e, ← h1, List.set_append_right _ _ (Nat.le_refl _)]; simp) (by simp [h1]; omega) (by simpa using h2)
      rw [this]; simp

theorem fill_step {place : Nat → Option (Nat × Nat)} {cells : Array Value} {i : Nat} {v : Value} {rest : List (Nat × Value)} {off size : Nat} {c1 c2 c3 : List Value} (hp : place i = some (off, size))
    (e : cells.toList = c1 ++ (c2 ++ c3)) (h1 : c1.length = off) (h2 : c2.length = size) (hv : v.cells.toList.length = size) :
    ∃ cells', cells'.toList = c1 ++ (v.cells.toList ++ c3) ∧ Instr.fill place cells ((i, v) :: rest) = Instr.fill place cells' rest := by
  refine ⟨v.cells.zipIdx.foldl (fun cs (c, j) => cs.setIfInBounds (off + j) c) cells, ?_, ?_⟩
  · rw [← Array.foldl_toList, Array.toList_zipIdx]
    exact foldl_set v.cells.toList off 0 cells c1 c2 c3 e (by simpa using h1) (by omega)
  · have hs : v.cells.size = size := by simpa using hv
    have hsz : cells.size = off + size + c3.length := by
      have : cells.size = cells.toList.length := by simp
      rw [this, e]; simp; omega
    have : ¬ (v.cells.size ≠ size ∨ off + v.cells.size > cells.size) := by omega
    simp only [Instr.fill, hp]
    rw [if_neg (by simpa using this)]

theorem partsK_inv {w : World} {ok : Nat → Prop} {R : Type} {u : Ty} {places : List (Nat × Nat)} (hplaces : ∀ f off t', Ty.compOff u f = some (off, t') → places[f]? = some (off, t'.width)) :
    ∀ {ps : List (Nat × RVal)} {vs : List (Nat × Value)} {x : u.C} {cells : Array Value} {K : u.C → Option R} {r : R}, Cells w ok u x cells.toList →
    (ps.length = vs.length ∧ ∀ (i : Nat) (p : Nat × RVal) (v : Nat × Value), ps[i]? = some p → vs[i]? = some v → p.1 = v.1 ∧ ∀ (t : Ty) (k : t.C → Option R) (r : R), RVal.dataK p.2 t k = some r → ∃ y, k y = some r ∧ DVal w ok t y v.2) →
    partsK u x ps K = some r → ∃ x' cells', K x' = some r ∧ Instr.fill (places.toArray[·]?) cells vs = some cells' ∧ Cells w ok u x' cells'.toList
  | [], vs, x, cells, K, r, hc, hl, hk => by
    have : vs = [] := List.eq_nil_of_length_eq_zero hl.1.symm
    subst this
    exact ⟨x, cells, hk, rfl, hc⟩
  | p :: ps, vs, x, cells, K, r, hc, hl, hk => by
    cases vs with
    | nil => simp at hl
    | cons v vs =>
      obtain ⟨e1, hd⟩ := hl.2 0 p v rfl rfl
      obtain ⟨t', off, z, y, x', hk', ho, hQ, hset⟩ := compSet_inv (Q := fun u _ y => DVal w ok u y v.2) (fun t z k r hk => hd t k r hk) hk
      obtain ⟨c1, c2, c3, e, h1, hz, hnew⟩ := hset hc
      obtain ⟨cells', e', hf⟩ := fill_step (place := (places.toArray[·]?)) (i := v.1) (v := v.2) (rest := vs) (off := off) (size := t'.width) (by rw [List.getElem?_toArray, ← e1]; exact hplaces _ _ _ ho) e h1 (Cells.length _ _ _ hz) (Cells.length _ _ _ hQ.1)
      obtain ⟨x2, cells2, h3, h4, h5⟩ := partsK_inv hplaces (ps := ps) (vs := vs) (cells := cells') (by rw [e']; exact hnew _ hQ.1) ⟨by simpa using hl.1, fun i p' v' hp hv => hl.2 (i + 1) p' v' (by simpa using hp) (by simpa using hv)⟩ hk'
      exact ⟨x2, cells2, h3, by rw [hf]; exact h4, h5⟩

theorem elemsK_inv {w : World} {ok : Nat → Prop} {R : Type} {u : Ty} :
    ∀ {ps : List (Nat × RVal)} {vs : List (Nat × Value)} {l : List u.C} {cells : Array Value} {K : List u.C → Option R} {r : R}, RowC (Cells w ok u) l cells.toList →
    (ps.length = vs.length ∧ ∀ (i : Nat) (p : Nat × RVal) (v : Nat × Value), ps[i]? = some p → vs[i]? = some v → p.1 = v.1 ∧ ∀ (t : Ty) (k : t.C → Option R) (r : R), RVal.dataK p.2 t k = some r → ∃ y, k y = some r ∧ DVal w ok t y v.2) →
    elemsK u l ps K = some r → ∃ l' cells', K l' = some r ∧ l'.length = l.length ∧ Instr.fill (fun i => some (i * u.width, u.width)) cells vs = some cells' ∧ RowC (Cells w ok u) l' cells'.toList
  | [], vs, l, cells, K, r, hc, hl, hk => by
    have : vs = [] := List.eq_nil_of_length_eq_zero hl.1.symm
    subst this
    exact ⟨l, cells, hk, rfl, rfl, hc⟩
  | p :: ps, vs, l, cells, K, r, hc, hl, hk => by
    cases vs with
    | nil => simp at hl
    | cons v vs =>
      obtain ⟨e1, hd⟩ := hl.2 0 p v rfl rfl
      obtain ⟨hlt, hk1⟩ := roomK_inv hk
      obtain ⟨y, hk2, hy⟩ := hd u _ _ hk1
      obtain ⟨c1, c, c3, e, h1, hce, hset⟩ := RowC.set (fun x cs => Cells.length u x cs) u.zero l cells.toList p.1 hc (by omega)
      obtain ⟨cells', e', hf⟩ := fill_step (place := fun i => some (i * u.width, u.width)) (i := v.1) (v := v.2) (rest := vs) (off := p.1 * u.width) (size := u.width) (by rw [← e1]) e h1 (Cells.length _ _ _ hce) (Cells.length _ _ _ hy.1)
      obtain ⟨l2, cells2, h3, h3', h4, h5⟩ := elemsK_inv (ps := ps) (vs := vs) (cells := cells') (by rw [e']; exact hset y _ hy.1) ⟨by simpa using hl.1, fun i p' v' hp hv => hl.2 (i + 1) p' v' (by simpa using hp) (by simpa using hv)⟩ hk2
      exact ⟨l2, cells2, h3, by simpa using h3', by rw [hf]; exact h4, h5⟩

theorem chain_places {P : Program} : ∀ {t : Ty} {base : Nat} {fs : List Field}, ChainOk P t base fs → ∃ places, fs.mapM (fun f => (P.info? f.type).map fun i => (f.offset, i.size)) = some places ∧
    ∀ f off t', Ty.compOff t f = some (off, t') → places[f]? = some (base + off, t'.width)
  | .pair a b, base, fd :: fs, ⟨h1, h2, h3⟩ => by
    obtain ⟨places, hp, hpl⟩ := chain_places h3
    obtain ⟨i, z, hi, hs, _⟩ := h2.info
    refine ⟨(fd.offset, i.size) :: places, by simp [List.mapM_cons, hi, hp], fun f off t' ho => ?_⟩
    cases f with
    | zero =>
      simp only [Ty.compOff, Option.some.injEq, Prod.mk.injEq] at ho
      obtain ⟨rfl, rfl⟩ := ho
      simp [h1, hs]
    | succ n =>
      simp only [Ty.compOff] at ho
      split at ho
      · rename_i o u hou
        simp only [Option.some.injEq, Prod.mk.injEq] at ho
        obtain ⟨rfl, rfl⟩ := ho
        have := hpl _ _ _ hou
        simp only [List.getElem?_cons_succ]
        rw [this, Nat.add_assoc]
      · simp at ho
  | .unit, base, [], _ => ⟨[], rfl, fun f off t' ho => by simp [Ty.compOff] at ho⟩
  | .pair a b, _, [], h => by simp [ChainOk] at h
  | .unit, _, _ :: _, h => by simp [ChainOk] at h
  | .int _, _, _, h => by simp [ChainOk] at h
  | .bool, _, _, h => by simp [ChainOk] at h
  | .str, _, _, h => by simp [ChainOk] at h
  | .list _, _, _, h => by simp [ChainOk] at h
  | .agg _, _, _, h => by simp [ChainOk] at h

theorem row_zeros (w : World) (ok : Nat → Prop) (t : Ty) (z : Array Value) (hz : z.toList = t.zcells) : ∀ n, RowC (Cells w ok t) (List.replicate n t.zero) ((Array.range (n * t.width)).map (fun i => z[i % z.size]!)).toList := by
  have hlen : z.size = t.width := by
    have : z.size = z.toList.length := by simp
    rw [this, hz]; exact Cells.length _ _ _ (cells_zero w ok t)
  have one : ∀ k, (List.range t.width).map (fun i => z[(k * t.width + i) % z.size]!) = t.zcells := by
    intro k
    rw [← hz]
    apply List.ext_getElem?
    intro j
    rw [List.getElem?_map]
    by_cases hj : j < t.width
    · rw [List.getElem?_range hj]
      have e : (k * t.width + j) % z.size = j := by rw [hlen, Nat.add_comm, Nat.add_mul_mod_self_right, Nat.mod_eq_of_lt hj]
      simp only [Option.map_some, e]
      have : j < z.size := by omega
      simp [this]
    · have : z.toList.length ≤ j := by simp; omega
      rw [List.getElem?_eq_none this, List.getElem?_eq_none (by simpa using hj)]; rfl
  intro n
  simp only [Array.toList_map, Array.toList_range]
  induction n with
  | zero => simp [RowC]
  | succ n ih =>
    rw [List.replicate_succ', Nat.succ_mul, List.range_add, List.map_append, List.map_map]
    refine RowC.append _ _ _ _ ih ⟨t.zcells, [], ?_, cells_zero w ok t, rfl⟩
    rw [List.append_nil]
    exact one n

section
variable {F : Nat → Prop} {P : Program} {G : World → Prop} {env : Env} {w0 w w' : World} {st : St} {a : Act} {ρ : Nat → Option Nat} {R : Type}

theorem parts_data (h : Open F w0 st a w ρ) (ps : List (Nat × Operand)) : ((ps.map fun p => (p.1, res st.heap (PB.ev st.tmps p.2))).length = (ps.map fun (i, x) => (i, a.eval x)).length ∧
    ∀ (i : Nat) (p : Nat × RVal) (v : Nat × Value), (ps.map fun p => (p.1, res st.heap (PB.ev st.tmps p.2)))[i]? = some p → (ps.map fun (i, x) => (i, a.eval x))[i]? = some v → p.1 = v.1 ∧ ∀ (t : Ty) (k : t.C → Option R) (r : R), RVal.dataK p.2 t k = some r → ∃ y, k y = some r ∧ DVal w (okOf F w ρ st.heap) t y v.2) := by
  refine ⟨by simp, fun i p v hp hv => ?_⟩
  rw [List.getElem?_map] at hp hv
  cases hi : ps[i]? with
  | none => rw [hi] at hp; simp at hp
  | some q =>
    rw [hi] at hp hv
    simp only [Option.map_some, Option.some.injEq] at hp hv
    subst hp hv
    exact ⟨rfl, fun t k r hk => dataK_inv (h.ev q.2) hk⟩

theorem Open.build {tt : TypeId → Option Ty} (hT : TTOk P tt) (h : Open F w0 st a w ρ) {ty : TypeId} {u : Ty} (hty : tt ty = some (.agg u)) (ps : Array (Nat × Operand)) {K : Out → Option R} {r : R}
    (hk : partsK u u.zero (ps.toList.map fun p => (p.1, res st.heap (PB.ev st.tmps p.2))) (fun y => K (.q (.data (.agg u) y))) = some r) :
    ∃ v val, K (.q v) = some r ∧ VRel w ρ st.heap (okOf F w ρ st.heap) v val ∧ (Instr.build ty (ps.map fun (i, x) => (i, a.eval x))).run P w = .ok val w := by
  have htyo := hT _ _ hty
  obtain ⟨i, z, hi, hs, _, _, hz, hzc, _⟩ := htyo.info
  obtain ⟨_, fs, hfs, hch⟩ := htyo
  obtain ⟨places, hp, hpl⟩ := chain_places hch
  have hpd := parts_data (R := R) h ps.toList
  obtain ⟨x', cells', hk', hf, hc⟩ := partsK_inv (places := places) (fun f off t' ho => by have := hpl f off t' ho; rwa [Nat.zero_add] at this) (cells := z.cells) (by rw [hzc]; exact cells_zero w _ u) hpd hk
  refine ⟨_, .agg cells', hk', ⟨hc, by simp [Ty.isAgg], rfl⟩, run_build w ty _ cells' ?_⟩
  unfold Program.built
  simp only [hi, hfs, hz, hp, Array.toList_map]
  exact hf

theorem Open.buildSlice {tt : TypeId → Option Ty} (hT : TTOk P tt) (h : Open F w0 st a w ρ) {ty : TypeId} {u : Ty} (hty : tt ty = some (.list u)) (n : Nat) (ps : Array (Nat × Operand)) {K : Out → Option R} {r : R}
    (hk : (roomK (n * u.width) 16777216 <| elemsK u (List.replicate n u.zero) (ps.toList.map fun p => (p.1, res st.heap (PB.ev st.tmps p.2))) fun l => K (.row u l)) = some r) :
    ∃ out val w', K out = some r ∧ (Instr.buildSlice ty n (ps.map fun (i, x) => (i, a.eval x))).run P w = .ok val w' ∧ ∀ dst, Rel F w0 (st.after dst out) (a.put dst val) w' := by
  obtain ⟨hn, hk1⟩ := roomK_inv hk
  obtain ⟨_, e, he, hte⟩ := hT _ _ hty
  obtain ⟨i, z, hi, hsize, hpos, hbytes, hz, hzc, _⟩ := hte.info
  have hpd := parts_data (R := R) h ps.toList
  by_cases hn0 : n = 0
  · subst hn0
    have hps : ps.toList = [] := by
      cases hp : ps.toList with
      | nil => rfl
      | cons p r =>
        rw [hp] at hk1
        obtain ⟨h1, _⟩ := roomK_inv hk1
        simp at h1
    rw [hps] at hk1
    have hps' : ps = #[] := by apply Array.toList_inj.1; simpa using hps
    subst hps'
    have hk2 : K (.row u []) = some r := hk1
    refine ⟨_, _, w.alloc (.cells #[] e), hk2, ?_, fun dst => h.row (l := []) (cs := #[]) e rfl dst⟩
    simp [Instr.buildSlice, run_underlying he, sizeOf, typeInfo, hi, Instr.fill, newRow, show Array.range 0 = #[] from rfl]
  · have hw : n * i.size ≤ 2 ^ 24 := by rw [hsize]; exact hn
    have hp0 : ¬ n * i.size = 0 := by rw [hsize]; have := Nat.mul_pos (Nat.pos_of_ne_zero hn0) hpos; omega
    have hrz := row_zeros w (okOf F w ρ st.heap) u z.cells hzc n
    rw [← hsize] at hrz
    obtain ⟨l', cells', hk2, hlen, hf, hrow⟩ := elemsK_inv hrz hpd hk1
    rw [← hsize] at hf
    have hrun := run_buildSlice (P := P) w ty e n (ps.map fun (i, x) => (i, a.eval x)) cells' i z he hi hz (by omega) hp0 (by rw [Array.toList_map]; exact hf)
    have hl' : l'.length = n := by simpa using hlen
    refine ⟨_, _, _, hk2, hrun, fun dst => ?_⟩
    have := h.row (l := l') (cs := cells') e hrow dst
    rw [hl'] at this
    exact this

end
end Go.PB

namespace Go.PB
open Go Go.RowKit

section
variable {F : Nat → Prop} {P : Program} {G : World → Prop} {env : Env} {w0 w w' : World} {st : St} {a : Act} {ρ : Nat → Option Nat} {R : Type} {tt : TypeId → Option Ty}

theorem wp_val {o : Oper} {v : Value} {next : Act → World → Prop} {Q : Exit → Act → World → Prop} (hr : (execOp a.eval o).run P w = .ok (.value v) w') (h : next (a.put o.dst v) w') : o.wp P a w next Q := by
  unfold Oper.wp; rw [hr]; exact h

theorem wp_skp {o : Oper} {next : Act → World → Prop} {Q : Exit → Act → World → Prop} (hr : (execOp a.eval o).run P w = .ok .skip w') (h : next (a.put o.dst undef) w') : o.wp P a w next Q := by
  unfold Oper.wp; rw [hr]; exact h

theorem wp_enter {o : Oper} {f : FuncId} {args : Array Value} {next : Act → World → Prop} {Q : Exit → Act → World → Prop} (hr : (execOp a.eval o).run P w = .ok (.enter f args) w)
    (h : Calls P f args w fun e w' => ∃ val, e = .returned val ∧ next (a.put o.dst val) w') : o.wp P a w next Q := by
  unfold Oper.wp; rw [hr]
  exact h.mono fun e w' ⟨val, he, hn⟩ => by subst he; exact hn

/-- What is known behind an operation. -/
def Goes (F : Nat → Prop) (w0 : World) (K : St → Option R) (r : R) (a' : Act) (w' : World) : Prop := ∃ st', K st' = some r ∧ Rel F w0 st' a' w'

theorem goes_yield (h : Open F w0 st a w ρ) {o : Oper} {s : Sem Value} {K : St → Option R} {r : R} {Q : Exit → Act → World → Prop} (he : (execOp a.eval o).run P w = (s.run P w).andThen fun v w => .ok (.value v) w)
    (hy : Yield P w ρ st.heap (okOf F w ρ st.heap) (fun out => K (st.after o.dst out)) r s) : o.wp P a w (Goes F w0 K r) Q := by
  obtain ⟨v, val, hk, hv, hr⟩ := hy
  exact wp_val (by rw [he, hr]; rfl) ⟨_, hk, h.q hv o.dst⟩

theorem goes_out {o : Oper} {s : Sem Value} {K : St → Option R} {r : R} {Q : Exit → Act → World → Prop} (he : (execOp a.eval o).run P w = (s.run P w).andThen fun v w => .ok (.value v) w)
    (hy : ∃ out val w', K (st.after o.dst out) = some r ∧ s.run P w = .ok val w' ∧ ∀ dst, Rel F w0 (st.after dst out) (a.put dst val) w') : o.wp P a w (Goes F w0 K r) Q := by
  obtain ⟨out, val, w', hk, hr, hrel⟩ := hy
  exact wp_val (by rw [he, hr]; rfl) ⟨_, hk, hrel o.dst⟩

theorem pick_yield (h : Open F w0 st a w ρ) {c x y : Operand} {K : Out → Option R} {r : R}
    (hk : (match res st.heap (PB.ev st.tmps c) with
      | .data .bool b => match PB.ev st.tmps x, PB.ev st.tmps y with
        | .data t u, .data t' v => castK t' t v fun v' => K (.q (.data t (cond b u v')))
        | u, v => cond b (K (.q u)) (K (.q v))
      | _ => none) = some r) :
    Yield P w ρ st.heap (okOf F w ρ st.heap) K r (do pure (if ← asBool (a.eval c) then a.eval x else a.eval y)) := by
  split at hk
  · rename_i b ec
    have hb := (res_data (h.ev c) ec).bool_inv
    have hx := h.ev x
    have hy := h.ev y
    split at hk
    · rename_i t u t' v ex ey
      obtain ⟨e, hk⟩ := castK_inv hk
      subst e
      rw [ex] at hx; rw [ey] at hy
      refine ⟨_, if b then a.eval x else a.eval y, hk, ?_, by rw [hb]; simp [asBool]⟩
      cases b with
      | true => exact hx
      | false => exact hy
    · cases b with
      | true => exact ⟨_, a.eval x, hk, hx, by rw [hb]; simp [asBool]⟩
      | false => exact ⟨_, a.eval y, hk, hy, by rw [hb]; simp [asBool]⟩
  · simp at hk

theorem vlist_foldr (h : Open F w0 st a w ρ) : ∀ l : List Operand, VList w ρ st.heap (okOf F w ρ st.heap) (l.foldr (fun x t => .tcons (PB.ev st.tmps x) t) .tnil) (l.map a.eval)
  | [] => rfl
  | x :: l => ⟨_, _, rfl, h.ev x, vlist_foldr h l⟩

theorem minmax_run (isMax : Bool) {k : IntKind} (h : Open F w0 st a w ρ) : ∀ (l : List Operand) (n : Int) (K : Int → Option R) (r : R), minmax isMax n (l.map fun x => res st.heap (PB.ev st.tmps x)) K = some r →
    ∃ m, K m = some r ∧ ((l.map a.eval).foldlM (cond isMax Builtin.max2 Builtin.min2) (.int k n)).run P w = .ok (.int k m) w
  | [], n, K, r, hk => ⟨n, hk, by simp⟩
  | x :: l, n, K, r, hk => by
    simp only [List.map_cons] at hk
    cases hx : res st.heap (PB.ev st.tmps x) with
    | data t y =>
      cases t with
      | int k' =>
        rw [hx] at hk
        simp only [minmax] at hk
        obtain ⟨m, hm, hr⟩ := minmax_run isMax h l _ K r hk
        refine ⟨m, hm, ?_⟩
        have hv := (res_data (h.ev x) hx).int_inv
        cases isMax with
        | true =>
          simp only [cond_true, List.map_cons, List.foldlM_cons, hv] at hr ⊢
          have : (Builtin.max2 (.int k n) (.int k' y)).run P w = .ok (.int k (if y > n then y else n)) w := rfl
          simp only [Sem.run_bind, this, Result.andThen_ok]
          simpa using hr
        | false =>
          simp only [cond_false, List.map_cons, List.foldlM_cons, hv] at hr ⊢
          have : (Builtin.min2 (.int k n) (.int k' y)).run P w = .ok (.int k (if y < n then y else n)) w := rfl
          simp only [Sem.run_bind, this, Result.andThen_ok]
          simpa using hr
      | _ => rw [hx] at hk; simp [minmax] at hk
    | _ => rw [hx] at hk; simp [minmax] at hk

set_option maxHeartbeats 4000000 in
theorem opOn_sound (hT : TTOk P tt) (hE : EnvSound P G env) (hG : G w) (hr : Rel F w0 st a w) (o : Oper) {K : St → Option R} {r : R} (hk : opOn tt env o st K = some r) (Q : Exit → Act → World → Prop) : o.wp P a w (Goes F w0 K r) Q := by
  obtain ⟨ρ, h⟩ := hr.opened
  unfold opOn opK at hk
  cases ho : o.op with
  | move x =>
    rw [ho] at hk
    exact goes_yield h (s := pure (a.eval x)) (by simp [execOp, ho]) ⟨_, _, hk, h.ev x, by simp⟩
  | assign x =>
    rw [ho] at hk
    exact goes_yield h (s := pure (a.eval x)) (by simp [execOp, ho]) ⟨_, _, hk, h.ev x, by simp⟩
  | pick c x y =>
    rw [ho] at hk
    exact goes_yield h (s := do pure (if ← asBool (a.eval c) then a.eval x else a.eval y)) (by simp [execOp, ho]; cases (asBool (a.eval c)).run P w <;> simp) (pick_yield h hk)
  | binOp op ty x y ty' =>
    rw [ho] at hk
    exact goes_yield h (s := do eqGuard op ty x y (a.eval x) (a.eval y); binOp op ty (a.eval x) (a.eval y)) (by simp [execOp, ho]; cases Sem.run P (eqGuard op ty x y (a.eval x) (a.eval y)) w <;> rfl) (binK_yield hT x y (h.ev x) (h.ev y) hk)
  | unOp op ty x =>
    rw [ho] at hk
    exact goes_yield h (s := Op.unary op (a.eval x)) (by simp [execOp, ho]) (unK_yield (h.ev x) hk)
  | convert src dst x =>
    rw [ho] at hk
    exact goes_yield h (s := convert src dst (a.eval x)) (by simp [execOp, ho]) (convK_yield hT (h.ev x) hk)
  | nilCheck x =>
    rw [ho] at hk
    have key : K (st.after o.dst (.q (PB.ev st.tmps x))) = some r ∧ ∃ ad, a.eval x = .pointer (some ad) := by
      simp only at hk
      split at hk
      · rename_i id t y p ex
        obtain ⟨e1, hob⟩ := res_box ex
        have hx := h.ev x
        rw [e1] at hx
        obtain ⟨_, hp⟩ := hx
        rw [hob] at hp
        obtain ⟨b, off, t', _, _, e⟩ := hp
        exact ⟨hk, _, e⟩
      · rename_i t y ex
        obtain ⟨_, b, o', cs, e, _⟩ := res_rptr (h.ev x) ex
        exact ⟨hk, _, e⟩
      · rename_i id v t l i p ex
        obtain ⟨e1, hob⟩ := res_elem ex
        have hx := h.ev x
        rw [e1] at hx
        obtain ⟨_, hp⟩ := hx
        rw [hob] at hp
        obtain ⟨_, b, off, t', _, _, e⟩ := hp.2 rfl
        exact ⟨hk, _, e⟩
      · simp at hk
    obtain ⟨hk', ad, e⟩ := key
    exact goes_yield h (s := pure (a.eval x)) (by simp [execOp, ho, e]) ⟨_, _, hk', h.ev x, by simp⟩
  | fieldAddr s x f =>
    rw [ho] at hk
    exact goes_yield h (s := Instr.fieldAt s (a.eval x) f) (by simp [execOp, ho]) (fieldAddrK_yield hT (h.ev x) hk)
  | field s x f =>
    rw [ho] at hk
    exact goes_yield h (s := Instr.field s (a.eval x) f) (by simp [execOp, ho]) (fieldK_yield hT (h.ev x) hk)
  | indexAddr t x i =>
    rw [ho] at hk
    exact goes_yield h (s := Instr.indexAt t (a.eval x) (a.eval i)) (by simp [execOp, ho]) (indexAddrK_yield hT (fun b hb => hb.2) h.hrel.obj (h.ev x) (h.ev i) hk)
  | index t x i =>
    rw [ho] at hk
    exact goes_yield h (s := Instr.index t (a.eval x) (a.eval i)) (by simp [execOp, ho]) (indexK_yield hT (h.ev x) (h.ev i) hk)
  | slice t x lo hi mx =>
    rw [ho] at hk
    exact goes_yield h (s := Instr.sliceAt t (a.eval x) (lo.map a.eval) (hi.map a.eval) (mx.map a.eval)) (by simp [execOp, ho]) (sliceK_yield hT h.ev (h.ev x) hk)
  | load t x =>
    rw [ho] at hk
    exact goes_yield h (s := Instr.loadAt t (a.eval x)) (by simp [execOp, ho]) (loadK_yield hT h.hrel.obj (h.ev x) hk)
  | store t x y =>
    rw [ho] at hk
    obtain ⟨out, w', hk', hrun, hrel⟩ := h.store hT (ty := t) (x := x) (y := y) hk
    exact wp_skp (w' := w') (by simp [execOp, ho, hrun]) ⟨_, hk', hrel o.dst⟩
  | extract x i =>
    rw [ho] at hk
    exact goes_yield h (s := Instr.extract (a.eval x) i) (by simp [execOp, ho]) (extractK_yield (h.ev x) hk)
  | alloc e =>
    rw [ho] at hk
    simp only at hk
    split at hk
    · rename_i t hty
      have ht := hT _ _ hty
      obtain ⟨z, hz, hzc, _⟩ := ht.run_zero (w := w)
      refine goes_out (s := Instr.alloc e true (.tuple #[])) (by simp [execOp, ho]) ⟨_, _, _, hk, ?_, fun dst => h.box (v := z) e (by rw [hzc]; exact cells_zero w _ t) dst⟩
      simp [Instr.alloc, hz, newVar, newRow]
    · simp at hk
  | box e x =>
    rw [ho] at hk
    simp only at hk
    split at hk
    · rename_i t hty
      obtain ⟨y, hk', hd⟩ := dataK_inv (h.ev x) hk
      refine goes_out (s := Instr.box e (a.eval x)) (by simp [execOp, ho]) ⟨_, _, _, hk', ?_, fun dst => h.box (v := a.eval x) e hd.1 dst⟩
      simp [Instr.box, newVar, newRow]
    · simp at hk
  | build t ps =>
    rw [ho] at hk
    simp only at hk
    split at hk
    · rename_i u hty
      obtain ⟨v, val, hk', hv, hrun⟩ := h.build hT hty ps (K := fun out => K (st.after o.dst out)) hk
      exact goes_yield h (s := Instr.build t (ps.map fun (i, x) => (i, a.eval x))) (by simp [execOp, ho]) ⟨v, val, hk', hv, hrun⟩
    · simp at hk
  | buildSlice t n ps =>
    rw [ho] at hk
    simp only at hk
    split at hk
    · rename_i u hty
      exact goes_out (s := Instr.buildSlice t n (ps.map fun (i, x) => (i, a.eval x))) (by simp [execOp, ho]) (h.buildSlice hT hty n ps (K := fun out => K (st.after o.dst out)) hk)
    · simp at hk
  | makeFunc f first caps =>
    rw [ho] at hk
    cases f with
    | func g =>
      simp only at hk
      split at hk
      · rename_i hf
        have hf' : first = #[] := Array.eq_empty_of_size_eq_zero hf
        subst hf'
        refine goes_yield h (s := Instr.makeFunc (.func g) #[] (caps.map a.eval)) (by simp [execOp, ho]) ⟨_, .func (.func g) #[] (caps.map a.eval), hk, ⟨caps.toList.map a.eval, ?_, vlist_foldr h caps.toList⟩, by simp [Instr.makeFunc]⟩
        rw [← Array.toList_map]
      · simp at hk
    | _ => simp at hk
  | range t x =>
    rw [ho] at hk
    simp only at hk
    split at hk
    · rename_i s hty ex
      have hv := (res_data (h.ev x) ex).str_inv
      refine goes_out (s := Instr.range t (a.eval x)) (by simp [execOp, ho]) ⟨_, _, _, hk, ?_, fun dst => h.iter s dst⟩
      rw [hv]
      simp [Instr.range, Go.underlying, (hT _ _ hty).2]
    · simp at hk
  | next x isStr =>
    rw [ho] at hk
    simp only at hk
    split at hk
    · rename_i id s pos ex
      cases isStr with
      | false => simp at hk
      | true =>
        simp only [cond_true] at hk
        exact goes_out (s := Instr.next (a.eval x) true o.type) (by simp [execOp, ho]) (h.next ex (K := fun out => K (st.after o.dst out)) hk)
    · simp at hk
  | call c =>
    rw [ho] at hk
    simp only at hk
    split at hk
    · rename_i f hc
      split at hk
      · rename_i g caps ef
        obtain ⟨c', e1, e2⟩ := res_fn ef
        have hf := h.ev f
        rw [e1] at hf
        obtain ⟨vs, hval, hvl⟩ := hf
        subst e2
        obtain ⟨⟨fn, hfn, hbody, hname⟩, hcall⟩ := h.call hE hG ((zip_args h c.args.toList).append (zip_caps c' vs hvl)) hk
        refine wp_enter (f := g) (args := (c.args.toList.map a.eval ++ vs).toArray) ?_ (hcall.mono fun e w' ⟨out, val, h1, h2, h3⟩ => ⟨val, h2, _, h1, h3 o.dst⟩)
        have hb : fn.body ≠ none := fun e => by rw [e] at hbody; simp at hbody
        have earr : c.args.map a.eval ++ vs.toArray = (c.args.toList.map a.eval ++ vs).toArray := by apply Array.toList_inj.1; simp
        have hn : ¬ fn.name = "runtime.NumGoroutine" := by simpa using hname
        simp [execOp, ho, resolve, hc, hval, Deferred.ofValue, invoke, callFunc, hfn, hn, hb, earr]
      · simp at hk
    · rename_i hc
      split at hk
      · rename_i x ty hargs htys
        have ha : c.args = #[x] := Array.toList_inj.1 hargs
        have ht : c.argTypes = #[ty] := Array.toList_inj.1 htys
        exact goes_yield h (s := Builtin.len_ #[ty] o.type #[a.eval x]) (by simp [execOp, ho, resolve, hc, invoke, builtin, ha, ht]) (lenK_yield hT h.hrel.obj (h.ev x) hk)
      · simp at hk
    · rename_i hc
      split at hk
      · rename_i s x ty ty' hargs htys
        have ha : c.args = #[s, x] := Array.toList_inj.1 hargs
        have ht : c.argTypes = #[ty, ty'] := Array.toList_inj.1 htys
        split at hk
        · rename_i te hty heq
          have e : ty = ty' := by simpa using heq
          subst e
          exact goes_out (s := Builtin.append_ #[ty, ty] o.type #[a.eval s, a.eval x]) (by simp [execOp, ho, resolve, hc, invoke, builtin, ha, ht]) (h.append hT hty (K := fun out => K (st.after o.dst out)) hk)
        · simp at hk
      · simp at hk
    · rename_i hc
      split at hk
      · rename_i x rest hargs
        split at hk
        · rename_i k n ex
          have hv := (res_data (h.ev x) ex).int_inv
          obtain ⟨m, hm, hrun⟩ := minmax_run (P := P) true (k := k) h rest n _ r hk
          have ha : c.args = (x :: rest).toArray := by rw [← hargs]
          refine goes_yield h (s := Builtin.max_ c.argTypes o.type (c.args.map a.eval)) (by simp [execOp, ho, resolve, hc, invoke, builtin]) ⟨_, _, hm, dval_int _ _ k m, ?_⟩
          rw [ha]
          simpa [Builtin.max_, hv] using hrun
        · simp at hk
      · simp at hk
    · rename_i hc
      split at hk
      · rename_i x rest hargs
        split at hk
        · rename_i k n ex
          have hv := (res_data (h.ev x) ex).int_inv
          obtain ⟨m, hm, hrun⟩ := minmax_run (P := P) false (k := k) h rest n _ r hk
          have ha : c.args = (x :: rest).toArray := by rw [← hargs]
          refine goes_yield h (s := Builtin.min_ c.argTypes o.type (c.args.map a.eval)) (by simp [execOp, ho, resolve, hc, invoke, builtin]) ⟨_, _, hm, dval_int _ _ k m, ?_⟩
          rw [ha]
          simpa [Builtin.min_, hv] using hrun
        · simp at hk
      · simp at hk
    · simp at hk
  | _ => rw [ho] at hk; simp at hk

end
end Go.PB

namespace Go.PB
open Go Go.RowKit

section
variable {F : Nat → Prop} {P : Program} {G : World → Prop} {env : Env} {w0 w w' : World} {st : St} {a : Act} {ρ : Nat → Option Nat} {R : Type} {tt : TypeId → Option Ty}

theorem Rel.preFreeze (h : Rel F w0 st a w) (o : Oper) : Rel F w0 (PB.preFreeze o st) a w := by
  obtain ⟨ρ, ho⟩ := h.opened
  exact (ho.freezeAll (rowsIn_of_zip (zip_args ho (laid o)))).rel

theorem tset_same : ∀ (l : List AVal) (d : Nat) (v : AVal), tget l d = v → tset l d v = l
  | [], _, _, _ => rfl
  | x :: l, 0, v, h => by simp only [tget] at h; simp [tset, h]
  | x :: l, n + 1, v, h => by simp only [tget] at h; simp [tset, tset_same l n v h]

theorem opAt_sound (hT : TTOk P tt) (hE : EnvSound P G env) (hG : G w) (h : Rel F w0 st a w) (o : Oper) {K : St → Option R} {r : R} (hk : opAt tt env o st K = some r) (Q : Exit → Act → World → Prop) : o.wp P a w (Goes F w0 K r) Q :=
  opOn_sound hT hE hG (h.preFreeze o) o hk Q

theorem Rel.undef (h : Rel F w0 st a w) (dst : Option Tmp) : Rel F w0 ⟨putD st.tmps dst .undef, st.heap⟩ (a.put dst Go.undef) w := by
  obtain ⟨ρ, ho⟩ := h.opened
  exact ho.q (v := .undef) (val := Go.undef) (by simp [VRel]) dst

/-- Is an operation to be carried out? -/
theorem wanted_none {ops : Array Oper} {o : Oper} {tmps : Array Value} (h : o.guard = none) : Region.wanted o (yielded ops tmps) = true := by simp [Region.wanted, h]

theorem wanted_bool {ops : Array Oper} {o : Oper} {j d : Nat} {want b : Bool} {ρ : Nat → Option Nat} {h : List AObj} {ok : Nat → Prop} (hg : o.guard = some (j, want)) (hd : (ops[j]?).bind (·.dst) = some d)
    (hv : VRel w ρ h ok (.data .bool b) (a.tmps.getD d Go.undef)) : Region.wanted o (yielded ops a.tmps) = (b == want) := by
  have e := DVal.bool_inv hv
  have hs : a.tmps[d]? = some (.bool b) := by
    rw [Array.getD_eq_getD_getElem?] at e
    cases hx : a.tmps[d]? with
    | none => rw [hx] at e; simp [Go.undef] at e
    | some x => rw [hx] at e; simpa using e
  simp [Region.wanted, hg, yielded, hd, hs]

theorem wanted_undef {ops : Array Oper} {o : Oper} {j d : Nat} {want : Bool} (hg : o.guard = some (j, want)) (hd : (ops[j]?).bind (·.dst) = some d)
    (hv : a.tmps.getD d Go.undef = Go.undef) : Region.wanted o (yielded ops a.tmps) = false := by
  have : yielded ops a.tmps j = none := by
    unfold yielded
    rw [hd]
    rw [Array.getD_eq_getD_getElem?] at hv
    cases hx : a.tmps[d]? with
    | none => simp [hx]
    | some x => rw [hx] at hv; simp only [Option.getD_some] at hv; subst hv; simp [hx, Go.undef]
  simp [Region.wanted, hg, this]

theorem stepK_sound (hT : TTOk P tt) (hE : EnvSound P G env) (hG : G w) (h : Rel F w0 st a w) (ops : Array Oper) (o : Oper) {K : St → Option R} {r : R} (hk : stepK tt env ops.toList o st K = some r) (Q : Exit → Act → World → Prop) :
    if Region.wanted o (yielded ops a.tmps) then o.wp P a w (Goes F w0 K r) Q else Goes F w0 K r (a.put o.dst Go.undef) w := by
  unfold stepK at hk
  cases hg : o.guard with
  | none =>
    rw [hg] at hk
    rw [if_pos (wanted_none hg)]
    exact opAt_sound hT hE hG h o hk Q
  | some jw =>
    obtain ⟨j, want⟩ := jw
    rw [hg] at hk
    simp only [Array.getElem?_toList] at hk
    cases hd : (ops[j]?).bind (·.dst) with
    | none => rw [hd] at hk; simp at hk
    | some d =>
      rw [hd] at hk
      simp only at hk
      obtain ⟨ρ, ho⟩ := h.opened
      have hvd := ho.vals d
      split at hk
      · rename_i b ed
        rw [ed] at hvd
        rw [wanted_bool hg hd hvd]
        cases b with
        | true =>
          simp only [cond_true] at hk
          rw [tset_same _ _ _ ed] at hk
          cases want with
          | true => simp only [cond_true] at hk; rw [if_pos (by rfl)]; exact opAt_sound hT hE hG h o hk Q
          | false => simp only [cond_false] at hk; rw [if_neg (by simp)]; exact ⟨_, hk, h.undef o.dst⟩
        | false =>
          simp only [cond_false] at hk
          rw [tset_same _ _ _ ed] at hk
          cases want with
          | true => simp only [cond_true] at hk; rw [if_neg (by simp)]; exact ⟨_, hk, h.undef o.dst⟩
          | false => simp only [cond_false] at hk; rw [if_pos (by rfl)]; exact opAt_sound hT hE hG h o hk Q
      · rename_i ed
        rw [ed] at hvd
        rw [wanted_undef hg hd hvd, if_neg (by simp)]
        exact ⟨_, hk, h.undef o.dst⟩
      · simp at hk

/-- What is known of the start of a call stays known. -/
def Lasting (G : World → Prop) : Prop := ∀ w w' : World, Below w.heap.size w w' → G w → G w'

theorem Rel.good (h : Rel F w0 st a w) (hL : Lasting G) (hG : G w0) : G w := hL w0 w h.below hG

theorem seqK_sound (hT : TTOk P tt) (hE : EnvSound P G env) (hL : Lasting G) (hG : G w0) (ops : Array Oper) {Q : Exit → Act → World → Prop} {K : St → Option R} {r : R} (hQ : ∀ st a w, K st = some r → Rel F w0 st a w → Q .normal a w) :
    ∀ (l : List Oper) (st : St) (a : Act) (w : World), Rel F w0 st a w → seqK tt env ops.toList l st K = some r → wpList P ops Q l a w
  | [], st, a, w, h, hk => hQ st a w hk h
  | o :: rest, st, a, w, h, hk => by
    have hs := stepK_sound hT hE (h.good hL hG) h ops o hk Q
    unfold wpList
    split
    · rename_i hw
      rw [if_pos hw] at hs
      exact .inl (Oper.wp_mono (fun a' w' ⟨st', h1, h2⟩ => seqK_sound hT hE hL hG ops hQ rest st' a' w' h2 h1) hs)
    · rename_i hw
      rw [if_neg hw] at hs
      obtain ⟨st', h1, h2⟩ := hs
      exact seqK_sound hT hE hL hG ops hQ rest st' _ w h2 h1

/-! ## At a loop's head -/
theorem hget_takeH : ∀ (m : Nat) (h : List AObj) (id : Nat), hget (takeH m h) id = if id < m then (hget h id).reset else .none
  | 0, h, id => by simp [takeH, hget]
  | m + 1, [], id => by simp [takeH, hget, AObj.reset]
  | m + 1, o :: h, 0 => by simp [takeH, hget]
  | m + 1, o :: h, id + 1 => by simp only [takeH, hget]; rw [hget_takeH m h id]; simp

theorem length_takeH : ∀ (m : Nat) (h : List AObj), (takeH m h).length = min m h.length
  | 0, h => by simp [takeH]
  | m + 1, [] => by simp [takeH]
  | m + 1, o :: h => by simp [takeH, length_takeH m h, Nat.succ_min_succ]

theorem reset_owns (o : AObj) : o.reset.owns = o.owns := by cases o <;> rfl

theorem tget_keepT (m : Nat) (h : List AObj) : ∀ (keep : List Bool) (l : List AVal) (i : Nat), tget (keepT m h keep l) i = tget l i ∨ tget (keepT m h keep l) i = .dead ∨ tget (keepT m h keep l) i = normVal m h (tget l i)
  | _, [], i => .inl rfl
  | [], v :: l, 0 => .inr (.inl rfl)
  | [], v :: l, i + 1 => tget_keepT m h [] l i
  | true :: bs, v :: l, 0 => .inr (.inr rfl)
  | false :: bs, v :: l, 0 => .inr (.inl rfl)
  | _ :: bs, v :: l, i + 1 => tget_keepT m h bs l i

theorem tget_keepT_out (m : Nat) (h : List AObj) : ∀ (keep : List Bool) (l : List AVal) (i : Nat), i < l.length → tget (keepT m h keep l) i = .dead ∨ tget (keepT m h keep l) i = normVal m h (tget l i)
  | _, [], i, hi => by simp at hi
  | [], v :: l, 0, _ => .inl rfl
  | [], v :: l, i + 1, hi => tget_keepT_out m h [] l i (by simpa using hi)
  | true :: bs, v :: l, 0, _ => .inr rfl
  | false :: bs, v :: l, 0, _ => .inl rfl
  | _ :: bs, v :: l, i + 1, hi => tget_keepT_out m h bs l i (by simpa using hi)

theorem length_keepT (m : Nat) (h : List AObj) : ∀ (keep : List Bool) (l : List AVal), (keepT m h keep l).length = l.length
  | _, [] => rfl
  | [], v :: l => by simp [keepT, length_keepT m h [] l]
  | b :: bs, v :: l => by simp [keepT, length_keepT m h bs l]

theorem tget_ge (l : List AVal) (i : Nat) (h : l.length ≤ i) : tget l i = .undef := by
  induction l generalizing i with
  | nil => rfl
  | cons x l ih => cases i with
    | zero => simp at h
    | succ i => simp [tget]; exact ih i (by simpa using h)

theorem normVal_rel {h : List AObj} (m : Nat) : ∀ (v : AVal), (∀ val, VRel w ρ h (okOf F w ρ h) v val → VRel w ρ (takeH m h) (okOf F w ρ (takeH m h)) (normVal m h v) val) ∧ (∀ vs, VList w ρ h (okOf F w ρ h) v vs → VList w ρ (takeH m h) (okOf F w ρ (takeH m h)) (normVal m h v) vs) := by
  have live : ∀ b, liveOf w ρ h b → liveOf w ρ (takeH m h) b ∧ w.heap[b]? = w.heap[b]? := fun b hb => ⟨⟨hb.1, fun i hi hr => by
    rw [hget_takeH] at hi
    split at hi
    · rw [reset_owns] at hi; exact hb.2 i hi hr
    · simp [AObj.owns] at hi⟩, rfl⟩
  have dat : ∀ b, okOf F w ρ h b → okOf F w ρ (takeH m h) b ∧ w.heap[b]? = w.heap[b]? := fun b hb => ⟨⟨hb.1, (live b hb.2).1⟩, rfl⟩
  intro v
  induction v with
  | data t x => exact ⟨fun val hv => DVal.mono dat hv, fun vs hv => hv.elim⟩
  | osl id ver =>
    refine ⟨fun val ⟨hl, hs⟩ => ?_, fun vs hv => hv.elim⟩
    simp only [normVal]
    by_cases hid : id < m
    · simp only [hid, decide_true, cond_true]
      cases ho : hget h id with
      | row v' t l =>
        rw [ho] at hs
        simp only
        cases hc : (ver == v') with
        | false => trivial
        | true =>
          simp only [cond_true]
          refine ⟨by rw [length_takeH]; omega, ?_⟩
          rw [hget_takeH, if_pos hid, ho]
          exact ⟨Nat.le_refl _, fun _ => hs.2 (by simpa using hc)⟩
      | frow v' t l =>
        rw [ho] at hs
        simp only
        cases hc : (ver == v') with
        | false => trivial
        | true =>
          simp only [cond_true]
          refine ⟨by rw [length_takeH]; omega, ?_⟩
          rw [hget_takeH, if_pos hid, ho]
          exact fun _ => SliceW.mono dat (hs (by simpa using hc))
      | none => trivial
      | box t x => trivial
      | iter s p => trivial
    · simp only [hid, decide_false, cond_false]; trivial
  | ptr id p =>
    refine ⟨fun val ⟨hl, hs⟩ => ?_, fun vs hv => hv.elim⟩
    simp only [normVal]
    by_cases hid : id < m
    · simp only [hid, decide_true, cond_true]
      refine ⟨by rw [length_takeH]; omega, ?_⟩
      rw [hget_takeH, if_pos hid]
      cases ho : hget h id with
      | box t x => rw [ho] at hs; exact hs
      | _ => trivial
    · simp only [hid, decide_false, cond_false]; trivial
  | rptr t x => exact ⟨fun val hv => RpRel.mono live dat hv, fun vs hv => hv.elim⟩
  | eptr id v i p => exact ⟨fun val _ => trivial, fun vs hv => hv.elim⟩
  | iter id =>
    refine ⟨fun val ⟨hl, hs⟩ => ?_, fun vs hv => hv.elim⟩
    simp only [normVal]
    by_cases hid : id < m
    · simp only [hid, decide_true, cond_true]
      refine ⟨by rw [length_takeH]; omega, ?_⟩
      rw [hget_takeH, if_pos hid]
      cases ho : hget h id with
      | iter s p => rw [ho] at hs; exact hs
      | _ => trivial
    · simp only [hid, decide_false, cond_false]; trivial
  | fn f c ih => exact ⟨fun val ⟨vs, e, hv⟩ => ⟨vs, e, ih.2 vs hv⟩, fun vs hv => hv.elim⟩
  | tnil => exact ⟨fun val hv => hv, fun vs hv => hv⟩
  | tcons a b iha ihb => exact ⟨fun val ⟨v, vs, e, h1, h2⟩ => ⟨v, vs, e, iha.1 v h1, ihb.2 vs h2⟩, fun vs ⟨v, vs', e, h1, h2⟩ => ⟨v, vs', e, iha.1 v h1, ihb.2 vs' h2⟩⟩
  | nils => exact ⟨fun val hv => hv, fun vs hv => hv.elim⟩
  | nilp => exact ⟨fun val hv => hv, fun vs hv => hv.elim⟩
  | undef => exact ⟨fun val hv => hv, fun vs hv => hv.elim⟩
  | dead => exact ⟨fun val _ => trivial, fun vs hv => hv.elim⟩

theorem Rel.norm (hr : Rel F w0 st a w) (keep : List Bool) (m : Nat) : Rel F w0 (PB.norm keep m st) a w := by
  obtain ⟨ρ, ho⟩ := hr.opened
  have owns' : ∀ i, (hget (takeH m st.heap) i).owns = true → (hget st.heap i).owns = true := fun i hi => by
    rw [hget_takeH] at hi
    split at hi
    · rwa [reset_owns] at hi
    · simp [AObj.owns] at hi
  have dat : ∀ b, okOf F w ρ st.heap b → okOf F w ρ (takeH m st.heap) b ∧ w.heap[b]? = w.heap[b]? := fun b hb => ⟨⟨hb.1, hb.2.1, fun i hi hr => hb.2.2 i (owns' i hi) hr⟩, rfl⟩
  refine ⟨ho.defers, by simp [PB.norm, length_keepT, ho.size], ho.below, ρ, ⟨ho.hrel.base, fun id hid => ?_, fun id b h1 h2 => ho.hrel.own id b (owns' id h1) h2, fun i j b h1 h2 h3 h4 => ho.hrel.inj i j b (owns' i h1) (owns' j h2) h3 h4⟩, fun i => ?_⟩
  · show ORel w ρ _ id (hget (takeH m st.heap) id)
    have hid' : id < min m st.heap.length := by simpa [PB.norm, length_takeH] using hid
    rw [hget_takeH, if_pos (by omega)]
    have hob := ORel.keeps (w' := w) (ρ' := ρ) dat rfl (fun _ _ _ => rfl) (ho.hrel.obj id (by omega))
    cases hoo : hget st.heap id with
    | row v t l => rw [hoo] at hob; exact hob
    | frow v t l => trivial
    | none => trivial
    | box t x => rw [hoo] at hob; exact hob
    | iter s p => rw [hoo] at hob; exact hob
  · show VRel w ρ (takeH m st.heap) _ (tget (keepT m st.heap keep st.tmps) i) _
    rcases Nat.lt_or_ge i st.tmps.length with hi | hi
    · rcases tget_keepT_out m st.heap keep st.tmps i hi with e | e
      · rw [e]; trivial
      · rw [e]; exact (normVal_rel m _).1 _ (ho.vals i)
    · rw [tget_ge _ _ (by rw [length_keepT]; exact hi)]
      have := ho.vals i
      rw [tget_ge _ _ hi] at this
      exact this

theorem Rel.mkRows (hr : Rel F w0 st a w) : ∀ (rows : List (Nat × Ty)), Rel F w0 (PB.mkRows rows st) a w := by
  intro rows
  induction rows generalizing st with
  | nil => exact hr
  | cons p rows ih =>
    obtain ⟨s, t⟩ := p
    simp only [PB.mkRows]
    split
    · rename_i es
      refine ih ?_
      obtain ⟨ρ, h⟩ := hr.opened
      have hval := h.vals s
      rw [es] at hval
      have hval' : a.tmps.getD s Go.undef = .slice none 0 0 := hval
      have hsame : ∀ id, id < st.heap.length → hget (st.heap ++ [.row 0 t []]) id = hget st.heap id ∧ (fun i => if i = st.heap.length then none else ρ i) id = ρ id := fun id hid => by
        rw [hget_append, if_neg (by omega)]; simp; omega
      have hno : ∀ id b, st.heap.length ≤ id → (hget (st.heap ++ [.row 0 t []]) id).owns = true → (fun i => if i = st.heap.length then none else ρ i) id = some b → False := fun id b hid hown hr => by
        by_cases e : id = st.heap.length
        · simp [e] at hr
        · rw [hget_ge _ id (by simp; omega)] at hown; simp [AObj.owns] at hown
      have hH := hrel_ext (w' := w) (ρ' := fun i => if i = st.heap.length then none else ρ i) (h' := st.heap ++ [.row 0 t []]) h.hrel h.base (Nat.le_refl _) (fun _ _ => rfl) (by simp) hsame (fun id h1 h2 => by
          obtain rfl : id = st.heap.length := by simp at h2; omega
          rw [hget_append, if_pos rfl]
          exact .inl ⟨by simp, rfl⟩) (fun id b h1 h2 h3 => (hno id b h1 h2 h3).elim) (fun id id' b h1 _ h2 _ h3 _ => (hno id b h1 h2 h3).elim)
      have k := keeps_ext (F := F) (w' := w) (ρ' := fun i => if i = st.heap.length then none else ρ i) (h' := st.heap ++ [.row 0 t []]) (h := st.heap) (ρ := ρ) (Nat.le_refl _) (fun _ _ => rfl) (by simp) hsame (fun id b h1 h2 h3 => (hno id b h1 h2 h3).elim)
      refine ⟨h.defers, by simp [length_tset, h.size], h.below, _, hH, fun i => ?_⟩
      show VRel w _ (st.heap ++ [.row 0 t []]) _ (tget (tset st.tmps s (.osl st.heap.length 0)) i) _
      rw [tget_tset]
      split
      · rename_i hi
        rw [← hi.1, hval']
        refine ⟨by simp, ?_⟩
        rw [hget_append, if_pos rfl]
        exact ⟨Nat.le_refl _, fun _ => .inl ⟨by simp, rfl⟩⟩
      · exact VRel.keeps k _ _ (h.vals i)
    · exact ih hr

end
end Go.PB

namespace Go.PB
open Go Go.RowKit

def EnvNat (env : Env) : Prop := ∀ (R : Type) (f : FuncId) (args : List RVal) (K : List ARes → Option R), env R f args K = (env (List ARes) f args some).bind K

section
variable {R : Type}

theorem rangeK_nat {α : Type} (i n : Int) (x : Option α) (K : α → Option R) (y : Option R) (h : y = x.bind K) : rangeK i n y = (rangeK i n x).bind K := by subst h; unfold rangeK; split <;> rfl
theorem cutK_nat {α : Type} (l h n : Int) (x : Option α) (K : α → Option R) (y : Option R) (he : y = x.bind K) : cutK l h n y = (cutK l h n x).bind K := by subst he; unfold cutK; split <;> rfl
theorem roomK_nat {α : Type} (n m : Nat) (x : Option α) (K : α → Option R) (y : Option R) (h : y = x.bind K) : roomK n m y = (roomK n m x).bind K := by subst h; unfold roomK; split <;> rfl
theorem nzK_nat {α : Type} (n : Int) (x : Option α) (K : α → Option R) (y : Option R) (h : y = x.bind K) : nzK n y = (nzK n x).bind K := by subst h; unfold nzK; split <;> rfl
theorem posK_nat {α : Type} (n : Int) (x : Option α) (K : α → Option R) (y : Option R) (h : y = x.bind K) : posK n y = (posK n x).bind K := by subst h; unfold posK; split <;> rfl
theorem sameK_nat {α : Type} (a b : Ty) (x : Option α) (K : α → Option R) (y : Option R) (h : y = x.bind K) : sameK a b y = (sameK a b x).bind K := by subst h; unfold sameK; split <;> rfl
theorem castK_nat {α : Type} (a b : Ty) (x : a.C) (g : b.C → Option α) (K : α → Option R) (g' : b.C → Option R) (h : ∀ z, g' z = (g z).bind K) : castK a b x g' = (castK a b x g).bind K := by
  unfold castK; split
  · exact h _
  · rfl
theorem dataK_nat {α : Type} (r : RVal) (t : Ty) (g : t.C → Option α) (K : α → Option R) (g' : t.C → Option R) (h : ∀ z, g' z = (g z).bind K) : RVal.dataK r t g' = (RVal.dataK r t g).bind K := by
  cases r with
  | data t' x => exact castK_nat _ _ _ _ _ _ h
  | _ => first | rfl | (cases t <;> first | rfl | exact h _)
theorem listK_nat {α : Type} (r : RVal) (t : Ty) (g : List t.C → Option α) (K : α → Option R) (g' : List t.C → Option R) (h : ∀ z, g' z = (g z).bind K) : listK r t g' = (listK r t g).bind K := by
  unfold listK; split
  · exact castK_nat _ _ _ _ _ _ h
  · exact castK_nat _ _ _ _ _ _ h
  · exact h _
  · rfl
theorem compK_nat {α : Type} (K : α → Option R) : ∀ (t : Ty) (x : t.C) (f : Nat) (g : (t' : Ty) → t'.C → Option α) (g' : (t' : Ty) → t'.C → Option R), (∀ t' z, g' t' z = (g t' z).bind K) → Ty.compK t x f g' = (Ty.compK t x f g).bind K
  | .pair a _, x, 0, g, g', h => h _ _
  | .pair _ b, x, n + 1, g, g', h => compK_nat K b x.2 n g g' h
  | .unit, _, _, _, _, _ => rfl
  | .int _, _, _, _, _, _ => rfl
  | .bool, _, _, _, _, _ => rfl
  | .str, _, _, _, _, _ => rfl
  | .list _, _, _, _, _, _ => rfl
  | .agg _, _, _, _, _, _ => rfl
theorem getK_nat {α : Type} (K : α → Option R) : ∀ (p : List Nat) (t : Ty) (x : t.C) (g : (t' : Ty) → t'.C → Option α) (g' : (t' : Ty) → t'.C → Option R), (∀ t' z, g' t' z = (g t' z).bind K) → Ty.getK p t x g' = (Ty.getK p t x g).bind K
  | [], t, x, g, g', h => h _ _
  | f :: p, .agg t, x, g, g', h => compK_nat K t x f _ _ fun t' z => getK_nat K p t' z g g' h
  | _ :: _, .unit, _, _, _, _ => rfl
  | _ :: _, .int _, _, _, _, _ => rfl
  | _ :: _, .bool, _, _, _, _ => rfl
  | _ :: _, .str, _, _, _, _ => rfl
  | _ :: _, .list _, _, _, _, _ => rfl
  | _ :: _, .pair _ _, _, _, _, _ => rfl
theorem compSet_nat {α : Type} (K : α → Option R) : ∀ (t : Ty) (x : t.C) (f : Nat) (c : (t' : Ty) → t'.C → (t'.C → Option α) → Option α) (c' : (t' : Ty) → t'.C → (t'.C → Option R) → Option R) (g : t.C → Option α) (g' : t.C → Option R),
    (∀ t' z (k : t'.C → Option α) (k' : t'.C → Option R), (∀ y, k' y = (k y).bind K) → c' t' z k' = (c t' z k).bind K) → (∀ y, g' y = (g y).bind K) → Ty.compSet t x f c' g' = (Ty.compSet t x f c g).bind K
  | .pair a _, x, 0, c, c', g, g', hc, h => hc _ _ _ _ fun y => h _
  | .pair _ b, x, n + 1, c, c', g, g', hc, h => compSet_nat K b x.2 n c c' _ _ hc fun y => h _
  | .unit, _, _, _, _, _, _, _, _ => rfl
  | .int _, _, _, _, _, _, _, _, _ => rfl
  | .bool, _, _, _, _, _, _, _, _ => rfl
  | .str, _, _, _, _, _, _, _, _ => rfl
  | .list _, _, _, _, _, _, _, _, _ => rfl
  | .agg _, _, _, _, _, _, _, _, _ => rfl
theorem setK_nat {α : Type} (K : α → Option R) : ∀ (p : List Nat) (t : Ty) (x : t.C) (t' : Ty) (y : t'.C) (g : t.C → Option α) (g' : t.C → Option R), (∀ z, g' z = (g z).bind K) → Ty.setK p t x t' y g' = (Ty.setK p t x t' y g).bind K
  | [], t, x, t', y, g, g', h => castK_nat _ _ _ _ _ _ h
  | f :: p, .agg t, x, t', y, g, g', h => compSet_nat K t x f _ _ _ _ (fun u z k k' hk => setK_nat K p u z t' y k k' hk) h
  | _ :: _, .unit, _, _, _, _, _, _ => rfl
  | _ :: _, .int _, _, _, _, _, _, _ => rfl
  | _ :: _, .bool, _, _, _, _, _, _ => rfl
  | _ :: _, .str, _, _, _, _, _, _ => rfl
  | _ :: _, .list _, _, _, _, _, _, _ => rfl
  | _ :: _, .pair _ _, _, _, _, _, _, _ => rfl
theorem partsK_nat {α : Type} (K : α → Option R) : ∀ (ps : List (Nat × RVal)) (t : Ty) (x : t.C) (g : t.C → Option α) (g' : t.C → Option R), (∀ z, g' z = (g z).bind K) → partsK t x ps g' = (partsK t x ps g).bind K
  | [], t, x, g, g', h => h _
  | p :: ps, t, x, g, g', h => compSet_nat K t x p.1 _ _ _ _ (fun u z k k' hk => dataK_nat _ _ _ _ _ hk) fun y => partsK_nat K ps t y g g' h
theorem elemsK_nat {α : Type} (K : α → Option R) : ∀ (ps : List (Nat × RVal)) (t : Ty) (l : List t.C) (g : List t.C → Option α) (g' : List t.C → Option R), (∀ z, g' z = (g z).bind K) → elemsK t l ps g' = (elemsK t l ps g).bind K
  | [], t, l, g, g', h => h _
  | p :: ps, t, l, g, g', h => roomK_nat _ _ _ _ _ (dataK_nat _ _ _ _ _ fun y => elemsK_nat K ps t _ g g' h)
theorem extractK_nat (K : Out → Option R) : ∀ (u : AVal) (i : Nat), extractK u i K = (extractK u i some).bind K
  | .tcons a _, 0 => rfl
  | .tcons _ b, n + 1 => extractK_nat K b n
  | .tnil, _ => rfl
  | .data .., _ => rfl
  | .osl .., _ => rfl
  | .ptr .., _ => rfl
  | .rptr .., _ => rfl
  | .eptr .., _ => rfl
  | .iter .., _ => rfl
  | .fn .., _ => rfl
  | .nils, _ => rfl
  | .nilp, _ => rfl
  | .undef, _ => rfl
  | .dead, _ => rfl
theorem minmax_nat {α : Type} (isMax : Bool) (K : α → Option R) (g : Int → Option α) (g' : Int → Option R) (h : ∀ z, g' z = (g z).bind K) : ∀ (l : List RVal) (x : Int), minmax isMax x l g' = (minmax isMax x l g).bind K
  | [], x => h _
  | y :: l, x => by
    cases y with
    | data t z =>
      cases t with
      | int k => exact minmax_nat isMax K g g' h l _
      | _ => rfl
    | _ => rfl
theorem optI_nat {α : Type} (x : Option RVal) (d : Int) (g : Int → Option α) (K : α → Option R) (g' : Int → Option R) (h : ∀ z, g' z = (g z).bind K) : optI x d g' = (optI x d g).bind K := by
  unfold optI; split
  · exact h _
  · exact h _
  · rfl

theorem binInt_nat (op : BinOp) (k : IntKind) (x y : Int) (K : Out → Option R) : binInt op k x y K = (binInt op k x y some).bind K := by
  cases op <;> first | rfl | exact nzK_nat _ _ _ _ rfl
theorem binShift_nat (op : BinOp) (k : IntKind) (x y : Int) (K : Out → Option R) : binShift op k x y K = (binShift op k x y some).bind K := by
  cases op <;> first | rfl | exact posK_nat _ _ _ _ rfl
theorem binStr_nat (op : BinOp) (x y : ByteArray) (K : Out → Option R) : binStr op x y K = (binStr op x y some).bind K := by
  cases op <;> first | rfl | exact roomK_nat _ _ _ _ _ rfl
theorem binK_nat (ty : Option Ty) (op : BinOp) (x y : RVal) (K : Out → Option R) : binK ty op x y K = (binK ty op x y some).bind K := by
  unfold binK
  split
  · split
    · exact binShift_nat _ _ _ _ _
    · exact binShift_nat _ _ _ _ _
    · split
      · exact binInt_nat _ _ _ _ _
      · rfl
  · exact binStr_nat _ _ _ _
  · split <;> rfl
  · split
    · rename_i t0
      cases (t0.plainEq && Nat.blt t0.deep 1000)
      · rfl
      · simp only [cond_true]; exact castK_nat _ _ _ _ _ _ fun _ => castK_nat _ _ _ _ _ _ fun _ => rfl
    · rename_i t0
      cases (t0.plainEq && Nat.blt t0.deep 1000)
      · rfl
      · simp only [cond_true]; exact castK_nat _ _ _ _ _ _ fun _ => castK_nat _ _ _ _ _ _ fun _ => rfl
    · rfl
  · rfl

theorem fieldAddrK_nat (ty : Option Ty) (x : AVal) (r : RVal) (f : Nat) (K : Out → Option R) : fieldAddrK ty x r f K = (fieldAddrK ty x r f some).bind K := by
  unfold fieldAddrK atPath hasPath
  split
  · split
    · refine sameK_nat _ _ _ _ _ ?_
      split <;> rfl
    · rfl
  · exact sameK_nat _ _ _ _ _ (compK_nat _ _ _ _ _ _ fun _ _ => rfl)
  · split
    · refine sameK_nat _ _ _ _ _ ?_
      split <;> rfl
    · rfl
  · rfl

theorem callK_nat {env : Env} (hn : EnvNat env) (f : FuncId) (args : List RVal) (K : Out → Option R) : callK env f args K = (callK env f args some).bind K := by
  unfold callK
  rw [hn R f _ _, hn Out f _ _, Option.bind_assoc]
  congr 1
  funext rs
  split
  · rfl
  · split
    · rename_i id v t' l rest
      cases (restOk id rest && !_) with
      | true => exact sameK_nat _ _ _ _ _ rfl
      | false => rfl
    · rfl
  · cases allData _ <;> rfl

theorem opK_nat {env : Env} (hn : EnvNat env) (tt : TypeId → Option Ty) (o : Oper) (a : Operand → AVal) (r : Operand → RVal) (K : Out → Option R) : opK tt env o a r K = (opK tt env o a r some).bind K := by
  unfold opK
  cases o.op with
  | move x => rfl
  | assign x => rfl
  | pick c x y =>
    simp only
    split
    · rename_i b _
      split
      · exact castK_nat _ _ _ _ _ _ fun _ => rfl
      · cases b <;> rfl
    · rfl
  | binOp op ty x y _ => exact binK_nat _ _ _ _ _
  | unOp op ty x => simp only [unK]; split <;> rfl
  | convert s d x => simp only [convK]; split <;> rfl
  | nilCheck x => simp only; split <;> rfl
  | fieldAddr s x f => exact fieldAddrK_nat _ _ _ _ _
  | field s x f => simp only [fieldK]; split <;> first | rfl | exact sameK_nat _ _ _ _ _ (compK_nat _ _ _ _ _ _ fun _ _ => rfl)
  | indexAddr t x i => simp only [indexAddrK]; split <;> first | rfl | exact sameK_nat _ _ _ _ _ (rangeK_nat _ _ _ _ _ rfl)
  | index t x i => simp only [indexK]; split <;> first | rfl | exact rangeK_nat _ _ _ _ _ rfl
  | slice t x lo hi mx =>
    simp only [sliceK]; split
    · exact optI_nat _ _ _ _ _ fun _ => optI_nat _ _ _ _ _ fun _ => cutK_nat _ _ _ _ _ _ rfl
    · exact sameK_nat _ _ _ _ _ (optI_nat _ _ _ _ _ fun _ => optI_nat _ _ _ _ _ fun _ => cutK_nat _ _ _ _ _ _ rfl)
    · rfl
  | load t x =>
    simp only [loadK]; split
    · exact getK_nat _ _ _ _ _ _ fun _ _ => castK_nat _ _ _ _ _ _ fun _ => rfl
    · exact castK_nat _ _ _ _ _ _ fun _ => rfl
    · exact getK_nat _ _ _ _ _ _ fun _ _ => castK_nat _ _ _ _ _ _ fun _ => rfl
    · rfl
  | store t x y =>
    simp only [storeK]; split
    · exact dataK_nat _ _ _ _ _ fun _ => setK_nat _ _ _ _ _ _ _ _ fun _ => rfl
    · exact dataK_nat _ _ _ _ _ fun _ => setK_nat _ _ _ _ _ _ _ _ fun _ => rfl
    · rfl
  | extract x i => exact extractK_nat _ _ _
  | alloc e => simp only; split <;> rfl
  | box e x => simp only; split <;> first | rfl | exact dataK_nat _ _ _ _ _ fun _ => rfl
  | build t ps => simp only; split <;> first | rfl | exact partsK_nat _ _ _ _ _ _ fun _ => rfl
  | buildSlice t n ps => simp only; split <;> first | rfl | exact roomK_nat _ _ _ _ _ (elemsK_nat _ _ _ _ _ _ fun _ => rfl)
  | makeFunc f first caps =>
    cases f with
    | func g => simp only; split <;> rfl
    | _ => rfl
  | range t x => simp only; split <;> rfl
  | next x isStr =>
    simp only; split
    · cases isStr with
      | true => simp only [cond_true]; split <;> rfl
      | false => rfl
    · rfl
  | call c =>
    simp only
    split
    · split
      · exact callK_nat hn _ _ _
      · rfl
    · split
      · simp only [lenK]; split <;> rfl
      · rfl
    · split
      · split
        · simp only [appendK]; split
          · exact sameK_nat _ _ _ _ _ (listK_nat _ _ _ _ _ fun _ => roomK_nat _ _ _ _ _ rfl)
          · exact listK_nat _ _ _ _ _ fun _ => roomK_nat _ _ _ _ _ rfl
          · rfl
        · rfl
      · rfl
    · split
      · split
        · exact minmax_nat true K (fun m => some (.q (.data (.int _) m))) _ (fun _ => rfl) _ _
        · rfl
      · rfl
    · split
      · split
        · exact minmax_nat false K (fun m => some (.q (.data (.int _) m))) _ (fun _ => rfl) _ _
        · rfl
      · rfl
    · rfl
  | _ => rfl

end
end Go.PB

namespace Go.PB
open Go Go.RowKit

theorem force_eq {α : Type} (m : Nat) (k : Nat → α) : force m k = k m := by cases m <;> rfl

theorem length_freezeRows : ∀ (l : List RVal) (h : List AObj), (freezeRows l h).length = h.length
  | [], h => rfl
  | .row id v t x :: l, h => by simp only [freezeRows]; rw [length_freezeRows l, length_hset]
  | .data .. :: l, h => length_freezeRows l h
  | .box .. :: l, h => length_freezeRows l h
  | .rptr .. :: l, h => length_freezeRows l h
  | .elem .. :: l, h => length_freezeRows l h
  | .iter .. :: l, h => length_freezeRows l h
  | .fn .. :: l, h => length_freezeRows l h
  | .tnil :: l, h => length_freezeRows l h
  | .tcons .. :: l, h => length_freezeRows l h
  | .nils :: l, h => length_freezeRows l h
  | .nilp :: l, h => length_freezeRows l h
  | .dead :: l, h => length_freezeRows l h

/-- A change of memory that is reckoned object by object, at the objects W alone. -/
structure Pointy (W : List Nat) (M : List AObj → List AObj) : Prop where
  len : ∀ h, (M h).length = h.length
  out : ∀ h id, id ∉ W → hget (M h) id = hget h id
  at_ : ∀ h h' id, h.length = h'.length → hget h id = hget h' id → hget (M h) id = hget (M h') id

theorem Pointy.id (W : List Nat) : Pointy W (fun h => h) := ⟨fun _ => rfl, fun _ _ _ => rfl, fun _ _ _ _ h => h⟩

theorem Pointy.comp {W W' : List Nat} {M M' : List AObj → List AObj} (a : Pointy W M) (b : Pointy W' M') : Pointy (W ++ W') (fun h => M' (M h)) :=
  ⟨fun h => by rw [b.len, a.len], fun h id hi => by
    simp only [List.mem_append, not_or] at hi
    rw [b.out _ _ hi.2, a.out _ _ hi.1],
   fun h h' id hl hg => b.at_ _ _ _ (by rw [a.len, a.len, hl]) (a.at_ _ _ _ hl hg)⟩

theorem Pointy.mono {W W' : List Nat} {M : List AObj → List AObj} (a : Pointy W M) (h : ∀ x ∈ W, x ∈ W') : Pointy W' M :=
  ⟨a.len, fun h' id hi => a.out _ _ (fun hx => hi (h _ hx)), a.at_⟩

theorem Pointy.hset (id : Nat) (o : AObj) : Pointy [id] (fun h => hset h id o) :=
  ⟨fun h => length_hset h id o, fun h i hi => by rw [hget_hset, if_neg (fun e => hi (by simp [e.1]))], fun h h' i hl hg => by
    rw [hget_hset, hget_hset, hl, hg]⟩

theorem Pointy.freeze : ∀ (l : List RVal), Pointy (frzIds l) (freezeRows l)
  | [] => Pointy.id _
  | .row id v t x :: l => ((Pointy.hset id (.frow v t x)).comp (Pointy.freeze l)).mono (by simp [frzIds])
  | .data .. :: l => Pointy.freeze l
  | .box .. :: l => Pointy.freeze l
  | .rptr .. :: l => Pointy.freeze l
  | .elem .. :: l => Pointy.freeze l
  | .iter .. :: l => Pointy.freeze l
  | .fn .. :: l => Pointy.freeze l
  | .tnil :: l => Pointy.freeze l
  | .tcons .. :: l => Pointy.freeze l
  | .nils :: l => Pointy.freeze l
  | .nilp :: l => Pointy.freeze l
  | .dead :: l => Pointy.freeze l

theorem Pointy.pre (p : Nat) (out : Out) : Pointy (out.wr p) (fun h => out.pre h) := by
  cases out with
  | q v => exact Pointy.id _
  | row t l => exact Pointy.id _
  | box t l => exact Pointy.id _
  | iter s => exact Pointy.id _
  | upd v id o => exact Pointy.hset id o
  | results rs frz => exact Pointy.freeze frz
  | ownr t l frz => exact (Pointy.freeze frz).mono (fun x hx => by simp [Out.wr, hx])

/-- Memory with the new object in its place. -/
def placed (p : Nat) (o : Option AObj) (h : List AObj) : List AObj :=
  match o with
  | some o => hset h p o
  | none => h

theorem Pointy.placed (p : Nat) (out : Out) : Pointy (out.wr p) (fun h => placed p out.obj (out.pre h)) := by
  cases out with
  | q v => exact Pointy.id _
  | row t l => exact Pointy.hset p _
  | box t l => exact Pointy.hset p _
  | iter s => exact Pointy.hset p _
  | upd v id o => exact Pointy.hset id o
  | results rs frz => exact Pointy.freeze frz
  | ownr t l frz => exact ((Pointy.freeze frz).comp (Pointy.hset p _)).mono (by simp [Out.wr, or_comm])

theorem res_congr {h h' : List AObj} : ∀ (v : AVal), (∀ id ∈ v.ids, hget h id = hget h' id) → res h v = res h' v
  | .data _ _, _ => rfl
  | .osl id _, he => by simp only [res]; rw [he id (by simp [AVal.ids])]
  | .ptr id _, he => by simp only [res]; rw [he id (by simp [AVal.ids])]
  | .eptr id _ _ _, he => by simp only [res]; rw [he id (by simp [AVal.ids])]
  | .iter id, he => by simp only [res]; rw [he id (by simp [AVal.ids])]
  | .rptr _ _, _ => rfl
  | .fn f c, he => by simp only [res]; rw [res_congr c he]
  | .tcons a b, he => by
    simp only [res]
    rw [res_congr a (fun id hi => he id (by simp [AVal.ids, hi])), res_congr b (fun id hi => he id (by simp [AVal.ids, hi]))]
  | .tnil, _ => rfl
  | .nils, _ => rfl
  | .nilp, _ => rfl
  | .undef, _ => rfl
  | .dead, _ => rfl

theorem mem_idsAt {tmps : List AVal} {id : Nat} : ∀ {l : List Operand} {x : Operand}, x ∈ l → id ∈ (ev tmps x).ids → id ∈ idsAt tmps l
  | y :: l, x, hx, hi => by
    simp only [idsAt, List.mem_append]
    rcases List.mem_cons.1 hx with e | e
    · subst e; exact .inl hi
    · exact .inr (mem_idsAt e hi)

theorem idsAt_congr {tmps tmps' : List AVal} : ∀ {l : List Operand}, (∀ x ∈ l, ev tmps x = ev tmps' x) → idsAt tmps l = idsAt tmps' l
  | [], _ => rfl
  | x :: l, h => by simp only [idsAt]; rw [h x (by simp), idsAt_congr fun y hy => h y (by simp [hy])]

theorem map_opt_congr {α : Type} {f g : Operand → α} {x : Option Operand} (h : ∀ y ∈ x, f y = g y) : x.map f = x.map g := by
  cases x with
  | none => rfl
  | some y => simp [h y (by simp)]

theorem opK_congr {R : Type} {env : Env} (tt : TypeId → Option Ty) (o : Oper) {a a' : Operand → AVal} {r r' : Operand → RVal} (ha : ∀ x ∈ o.op.operands.toList, a x = a' x) (hr : ∀ x ∈ o.op.operands.toList, r x = r' x) (K : Out → Option R) :
    opK tt env o a r K = opK tt env o a' r' K := by
  obtain ⟨dst, op, type, pos, after, guard⟩ := o
  have mp : ∀ {α : Type} (f g : Operand → α) (l : List Operand), (∀ x ∈ l, f x = g x) → l.map f = l.map g := fun f g l h => List.map_congr_left h
  unfold opK
  cases op with
  | move x => simp only [Op.operands] at ha; simp [ha x (by simp)]
  | assign x => simp only [Op.operands] at ha; simp [ha x (by simp)]
  | pick c x y => simp only [Op.operands] at ha hr; simp [ha x (by simp), ha y (by simp), hr c (by simp)]
  | binOp op ty x y _ => simp only [Op.operands] at hr; simp [hr x (by simp), hr y (by simp)]
  | unOp op ty x => simp only [Op.operands] at hr; simp [hr x (by simp)]
  | convert s d x => simp only [Op.operands] at hr; simp [hr x (by simp)]
  | nilCheck x => simp only [Op.operands] at ha hr; simp [ha x (by simp), hr x (by simp)]
  | fieldAddr s x f => simp only [Op.operands] at ha hr; simp [ha x (by simp), hr x (by simp)]
  | field s x f => simp only [Op.operands] at hr; simp [hr x (by simp)]
  | indexAddr t x i => simp only [Op.operands] at hr; simp [hr x (by simp), hr i (by simp)]
  | index t x i => simp only [Op.operands] at hr; simp [hr x (by simp), hr i (by simp)]
  | slice t x lo hi mx =>
    simp only [Op.operands] at hr
    simp only
    rw [hr x (by simp), map_opt_congr (f := r) (g := r') (x := lo) (fun y hy => hr y (by simp_all)), map_opt_congr (f := r) (g := r') (x := hi) (fun y hy => hr y (by simp_all)), map_opt_congr (f := r) (g := r') (x := mx) (fun y hy => hr y (by simp_all))]
  | load t x => simp only [Op.operands] at hr; simp [hr x (by simp)]
  | store t x y => simp only [Op.operands] at hr; simp [hr x (by simp), hr y (by simp)]
  | extract x i => simp only [Op.operands] at ha; simp [ha x (by simp)]
  | alloc e => rfl
  | box e x => simp only [Op.operands] at hr; simp [hr x (by simp)]
  | build t ps =>
    simp only [Op.operands] at hr
    simp only
    have e : (ps.toList.map fun p => (p.1, r p.2)) = ps.toList.map fun p => (p.1, r' p.2) := List.map_congr_left fun p hp => by rw [hr p.2 (by simp; exact ⟨p.1, by simpa using hp⟩)]
    rw [e]
  | buildSlice t n ps =>
    simp only [Op.operands] at hr
    simp only
    have e : (ps.toList.map fun p => (p.1, r p.2)) = ps.toList.map fun p => (p.1, r' p.2) := List.map_congr_left fun p hp => by rw [hr p.2 (by simp; exact ⟨p.1, by simpa using hp⟩)]
    rw [e]
  | makeFunc f first caps =>
    simp only [Op.operands] at ha
    cases f with
    | func g =>
      simp only
      have e : ∀ l : List Operand, (∀ x ∈ l, a x = a' x) → l.foldr (fun x t => AVal.tcons (a x) t) .tnil = l.foldr (fun x t => AVal.tcons (a' x) t) .tnil := by
        intro l hl
        induction l with
        | nil => rfl
        | cons x l ih => simp only [List.foldr_cons]; rw [hl x (by simp), ih fun y hy => hl y (by simp [hy])]
      rw [e caps.toList fun x hx => ha x (by simp at hx ⊢; exact .inr hx)]
    | _ => rfl
  | range t x => simp only [Op.operands] at hr; simp [hr x (by simp)]
  | next x isStr => simp only [Op.operands] at hr; simp [hr x (by simp)]
  | call c =>
    simp only [Op.operands, Call.operands] at hr
    simp only
    cases hc : c.callee with
    | value f =>
      rw [hc] at hr
      simp only
      rw [hr f (by simp)]
      unfold argsOf
      rw [mp r r' c.args.toList fun x hx => hr x (by simp at hx ⊢; exact .inr hx)]
    | builtin b =>
      rw [hc] at hr
      have hr' : ∀ x ∈ c.args.toList, r x = r' x := fun x hx => hr x (by simpa using hx)
      cases b with
      | len => simp only; split <;> first | rfl | (rename_i e _; rw [hr' _ (by rw [e]; simp)])
      | append => simp only; split <;> first | rfl | (rename_i e _; rw [hr' _ (by rw [e]; simp), hr' _ (by rw [e]; simp)])
      | max => simp only; split <;> first | rfl | (rename_i e; rw [hr' _ (by rw [e]; simp), mp r r' _ fun x hx => hr' x (by rw [e]; simp [hx])])
      | min => simp only; split <;> first | rfl | (rename_i e; rw [hr' _ (by rw [e]; simp), mp r r' _ fun x hx => hr' x (by rw [e]; simp [hx])])
      | _ => rfl
    | invoke x m => rfl
  | _ => rfl

end Go.PB

namespace Go.PB
open Go Go.RowKit

section
variable {F : Nat → Prop} {w w0 : World} {ρ : Nat → Option Nat} {h : List AObj} {B : Nat} {st : St} {a : Act}

theorem hget_append_lt : ∀ (h g : List AObj) (id : Nat), id < h.length → hget (h ++ g) id = hget h id
  | [], g, id, hl => by simp at hl
  | o :: h, g, 0, _ => rfl
  | o :: h, g, id + 1, hl => hget_append_lt h g id (by simpa using hl)

theorem hget_append_ge : ∀ (h g : List AObj) (id : Nat), hget (h ++ g) (h.length + id) = hget g id
  | [], g, id => by simp
  | o :: h, g, id => by
    have := hget_append_ge h g id
    rw [show (o :: h).length + id = (h.length + id) + 1 by simp; omega]
    simpa [hget] using this

theorem hget_nones : ∀ (n id : Nat), hget (nones n) id = .none
  | 0, id => rfl
  | n + 1, 0 => rfl
  | n + 1, id + 1 => hget_nones n id

theorem length_nones : ∀ n, (nones n).length = n
  | 0 => rfl
  | n + 1 => by simp [nones, length_nones n]

/-- ρ, with the block of L at p. -/
def moved (p L : Nat) (ρ : Nat → Option Nat) (id : Nat) : Option Nat := if id = p then ρ L else ρ id

structure Mv (p : Nat) (h : List AObj) (o : AObj) : Prop where
  lt : p < h.length
  free : hget h p = .none

theorem Mv.old {p : Nat} {o : AObj} (m : Mv p h o) {id : Nat} (hl : id < h.length) (hp : id ≠ p) : hget (h ++ [o]) id = hget (hset h p o) id := by
  rw [hget_append_lt _ _ _ hl, hget_hset_ne hp]

theorem Mv.new {p : Nat} {o : AObj} (m : Mv p h o) : hget (h ++ [o]) h.length = o := by
  have := hget_append_ge h [o] 0
  simpa [hget] using this

theorem hget_snoc_gt (h : List AObj) (o : AObj) (id : Nat) (hl : h.length < id) : hget (h ++ [o]) id = .none := by
  obtain ⟨k, rfl⟩ : ∃ k, id = h.length + (k + 1) := ⟨id - h.length - 1, by omega⟩
  rw [hget_append_ge]; rfl

theorem Mv.live {p : Nat} {o : AObj} (m : Mv p h o) (b : Nat) : liveOf w ρ (h ++ [o]) b ↔ liveOf w (moved p h.length ρ) (hset h p o) b := by
  constructor
  · intro ⟨h1, h2⟩
    refine ⟨h1, fun id ho hr => ?_⟩
    unfold moved at hr
    by_cases e : id = p
    · subst e
      rw [if_pos rfl] at hr
      rw [hget_hset_self m.lt] at ho
      exact h2 h.length (by rw [m.new]; exact ho) hr
    · rw [if_neg e] at hr
      rw [hget_hset_ne e] at ho
      rcases Nat.lt_or_ge id h.length with hl | hl
      · exact h2 id (by rw [hget_append_lt _ _ _ hl]; exact ho) hr
      · rw [hget_ge _ id hl] at ho; simp [AObj.owns] at ho
  · intro ⟨h1, h2⟩
    refine ⟨h1, fun id ho hr => ?_⟩
    rcases Nat.lt_trichotomy id h.length with hl | hl | hl
    · by_cases e : id = p
      · subst e; rw [hget_append_lt _ _ _ hl, m.free] at ho; simp [AObj.owns] at ho
      · exact h2 id (by rw [← m.old hl e]; exact ho) (by unfold moved; rw [if_neg e]; exact hr)
    · subst hl
      rw [m.new] at ho
      exact h2 p (by rw [hget_hset_self m.lt]; exact ho) (by unfold moved; rw [if_pos rfl]; exact hr)
    · rw [hget_snoc_gt _ _ _ hl] at ho; simp [AObj.owns] at ho

theorem Mv.ok {p : Nat} {o : AObj} (m : Mv p h o) : okOf F w (moved p h.length ρ) (hset h p o) = okOf F w ρ (h ++ [o]) := by
  funext b
  simp only [okOf, m.live b]

theorem orel_rho {ok : Nat → Prop} {id id' : Nat} {ρ' : Nat → Option Nat} (e : ρ' id' = ρ id) : ∀ {o : AObj}, ORel w ρ ok id o → ORel w ρ' ok id' o
  | .none, _ => trivial
  | .frow .., _ => trivial
  | .box t x, ⟨b, cs, T, h1, h2⟩ => ⟨b, cs, T, by rw [e]; exact h1, h2⟩
  | .row v t l, h => by
    rcases h with ⟨h1, h2⟩ | ⟨b, cs, T, cc, rest, h1, h2⟩
    · exact .inl ⟨by rw [e]; exact h1, h2⟩
    · exact .inr ⟨b, cs, T, cc, rest, by rw [e]; exact h1, h2⟩
  | .iter s p, ⟨b, h1, h2⟩ => ⟨b, by rw [e]; exact h1, h2⟩

theorem slrel_rho {ok : Nat → Prop} {id id' ver : Nat} {val : Value} {ρ' : Nat → Option Nat} (e : ρ' id' = ρ id) : ∀ {o : AObj}, SlRel w ρ ok id ver val o → SlRel w ρ' ok id' ver val o
  | .row v t l, h => ⟨h.1, fun hv => by
    rcases h.2 hv with ⟨h1, h2⟩ | ⟨b, c, cs, T, h1, h2⟩
    · exact .inl ⟨by rw [e]; exact h1, h2⟩
    · exact .inr ⟨b, c, cs, T, by rw [e]; exact h1, h2⟩⟩
  | .frow .., h => h
  | .none, _ => trivial
  | .box .., _ => trivial
  | .iter .., _ => trivial

theorem ptrel_rho {id id' : Nat} {path : List Nat} {val : Value} {ρ' : Nat → Option Nat} (e : ρ' id' = ρ id) : ∀ {o : AObj}, PtRel ρ id path val o → PtRel ρ' id' path val o
  | .box t x, ⟨b, off, t', h1, h2⟩ => ⟨b, off, t', by rw [e]; exact h1, h2⟩
  | .none, _ => trivial
  | .row .., _ => trivial
  | .frow .., _ => trivial
  | .iter .., _ => trivial

theorem elrel_rho {id id' ver i : Nat} {path : List Nat} {val : Value} {ρ' : Nat → Option Nat} (e : ρ' id' = ρ id) : ∀ {o : AObj}, ElRel ρ id ver i path val o → ElRel ρ' id' ver i path val o
  | .row v t l, h => ⟨h.1, fun hv => by obtain ⟨hi, b, off, t', h1, h2⟩ := h.2 hv; exact ⟨hi, b, off, t', by rw [e]; exact h1, h2⟩⟩
  | .frow .., _ => trivial
  | .none, _ => trivial
  | .box .., _ => trivial
  | .iter .., _ => trivial

theorem itrel_rho {id id' : Nat} {val : Value} {ρ' : Nat → Option Nat} (e : ρ' id' = ρ id) : ∀ {o : AObj}, ItRel ρ id val o → ItRel ρ' id' val o
  | .iter s p, ⟨b, h1, h2⟩ => ⟨b, by rw [e]; exact h1, h2⟩
  | .row .., _ => trivial
  | .frow .., _ => trivial
  | .none, _ => trivial
  | .box .., _ => trivial

theorem Mv.hrel {p : Nat} {o : AObj} (m : Mv p h o) (hH : HRel F B w ρ (h ++ [o])) : HRel F B w (moved p h.length ρ) (hset h p o) := by
  have hL : h.length < (h ++ [o]).length := by simp
  -- each object of the new memory is one of the old
  have from_ : ∀ id, (hget (hset h p o) id).owns = true → ∃ id', (hget (h ++ [o]) id').owns = true ∧ moved p h.length ρ id = ρ id' ∧ (id' = if id = p then h.length else id) := by
    intro id ho
    by_cases e : id = p
    · subst e; rw [hget_hset_self m.lt] at ho
      exact ⟨h.length, by rw [m.new]; exact ho, by simp [moved], by simp⟩
    · rw [hget_hset_ne e] at ho
      rcases Nat.lt_or_ge id h.length with hl | hl
      · exact ⟨id, by rw [hget_append_lt _ _ _ hl]; exact ho, by simp [moved, e], by simp [e]⟩
      · rw [hget_ge _ id hl] at ho; simp [AObj.owns] at ho
  refine ⟨hH.base, fun id hl => ?_, fun id b ho hr => ?_, fun id id' b ho ho' hr hr' => ?_⟩
  · rw [m.ok]
    rw [length_hset] at hl
    by_cases e : id = p
    · subst e
      rw [hget_hset_self m.lt]
      have := hH.obj h.length hL
      rw [m.new] at this
      exact orel_rho (by simp [moved]) this
    · have := hH.obj id (by simp; omega)
      rw [m.old hl e] at this
      exact orel_rho (by simp [moved, e]) this
  · obtain ⟨i, h1, h2, _⟩ := from_ id ho
    exact hH.own i b h1 (by rw [← h2]; exact hr)
  · obtain ⟨i, h1, h2, h3⟩ := from_ id ho
    obtain ⟨i', h1', h2', h3'⟩ := from_ id' ho'
    have e := hH.inj i i' b h1 h1' (by rw [← h2]; exact hr) (by rw [← h2']; exact hr')
    have lt : ∀ j, (hget (hset h p o) j).owns = true → j < h.length := fun j hj => by
      rcases Nat.lt_or_ge j h.length with hl | hl
      · exact hl
      · rw [hget_ge _ j (by rw [length_hset]; exact hl)] at hj; simp [AObj.owns] at hj
    have l1 := lt id ho
    have l2 := lt id' ho'
    rw [h3, h3'] at e
    split at e <;> split at e <;> omega

mutual
theorem Mv.vrel {p : Nat} {o : AObj} {ok : Nat → Prop} (m : Mv p h o) : ∀ (v : AVal) (val : Value), (∀ id ∈ v.ids, id < h.length ∧ id ≠ p) → (∀ b, liveOf w ρ (h ++ [o]) b → liveOf w (moved p h.length ρ) (hset h p o) b) →
    VRel w ρ (h ++ [o]) ok v val → VRel w (moved p h.length ρ) (hset h p o) ok v val
  | .data _ _, _, _, _, hv => hv
  | .osl id ver, val, hi, _, hv => by
    obtain ⟨h1, h2⟩ := hi id (by simp [AVal.ids])
    have := hv.2; rw [m.old h1 h2] at this
    exact ⟨by rw [length_hset]; exact h1, slrel_rho (by simp [moved, h2]) this⟩
  | .ptr id path, val, hi, _, hv => by
    obtain ⟨h1, h2⟩ := hi id (by simp [AVal.ids])
    have := hv.2; rw [m.old h1 h2] at this
    exact ⟨by rw [length_hset]; exact h1, ptrel_rho (by simp [moved, h2]) this⟩
  | .rptr _ _, _, _, hL, ⟨b, o', cs, e, hb, hc⟩ => ⟨b, o', cs, e, hL b hb, hc⟩
  | .eptr id ver i path, val, hi, _, hv => by
    obtain ⟨h1, h2⟩ := hi id (by simp [AVal.ids])
    have := hv.2; rw [m.old h1 h2] at this
    exact ⟨by rw [length_hset]; exact h1, elrel_rho (by simp [moved, h2]) this⟩
  | .iter id, val, hi, _, hv => by
    obtain ⟨h1, h2⟩ := hi id (by simp [AVal.ids])
    have := hv.2; rw [m.old h1 h2] at this
    exact ⟨by rw [length_hset]; exact h1, itrel_rho (by simp [moved, h2]) this⟩
  | .fn f c, val, hi, hL, ⟨vs, e, hv⟩ => ⟨vs, e, Mv.vlist m c vs hi hL hv⟩
  | .tnil, _, _, _, hv => hv
  | .tcons x y, val, hi, hL, ⟨v, vs, e, h1, h2⟩ => ⟨v, vs, e, Mv.vrel m x v (fun id hx => hi id (by simp [AVal.ids, hx])) hL h1, Mv.vlist m y vs (fun id hx => hi id (by simp [AVal.ids, hx])) hL h2⟩
  | .nils, _, _, _, hv => hv
  | .nilp, _, _, _, hv => hv
  | .undef, _, _, _, hv => hv
  | .dead, _, _, _, _ => trivial
theorem Mv.vlist {p : Nat} {o : AObj} {ok : Nat → Prop} (m : Mv p h o) : ∀ (v : AVal) (vs : List Value), (∀ id ∈ v.ids, id < h.length ∧ id ≠ p) → (∀ b, liveOf w ρ (h ++ [o]) b → liveOf w (moved p h.length ρ) (hset h p o) b) →
    VList w ρ (h ++ [o]) ok v vs → VList w (moved p h.length ρ) (hset h p o) ok v vs
  | .tnil, _, _, _, hv => hv
  | .tcons x y, _, hi, hL, ⟨v, vs, e, h1, h2⟩ => ⟨v, vs, e, Mv.vrel m x v (fun id hx => hi id (by simp [AVal.ids, hx])) hL h1, Mv.vlist m y vs (fun id hx => hi id (by simp [AVal.ids, hx])) hL h2⟩
  | .data .., _, _, _, hv => hv.elim
  | .osl .., _, _, _, hv => hv.elim
  | .ptr .., _, _, _, hv => hv.elim
  | .rptr .., _, _, _, hv => hv.elim
  | .eptr .., _, _, _, hv => hv.elim
  | .iter .., _, _, _, hv => hv.elim
  | .fn .., _, _, _, hv => hv.elim
  | .nils, _, _, _, hv => hv.elim
  | .nilp, _, _, _, hv => hv.elim
  | .undef, _, _, _, hv => hv.elim
  | .dead, _, _, _, hv => hv.elim
end

theorem value_eq (h : List AObj) (out : Out) : out.value h = (out.val (out.pre h).length, match out.obj with | some o => out.pre h ++ [o] | none => out.pre h) := by
  cases out <;> rfl

theorem Mv.newval {p : Nat} {o : AObj} {ok : Nat → Prop} {val : Value} {out : Out} (m : Mv p h o) (ho : out.obj = some o) (hv : VRel w ρ (h ++ [o]) ok (out.val h.length) val) : VRel w (moved p h.length ρ) (hset h p o) ok (out.val p) val := by
  have hl : p < (hset h p o).length := by rw [length_hset]; exact m.lt
  cases out with
  | row t l => obtain rfl : _ = o := Option.some.inj ho; have := hv.2; rw [m.new] at this; exact ⟨hl, by rw [hget_hset_self m.lt]; exact slrel_rho (by simp [moved]) this⟩
  | box t l => obtain rfl : _ = o := Option.some.inj ho; have := hv.2; rw [m.new] at this; exact ⟨hl, by rw [hget_hset_self m.lt]; exact ptrel_rho (by simp [moved]) this⟩
  | iter s => obtain rfl : _ = o := Option.some.inj ho; have := hv.2; rw [m.new] at this; exact ⟨hl, by rw [hget_hset_self m.lt]; exact itrel_rho (by simp [moved]) this⟩
  | ownr t l f => obtain rfl : _ = o := Option.some.inj ho; have := hv.2; rw [m.new] at this; exact ⟨hl, by rw [hget_hset_self m.lt]; exact slrel_rho (by simp [moved]) this⟩
  | _ => simp [Out.obj] at ho

/-- The state behind an operation, with the new object at p. -/
theorem Rel.move {dst : Option Tmp} {out : Out} {p : Nat} (hr : Rel F w0 (st.after dst out) a w) (hp : p < st.heap.length) (hf : out.obj.isSome = true → hget (out.pre st.heap) p = .none)
    (hn : ∀ t, ∀ id ∈ (tget st.tmps t).ids, id < st.heap.length ∧ id ≠ p) : Rel F w0 ⟨putD st.tmps dst (out.val p), placed p out.obj (out.pre st.heap)⟩ a w := by
  have hlen : (out.pre st.heap).length = st.heap.length := (Pointy.pre 0 out).len st.heap
  unfold St.after at hr
  rw [value_eq] at hr
  cases ho : out.obj with
  | none =>
    rw [ho] at hr
    have e : out.val (out.pre st.heap).length = out.val p := by cases out <;> first | rfl | simp [Out.obj] at ho
    rw [e] at hr
    exact hr
  | some o =>
    rw [ho] at hr
    simp only at hr
    have m : Mv p (out.pre st.heap) o := ⟨by rw [hlen]; exact hp, hf (by rw [ho]; rfl)⟩
    obtain ⟨hd, hs, hb, ρ, hH, hV⟩ := hr
    have lv : ∀ b, liveOf w ρ (out.pre st.heap ++ [o]) b → liveOf w (moved p (out.pre st.heap).length ρ) (hset (out.pre st.heap) p o) b := fun b => (m.live b).1
    refine ⟨hd, ?_, hb, moved p (out.pre st.heap).length ρ, m.hrel hH, fun i => ?_⟩
    · rw [hs]; cases dst <;> simp [putD, length_tset]
    · have hv := hV i
      simp only at hv
      show VRel w _ (hset _ _ _) (okOf F w _ (hset (out.pre st.heap) p o)) _ _
      rw [m.ok]
      cases dst with
      | none => exact m.vrel _ _ (fun id hi => by rw [hlen]; exact hn i id hi) lv hv
      | some d =>
        simp only [putD] at hv ⊢
        rw [tget_tset] at hv ⊢
        split
        · rename_i hc
          rw [if_pos hc] at hv
          exact m.newval ho hv
        · rename_i hc
          rw [if_neg hc] at hv
          exact m.vrel _ _ (fun id hi => by rw [hlen]; exact hn i id hi) lv hv

mutual
theorem ids_lt {ok : Nat → Prop} : ∀ (v : AVal) (val : Value), VRel w ρ h ok v val → ∀ id ∈ v.ids, id < h.length
  | .osl id ver, val, hv, i, hi => by simp [AVal.ids] at hi; subst hi; exact hv.1
  | .ptr id ver, val, hv, i, hi => by simp [AVal.ids] at hi; subst hi; exact hv.1
  | .eptr id ver _ _, val, hv, i, hi => by simp [AVal.ids] at hi; subst hi; exact hv.1
  | .iter id, val, hv, i, hi => by simp [AVal.ids] at hi; subst hi; exact hv.1
  | .fn f c, val, ⟨vs, e, hv⟩, i, hi => ids_lt_list c vs hv i hi
  | .tcons x y, val, ⟨v, vs, e, h1, h2⟩, i, hi => by
    simp only [AVal.ids, List.mem_append] at hi
    rcases hi with hi | hi
    · exact ids_lt x v h1 i hi
    · exact ids_lt_list y vs h2 i hi
  | .data .., _, _, i, hi => by simp [AVal.ids] at hi
  | .rptr .., _, _, i, hi => by simp [AVal.ids] at hi
  | .tnil, _, _, i, hi => by simp [AVal.ids] at hi
  | .nils, _, _, i, hi => by simp [AVal.ids] at hi
  | .nilp, _, _, i, hi => by simp [AVal.ids] at hi
  | .undef, _, _, i, hi => by simp [AVal.ids] at hi
  | .dead, _, _, i, hi => by simp [AVal.ids] at hi
theorem ids_lt_list {ok : Nat → Prop} : ∀ (v : AVal) (vs : List Value), VList w ρ h ok v vs → ∀ id ∈ v.ids, id < h.length
  | .tcons x y, _, ⟨v, vs, e, h1, h2⟩, i, hi => by
    simp only [AVal.ids, List.mem_append] at hi
    rcases hi with hi | hi
    · exact ids_lt x v h1 i hi
    · exact ids_lt_list y vs h2 i hi
  | .tnil, _, _, i, hi => by simp [AVal.ids] at hi
  | .osl .., _, hv, _, _ => hv.elim
  | .ptr .., _, hv, _, _ => hv.elim
  | .eptr .., _, hv, _, _ => hv.elim
  | .iter .., _, hv, _, _ => hv.elim
  | .fn .., _, hv, _, _ => hv.elim
  | .data .., _, hv, _, _ => hv.elim
  | .rptr .., _, hv, _, _ => hv.elim
  | .nils, _, hv, _, _ => hv.elim
  | .nilp, _, hv, _, _ => hv.elim
  | .undef, _, hv, _, _ => hv.elim
  | .dead, _, hv, _, _ => hv.elim
end

/-- Empty places at the end of memory. -/
theorem Rel.nones (hr : Rel F w0 st a w) (n : Nat) : Rel F w0 ⟨st.tmps, st.heap ++ PB.nones n⟩ a w := by
  obtain ⟨ρ, ho⟩ := hr.opened
  have hno : ∀ id b, st.heap.length ≤ id → (hget (st.heap ++ PB.nones n) id).owns = true → ρ id = some b → False := fun id b hl ho _ => by
    obtain ⟨k, rfl⟩ : ∃ k, id = st.heap.length + k := ⟨id - st.heap.length, by omega⟩
    rw [hget_append_ge, hget_nones] at ho; simp [AObj.owns] at ho
  have hle : st.heap.length ≤ (st.heap ++ PB.nones n).length := by simp
  have same : ∀ id, id < st.heap.length → hget (st.heap ++ PB.nones n) id = hget st.heap id ∧ ρ id = ρ id := fun id hl => ⟨hget_append_lt _ _ _ hl, rfl⟩
  have k := keeps_ext (F := F) (w' := w) (Nat.le_refl _) (fun _ _ => rfl) hle same (fun id b h1 h2 h3 => (hno id b h1 h2 h3).elim)
  refine ⟨ho.defers, ho.size, ho.below, ρ, ?_, fun i => VRel.keeps k _ _ (ho.vals i)⟩
  refine hrel_ext ho.hrel ho.base (Nat.le_refl _) (fun _ _ => rfl) hle same (fun id h1 h2 => ?_) (fun id b h1 h2 h3 => (hno id b h1 h2 h3).elim) (fun id id' b h1 _ h2 _ h3 _ => (hno id b h1 h2 h3).elim)
  obtain ⟨k, rfl⟩ : ∃ k, id = st.heap.length + k := ⟨id - st.heap.length, by omega⟩
  rw [hget_append_ge, hget_nones]; trivial

end
end Go.PB

namespace Go.PB
open Go Go.RowKit

section
variable {F : Nat → Prop} {P : Program} {G : World → Prop} {env : Env} {w0 w : World} {st st' : St} {a : Act} {R : Type} {tt : TypeId → Option Ty}

def pair2 (e : Foot) (s : St) : Option (Foot × St) := some (e, s)

theorem placeK_eq {p : Nat} {h : List AObj} {o : Option AObj} {K : List AObj → Option R} {r : R} (hk : placeK p h o K = some r) : (o.isSome = true → hget h p = .none) ∧ K (placed p o h) = some r := by
  unfold placeK at hk
  cases o with
  | none => exact ⟨fun h => by simp at h, hk⟩
  | some o =>
    simp only at hk
    split at hk
    · rename_i e; exact ⟨fun _ => e, hk⟩
    · simp at hk

theorem placeK_of {p : Nat} {h : List AObj} {o : Option AObj} {K : List AObj → Option R} (hf : o.isSome = true → hget h p = .none) : placeK p h o K = K (placed p o h) := by
  unfold placeK
  cases o with
  | none => rfl
  | some o => simp only [hf rfl]; rfl

/-- What an operation in a drawn region comes to. -/
structure OpD (tt : TypeId → Option Ty) (env : Env) (o : Oper) (p : Nat) (st : St) (out : Out) : Prop where
  op : opK tt env o (ev st.tmps) (fun x => res (preFreeze o st).heap (ev st.tmps x)) some = some out
  free : out.obj.isSome = true → hget (out.pre (preFreeze o st).heap) p = .none

def footOf (o : Oper) (p : Nat) (st : St) (out : Out) : Foot := ⟨idsAt st.tmps o.op.operands.toList, frzIds (laidRows o st) ++ out.wr p, (out.val p).ids⟩
def stOf (o : Oper) (p : Nat) (st : St) (out : Out) : St := ⟨putD st.tmps o.dst (out.val p), placed p out.obj (out.pre (preFreeze o st).heap)⟩

theorem opD_inv (hn : EnvNat env) {o : Oper} {p : Nat} {K : Foot → St → Option R} {r : R} (hk : opD tt env o p st K = some r) :
    ∃ out, OpD tt env o p st out ∧ K (footOf o p st out) (stOf o p st out) = some r := by
  unfold opD at hk
  rw [opK_nat hn] at hk
  obtain ⟨out, h1, h2⟩ := Option.bind_eq_some_iff.1 hk
  obtain ⟨h3, h4⟩ := placeK_eq h2
  exact ⟨out, ⟨h1, h3⟩, h4⟩

theorem opD_of (hn : EnvNat env) {o : Oper} {p : Nat} {out : Out} (h : OpD tt env o p st out) (K : Foot → St → Option R) : opD tt env o p st K = K (footOf o p st out) (stOf o p st out) := by
  unfold opD
  rw [opK_nat hn, h.op]
  simp only [Option.bind_some]
  rw [placeK_of h.free]
  rfl

theorem opD_nat (hn : EnvNat env) (o : Oper) (p : Nat) (st : St) (K : Foot → St → Option R) : opD tt env o p st K = (opD tt env o p st pair2).bind fun x => K x.1 x.2 := by
  cases hk : opD tt env o p st pair2 with
  | none =>
    cases hk' : opD tt env o p st K with
    | none => rfl
    | some r =>
      obtain ⟨out, h1, h2⟩ := opD_inv hn hk'
      rw [opD_of hn h1] at hk
      simp [pair2] at hk
  | some x =>
    obtain ⟨out, h1, h2⟩ := opD_inv hn hk
    rw [opD_of hn h1]
    obtain rfl : _ = x := Option.some.inj h2
    rfl

theorem stepD_nat (hn : EnvNat env) (ops : List Oper) (o : Oper) (p : Nat) (st : St) (K : Foot → St → Option R) : stepD tt env ops o p st K = (stepD tt env ops o p st pair2).bind fun x => K x.1 x.2 := by
  unfold stepD
  cases o.guard with
  | none => exact opD_nat hn _ _ _ _
  | some jw =>
    obtain ⟨j, want⟩ := jw
    simp only
    split
    · split
      · rename_i b _
        cases b <;> cases want <;> first | rfl | exact opD_nat hn _ _ _ _
      · rfl
      · rfl
    · rfl

/-- Two states that an operation cannot tell apart. -/
structure Alike (W : List Nat) (ts : List Nat) (st st' : St) : Prop where
  len : st.heap.length = st'.heap.length
  heap : ∀ id ∈ W, hget st.heap id = hget st'.heap id
  tmps : ∀ t ∈ ts, tget st.tmps t = tget st'.tmps t

theorem mem_tmpsOf {t : Tmp} : ∀ {l : List Operand}, Operand.tmp t ∈ l → t ∈ tmpsOf l
  | x :: l, h => by
    rcases List.mem_cons.1 h with e | e
    · subst e; simp [tmpsOf]
    · cases x <;> simp [tmpsOf, mem_tmpsOf e]

theorem Alike.ev {W ts : List Nat} (h : Alike W ts st st') {l : List Operand} (ht : ∀ t ∈ tmpsOf l, t ∈ ts) {x : Operand} (hx : x ∈ l) : PB.ev st.tmps x = PB.ev st'.tmps x := by
  cases x with
  | tmp t => exact h.tmps t (ht t (mem_tmpsOf hx))
  | _ => rfl

theorem laid_sub (o : Oper) : ∀ x ∈ laid o, x ∈ o.op.operands.toList := by
  intro x hx
  unfold laid at hx
  cases ho : o.op <;> rw [ho] at hx <;> simp [Op.operands] at hx ⊢ <;> first | exact hx | (subst hx; simp) | skip
  all_goals simp_all

/-- How memory goes on: at the places W. -/
structure Local (tt : TypeId → Option Ty) (env : Env) (ops : List Oper) (o : Oper) (p : Nat) (st : St) (e : Foot) (s : St) (st' : St) (v : AVal) (M : List AObj → List AObj) : Prop where
  vl : e.vl = v.ids
  here : s = ⟨putD st.tmps o.dst v, M st.heap⟩
  there : stepD tt env ops o p st' pair2 = some (e, ⟨putD st'.tmps o.dst v, M st'.heap⟩)
  pt : Pointy e.wr M

theorem opD_local (hn : EnvNat env) {o : Oper} {p : Nat} {out : Out} (h : OpD tt env o p st out) (al : Alike ((footOf o p st out).rd ++ (footOf o p st out).wr) (tmpsOf o.op.operands.toList) st st') :
    OpD tt env o p st' out ∧ footOf o p st' out = footOf o p st out ∧ ∃ M, Pointy (footOf o p st out).wr M ∧ stOf o p st out = ⟨putD st.tmps o.dst (out.val p), M st.heap⟩ ∧ stOf o p st' out = ⟨putD st'.tmps o.dst (out.val p), M st'.heap⟩ := by
  have hev : ∀ x ∈ o.op.operands.toList, PB.ev st.tmps x = PB.ev st'.tmps x := fun x hx => al.ev (fun _ h => h) hx
  have hres : ∀ x ∈ o.op.operands.toList, res st.heap (PB.ev st.tmps x) = res st'.heap (PB.ev st'.tmps x) := fun x hx => by
    rw [← hev x hx]
    exact res_congr _ fun id hi => al.heap id (by simp only [footOf, List.mem_append]; exact .inl (mem_idsAt hx hi))
  have hlr : laidRows o st = laidRows o st' := by
    unfold laidRows
    rw [List.map_congr_left fun x hx => hres x (laid_sub o x hx)]
  have hpf : ∀ s : St, (preFreeze o s).heap = freezeRows (laidRows o s) s.heap := fun s => rfl
  have hids : idsAt st'.tmps o.op.operands.toList = idsAt st.tmps o.op.operands.toList := idsAt_congr fun x hx => (hev x hx).symm
  have hfoot : footOf o p st' out = footOf o p st out := by unfold footOf; rw [hids, hlr]
  have agree : ∀ id, id ∈ (footOf o p st out).rd ++ (footOf o p st out).wr → hget (preFreeze o st).heap id = hget (preFreeze o st').heap id := fun id hi => by
    rw [hpf, hpf, ← hlr]
    exact (Pointy.freeze (laidRows o st)).at_ _ _ _ al.len (al.heap id hi)
  have plen : (preFreeze o st).heap.length = (preFreeze o st').heap.length := by rw [hpf, hpf, length_freezeRows, length_freezeRows, al.len]
  have hop : OpD tt env o p st' out := by
    refine ⟨?_, fun hs => ?_⟩
    · rw [← h.op]
      refine opK_congr tt o (fun x hx => (hev x hx).symm) (fun x hx => ?_) _
      rw [← hev x hx]
      exact (res_congr _ fun id hi => agree id (by simp only [footOf, List.mem_append]; exact .inl (mem_idsAt hx hi))).symm
    · rw [← h.free hs]
      have hpw : p ∈ out.wr p := by cases out <;> simp [Out.obj] at hs <;> simp [Out.wr]
      exact ((Pointy.pre p out).at_ _ _ _ plen (agree p (by simp [footOf, hpw]))).symm
  refine ⟨hop, hfoot, fun h => placed p out.obj (out.pre (freezeRows (laidRows o st) h)), ?_, rfl, ?_⟩
  · exact (Pointy.freeze (laidRows o st)).comp (Pointy.placed p out)
  · unfold stOf; rw [hpf, ← hlr]

theorem stepD_local (hn : EnvNat env) {ops : List Oper} {o : Oper} {p : Nat} {e : Foot} {s : St} (h : stepD tt env ops o p st pair2 = some (e, s)) (al : Alike (e.rd ++ e.wr) (opTmps ops o) st st') :
    ∃ v M, Local tt env ops o p st e s st' v M := by
  have plain : o.guard = none ∨ True → ∀ (ho : opD tt env o p st pair2 = some (e, s)), (∀ (K : Foot → St → Option (Foot × St)), stepD tt env ops o p st' K = opD tt env o p st' K) → ∃ v M, Local tt env ops o p st e s st' v M := by
    intro _ ho hst
    obtain ⟨out, h1, h2⟩ := opD_inv hn ho
    simp only [pair2, Option.some.injEq, Prod.mk.injEq] at h2
    obtain ⟨rfl, rfl⟩ := h2
    obtain ⟨h3, h4, M, hM, h5, h6⟩ := opD_local hn h1 (st' := st') ⟨al.len, al.heap, fun t ht => al.tmps t (by unfold opTmps; simp [ht])⟩
    exact ⟨out.val p, M, rfl, h5, by rw [hst, opD_of hn h3, h4, h6]; rfl, hM⟩
  have skip : s = ⟨putD st.tmps o.dst .undef, st.heap⟩ → e = ⟨[], [], []⟩ → stepD tt env ops o p st' pair2 = some (⟨[], [], []⟩, ⟨putD st'.tmps o.dst .undef, st'.heap⟩) → ∃ v M, Local tt env ops o p st e s st' v M := by
    intro h1 h2 h3
    subst h2
    exact ⟨.undef, fun h => h, rfl, h1, h3, Pointy.id _⟩
  unfold stepD at h
  cases hg : o.guard with
  | none =>
    rw [hg] at h
    exact plain (.inr trivial) h fun K => by unfold stepD; rw [hg]
  | some jw =>
    obtain ⟨j, want⟩ := jw
    rw [hg] at h
    simp only at h
    cases hd : (ops[j]?).bind (·.dst) with
    | none => rw [hd] at h; simp at h
    | some d =>
      rw [hd] at h
      simp only at h
      have hdt : tget st.tmps d = tget st'.tmps d := al.tmps d (by unfold opTmps; rw [hg]; simp [hd])
      split at h
      · rename_i b ed
        have ed' : tget st'.tmps d = .data .bool b := by rw [← hdt]; exact ed
        have e1 := tset_same st.tmps d _ ed
        have e2 := tset_same st'.tmps d _ ed'
        cases b <;> cases want <;> simp only [cond_true, cond_false] at h <;> rw [e1] at h
        · exact plain (.inr trivial) h fun K => by unfold stepD; rw [hg]; simp only [hd, ed', cond_false]; rw [e2]
        · simp only [pair2, Option.some.injEq, Prod.mk.injEq] at h
          exact skip h.2.symm h.1.symm (by unfold stepD; rw [hg]; simp only [hd, ed', cond_false, cond_true]; rw [e2]; rfl)
        · simp only [pair2, Option.some.injEq, Prod.mk.injEq] at h
          exact skip h.2.symm h.1.symm (by unfold stepD; rw [hg]; simp only [hd, ed', cond_false, cond_true]; rw [e2]; rfl)
        · exact plain (.inr trivial) h fun K => by unfold stepD; rw [hg]; simp only [hd, ed', cond_true]; rw [e2]
      · rename_i ed
        have ed' : tget st'.tmps d = .undef := by rw [← hdt]; exact ed
        simp only [pair2, Option.some.injEq, Prod.mk.injEq] at h
        exact skip h.2.symm h.1.symm (by unfold stepD; rw [hg]; simp only [hd, ed']; rfl)
      · simp at h

/-- An operation of a drawn region does what is said of it. -/
theorem opD_sound (hT : TTOk P tt) (hE : EnvSound P G env) (hn : EnvNat env) (hG : G w) (h : Rel F w0 st a w) (o : Oper) {p : Nat} {out : Out} (ho : OpD tt env o p st out) (hp : p < st.heap.length) (hnm : ∀ t, p ∉ (tget st.tmps t).ids)
    (Q : Exit → Act → World → Prop) : o.wp P a w (fun a' w' => Rel F w0 (stOf o p st out) a' w') Q := by
  have hf := h.preFreeze o
  have hpl : (preFreeze o st).heap.length = st.heap.length := length_freezeRows _ _
  have hk : opOn tt env o (preFreeze o st) some = some ((preFreeze o st).after o.dst out) := by
    unfold opOn
    rw [opK_nat hn]
    have : opK tt env o (ev (preFreeze o st).tmps) (fun x => res (preFreeze o st).heap (ev (preFreeze o st).tmps x)) some = some out := ho.op
    rw [this]; rfl
  refine Oper.wp_mono (fun a' w' ⟨s, h1, h2⟩ => ?_) (opOn_sound hT hE hG hf o hk Q)
  obtain rfl : s = _ := Option.some.inj h1
  refine Rel.move h2 (by rw [hpl]; exact hp) ho.free fun t id hi => ?_
  obtain ⟨ρ, hO⟩ := hf.opened
  exact ⟨ids_lt _ _ (hO.vals t) id hi, fun e => hnm t (by subst e; exact hi)⟩

theorem stepD_sound (hT : TTOk P tt) (hE : EnvSound P G env) (hn : EnvNat env) (hG : G w) (h : Rel F w0 st a w) (ops : Array Oper) (o : Oper) {p : Nat} {e : Foot} {s : St} (hk : stepD tt env ops.toList o p st pair2 = some (e, s))
    (hp : p < st.heap.length) (hnm : ∀ t, p ∉ (tget st.tmps t).ids) (Q : Exit → Act → World → Prop) :
    if Region.wanted o (yielded ops a.tmps) then o.wp P a w (fun a' w' => Rel F w0 s a' w') Q else Rel F w0 s (a.put o.dst Go.undef) w := by
  have plain : opD tt env o p st pair2 = some (e, s) → o.wp P a w (fun a' w' => Rel F w0 s a' w') Q := by
    intro ho
    obtain ⟨out, h1, h2⟩ := opD_inv hn ho
    simp only [pair2, Option.some.injEq, Prod.mk.injEq] at h2
    obtain ⟨_, rfl⟩ := h2
    exact opD_sound hT hE hn hG h o h1 hp hnm Q
  have skip : ∀ {tm : List AVal}, tm = st.tmps → pair2 ⟨[], [], []⟩ ⟨putD tm o.dst .undef, st.heap⟩ = some (e, s) → Rel F w0 s (a.put o.dst Go.undef) w := by
    intro tm ht h1
    subst ht
    simp only [pair2, Option.some.injEq, Prod.mk.injEq] at h1
    obtain ⟨_, rfl⟩ := h1
    exact h.undef o.dst
  unfold stepD at hk
  cases hg : o.guard with
  | none =>
    rw [hg] at hk
    rw [if_pos (wanted_none hg)]
    exact plain hk
  | some jw =>
    obtain ⟨j, want⟩ := jw
    rw [hg] at hk
    simp only [Array.getElem?_toList] at hk
    cases hd : (ops[j]?).bind (·.dst) with
    | none => rw [hd] at hk; simp at hk
    | some d =>
      rw [hd] at hk
      simp only at hk
      obtain ⟨ρ, ho⟩ := h.opened
      have hvd := ho.vals d
      split at hk
      · rename_i b ed
        rw [ed] at hvd
        rw [wanted_bool hg hd hvd]
        have e1 := tset_same st.tmps d _ ed
        cases b <;> cases want <;> simp only [cond_true, cond_false] at hk
        · rw [e1] at hk; rw [if_pos (by rfl)]; exact plain hk
        · rw [if_neg (by simp)]; exact skip e1 hk
        · rw [if_neg (by simp)]; exact skip e1 hk
        · rw [e1] at hk; rw [if_pos (by rfl)]; exact plain hk
      · rename_i ed
        rw [ed] at hvd
        rw [wanted_undef hg hd hvd, if_neg (by simp)]
        exact skip rfl hk
      · simp at hk
end
end Go.PB

namespace Go.PB
open Go Go.RowKit

theorem tget_ext : ∀ {l l' : List AVal}, l.length = l'.length → (∀ t, tget l t = tget l' t) → l = l'
  | [], [], _, _ => rfl
  | [], _ :: _, h, _ => by simp at h
  | _ :: _, [], h, _ => by simp at h
  | x :: l, y :: l', h, ht => by
    have h0 : x = y := ht 0
    have := tget_ext (l := l) (l' := l') (by simpa using h) fun t => ht (t + 1)
    rw [h0, this]

theorem hget_ext : ∀ {l l' : List AObj}, l.length = l'.length → (∀ t, hget l t = hget l' t) → l = l'
  | [], [], _, _ => rfl
  | [], _ :: _, h, _ => by simp at h
  | _ :: _, [], h, _ => by simp at h
  | x :: l, y :: l', h, ht => by
    have h0 : x = y := ht 0
    have := hget_ext (l := l) (l' := l') (by simpa using h) fun t => ht (t + 1)
    rw [h0, this]

/-! ## What the tests say -/
theorem allFrom_get {α : Type} {f : Nat → α → Bool} : ∀ {l : List α} {s : Nat}, allFrom f s l = true → ∀ i x, l[i]? = some x → f (s + i) x = true
  | y :: l, s, h, 0, x, hx => by
    simp only [allFrom, Bool.and_eq_true] at h
    simp at hx; subst hx; exact h.1
  | y :: l, s, h, i + 1, x, hx => by
    simp only [allFrom, Bool.and_eq_true] at h
    have := allFrom_get h.2 i x (by simpa using hx)
    rw [show s + (i + 1) = s + 1 + i by omega]; exact this

theorem memN_of {x : Nat} : ∀ {l : List Nat}, x ∈ l → memN x l = true
  | y :: l, h => by
    simp only [memN, Bool.or_eq_true]
    rcases List.mem_cons.1 h with e | e
    · subst e; exact .inl (Nat.beq_refl x)
    · exact .inr (memN_of e)

def Ord (ms : List Nat) (i j : Nat) : Prop := Nat.testBit (nget ms i) j = true

theorem edgeMask_spec {ms : List Nat} {j : Nat} : ∀ {es : List Edge}, Nat.testBit (edgeMask ms es) j = true → ∃ e ∈ es, Region.binds .any e = true ∧ (j = e.on ∨ Ord ms e.on j)
  | [], h => by simp [edgeMask] at h
  | e :: es, h => by
    simp only [edgeMask] at h
    cases hb : Region.binds .any e with
    | true =>
      rw [hb] at h
      simp only [cond_true, Nat.testBit_or, Bool.or_eq_true] at h
      rcases h with h | h | h
      · rw [Nat.testBit_two_pow] at h
        exact ⟨e, by simp, hb, .inl (by simpa using h : e.on = j).symm⟩
      · exact ⟨e, by simp, hb, .inr h⟩
      · obtain ⟨e', h1, h2⟩ := edgeMask_spec h; exact ⟨e', by simp [h1], h2⟩
    | false =>
      rw [hb] at h
      obtain ⟨e', h1, h2⟩ := edgeMask_spec h; exact ⟨e', by simp [h1], h2⟩

structure Static (ms : List Nat) (ops : Array Oper) : Prop where
  lt : ∀ i o, ops[i]? = some o → ∀ e ∈ o.after, Region.binds .any e = true → e.on < i
  pre : ∀ i o, ops[i]? = some o → ∀ j, Ord ms i j → ∃ e ∈ o.after, Region.binds .any e = true ∧ (j = e.on ∨ Ord ms e.on j)
  dst : ∀ (i j : Nat) (o o' : Oper) d, ops[i]? = some o → ops[j]? = some o' → o.dst = some d → o'.dst = some d → i = j
  use : ∀ i o, ops[i]? = some o → ∀ t ∈ opTmps ops.toList o, ∀ j o', ops[j]? = some o' → o'.dst = some t → j = i ∨ Ord ms i j ∨ Ord ms j i

theorem ordB_spec {ms : List Nat} {i j : Nat} (h : ordB ms i j = true) : Ord ms i j ∨ Ord ms j i := by simpa [ordB, Ord] using h

theorem drawOk_spec {ms : List Nat} {ops : Array Oper} (h : drawOk ms ops.toList = true) : Static ms ops := by
  have key := fun i o (ho : ops[i]? = some o) => allFrom_get h i o (by simpa using ho)
  simp only [Nat.zero_add, Bool.and_eq_true] at key
  refine ⟨fun i o ho e he hb => ?_, fun i o ho j hj => ?_, fun i j o o' d ho ho' hd hd' => ?_, fun i o ho t ht j o' ho' hd => ?_⟩
  · have := List.all_eq_true.1 (key i o ho).1 e (by simpa using he)
    rw [hb] at this
    simpa [Nat.blt_eq] using this
  · have h1 := Nat.eq_of_beq_eq_true (key i o ho).2.1
    unfold Ord at hj
    rw [h1] at hj
    obtain ⟨e, h2, h3⟩ := edgeMask_spec hj
    exact ⟨e, by simpa using h2, h3⟩
  · have := (key i o ho).2.2.1
    rw [hd] at this
    have := allFrom_get this j o' (by simpa using ho')
    simp only [Nat.zero_add, dstIs, hd', Bool.or_eq_true, Bool.not_eq_true'] at this
    rcases this with h1 | h1
    · exact (Nat.eq_of_beq_eq_true h1).symm
    · simp at h1
  · have := List.all_eq_true.1 (key i o ho).2.2.2 t ht
    have := allFrom_get this j o' (by simpa using ho')
    simp only [Nat.zero_add, dstIs, hd, Bool.or_eq_true, Bool.not_eq_true'] at this
    rcases this with h1 | h1 | h1
    · simp at h1
    · exact .inl (Nat.eq_of_beq_eq_true h1)
    · exact .inr (ordB_spec h1)

theorem logOk_spec {base : Nat} {ms : List Nat} {lg : List Foot} (h : logOk base ms lg = true) :
    (∀ (i j : Nat) (e e' : Foot) id, lg[i]? = some e → lg[j]? = some e' → id ∈ e.wr → (id ∈ e'.rd ∨ id ∈ e'.wr) → j = i ∨ Ord ms i j ∨ Ord ms j i) ∧
    (∀ (i : Nat) (e : Foot) id, lg[i]? = some e → id ∈ e.vl → id < base ∨ id = base + i ∨ Ord ms i (id - base)) := by
  have key := fun i o (ho : lg[i]? = some o) => allFrom_get h i o ho
  simp only [Nat.zero_add, Bool.and_eq_true] at key
  refine ⟨fun i j e e' id he he' hw hr => ?_, fun i e id he hv => ?_⟩
  · have := List.all_eq_true.1 (key i e he).1 id hw
    have := allFrom_get this j e' he'
    simp only [Nat.zero_add, Bool.or_eq_true, Bool.not_eq_true'] at this
    rcases this with h1 | h1 | h1
    · exact .inl (Nat.eq_of_beq_eq_true h1)
    · exact .inr (ordB_spec h1)
    · rcases hr with hr | hr
      · rw [memN_of hr] at h1; simp at h1
      · rw [memN_of hr] at h1; simp at h1
  · have := List.all_eq_true.1 (key i e he).2 id hv
    simp only [Bool.or_eq_true] at this
    rcases this with h1 | h1 | h1
    · exact .inl (by simpa [Nat.blt_eq] using h1)
    · exact .inr (.inl (Nat.eq_of_beq_eq_true h1))
    · exact .inr (.inr h1)

/-! ## The run in the text's order -/
section
variable {F : Nat → Prop} {P : Program} {G : World → Prop} {env : Env} {w0 w : World} {st st' : St} {a : Act} {R : Type} {tt : TypeId → Option Ty}

def stAt : St → List (Foot × St) → Nat → St
  | st, _, 0 => st
  | st, [], _ + 1 => st
  | _, x :: tr, n + 1 => stAt x.2 tr n

theorem stAt_zero (st : St) (tr : List (Foot × St)) : stAt st tr 0 = st := by cases tr <;> rfl

theorem runD_trace (hn : EnvNat env) {ops : List Oper} : ∀ (rest : List Oper) (p : Nat) (st : St) (lg : List Foot) (K : List Foot → St → Option R) (r : R), runD tt env ops rest p st lg K = some r →
    ∃ tr : List (Foot × St), tr.length = rest.length ∧ K (lg ++ tr.map (·.1)) (stAt st tr rest.length) = some r ∧
      ∀ i o, rest[i]? = some o → ∃ e, tr[i]? = some (e, stAt st tr (i + 1)) ∧ stepD tt env ops o (p + i) (stAt st tr i) pair2 = some (e, stAt st tr (i + 1))
  | [], p, st, lg, K, r, hk => ⟨[], rfl, by simpa [stAt, runD] using hk, fun i o ho => by simp at ho⟩
  | o :: rest, p, st, lg, K, r, hk => by
    simp only [runD] at hk
    rw [stepD_nat hn] at hk
    obtain ⟨⟨e, s⟩, h1, h2⟩ := Option.bind_eq_some_iff.1 hk
    rw [force_eq] at h2
    obtain ⟨tr, h3, h4, h5⟩ := runD_trace hn rest (p + 1) s _ K r h2
    refine ⟨(e, s) :: tr, by simp [h3], by simpa [stAt] using h4, fun i o' ho => ?_⟩
    cases i with
    | zero =>
      simp at ho; subst ho
      exact ⟨e, by simp [stAt, stAt_zero], by simpa [stAt, stAt_zero] using h1⟩
    | succ i =>
      obtain ⟨e', h6, h7⟩ := h5 i o' (by simpa using ho)
      exact ⟨e', by simpa [stAt] using h6, by rw [show p + (i + 1) = p + 1 + i by omega]; exact h7⟩

/-- All that is known of the run. -/
structure Run (tt : TypeId → Option Ty) (env : Env) (ops : Array Oper) (ms : List Nat) (base : Nat) (S : Nat → St) (L : Nat → Foot) : Prop where
  static : Static ms ops
  step : ∀ i o, ops[i]? = some o → stepD tt env ops.toList o (base + i) (S i) pair2 = some (L i, S (i + 1))
  len : (S 0).heap.length = base + ops.size
  ids : ∀ t, ∀ id ∈ (tget (S 0).tmps t).ids, id < base
  conf : ∀ i j id, i < ops.size → j < ops.size → id ∈ (L i).wr → (id ∈ (L j).rd ∨ id ∈ (L j).wr) → j = i ∨ Ord ms i j ∨ Ord ms j i
  vl : ∀ i id, i < ops.size → id ∈ (L i).vl → id < base ∨ id = base + i ∨ Ord ms i (id - base)

section
variable {ops : Array Oper} {ms : List Nat} {base : Nat} {S : Nat → St} {L : Nat → Foot}

theorem Run.local_ (h : Run tt env ops ms base S L) (hn : EnvNat env) {i : Nat} {o : Oper} (ho : ops[i]? = some o) : ∃ v M, (L i).vl = v.ids ∧ S (i + 1) = ⟨putD (S i).tmps o.dst v, M (S i).heap⟩ ∧ Pointy (L i).wr M := by
  obtain ⟨v, M, hl⟩ := stepD_local hn (h.step i o ho) (st' := S i) ⟨rfl, fun _ _ => rfl, fun _ _ => rfl⟩
  exact ⟨v, M, hl.vl, hl.here, hl.pt⟩

theorem get_of_lt {ops : Array Oper} {i : Nat} (h : i < ops.size) : ∃ o, ops[i]? = some o := ⟨ops[i], by simp [h]⟩
theorem lt_of_get {ops : Array Oper} {i : Nat} {o : Oper} (h : ops[i]? = some o) : i < ops.size := (Array.getElem?_eq_some_iff.1 h).1

theorem putD_length (l : List AVal) (d : Option Tmp) (v : AVal) : (putD l d v).length = l.length := by cases d <;> simp [putD, length_tset]
theorem tget_putD_ne {l : List AVal} {d : Option Tmp} {v : AVal} {t : Nat} (h : d ≠ some t) : tget (putD l d v) t = tget l t := by
  cases d with
  | none => rfl
  | some d => simp only [putD]; rw [tget_tset, if_neg (fun e => h (by rw [e.1]))]

theorem Run.tlen (h : Run tt env ops ms base S L) (hn : EnvNat env) : ∀ i, i ≤ ops.size → (S i).tmps.length = (S 0).tmps.length
  | 0, _ => rfl
  | i + 1, hi => by
    obtain ⟨o, ho⟩ := get_of_lt (ops := ops) (i := i) (by omega)
    obtain ⟨v, M, _, e, _⟩ := h.local_ hn ho
    rw [e]; simp only [putD_length]; exact h.tlen hn i (by omega)

theorem Run.hlen (h : Run tt env ops ms base S L) (hn : EnvNat env) : ∀ i, i ≤ ops.size → (S i).heap.length = (S 0).heap.length
  | 0, _ => rfl
  | i + 1, hi => by
    obtain ⟨o, ho⟩ := get_of_lt (ops := ops) (i := i) (by omega)
    obtain ⟨v, M, _, e, hp⟩ := h.local_ hn ho
    rw [e]; simp only [hp.len]; exact h.hlen hn i (by omega)

theorem Run.tsame (h : Run tt env ops ms base S L) (hn : EnvNat env) {t k : Nat} : ∀ i, k ≤ i → i ≤ ops.size → (∀ j o, k ≤ j → j < i → ops[j]? = some o → o.dst ≠ some t) → tget (S i).tmps t = tget (S k).tmps t := by
  intro i hk hi hno
  induction i with
  | zero => obtain rfl : k = 0 := by omega
            rfl
  | succ i ih =>
    rcases Nat.lt_or_ge i k with hlt | hge
    · obtain rfl : k = i + 1 := by omega
      rfl
    · obtain ⟨o, ho⟩ := get_of_lt (ops := ops) (i := i) (by omega)
      obtain ⟨v, M, _, e, _⟩ := h.local_ hn ho
      rw [e]
      simp only
      rw [tget_putD_ne (hno i o hge (by omega) ho)]
      exact ih hge (by omega) fun j o' h1 h2 h3 => hno j o' h1 (by omega) h3

theorem Run.hsame (h : Run tt env ops ms base S L) (hn : EnvNat env) {id k : Nat} : ∀ i, k ≤ i → i ≤ ops.size → (∀ j, k ≤ j → j < i → id ∉ (L j).wr) → hget (S i).heap id = hget (S k).heap id := by
  intro i hk hi hno
  induction i with
  | zero => obtain rfl : k = 0 := by omega
            rfl
  | succ i ih =>
    rcases Nat.lt_or_ge i k with hlt | hge
    · obtain rfl : k = i + 1 := by omega
      rfl
    · obtain ⟨o, ho⟩ := get_of_lt (ops := ops) (i := i) (by omega)
      obtain ⟨v, M, _, e, hp⟩ := h.local_ hn ho
      rw [e]
      simp only
      rw [hp.out _ _ (hno i hge (by omega))]
      exact ih hge (by omega) fun j h1 h2 => hno j h1 (by omega)

theorem Run.ord_lt (h : Run tt env ops ms base S L) {j : Nat} : ∀ i, i < ops.size → Ord ms i j → j < i := by
  intro i
  induction i using Nat.strongRecOn with
  | ind i ih =>
    intro hi ho
    obtain ⟨o, hoi⟩ := get_of_lt hi
    obtain ⟨e, h1, h2, h3⟩ := h.static.pre i o hoi j ho
    have h4 := h.static.lt i o hoi e h1 h2
    rcases h3 with h3 | h3
    · omega
    · have := ih e.on h4 (by omega) h3; omega

def Lst (ops : Array Oper) (listed : Array Bool) (j : Nat) : Prop := j < ops.size ∧ listed.getD j false = true

/-- What holds when the listed operations have been carried out. -/
structure InvD (F : Nat → Prop) (w0 : World) (ops : Array Oper) (ms : List Nat) (S : Nat → St) (L : Nat → Foot) (listed : Array Bool) (a : Act) (w : World) (T : List AVal) (H : List AObj) : Prop where
  size : listed.size = ops.size
  rel : Rel F w0 ⟨T, H⟩ a w
  tlen : T.length = (S 0).tmps.length
  tf : ∀ t i o, ops[i]? = some o → o.dst = some t → Lst ops listed i → tget T t = tget (S (i + 1)).tmps t
  t0 : ∀ t, (∀ i o, ops[i]? = some o → o.dst = some t → ¬ Lst ops listed i) → tget T t = tget (S 0).tmps t
  hlen : H.length = (S 0).heap.length
  hf : ∀ id i, Lst ops listed i → id ∈ (L i).wr → (∀ j, Lst ops listed j → id ∈ (L j).wr → j ≤ i) → hget H id = hget (S (i + 1)).heap id
  h0 : ∀ id, (∀ i, Lst ops listed i → id ∉ (L i).wr) → hget H id = hget (S 0).heap id
  cl : ∀ i j, Lst ops listed i → Ord ms i j → Lst ops listed j

theorem last_writer (p : Nat → Prop) : ∀ i, (∀ j, j < i → ¬ p j) ∨ ∃ m, m < i ∧ p m ∧ ∀ j, m < j → j < i → ¬ p j
  | 0 => .inl fun j hj => by omega
  | i + 1 => by
    by_cases hp : p i
    · exact .inr ⟨i, by omega, hp, fun j h1 h2 => by omega⟩
    · rcases last_writer p i with h | ⟨m, h1, h2, h3⟩
      · exact .inl fun j hj => by
          rcases Nat.lt_or_ge j i with h4 | h4
          · exact h j h4
          · obtain rfl : j = i := by omega
            exact hp
      · exact .inr ⟨m, by omega, h2, fun j h4 h5 => by
          rcases Nat.lt_or_ge j i with h6 | h6
          · exact h3 j h4 h6
          · obtain rfl : j = i := by omega
            exact hp⟩

section
variable {listed : Array Bool} {T : List AVal} {H : List AObj}

theorem InvD.preds (hr : Run tt env ops ms base S L) (hi : InvD F w0 ops ms S L listed a w T H) {i : Nat} {o : Oper} (ho : ops[i]? = some o)
    (hall : ∀ e ∈ o.after, Region.binds .any e = true → listed.getD e.on false = true) {j : Nat} (hj : Ord ms i j) : Lst ops listed j := by
  obtain ⟨e, h1, h2, h3⟩ := hr.static.pre i o ho j hj
  have hlt := hr.static.lt i o ho e h1 h2
  have := lt_of_get ho
  have hle : Lst ops listed e.on := ⟨by omega, hall e h1 h2⟩
  rcases h3 with h3 | h3
  · subst h3; exact hle
  · exact hi.cl e.on j hle h3

/-- The next operation cannot tell this state from that of the run in the text's order. -/
theorem InvD.alike (hr : Run tt env ops ms base S L) (hn : EnvNat env) (hi : InvD F w0 ops ms S L listed a w T H) {i : Nat} {o : Oper} (ho : ops[i]? = some o)
    (hall : ∀ e ∈ o.after, Region.binds .any e = true → listed.getD e.on false = true) (hun : ¬ Lst ops listed i) : Alike ((L i).rd ++ (L i).wr) (opTmps ops.toList o) (S i) ⟨T, H⟩ := by
  have hlt := lt_of_get ho
  have preds : ∀ j, Ord ms i j → Lst ops listed j := fun j hj => hi.preds hr ho hall hj
  refine ⟨by rw [hr.hlen hn i (by omega), ← hi.hlen], fun id hid => ?_, fun t ht => ?_⟩
  · have before : ∀ j, j < ops.size → id ∈ (L j).wr → j ≠ i → (Lst ops listed j ↔ j < i) := fun j hj hw hne => by
      have hc := hr.conf j i id hj hlt hw (by simpa using hid)
      rcases hc with hc | hc | hc
      · exact absurd hc.symm hne
      · have := hr.ord_lt j hj hc
        exact ⟨fun hl => absurd (hi.cl j i hl hc) hun, fun hlt' => by omega⟩
      · have := hr.ord_lt i hlt hc
        exact ⟨fun _ => this, fun _ => preds j hc⟩
    rcases last_writer (fun j => id ∈ (L j).wr) i with hno | ⟨m, h1, h2, h3⟩
    · rw [hr.hsame hn (k := 0) i (by omega) (by omega) fun j _ hj => hno j hj]
      exact (hi.h0 id fun j hl hw => by
        by_cases e : j = i
        · subst e; exact hun hl
        · exact hno j ((before j hl.1 hw e).1 hl) hw).symm
    · rw [hr.hsame hn (k := m + 1) i (by omega) (by omega) fun j hj hj' => h3 j (by omega) hj']
      refine (hi.hf id m ((before m (by omega) h2 (by omega)).2 h1) h2 fun j hl hw => ?_).symm
      by_cases e : j = i
      · subst e; exact absurd hl hun
      · have := (before j hl.1 hw e).1 hl
        rcases Nat.lt_or_ge m j with h4 | h4
        · exact absurd hw (h3 j h4 this)
        · exact h4
  · show tget (S i).tmps t = tget T t
    by_cases hw : ∃ (j : Nat) (o' : Oper), ops[j]? = some o' ∧ o'.dst = some t
    · obtain ⟨j, o', hj, hd⟩ := hw
      have only : ∀ j' o'', ops[j']? = some o'' → o''.dst = some t → j' = j := fun j' o'' h1 h2 => hr.static.dst j' j o'' o' t h1 hj h2 hd
      have after : ¬ Lst ops listed j → i ≤ j → tget (S i).tmps t = tget T t := fun hnl hij => by
        rw [hi.t0 t fun j' o'' h1 h2 => by rw [only j' o'' h1 h2]; exact hnl]
        exact hr.tsame hn (k := 0) i (by omega) (by omega) fun j' o'' _ h1 h2 h3 => by have := only j' o'' h2 h3; omega
      rcases hr.static.use i o ho t ht j o' hj hd with h1 | h1 | h1
      · subst h1; exact after hun (by omega)
      · have hlj := preds j h1
        have := hr.ord_lt i hlt h1
        rw [hi.tf t j o' hj hd hlj]
        exact hr.tsame hn (k := j + 1) i (by omega) (by omega) fun j' o'' h2 h3 h4 h5 => by have := only j' o'' h4 h5; omega
      · have := hr.ord_lt j (lt_of_get hj) h1
        exact after (fun hl => hun (hi.cl j i hl h1)) (by omega)
    · have hno : ∀ (j : Nat) (o' : Oper), ops[j]? = some o' → o'.dst ≠ some t := fun j o' h1 h2 => hw ⟨j, o', h1, h2⟩
      rw [hi.t0 t fun j o' h1 h2 => absurd h2 (hno j o' h1)]
      exact hr.tsame hn (k := 0) i (by omega) (by omega) fun j (o' : Oper) _ _ h1 => hno j o' h1

theorem InvD.fresh (hr : Run tt env ops ms base S L) (hn : EnvNat env) (hi : InvD F w0 ops ms S L listed a w T H) {i : Nat} (hlt : i < ops.size) (hun : ¬ Lst ops listed i) (t : Nat) : base + i ∉ (tget T t).ids := by
  intro hm
  by_cases hw : ∃ (j : Nat) (o' : Oper), ops[j]? = some o' ∧ o'.dst = some t ∧ Lst ops listed j
  · obtain ⟨j, o', hj, hd, hl⟩ := hw
    rw [hi.tf t j o' hj hd hl] at hm
    obtain ⟨v, M, h1, h2, _⟩ := hr.local_ hn hj
    rw [h2, hd] at hm
    simp only [putD] at hm
    rw [tget_tset] at hm
    split at hm
    · rw [← h1] at hm
      rcases hr.vl j _ (lt_of_get hj) hm with h3 | h3 | h3
      · omega
      · obtain rfl : i = j := by omega
        exact hun hl
      · rw [show base + i - base = i by omega] at h3
        exact hun (hi.cl j i hl h3)
    · rename_i hc
      rw [tget_ge _ _ (by simp at hc; exact hc)] at hm
      simp [AVal.ids] at hm
  · have := hi.t0 t fun j o' h1 h2 h3 => hw ⟨j, o', h1, h2, h3⟩
    rw [this] at hm
    have := hr.ids t _ hm
    omega

theorem lst_set {i j : Nat} (hs : listed.size = ops.size) (hlt : i < ops.size) : Lst ops (listed.setIfInBounds i true) j ↔ j = i ∨ Lst ops listed j := by
  unfold Lst
  by_cases e : i = j
  · subst e
    have : i < listed.size := by omega
    simp [this, hlt]
  · rw [getD_set_ne false e]
    constructor
    · exact .inr
    · intro h; rcases h with h | h
      · exact absurd h.symm e
      · exact h

theorem InvD.next (hr : Run tt env ops ms base S L) (hn : EnvNat env) (hi : InvD F w0 ops ms S L listed a w T H) {i : Nat} {o : Oper} (ho : ops[i]? = some o)
    (hall : ∀ e ∈ o.after, Region.binds .any e = true → listed.getD e.on false = true) (hun : ¬ Lst ops listed i) :
    ∃ s, stepD tt env ops.toList o (base + i) ⟨T, H⟩ pair2 = some (L i, s) ∧ ∀ a' w', Rel F w0 s a' w' → InvD F w0 ops ms S L (listed.setIfInBounds i true) a' w' s.tmps s.heap := by
  have hlt := lt_of_get ho
  have al := hi.alike hr hn ho hall hun
  obtain ⟨v, M, hl⟩ := stepD_local hn (hr.step i o ho) al
  refine ⟨_, hl.there, fun a' w' hrel => ?_⟩
  have set_ : ∀ j, Lst ops (listed.setIfInBounds i true) j ↔ j = i ∨ Lst ops listed j := fun j => lst_set hi.size hlt
  have hS : S (i + 1) = ⟨putD (S i).tmps o.dst v, M (S i).heap⟩ := hl.here
  have tlen : T.length = (S i).tmps.length := by rw [hi.tlen, hr.tlen hn i (by omega)]
  have hlen : H.length = (S i).heap.length := by rw [hi.hlen, hr.hlen hn i (by omega)]
  refine ⟨by rw [Array.size_setIfInBounds]; exact hi.size, hrel, by rw [putD_length]; exact hi.tlen, ?_, ?_, by rw [hl.pt.len]; exact hi.hlen, ?_, ?_, ?_⟩
  · intro t j o' hj hd hlj
    simp only
    rcases (set_ j).1 hlj with e | e
    · subst e
      obtain rfl : o' = o := by rw [ho] at hj; exact (Option.some.inj hj).symm
      rw [hS, hd]
      simp only [putD]
      rw [tget_tset, tget_tset, tlen]
      split
      · rfl
      · rename_i hc
        rw [tget_ge T t (by rw [tlen]; simpa using hc), tget_ge _ t (by simpa using hc)]
    · have hne : o.dst ≠ some t := fun hd' => by
        have := hr.static.dst j i o' o t hj ho hd hd'
        subst this; exact hun e
      rw [tget_putD_ne hne]
      exact hi.tf t j o' hj hd e
  · intro t hno
    simp only
    rw [tget_putD_ne fun hd => hno i o ho hd ((set_ i).2 (.inl rfl))]
    exact hi.t0 t fun j o' h1 h2 h3 => hno j o' h1 h2 ((set_ j).2 (.inr h3))
  · intro id j hlj hw hmax
    simp only
    by_cases e : j = i
    · subst e
      rw [hS]
      exact hl.pt.at_ _ _ _ hlen (al.heap id (by simp [hw])).symm
    · have hlj' : Lst ops listed j := ((set_ j).1 hlj).resolve_left e
      have hni : id ∉ (L i).wr := fun hwi => by
        have h1 := hmax i ((set_ i).2 (.inl rfl)) hwi
        rcases hr.conf j i id hlj'.1 hlt hw (.inr hwi) with h2 | h2 | h2
        · exact e h2.symm
        · exact hun (hi.cl j i hlj' h2)
        · have := hr.ord_lt i hlt h2; omega
      rw [hl.pt.out _ _ hni]
      exact hi.hf id j hlj' hw fun k hk hwk => hmax k ((set_ k).2 (.inr hk)) hwk
  · intro id hno
    simp only
    rw [hl.pt.out _ _ (hno i ((set_ i).2 (.inl rfl)))]
    exact hi.h0 id fun j hlj => hno j ((set_ j).2 (.inr hlj))
  · intro j k hlj hjk
    rcases (set_ j).1 hlj with e | e
    · subst e; exact (set_ k).2 (.inr (hi.preds hr ho hall hjk))
    · exact (set_ k).2 (.inr (hi.cl j k e hjk))

theorem InvD.all (hr : Run tt env ops ms base S L) (hi : InvD F w0 ops ms S L listed a w T H) (he : Region.ready .any ops listed = []) : ∀ i, i < ops.size → Lst ops listed i := by
  intro i
  induction i using Nat.strongRecOn with
  | ind i ih =>
    intro hlt
    refine Classical.byContradiction fun hun => ?_
    obtain ⟨o, ho⟩ := get_of_lt hlt
    have : i ∈ Region.ready .any ops listed := mem_ready.2 ⟨by
      have h1 : ¬ listed.getD i false = true := fun h => hun ⟨hlt, h⟩
      have hs : i < listed.size := by rw [hi.size]; exact hlt
      simp [hs] at h1 ⊢
      exact h1, o, ho, fun e h1 h2 => by
      have := hr.static.lt i o ho e h1 h2
      exact (ih e.on this (by omega)).2⟩
    rw [he] at this
    simp at this

theorem InvD.done (hr : Run tt env ops ms base S L) (hn : EnvNat env) (hi : InvD F w0 ops ms S L listed a w T H) (hall : ∀ i, i < ops.size → Lst ops listed i) : Rel F w0 (S ops.size) a w := by
  have eT : T = (S ops.size).tmps := tget_ext (by rw [hi.tlen, hr.tlen hn _ (Nat.le_refl _)]) fun t => by
    by_cases hw : ∃ (j : Nat) (o' : Oper), ops[j]? = some o' ∧ o'.dst = some t
    · obtain ⟨j, o', hj, hd⟩ := hw
      have hlt := lt_of_get hj
      rw [hi.tf t j o' hj hd (hall j hlt)]
      exact (hr.tsame hn (k := j + 1) ops.size (by omega) (Nat.le_refl _) fun j' o'' h1 h2 h3 h4 => by have := hr.static.dst j' j o'' o' t h3 hj h4 hd; omega).symm
    · have hno : ∀ (j : Nat) (o' : Oper), ops[j]? = some o' → o'.dst ≠ some t := fun j o' h1 h2 => hw ⟨j, o', h1, h2⟩
      rw [hi.t0 t fun j o' h1 h2 => absurd h2 (hno j o' h1)]
      exact (hr.tsame hn (k := 0) ops.size (by omega) (Nat.le_refl _) fun j (o' : Oper) _ _ h1 => hno j o' h1).symm
  have eH : H = (S ops.size).heap := hget_ext (by rw [hi.hlen, hr.hlen hn _ (Nat.le_refl _)]) fun id => by
    rcases last_writer (fun j => id ∈ (L j).wr) ops.size with hno | ⟨m, h1, h2, h3⟩
    · rw [hi.h0 id fun j hl => hno j hl.1]
      exact (hr.hsame hn (k := 0) ops.size (by omega) (Nat.le_refl _) fun j _ hj => hno j hj).symm
    · rw [hi.hf id m (hall m h1) h2 fun j hl hw => by
        rcases Nat.lt_or_ge m j with h4 | h4
        · exact absurd hw (h3 j h4 hl.1)
        · exact h4]
      exact (hr.hsame hn (k := m + 1) ops.size (by omega) (Nat.le_refl _) fun j hj hj' => h3 j (by omega) hj').symm
  have := hi.rel
  rw [eT, eH] at this
  exact this
end

def unlisted (n : Nat) (listed : Array Bool) : Nat := (List.range n).countP fun i => !listed.getD i false

theorem countP_lt {p q : Nat → Bool} {i : Nat} (hle : ∀ j, q j = true → p j = true) (hp : p i = true) (hq : q i = false) : ∀ {l : List Nat}, i ∈ l → l.countP q < l.countP p
  | x :: l, h => by
    have hmono : l.countP q ≤ l.countP p := List.countP_mono_left fun x _ => hle x
    rw [List.countP_cons, List.countP_cons]
    rcases List.mem_cons.1 h with e | e
    · subst e; rw [hp, hq]; simp; omega
    · have := countP_lt hle hp hq e
      have : (if q x = true then 1 else 0) ≤ (if p x = true then 1 else 0) := by
        by_cases hx : q x = true
        · simp [hx, hle x hx]
        · simp [hx]
      omega

theorem wpAny_of_inv (hT : TTOk P tt) (hE : EnvSound P G env) (hn : EnvNat env) (hL : Lasting G) (hG : G w0) (hr : Run tt env ops ms base S L) {Q : Exit → Act → World → Prop} (hQ : ∀ a w, Rel F w0 (S ops.size) a w → Q .normal a w) :
    ∀ (fuel : Nat) (listed : Array Bool) (a : Act) (w : World) (T : List AVal) (H : List AObj), InvD F w0 ops ms S L listed a w T H → unlisted ops.size listed ≤ fuel → wpAny P .any ops Q fuel listed a w := by
  intro fuel
  have fin : ∀ (listed : Array Bool) (a : Act) (w : World) (T : List AVal) (H : List AObj), InvD F w0 ops ms S L listed a w T H → Region.ready .any ops listed = [] → Q .normal a w := fun listed a w T H hi he => hQ a w (hi.done hr hn (hi.all hr he))
  have nolist : ∀ (listed : Array Bool) (i : Nat), i ∈ Region.ready .any ops listed → ¬ Lst ops listed i := fun listed i hm hl => by
    have h0 := (mem_ready.1 hm).1
    have h1 := hl.2
    rcases Nat.lt_or_ge i listed.size with h' | h'
    · simp [h'] at h0 h1; rw [h0] at h1; cases h1
    · simp [Array.getElem?_eq_none h'] at h1
  induction fuel with
  | zero =>
    intro listed a w T H hi hc
    have hall : ∀ i, i < ops.size → Lst ops listed i := fun i hlt => by
      refine ⟨hlt, Classical.byContradiction fun hne => ?_⟩
      have : 0 < unlisted ops.size listed := List.countP_pos_iff.2 ⟨i, by simpa using hlt, by simpa using hne⟩
      omega
    have hready : Region.ready .any ops listed = [] := by
      cases hrd : Region.ready .any ops listed with
      | nil => rfl
      | cons i is =>
        have hm : i ∈ Region.ready .any ops listed := by rw [hrd]; simp
        obtain ⟨_, o, ho, _⟩ := mem_ready.1 hm
        exact absurd (hall i (lt_of_get ho)) (nolist listed i hm)
    exact ⟨hready, fin listed a w T H hi hready⟩
  | succ fuel ih =>
    intro listed a w T H hi hc
    refine ⟨fin listed a w T H hi, fun i hm => ?_⟩
    obtain ⟨_, o, ho, hall⟩ := mem_ready.1 hm
    have hun := nolist listed i hm
    have hlt := lt_of_get ho
    obtain ⟨s, h1, h2⟩ := hi.next hr hn ho hall hun
    have hs := stepD_sound hT hE hn (hi.rel.good hL hG) hi.rel ops o h1 (by have := hi.hlen; have := hr.len; simp only; omega) (hi.fresh hr hn hlt hun) Q
    have hcnt : unlisted ops.size (listed.setIfInBounds i true) ≤ fuel := by
      have : unlisted ops.size (listed.setIfInBounds i true) < unlisted ops.size listed := by
        refine countP_lt (i := i) (fun j hj => ?_) ?_ ?_ (by simpa using hlt)
        · by_cases e : i = j
          · subst e
            have : i < listed.size := by rw [hi.size]; exact hlt
            simp [this] at hj
          · rw [getD_set_ne false e] at hj; exact hj
        · have : ¬ listed.getD i false = true := fun h => hun ⟨hlt, h⟩
          simpa using this
        · have : i < listed.size := by rw [hi.size]; exact hlt
          simp [this]
      omega
    unfold wpOp
    simp only [ho]
    split
    · rename_i hw
      rw [if_pos hw] at hs
      exact .inl (Oper.wp_mono (fun a' w' hrel => ih _ a' w' _ _ (h2 a' w' hrel) hcnt) hs)
    · rename_i hw
      rw [if_neg hw] at hs
      exact ih _ _ w _ _ (h2 _ w hs) hcnt
end

theorem drawK_sound (hT : TTOk P tt) (hE : EnvSound P G env) (hn : EnvNat env) (hL : Lasting G) (hG : G w0) (hM : P.follows .mixedOrders = true) {id : Nat} {ops : Array Oper} {K : St → Option R} {r : R} (h : Rel F w0 st a w) (hk : drawK tt env ops.toList st K = some r)
    {Q : Exit → Act → World → Prop} (hQ : ∀ st a w, K st = some r → Rel F w0 st a w → Q .normal a w) : (Code.region id ops true).wp P Q a w := by
  unfold drawK at hk
  cases hd : drawOk (masks ops.toList []) ops.toList with
  | false => rw [hd] at hk; simp at hk
  | true =>
    rw [hd] at hk
    simp only [cond_true, force_eq] at hk
    obtain ⟨tr, h1, h2, h3⟩ := runD_trace hn _ _ _ _ _ _ hk
    simp only [List.nil_append] at h2
    cases hl : logOk st.heap.length (masks ops.toList []) (tr.map (·.1)) with
    | false => rw [hl] at h2; simp at h2
    | true =>
      rw [hl] at h2
      simp only [cond_true] at h2
      obtain ⟨lc, lv⟩ := logOk_spec hl
      refine wp_region_any hM ?_
      have hrel : Rel F w0 ⟨st.tmps, st.heap ++ nones ops.toList.length⟩ a { w with drawn := w.drawn + 1 } := by
        obtain ⟨ρ, ho⟩ := (h.nones ops.toList.length).opened
        exact (ho.later (w' := { w with drawn := w.drawn + 1 }) ⟨rfl, rfl, rfl, Nat.le_refl _, fun _ _ => rfl⟩).rel
      have hget : ∀ i, i < ops.size → ∃ e, (tr.map (·.1))[i]? = some e ∧ e = ((tr.map (·.1))[i]?).getD ⟨[], [], []⟩ := fun i hi => by
        have : i < (tr.map (·.1)).length := by rw [List.length_map, h1]; simpa using hi
        exact ⟨_, List.getElem?_eq_getElem this, by rw [List.getElem?_eq_getElem this]; rfl⟩
      have hrun : Run tt env ops (masks ops.toList []) st.heap.length (stAt ⟨st.tmps, st.heap ++ nones ops.toList.length⟩ tr) (fun i => ((tr.map (·.1))[i]?).getD ⟨[], [], []⟩) := by
        refine ⟨drawOk_spec hd, fun i o ho => ?_, by simp [stAt_zero, length_nones], fun t id hi => ?_, fun i j id hi hj hw hr => ?_, fun i id hi hv => ?_⟩
        · obtain ⟨e, h4, h5⟩ := h3 i o (by simpa using ho)
          rw [h5]
          simp [h4]
        · obtain ⟨ρ, ho⟩ := h.opened
          rw [stAt_zero] at hi
          exact ids_lt _ _ (ho.vals t) id hi
        · obtain ⟨e, h4, h5⟩ := hget i hi
          obtain ⟨e', h6, h7⟩ := hget j hj
          exact lc i j e e' id h4 h6 (by rw [h5]; exact hw) (by rw [h7]; exact hr)
        · obtain ⟨e, h4, h5⟩ := hget i hi
          exact lv i e id h4 (by rw [h5]; exact hv)
      refine wpAny_of_inv hT hE hn hL hG hrun (fun a w hrel => hQ _ a w (by simpa using h2) hrel) ops.size (Array.replicate ops.size false) a _ st.tmps (st.heap ++ nones ops.toList.length) ?_ ?_
      · have nol : ∀ j, ¬ Lst ops (Array.replicate ops.size false) j := fun j ⟨h4, h5⟩ => by simp [h4] at h5
        exact ⟨by simp, hrel, by rw [stAt_zero], fun t i o _ _ hl => (nol i hl).elim, fun t _ => by rw [stAt_zero], by rw [stAt_zero], fun id i hl => (nol i hl).elim, fun id _ => by rw [stAt_zero], fun i j hl => (nol i hl).elim⟩
      · unfold unlisted
        exact Nat.le_trans List.countP_le_length (by simp)
end
end Go.PB

namespace Go.PB
open Go Go.RowKit

section
variable {F : Nat → Prop} {P : Program} {G : World → Prop} {env : Env} {w0 w w' : World} {st : St} {a : Act} {ρ : Nat → Option Nat} {R : Type} {tt : TypeId → Option Ty}

/-- Objects may be forgotten. -/
theorem Rel.forget (hr : Rel F w0 st a w) {h' : List AObj} (hl : h'.length = st.heap.length) (hg : ∀ id, hget h' id = hget st.heap id ∨ hget h' id = .none) : Rel F w0 ⟨st.tmps, h'⟩ a w := by
  obtain ⟨ρ, ho⟩ := hr.opened
  have owns' : ∀ i, (hget h' i).owns = true → (hget st.heap i).owns = true ∧ hget h' i = hget st.heap i := fun i hi => by
    rcases hg i with e | e
    · exact ⟨by rw [e] at hi; exact hi, e⟩
    · rw [e] at hi; simp [AObj.owns] at hi
  have live : ∀ b, liveOf w ρ st.heap b → liveOf w ρ h' b ∧ w.heap[b]? = w.heap[b]? := fun b hb => ⟨⟨hb.1, fun i hi hr => hb.2 i (owns' i hi).1 hr⟩, rfl⟩
  have dat : ∀ b, okOf F w ρ st.heap b → okOf F w ρ h' b ∧ w.heap[b]? = w.heap[b]? := fun b hb => ⟨⟨hb.1, (live b hb.2).1⟩, rfl⟩
  have k : Keeps w ρ st.heap (okOf F w ρ st.heap) w ρ h' (okOf F w ρ h') := by
    refine ⟨dat, live, by omega, ?_, ?_, ?_, ?_⟩
    · intro i v val hi hs
      rcases hg i with e | e
      · rw [e]
        cases hoi : hget st.heap i with
        | row v' t l => rw [hoi] at hs; exact hs
        | frow v' t l => rw [hoi] at hs; exact fun e => SliceW.mono dat (hs e)
        | none => trivial
        | box t x => trivial
        | iter s p => trivial
      · rw [e]; trivial
    · intro i p val hi hs
      rcases hg i with e | e
      · rw [e]; exact hs
      · rw [e]; trivial
    · intro i v j p val hi hs
      rcases hg i with e | e
      · rw [e]; exact hs
      · rw [e]; trivial
    · intro i val hi hs
      rcases hg i with e | e
      · rw [e]; exact hs
      · rw [e]; trivial
  refine ⟨ho.defers, ho.size, ho.below, ρ, ⟨ho.hrel.base, fun i hi => ?_, fun i b hi hr => ho.hrel.own i b (owns' i hi).1 hr, fun i j b hi hj hr hr' => ho.hrel.inj i j b (owns' i hi).1 (owns' j hj).1 hr hr'⟩, fun i => VRel.keeps k _ _ (ho.vals i)⟩
  rcases hg i with e | e
  · show ORel w ρ _ i (hget h' i)
    rw [e]; exact ORel.keeps dat rfl (fun _ _ _ => rfl) (ho.hrel.obj i (by rw [← hl]; exact hi))
  · show ORel w ρ _ i (hget h' i)
    rw [e]; trivial

theorem length_maskH : ∀ (s : List ObjS) (h : List AObj), (maskH s h).length = h.length
  | [], h => by simp [maskH]
  | s :: r, [] => by cases s <;> simp [maskH]
  | .none :: r, o :: h => by simp [maskH, length_maskH r h]
  | .box _ :: r, o :: h => by simp [maskH, length_maskH r h]
  | .row _ :: r, o :: h => by simp [maskH, length_maskH r h]
  | .frow _ :: r, o :: h => by simp [maskH, length_maskH r h]
  | .iter :: r, o :: h => by simp [maskH, length_maskH r h]

theorem hget_maskH : ∀ (s : List ObjS) (h : List AObj) (id : Nat), hget (maskH s h) id = hget h id ∨ hget (maskH s h) id = .none
  | [], h, id => by simp [maskH]
  | s :: r, [], id => by cases s <;> simp [maskH]
  | .none :: r, o :: h, 0 => by simp [maskH, hget]
  | .none :: r, o :: h, id + 1 => by simpa [maskH, hget] using hget_maskH r h id
  | .box _ :: r, o :: h, 0 => by simp [maskH, hget]
  | .box _ :: r, o :: h, id + 1 => by simpa [maskH, hget] using hget_maskH r h id
  | .row _ :: r, o :: h, 0 => by simp [maskH, hget]
  | .row _ :: r, o :: h, id + 1 => by simpa [maskH, hget] using hget_maskH r h id
  | .frow _ :: r, o :: h, 0 => by simp [maskH, hget]
  | .frow _ :: r, o :: h, id + 1 => by simpa [maskH, hget] using hget_maskH r h id
  | .iter :: r, o :: h, 0 => by simp [maskH, hget]
  | .iter :: r, o :: h, id + 1 => by simpa [maskH, hget] using hget_maskH r h id

/-- A temporary's value may be told otherwise. -/
theorem Open.retell (h : Open F w0 st a w ρ) (s : Nat) {v : AVal} (hv : VRel w ρ st.heap (okOf F w ρ st.heap) v (a.tmps.getD s Go.undef)) : Rel F w0 ⟨tset st.tmps s v, st.heap⟩ a w := by
  refine ⟨h.defers, by simp [length_tset, h.size], h.below, ρ, h.hrel, fun i => ?_⟩
  show VRel w ρ st.heap _ (tget (tset st.tmps s v) i) _
  rw [tget_tset]
  split
  · rename_i hi; rw [← hi.1]; exact hv
  · exact h.vals i

theorem list_nil_of' {w : World} {ok : Nat → Prop} {t : Ty} : DVal w ok (.list t) ([] : List t.C) (.slice none 0 0) := dval_list ⟨none, 0, rfl, Nat.le_refl _, .inl rfl⟩

theorem Rel.mkData (hr : Rel F w0 st a w) (s : Nat) (t : Ty) : Rel F w0 (PB.mkData s t st) a w := by
  obtain ⟨ρ, h⟩ := hr.opened
  unfold PB.mkData
  split
  · rename_i t' x e
    exact h.retell s (res_data (h.vals s) e)
  · rename_i id v t' l e
    obtain ⟨hl, ho, eu, hx⟩ := row_osl (h.vals s) e
    have hf := h.freeze ho
    have e2 : res (hset st.heap id (.frow v t' l)) (tget st.tmps s) = .data (.list t') l := by
      rw [eu]; simp [res, hget_hset_self hl]
    exact hf.retell s (res_data (hf.vals s) e2)
  · rename_i e
    refine h.retell s ?_
    have hv := h.vals s
    rw [res_nils e] at hv
    have hv' : a.tmps.getD s Go.undef = .slice none 0 0 := hv
    rw [hv']
    exact list_nil_of'
  · exact hr

theorem Rel.mkDatas (hr : Rel F w0 st a w) : ∀ (l : List (Nat × Ty)), Rel F w0 (PB.mkDatas l st) a w := by
  intro l
  induction l generalizing st with
  | nil => exact hr
  | cons p l ih => obtain ⟨s, t⟩ := p; exact ih (hr.mkData s t)

theorem Rel.shape (hr : Rel F w0 st a w) (s : Shape) : Rel F w0 (s.norm st) a w := by
  have h1 := ((hr.mkRows s.rows).mkDatas s.datas).norm (keeps s.tmps) (olen s.heap)
  exact h1.forget (length_maskH _ _) (hget_maskH _ _)

theorem eqPath_eq : ∀ {p q : List Nat}, eqPath p q = true → p = q
  | [], [], _ => rfl
  | [], _ :: _, h => by simp [eqPath] at h
  | _ :: _, [], h => by simp [eqPath] at h
  | a :: p, b :: q, h => by
    simp only [eqPath, Bool.and_eq_true] at h
    rw [Nat.eq_of_beq_eq_true h.1, eqPath_eq h.2]

theorem getCatch_inv : ∀ {ts : List Ty} {c : AVal} {K : capsC ts → Option R} {r : R}, getCatch ts c K = some r → ∃ v, K v = some r ∧ mkCatch ts v = c := by
  intro ts
  induction ts with
  | nil =>
    intro c K r hk
    cases c with
    | tnil => exact ⟨(), hk, rfl⟩
    | _ => simp [getCatch] at hk
  | cons t ts ih =>
    intro c K r hk
    cases c with
    | tcons a b =>
      cases a with
      | rptr t' x =>
        simp only [getCatch] at hk
        obtain ⟨e, hk1⟩ := castK_inv hk
        clear hk; subst e
        obtain ⟨u, h1, h2⟩ := ih hk1
        exact ⟨(x, u), h1, by simp [mkCatch, h2]⟩
      | _ => simp [getCatch] at hk
    | _ => simp [getCatch] at hk

theorem capT_inv {T : Type} : ∀ {l : List SlotS} {vs : List AVal} {h : T} {K : slotsC T l → Option R} {r : R}, capT l vs h K = some r → ∃ v, K v = some r ∧ mkT l v = vs ∧ restT l v = h := by
  intro l
  induction l with
  | nil =>
    intro vs h K r hk
    cases vs with
    | nil => exact ⟨h, hk, rfl, rfl⟩
    | cons v vs => simp [capT] at hk
  | cons s l ih =>
    intro vs h K r hk
    cases vs with
    | nil => cases s <;> simp [capT] at hk
    | cons v vs =>
      cases s with
      | dead => cases v <;> simp only [capT] at hk <;> first | (simp at hk; done) | (obtain ⟨u, h1, h2, h3⟩ := ih hk; exact ⟨u, h1, by simp [mkT, h2], h3⟩)
      | data t =>
        cases v with
        | data t' x =>
          simp only [capT] at hk
          obtain ⟨e, hk1⟩ := castK_inv hk
          clear hk; subst e
          obtain ⟨u, h1, h2, h3⟩ := ih hk1
          exact ⟨(x, u), h1, by simp [mkT, h2], h3⟩
        | _ => simp [capT] at hk
      | rptr t =>
        cases v with
        | rptr t' x =>
          simp only [capT] at hk
          obtain ⟨e, hk1⟩ := castK_inv hk
          clear hk; subst e
          obtain ⟨u, h1, h2, h3⟩ := ih hk1
          exact ⟨(x, u), h1, by simp [mkT, h2], h3⟩
        | _ => simp [capT] at hk
      | osl id =>
        cases v with
        | osl id' ver =>
          simp only [capT] at hk
          cases hc : (Nat.beq id id' && Nat.beq ver 0) with
          | false => rw [hc] at hk; simp at hk
          | true =>
            rw [hc] at hk; simp only [cond_true] at hk
            simp only [Bool.and_eq_true] at hc
            obtain ⟨u, h1, h2, h3⟩ := ih hk
            exact ⟨u, h1, by simp [mkT, h2, Nat.eq_of_beq_eq_true hc.1, Nat.eq_of_beq_eq_true hc.2], h3⟩
        | _ => simp [capT] at hk
      | ptr id p =>
        cases v with
        | ptr id' p' =>
          simp only [capT] at hk
          cases hc : (Nat.beq id id' && eqPath p p') with
          | false => rw [hc] at hk; simp at hk
          | true =>
            rw [hc] at hk; simp only [cond_true] at hk
            simp only [Bool.and_eq_true] at hc
            obtain ⟨u, h1, h2, h3⟩ := ih hk
            exact ⟨u, h1, by simp [mkT, h2, Nat.eq_of_beq_eq_true hc.1, eqPath_eq hc.2], h3⟩
        | _ => simp [capT] at hk
      | iter id =>
        cases v with
        | iter id' =>
          simp only [capT] at hk
          cases hc : Nat.beq id id' with
          | false => rw [hc] at hk; simp at hk
          | true =>
            rw [hc] at hk; simp only [cond_true] at hk
            obtain ⟨u, h1, h2, h3⟩ := ih hk
            exact ⟨u, h1, by simp [mkT, h2, Nat.eq_of_beq_eq_true hc], h3⟩
        | _ => simp [capT] at hk
      | fn f =>
        cases v with
        | fn f' c =>
          cases c with
          | tnil =>
            simp only [capT] at hk
            cases hc : Nat.beq f f' with
            | false => rw [hc] at hk; simp at hk
            | true =>
              rw [hc] at hk; simp only [cond_true] at hk
              obtain ⟨u, h1, h2, h3⟩ := ih hk
              exact ⟨u, h1, by simp [mkT, h2, Nat.eq_of_beq_eq_true hc], h3⟩
          | _ => simp [capT] at hk
        | _ => simp [capT] at hk
      | fnc f ts =>
        cases v with
        | fn f' c =>
          simp only [capT] at hk
          cases hc : Nat.beq f f' with
          | false => rw [hc] at hk; simp at hk
          | true =>
            rw [hc] at hk; simp only [cond_true] at hk
            obtain ⟨u0, h0, h0'⟩ := getCatch_inv hk
            obtain ⟨u, h1, h2, h3⟩ := ih h0
            exact ⟨(u0, u), h1, by simp [mkT, h2, h0', Nat.eq_of_beq_eq_true hc], h3⟩
        | _ => simp [capT] at hk
      | nils => cases v <;> simp only [capT] at hk <;> first | (simp at hk; done) | (obtain ⟨u, h1, h2, h3⟩ := ih hk; exact ⟨u, h1, by simp [mkT, h2], h3⟩)
      | nilp => cases v <;> simp only [capT] at hk <;> first | (simp at hk; done) | (obtain ⟨u, h1, h2, h3⟩ := ih hk; exact ⟨u, h1, by simp [mkT, h2], h3⟩)

theorem capH_inv : ∀ {l : List ObjS} {vs : List AObj} {K : objsC l → Option R} {r : R}, capH l vs K = some r → ∃ v, K v = some r ∧ mkH l v = vs := by
  intro l
  induction l with
  | nil =>
    intro vs K r hk
    cases vs with
    | nil => exact ⟨(), hk, rfl⟩
    | cons v vs => simp [capH] at hk
  | cons s l ih =>
    intro vs K r hk
    cases vs with
    | nil => cases s <;> simp [capH] at hk
    | cons v vs =>
      cases s with
      | none => cases v <;> simp only [capH] at hk <;> first | (simp at hk; done) | (obtain ⟨u, h1, h2⟩ := ih hk; exact ⟨u, h1, by simp [mkH, h2]⟩)
      | box t =>
        cases v with
        | box t' x =>
          simp only [capH] at hk
          obtain ⟨e, hk1⟩ := castK_inv hk
          clear hk; subst e
          obtain ⟨u, h1, h2⟩ := ih hk1
          exact ⟨(x, u), h1, by simp [mkH, h2]⟩
        | _ => simp [capH] at hk
      | row t =>
        cases v with
        | row ver t' x =>
          simp only [capH] at hk
          cases hc : Nat.beq ver 0 with
          | false => rw [hc] at hk; simp at hk
          | true =>
            rw [hc] at hk; simp only [cond_true] at hk
            obtain ⟨e, hk1⟩ := castK_inv hk
            clear hk
            injection e with e
            subst e
            obtain ⟨u, h1, h2⟩ := ih hk1
            exact ⟨(x, u), h1, by simp [mkH, h2, Nat.eq_of_beq_eq_true hc]⟩
        | _ => simp [capH] at hk
      | frow t =>
        cases v with
        | frow ver t' x =>
          simp only [capH] at hk
          cases hc : Nat.beq ver 0 with
          | false => rw [hc] at hk; simp at hk
          | true =>
            rw [hc] at hk; simp only [cond_true] at hk
            obtain ⟨e, hk1⟩ := castK_inv hk
            clear hk
            injection e with e
            subst e
            obtain ⟨u, h1, h2⟩ := ih hk1
            exact ⟨(x, u), h1, by simp [mkH, h2, Nat.eq_of_beq_eq_true hc]⟩
        | _ => simp [capH] at hk
      | iter =>
        cases v with
        | iter s p =>
          simp only [capH] at hk
          obtain ⟨u, h1, h2⟩ := ih hk
          exact ⟨(s, p, u), h1, by simp [mkH, h2]⟩
        | _ => simp [capH] at hk

theorem capSt_inv {s : Shape} {K : s.C → Option R} {r : R} (hk : capSt s st K = some r) : ∃ v, K v = some r ∧ mkSt s v = s.norm st := by
  obtain ⟨h, h1, h2⟩ := capH_inv hk
  obtain ⟨v, h3, h4, h5⟩ := capT_inv h1
  refine ⟨v, h3, ?_⟩
  unfold mkSt
  rw [h4, h5, h2]

theorem same_eq {k k' : Kind} (h : k.same k' = true) : k = k' := by
  cases k <;> cases k' <;> simp [Kind.same] at h <;> first | rfl | (subst h; rfl)

theorem capW_inv : ∀ {ws : List Way} {k : Kind} {st : St} {o : WaysC ws}, capW ws k st = some o →
    ∃ (s : Shape) (v : s.C), mkSt s v = s.norm st ∧ ∀ (R : Type) (ks : Ks R), dispatch ws o ks = goto_ k (mkSt s v) ks
  | [], k, st, o, h => by simp [capW] at h
  | [w], k, st, o, h => by
    simp only [capW] at h
    cases hc : k.same w.kind with
    | false => rw [hc] at h; simp at h
    | true =>
      rw [hc] at h; simp only [cond_true] at h
      obtain ⟨v, h1, h2⟩ := capSt_inv h
      obtain rfl : v = o := Option.some.inj h1
      exact ⟨w.shape, v, h2, fun R ks => by rw [same_eq hc]; rfl⟩
  | w :: w' :: ws, k, st, o, h => by
    simp only [capW] at h
    cases hc : k.same w.kind with
    | false =>
      rw [hc] at h; simp only [cond_false] at h
      obtain ⟨o', h1, h2⟩ := Option.map_eq_some_iff.1 h
      subst h2
      obtain ⟨s, v, h3, h4⟩ := capW_inv h1
      exact ⟨s, v, h3, fun R ks => h4 R ks⟩
    | true =>
      rw [hc] at h; simp only [cond_true] at h
      obtain ⟨v, h1, h2⟩ := capSt_inv h
      obtain rfl : _ = o := Option.some.inj h1
      exact ⟨w.shape, v, h2, fun R ks => by rw [same_eq hc]; rfl⟩

end
end Go.PB

namespace Go.PB
open Go Go.RowKit

section
variable {F : Nat → Prop} {P : Program} {G : World → Prop} {env : Env} {w0 w w' : World} {st : St} {a : Act} {ρ : Nat → Option Nat} {R : Type} {tt : TypeId → Option Ty}

/-- What is known at an exit. -/
def Qof (F : Nat → Prop) (w0 : World) (ks : Ks R) (r : R) : Exit → Act → World → Prop
  | .normal, a, w => ∃ st, ks.n st = some r ∧ Rel F w0 st a w
  | .ret, a, w => ∃ st, ks.ret st = some r ∧ Rel F w0 st a w
  | .exit id, a, w => ∃ st, exitK ks.x id st = some r ∧ Rel F w0 st a w
  | _, _, _ => False

/-- What is said of a piece of code holds. -/
def SubSound (P : Program) (G : World → Prop) (s : Sub) (c : Code) : Prop :=
  ∀ (F : Nat → Prop) (w0 : World) (R : Type) (st : St) (ks : Ks R) (r : R) (a : Act) (w : World), G w0 → subK s st ks = some r → Rel F w0 st a w → c.wp P (Qof F w0 ks r) a w

def SubsSound (P : Program) (G : World → Prop) (subs : List Sub) (root : Code) : Prop :=
  ∀ (k : Nat) (s : Sub) (c : Code), findSub subs k = some s → c ∈ nodesAt k root → SubSound P G s c

theorem exec_sound (hT : TTOk P tt) (hE : EnvSound P G env) (hn : EnvNat env) (hM : P.follows .mixedOrders = true) (hL : Lasting G) (hG : G w0) {subs : List Sub} {root : Code} (hS : SubsSound P G subs root) :
    ∀ (c : Code) (st : St) (ks : Ks R) (r : R) (a : Act) (w : World), (∀ k x, x ∈ nodesAt k c → x ∈ nodesAt k root) → exec tt env subs c st ks = some r → Rel F w0 st a w → c.wp P (Qof F w0 ks r) a w
  | .skip, st, ks, r, a, w, hc, hk, h => wp_skip ⟨st, hk, h⟩
  | .region id ops draw, st, ks, r, a, w, hc, hk, h => by
    simp only [exec] at hk
    cases draw with
    | true =>
      simp only [cond_true] at hk
      exact drawK_sound hT hE hn hL hG hM h hk (fun st a w h1 h2 => ⟨st, h1, h2⟩)
    | false =>
      simp only [cond_false] at hk
      exact wp_region_list (seqK_sound hT hE hL hG ops (fun st a w h1 h2 => ⟨st, h1, h2⟩) ops.toList st a w h hk)
  | .seq x y, st, ks, r, a, w, hc, hk, h => by
    simp only [exec] at hk
    refine wp_seq (wp_mono (exec_sound hT hE hn hM hL hG hS x st _ r a w (fun k z hz => hc k z (by simp [nodesAt, hz])) hk h) fun e a' w' q => ?_)
    cases e with
    | normal => obtain ⟨st', h1, h2⟩ := q; exact exec_sound hT hE hn hM hL hG hS y st' ks r a' w' (fun k z hz => hc k z (by simp [nodesAt, hz])) h1 h2
    | _ => exact q
  | .cond c x y, st, ks, r, a, w, hc, hk, h => by
    simp only [exec] at hk
    split at hk
    · rename_i s hs
      exact hS _ s _ hs (hc _ _ (by simp [nodesAt])) F w0 R st ks r a w hG hk h
    · split at hk
      · rename_i b ec
        obtain ⟨ρ, ho⟩ := h.opened
        have hv := ho.ev c
        rw [ec] at hv
        refine wp_cond (DVal.bool_inv hv) ?_
        cases b with
        | true => exact exec_sound hT hE hn hM hL hG hS x st ks r a w (fun k z hz => hc k z (by simp [nodesAt, hz])) hk h
        | false => exact exec_sound hT hE hn hM hL hG hS y st ks r a w (fun k z hz => hc k z (by simp [nodesAt, hz])) hk h
      · simp at hk
  | .block id c, st, ks, r, a, w, hc, hk, h => by
    simp only [exec] at hk
    refine wp_block (wp_mono (exec_sound hT hE hn hM hL hG hS c st _ r a w (fun k z hz => hc k z (by simpa [nodesAt] using hz)) hk h) fun e a' w' q => ?_)
    cases e with
    | exit id' =>
      obtain ⟨st', h1, h2⟩ := q
      simp only [exitK] at h1
      simp only [Exit.inBlock]
      by_cases e : id' = id
      · rw [if_pos e]
        have : (id == id') = true := by simp [e]
        rw [this] at h1
        exact ⟨st', h1, h2⟩
      · rw [if_neg e]
        have : (id == id') = false := by simp; exact fun x => e x.symm
        rw [this] at h1
        exact ⟨st', h1, h2⟩
    | _ => exact q
  | .loop c, st, ks, r, a, w, hc, hk, h => by
    simp only [exec] at hk
    split at hk
    · rename_i s hs
      exact hS _ s _ hs (hc _ _ (by simp [nodesAt])) F w0 R st ks r a w hG hk h
    · simp at hk
  | .exit id, st, ks, r, a, w, hc, hk, h => wp_exit ⟨st, hk, h⟩
  | .ret, st, ks, r, a, w, hc, hk, h => wp_ret ⟨st, hk, h⟩
  | .rangeFunc _ _ _ _, st, ks, r, a, w, hc, hk, h => by simp [exec] at hk
  | .scope _, st, ks, r, a, w, hc, hk, h => by simp [exec] at hk
  | .label _, st, ks, r, a, w, hc, hk, h => by simp [exec] at hk
  | .goto _, st, ks, r, a, w, hc, hk, h => by simp [exec] at hk
  | .refuse _, st, ks, r, a, w, hc, hk, h => by simp [exec] at hk

theorem exitK_map {A : Type} (f : Nat → St → Option A) : ∀ (l : List Nat) (id : Nat) (st : St) (o : A), exitK (l.map fun i => (i, f i)) id st = some o → f id st = some o
  | [], id, st, o, h => by simp [exitK] at h
  | i :: l, id, st, o, h => by
    simp only [List.map_cons, exitK] at h
    cases hb : (i == id) with
    | true => rw [hb] at h; obtain rfl : i = id := by simpa using hb
              exact h
    | false => rw [hb] at h; exact exitK_map f l id st o h

/-- Out of the capture, into the code that follows. -/
theorem Qof.of_cap {ws : List Way} {o : WaysC ws} {ks : Ks R} {r : R} (hd : dispatch ws o ks = some r) {e : Exit} {a' : Act} {w' : World} (q : Qof F w0 (capKs ws) o e a' w') : Qof F w0 ks r e a' w' := by
  have key : ∀ (k : Kind) (st : St), capW ws k st = some o → Rel F w0 st a' w' → ∃ st', goto_ k st' ks = some r ∧ Rel F w0 st' a' w' := fun k st h1 h2 => by
    obtain ⟨s, v, h3, h4⟩ := capW_inv h1
    exact ⟨mkSt s v, by rw [← h4 R ks]; exact hd, by rw [h3]; exact h2.shape s⟩
  cases e with
  | normal => obtain ⟨st, h1, h2⟩ := q; exact key .n st h1 h2
  | ret => obtain ⟨st, h1, h2⟩ := q; exact key .ret st h1 h2
  | exit id => obtain ⟨st, h1, h2⟩ := q; exact key (.x id) st (exitK_map _ _ _ _ _ h1) h2
  | goto l => exact q.elim
  | panic ch => exact q.elim
  | outgrown => exact q.elim

/-- A piece of code that is summed up. -/
theorem sub_plain (hT : TTOk P tt) (hE : EnvSound P G env) (hn : EnvNat env) (hM : P.follows .mixedOrders = true) (hL : Lasting G) {subs : List Sub} {c : Code} {x y : Code} {b : Operand} (hc : c = .cond b x y) (hx : SubsSound P G subs x) (hy : SubsSound P G subs y)
    {s : Sub} (hr : ∀ (v : s.inp.C) (o : WaysC s.ways), s.run v = some o → (match ev (mkSt s.inp v).tmps b with
      | .data .bool b => cond b (exec tt env subs x (mkSt s.inp v) (capKs s.ways)) (exec tt env subs y (mkSt s.inp v) (capKs s.ways))
      | _ => none) = some o) : SubSound P G s c := by
  intro F w0 R st ks r a w hG hk h
  obtain ⟨v, h1, h2⟩ := capSt_inv hk
  obtain ⟨o, h3, h4⟩ := Option.bind_eq_some_iff.1 h1
  have hrel : Rel F w0 (mkSt s.inp v) a w := by rw [h2]; exact h.shape s.inp
  have he := hr v o h3
  subst hc
  split at he
  · rename_i b' ec
    obtain ⟨ρ, ho⟩ := hrel.opened
    have hv := ho.ev b
    rw [ec] at hv
    refine wp_cond (DVal.bool_inv hv) ?_
    cases b' with
    | true => exact wp_mono (exec_sound hT hE hn hM hL hG hx x _ _ o a w (fun _ _ hz => hz) he hrel) fun e a' w' q => q.of_cap h4
    | false => exact wp_mono (exec_sound hT hE hn hM hL hG hy y _ _ o a w (fun _ _ hz => hz) he hrel) fun e a' w' q => q.of_cap h4
  · simp at he

theorem iter_succ {A B : Type} (step : A → Option (A ⊕ B)) (n : Nat) (v : A) : iter step (n + 1) v = (step v).bind fun o => match o with
    | .inl v' => iter step n v'
    | .inr b => some b := rfl

/-- A loop. -/
theorem sub_loop (hT : TTOk P tt) (hE : EnvSound P G env) (hn : EnvNat env) (hM : P.follows .mixedOrders = true) (hL : Lasting G) {subs : List Sub} {c : Code} (hs : SubsSound P G subs c)
    {s : Sub} (step : s.inp.C → Option (s.inp.C ⊕ WaysC s.ways)) (n : Nat) (hrun : ∀ v, s.run v = iter step n v) (hr : ∀ (v : s.inp.C) (o : s.inp.C ⊕ WaysC s.ways), step v = some o → exec tt env subs c (mkSt s.inp v) (loopKs s.inp s.ways) = some o) : SubSound P G s (.loop c) := by
  intro F w0 R st ks r a w hG hk h
  obtain ⟨v, h1, h2⟩ := capSt_inv hk
  obtain ⟨o, h3, h4⟩ := Option.bind_eq_some_iff.1 h1
  rw [hrun] at h3
  refine wp_loop_ghost (fun n a w => ∃ v', iter step n v' = some o ∧ Rel F w0 (mkSt s.inp v') a w) n ⟨v, h3, by rw [h2]; exact h.shape s.inp⟩ ?_
  intro m a' w' ⟨v', h5, h6⟩
  cases m with
  | zero => simp [iter] at h5
  | succ m =>
    rw [iter_succ] at h5
    obtain ⟨q, h7, h8⟩ := Option.bind_eq_some_iff.1 h5
    refine wp_mono (exec_sound hT hE hn hM hL hG hs c _ _ q a' w' (fun _ _ hz => hz) (hr v' q h7) h6) fun e a2 w2 hq => ?_
    have out : ∀ (k : Kind) (st2 : St), (capW s.ways k st2).map .inr = some q → Rel F w0 st2 a2 w2 → ∃ st', goto_ k st' ks = some r ∧ Rel F w0 st' a2 w2 := fun k st2 g1 g2 => by
      obtain ⟨o', g3, g4⟩ := Option.map_eq_some_iff.1 g1
      subst g4
      obtain rfl : o' = o := Option.some.inj h8
      obtain ⟨sh, u, g5, g6⟩ := capW_inv g3
      exact ⟨mkSt sh u, by rw [← g6 R ks]; exact h4, by rw [g5]; exact g2.shape sh⟩
    cases e with
    | normal =>
      obtain ⟨st2, g1, g2⟩ := hq
      obtain ⟨u, g3, g4⟩ := capSt_inv g1
      obtain rfl : _ = q := Option.some.inj g3
      exact ⟨m, Nat.lt_succ_self m, u, h8, by rw [g4]; exact g2.shape s.inp⟩
    | ret => obtain ⟨st2, g1, g2⟩ := hq; exact out .ret st2 g1 g2
    | exit id => obtain ⟨st2, g1, g2⟩ := hq; exact out (.x id) st2 (exitK_map (fun id st => (capW s.ways (.x id) st).map Sum.inr) _ _ _ _ g1) g2
    | goto l => exact hq.elim
    | panic ch => exact hq.elim
    | outgrown => exact hq.elim

theorem subs_nil (P : Program) (G : World → Prop) (root : Code) : SubsSound P G [] root := fun k s c h => by simp [findSub] at h

/-! ## Functions -/
theorem list_nil_of {w : World} {ok : Nat → Prop} {t : Ty} : DVal w ok (.list t) ([] : List t.C) (.slice none 0 0) := dval_list ⟨none, 0, rfl, Nat.le_refl _, .inl rfl⟩

theorem ResList.mono {w : World} {ok ok' : Nat → Prop} {B : Nat} (hok : ∀ b, ok b → ok' b ∧ w.heap[b]? = w.heap[b]?) : ∀ {rs : List ARes} {vs : List Value} {gs : List Nat}, ResList w ok B rs vs gs → ResList w ok' B rs vs gs
  | [], _, _, h => h
  | .data t x :: rs, _, _, ⟨v, vs', e, hd, hr⟩ => ⟨v, vs', e, DVal.mono hok hd, ResList.mono hok hr⟩
  | .own t l :: rs, _, _, ⟨v, vs', e, hv, h⟩ => by
    refine ⟨v, vs', e, hv, ?_⟩
    rcases h with ⟨h1, h2, h3⟩ | ⟨b, c, cs, T, cc, rest, gs', h1, h2, h3, h4, h5, h6, h7, h8, h9, h10⟩
    · exact .inl ⟨h1, h2, ResList.mono hok h3⟩
    · exact .inr ⟨b, c, cs, T, cc, rest, gs', h1, h2, h3, h4, h5, h6, h7, h8, RowC.mono (fun x cs => Cells.mono hok t x cs) _ _ h9, ResList.mono hok h10⟩

/-- One result, as the machine reads it. -/
def readRes (a : Act) : ResultVar → Sem Value
  | .tmp t => pure (a.tmps.getD t Go.undef)
  | .cell c t => do loadVar t (← asAddr (a.tmps.getD c Go.undef))

theorem retOne_sound (hT : TTOk P tt) (h : Open F w0 st a w ρ) {x : ResultVar} {ty : TypeId} {K : ARes → Option R} {r : R} (hk : retOne tt st x ty K = some r) :
    ∃ res val, K res = some r ∧ (readRes a x).run P w = .ok val w ∧ ∃ t y, res = .data t y ∧ DVal w (fun b => F b ∧ b < w.heap.size) t y val := by
  have okl : ∀ b, okOf F w ρ st.heap b → (F b ∧ b < w.heap.size) ∧ w.heap[b]? = w.heap[b]? := fun b hb => ⟨⟨hb.1, hb.2.1⟩, rfl⟩
  unfold retOne at hk
  cases x with
  | tmp t =>
    simp only at hk
    split at hk
    · rename_i u y e
      exact ⟨_, _, hk, rfl, u, y, rfl, DVal.mono okl (res_data (h.vals t) e)⟩
    · rename_i id ver u l e
      obtain ⟨hl, ho, eu, hx⟩ := row_osl (h.vals t) e
      refine ⟨_, _, hk, rfl, .list u, l, rfl, ?_⟩
      have hf := h.freeze ho
      have hv := hf.vals t
      have e2 : res (hset st.heap id (.frow ver u l)) (tget st.tmps t) = .data (.list u) l := by
        rw [eu]; simp [res, hget_hset_self hl]
      exact DVal.mono (fun b hb => ⟨⟨hb.1, hb.2.1⟩, rfl⟩) (res_data hv e2)
    · rename_i e
      split at hk
      · rename_i u hu
        have hv := h.vals t
        rw [res_nils e] at hv
        have hv' : a.tmps.getD t Go.undef = .slice none 0 0 := hv
        exact ⟨_, .slice none 0 0, hk, by simp [readRes, hv'], .list u, [], rfl, list_nil_of⟩
      · simp at hk
    · simp at hk
  | cell c ty' =>
    simp only at hk
    obtain ⟨v, val, hk1, hv, hrun⟩ := loadK_yield (P := P) hT h.hrel.obj (h.vals c) hk
    dsimp only at hk1
    split at hk1
    · rename_i t y e
      injection e with e
      subst e
      refine ⟨_, val, hk1, ?_, t, y, rfl, DVal.mono okl hv⟩
      unfold Instr.loadAt at hrun
      cases hx : a.tmps.getD c Go.undef with
      | pointer p => cases p with
        | some p =>
          rw [hx] at hrun
          show (do loadVar ty' (← asAddr (a.tmps.getD c Go.undef)) : Sem Value).run P w = _
          rw [hx]
          simpa [Instr.sureAddr, asAddr] using hrun
        | none => rw [hx] at hrun; simp [Instr.sureAddr] at hrun
      | _ => rw [hx] at hrun; simp [Instr.sureAddr] at hrun
    · simp at hk1

theorem retK_sound (hT : TTOk P tt) (h : Open F w0 st a w ρ) : ∀ (xs : List ResultVar) (tys : List TypeId) (K : List ARes → Option R) (r : R), retK tt st xs tys K = some r →
    ∃ rs vs, K rs = some r ∧ (xs.mapM (readRes a)).run P w = .ok vs w ∧ ResList w (fun b => F b ∧ b < w.heap.size) w0.heap.size rs vs []
  | [], _, K, r, hk => ⟨[], [], hk, by simp, rfl, rfl⟩
  | x :: xs, [], K, r, hk => by simp [retK] at hk
  | x :: xs, ty :: tys, K, r, hk => by
    obtain ⟨res, val, hk1, hrun, t, y, rfl, hd⟩ := retOne_sound hT h hk
    obtain ⟨rs, vs, hk2, hrun2, hrl⟩ := retK_sound hT h xs tys _ r hk1
    exact ⟨_, val :: vs, hk2, by simp [List.mapM_cons, hrun, hrun2], val, vs, rfl, hd, hrl⟩

theorem run_results {fn : Func} {vs : List Value} (hr : (fn.results.toList.mapM (readRes a)).run P w = .ok vs w) : (results fn a.tmps).run P w = .ok (tupleOf vs) w := by
  have e : results fn a.tmps = (do
      let vs ← fn.results.mapM (readRes a)
      pure (if h : vs.size = 1 then vs[0] else .tuple vs)) := by
    unfold results
    congr 1
  rw [e, Array.mapM_eq_mapM_toList]
  simp [hr, tupleOf]

theorem tget_append_undefs : ∀ (l : List AVal) (n i : Nat), tget (l ++ undefs n) i = if i < l.length then tget l i else .undef
  | [], n, i => by
    induction n generalizing i with
    | zero => rfl
    | succ n ih => cases i with
      | zero => rfl
      | succ i => simpa [undefs, tget] using ih i
  | v :: l, n, 0 => by simp [tget]
  | v :: l, n, i + 1 => by simp [tget, tget_append_undefs l n i]

theorem length_undefs : ∀ n, (undefs n).length = n
  | 0 => rfl
  | n + 1 => by simp [undefs, length_undefs n]

/-- What is handed over, in the callee's own state. -/
theorem argVal_rel {F : Nat → Prop} {w : World} {ok : Nat → Prop} {ρ : Nat → Option Nat} (hF : ∀ b, ok b → F b) (hok : ∀ b, ok b → b < w.heap.size) : ∀ (x : RVal), (∀ v, ARel w ok x v → VRel w ρ [] (okOf F w ρ []) (argVal x) v) ∧ (∀ vs, ARel.AList w ok x vs → VList w ρ [] (okOf F w ρ []) (argCaps x) vs) := by
  have dat : ∀ b, ok b → okOf F w ρ [] b ∧ w.heap[b]? = w.heap[b]? := fun b hb => ⟨⟨hF b hb, hok b hb, fun id hi => by simp [hget, AObj.owns] at hi⟩, rfl⟩
  intro x
  induction x with
  | data t y => exact ⟨fun v hv => DVal.mono dat hv, fun vs hv => hv.elim⟩
  | rptr t y =>
    refine ⟨fun v ⟨b, o, cs, e, hb, hc, hj⟩ => ⟨b, o, cs, e, ⟨hb, fun id hi => by simp [hget, AObj.owns] at hi⟩, Cells.mono dat _ _ _ hc, hj⟩, fun vs hv => hv.elim⟩
  | fn f c ih => exact ⟨fun v ⟨vs, e, hv⟩ => ⟨vs, e, ih.2 vs hv⟩, fun vs hv => hv.elim⟩
  | tnil => exact ⟨fun v _ => trivial, fun vs hv => hv⟩
  | tcons a b iha ihb => exact ⟨fun v _ => trivial, fun vs ⟨v, vs', e, h1, h2⟩ => ⟨v, vs', e, iha.1 v h1, ihb.2 vs' h2⟩⟩
  | nils => exact ⟨fun v hv => hv, fun vs hv => hv.elim⟩
  | nilp => exact ⟨fun v hv => hv, fun vs hv => hv.elim⟩
  | row id v t l => exact ⟨fun _ _ => trivial, fun vs hv => hv.elim⟩
  | box id t y p => exact ⟨fun _ _ => trivial, fun vs hv => hv.elim⟩
  | elem id v t l i p => exact ⟨fun _ _ => trivial, fun vs hv => hv.elim⟩
  | iter id s p => exact ⟨fun _ _ => trivial, fun vs hv => hv.elim⟩
  | dead => exact ⟨fun _ _ => trivial, fun vs hv => hv.elim⟩

theorem args_length {w : World} {ok : Nat → Prop} : ∀ (args : List RVal) (vs : List Value), ArgsRel w ok args vs → vs.length = args.length
  | [], vs, h => by simp only [ArgsRel] at h; subst h; rfl
  | x :: args, _, ⟨v, vs', e, h1, h2⟩ => by subst e; simp [args_length args vs' h2]

theorem args_vals {F : Nat → Prop} {w : World} {ok : Nat → Prop} {ρ : Nat → Option Nat} (hF : ∀ b, ok b → F b) (hok : ∀ b, ok b → b < w.heap.size) : ∀ (args : List RVal) (vs : List Value) (n i : Nat), ArgsRel w ok args vs →
    VRel w ρ [] (okOf F w ρ []) (tget (args.map argVal ++ undefs n) i) ((vs.toArray ++ Array.replicate n Go.undef).getD i Go.undef)
  | [], vs, n, i, h => by
    simp only [ArgsRel] at h
    subst h
    have e := tget_append_undefs [] n i
    simp only [List.length_nil, Nat.not_lt_zero, if_false, List.nil_append] at e
    simp only [List.map_nil, List.nil_append, e]
    show _ = _
    have : ((([] : List Value).toArray ++ Array.replicate n Go.undef)[i]?).getD Go.undef = Go.undef := by
      simp only [← Array.getElem?_toList, Array.toList_append, List.nil_append, Array.toList_replicate, List.getElem?_replicate]
      split <;> rfl
    rw [Array.getD_eq_getD_getElem?]; exact this
  | x :: args, _, n, 0, ⟨v, vs', e, h1, h2⟩ => by
    subst e
    have e2 : (((v :: vs').toArray ++ Array.replicate n Go.undef).getD 0 Go.undef) = v := by
      rw [Array.getD_eq_getD_getElem?, ← Array.getElem?_toList]; simp
    rw [e2]
    exact (argVal_rel (ρ := ρ) hF hok x).1 v h1
  | x :: args, _, n, i + 1, ⟨v, vs', e, h1, h2⟩ => by
    subst e
    have := args_vals (ρ := ρ) hF hok args vs' n i h2
    simp only [List.map_cons, List.cons_append, tget]
    have e2 : (((v :: vs').toArray ++ Array.replicate n Go.undef).getD (i + 1) Go.undef) = ((vs'.toArray ++ Array.replicate n Go.undef).getD i Go.undef) := by
      simp only [Array.getD_eq_getD_getElem?, ← Array.getElem?_toList, Array.toList_append]
      simp
    rw [e2]; exact this

/-- WHAT THE INTERPRETER SAYS OF A FUNCTION, ITS CALL DOES. -/
theorem fexec_sound (hT : TTOk P tt) (hE : EnvSound P G env) (hn : EnvNat env) (hM : P.follows .mixedOrders = true) (hL : Lasting G) {f : FuncId} {fn : Func} {c : Code} (hf : P.funcs[f]? = some fn) (hb : fn.body = some c) {subs : List Sub} (hS : SubsSound P G subs c) {args : List RVal} {K : List ARes → Option R} {r : R}
    (hk : fexec tt env subs fn c args K = some r) :
    ∀ (w : World) (ok : Nat → Prop) (vals : Array Value), G w → (∀ b, ok b → b < w.heap.size) → ArgsRel w ok args vals.toList →
      Calls P f vals w fun e w' => ∃ rs, K rs = some r ∧ ∃ vs, e = .returned (tupleOf vs) ∧ Below w.heap.size w w' ∧ ResList w' (fun b => (ok b ∨ (w.heap.size ≤ b ∧ b < w'.heap.size)) ∧ b ∉ []) w.heap.size rs vs [] := by
  intro w ok vals hG hok hargs
  let F : Nat → Prop := fun b => ok b ∨ w.heap.size ≤ b
  refine calls_of_wp hf hb ?_
  have hlen := args_length _ _ hargs
  have hsz : vals.size = args.length := by simpa using hlen
  have hrel : Rel F w ⟨args.map argVal ++ undefs (fn.ntmps - args.length), []⟩ { tmps := vals ++ Array.replicate (fn.ntmps - vals.size) Go.undef, defers := [] } w := by
    refine ⟨rfl, by simp [length_undefs, hsz], Below.refl _ _, fun _ => none, ⟨fun b hb => .inr hb, fun id hid => by simp at hid, fun id b hi _ => by simp [hget, AObj.owns] at hi, fun id id' b hi _ _ _ => by simp [hget, AObj.owns] at hi⟩, fun i => ?_⟩
    have := args_vals (F := F) (ρ := fun _ => none) (fun b hb => .inl hb) hok args vals.toList (fn.ntmps - args.length) i hargs
    rw [← hsz] at this ⊢
    simpa using this
  have fin : ∀ (st : St) (a : Act) (w' : World), retK tt st fn.results.toList fn.resultTypes.toList K = some r → Rel F w st a w' →
      a.defers = [] ∧ ∃ v, (results fn a.tmps).run P w' = .ok v w' ∧ ∃ rs, K rs = some r ∧ ∃ vs, Ending.returned v = .returned (tupleOf vs) ∧ Below w.heap.size w w' ∧ ResList w' (fun b => (ok b ∨ (w.heap.size ≤ b ∧ b < w'.heap.size)) ∧ b ∉ []) w.heap.size rs vs [] := by
    intro st a w' hk' hr
    obtain ⟨ρ, ho⟩ := hr.opened
    obtain ⟨rs, vs, h1, h2, h3⟩ := retK_sound hT ho _ _ _ _ hk'
    exact ⟨hr.defers, _, run_results h2, rs, h1, vs, rfl, hr.below, ResList.mono (fun b hb => ⟨⟨by
      rcases hb.1 with h | h
      · exact .inl h
      · exact .inr ⟨h, hb.2⟩, by simp⟩, rfl⟩) h3⟩
  refine wp_mono (exec_sound hT hE hn hM hL hG hS c _ _ r _ w (fun _ _ hz => hz) hk hrel) fun e a' w' q => ?_
  cases e with
  | normal => obtain ⟨st, h1, h2⟩ := q; exact fin st a' w' h1 h2
  | ret => obtain ⟨st, h1, h2⟩ := q; exact fin st a' w' h1 h2
  | exit id => obtain ⟨st, h1, _⟩ := q; simp [exitK] at h1
  | goto l => exact q.elim
  | panic ch => exact q.elim
  | outgrown => exact q.elim

/-- A function's own spec, out of what the interpreter says of it. -/
theorem pure_of_fexec (hT : TTOk P tt) (hE : EnvSound P G env) (hn : EnvNat env) (hM : P.follows .mixedOrders = true) (hL : Lasting G) {f : FuncId} {fn : Func} {c : Code} (hf : P.funcs[f]? = some fn) (hb : fn.body = some c) {subs : List Sub} (hS : SubsSound P G subs c) {args : List RVal} {K : List ARes → Option R} {r : R}
    (hk : fexec tt env subs fn c args K = some r) {rs : List ARes} (hrs : ∀ rs', K rs' = some r → rs' = rs) : PureCall P G f args rs := by
  intro w ok vals hG hok hargs
  refine (fexec_sound hT hE hn hM hL hf hb hS hk w ok vals hG hok hargs).mono ?_
  rintro e w' ⟨rs', h1, vs, h2, h3, h4⟩
  rw [hrs rs' h1] at h4
  exact ⟨vs, [], h2, h3, h4⟩

end
end Go.PB

namespace Go.PB
open Go Go.RowKit

/-! ## Arguments and results -/
inductive ArgT where
  | data (t : Ty)
  | rptr (t : Ty)
  | nils
  | fn (f : FuncId) (caps : List ArgT)

mutual
abbrev ArgT.C : ArgT → Type
  | .data t => t.C
  | .rptr t => t.C
  | .nils => Unit
  | .fn _ cs => argsC cs
abbrev argsC : List ArgT → Type
  | [] => Unit
  | a :: r => a.C × argsC r
end

mutual
def ArgT.mk : (a : ArgT) → a.C → RVal
  | .data t, x => .data t x
  | .rptr t, x => .rptr t x
  | .nils, _ => .nils
  | .fn f cs, x => .fn f (mkCaps cs x)
def mkCaps : (l : List ArgT) → argsC l → RVal
  | [], _ => .tnil
  | a :: r, x => .tcons (a.mk x.1) (mkCaps r x.2)
end

def mkArgs : (l : List ArgT) → argsC l → List RVal
  | [], _ => []
  | a :: r, x => a.mk x.1 :: mkArgs r x.2

mutual
def ArgT.getK {R : Type} : (a : ArgT) → RVal → (a.C → Option R) → Option R
  | .data t, x, K => match x with
    | .data t' y => castK t' t y K
    | .nils => match t, K with
      | .list _, K => K []
      | _, _ => none
    | _ => none
  | .rptr t, x, K => match x with
    | .rptr t' y => castK t' t y K
    | _ => none
  | .nils, x, K => match x with
    | .nils => K ()
    | _ => none
  | .fn f cs, x, K => match x with
    | .fn g c => cond (Nat.beq g f) (capsK cs c K) none
    | _ => none
def capsK {R : Type} : (l : List ArgT) → RVal → (argsC l → Option R) → Option R
  | [], x, K => match x with
    | .tnil => K ()
    | _ => none
  | a :: r, x, K => match x with
    | .tcons y z => a.getK y fun u => capsK r z fun v => K (u, v)
    | _ => none
end

def argsK {R : Type} : (l : List ArgT) → List RVal → (argsC l → Option R) → Option R
  | [], [], K => K ()
  | a :: r, x :: xs, K => a.getK x fun u => argsK r xs fun v => K (u, v)
  | _, _, _ => none

/-- Are the functions among the arguments those? -/
def fits : List ArgT → List RVal → Bool
  | [], [] => true
  | .fn f _ :: r, .fn g _ :: xs => Nat.beq g f && fits r xs
  | .fn _ _ :: _, _ :: _ => false
  | _ :: r, _ :: xs => fits r xs
  | _, _ => false

inductive ResT where
  | data (t : Ty)
  | own (t : Ty)
  | upd (t : Ty)

abbrev ResT.C : ResT → Type
  | .data t => t.C
  | .own t => List t.C
  | .upd t => List t.C

abbrev resC : List ResT → Type
  | [] => Unit
  | [a] => a.C
  | a :: b :: r => a.C × resC (b :: r)

def ResT.mk : (a : ResT) → a.C → ARes
  | .data t, x => .data t x
  | .own t, x => .own t x
  | .upd t, x => .upd t x

def ResT.isUpd : ResT → Bool
  | .upd _ => true
  | _ => false

def noUpd : List ResT → Bool
  | [] => true
  | a :: l => !a.isUpd && noUpd l

def mkRes : (l : List ResT) → resC l → List ARes
  | [], _ => []
  | [a], x => [a.mk x]
  | a :: b :: r, x => a.mk x.1 :: mkRes (b :: r) x.2

def getOne {R : Type} : (a : ResT) → ARes → (a.C → Option R) → Option R
  | .data t, .data t' x, K => castK t' t x K
  | .own t, .own t' x, K => castK (.list t') (.list t) x K
  | .upd t, .upd t' x, K => castK (.list t') (.list t) x K
  | _, _, _ => none

def getRes {R : Type} : (l : List ResT) → List ARes → (resC l → Option R) → Option R
  | [], [], K => K ()
  | [a], [x], K => getOne a x K
  | a :: b :: r, x :: xs, K => getOne a x fun u => getRes (b :: r) xs fun v => K (u, v)
  | _, _, _ => none

theorem getOne_inv {R : Type} {a : ResT} {x : ARes} {K : a.C → Option R} {r : R} (h : getOne a x K = some r) : ∃ v, K v = some r ∧ x = a.mk v := by
  cases a with
  | data t =>
    cases x with
    | data t' y => obtain ⟨e, h1⟩ := castK_inv h; clear h; subst e; exact ⟨y, h1, rfl⟩
    | own t' y => simp [getOne] at h
    | upd t' y => simp [getOne] at h
  | own t =>
    cases x with
    | data t' y => simp [getOne] at h
    | own t' y => obtain ⟨e, h1⟩ := castK_inv h; clear h; injection e with e; subst e; exact ⟨y, h1, rfl⟩
    | upd t' y => simp [getOne] at h
  | upd t =>
    cases x with
    | data t' y => simp [getOne] at h
    | own t' y => simp [getOne] at h
    | upd t' y => obtain ⟨e, h1⟩ := castK_inv h; clear h; injection e with e; subst e; exact ⟨y, h1, rfl⟩

theorem getRes_inv {R : Type} : ∀ {l : List ResT} {xs : List ARes} {K : resC l → Option R} {r : R}, getRes l xs K = some r → ∃ v, K v = some r ∧ xs = mkRes l v
  | [], [], K, r, h => ⟨(), h, rfl⟩
  | [], _ :: _, K, r, h => by simp [getRes] at h
  | [a], [x], K, r, h => by obtain ⟨v, h1, h2⟩ := getOne_inv (a := a) h; exact ⟨v, h1, by rw [h2]; rfl⟩
  | [a], [], K, r, h => by simp [getRes] at h
  | [a], _ :: _ :: _, K, r, h => by simp [getRes] at h
  | a :: b :: l, [], K, r, h => by simp [getRes] at h
  | a :: b :: l, x :: xs, K, r, h => by
    obtain ⟨u, h1, h2⟩ := getOne_inv (a := a) h
    obtain ⟨v, h3, h4⟩ := getRes_inv (l := b :: l) h1
    exact ⟨(u, v), h3, by rw [h2, h4]; rfl⟩

mutual
theorem getK_arg {R : Type} {w : World} {ok : Nat → Prop} : ∀ {a : ArgT} {x : RVal} {K : a.C → Option R} {r : R}, a.getK x K = some r → ∃ v, K v = some r ∧ ∀ val, ARel w ok x val → ARel w ok (a.mk v) val
  | .data t, x, K, r, h => by
    cases x with
    | data t' y => simp only [ArgT.getK] at h; obtain ⟨e, h1⟩ := castK_inv h; clear h; subst e; exact ⟨y, h1, fun val hv => hv⟩
    | nils =>
      cases t with
      | list t => exact ⟨[], h, fun val hv => by
          have hv' : val = .slice none 0 0 := hv
          subst hv'; exact list_nil_of⟩
      | _ => simp [ArgT.getK] at h
    | _ => simp [ArgT.getK] at h
  | .rptr t, x, K, r, h => by
    cases x with
    | rptr t' y => simp only [ArgT.getK] at h; obtain ⟨e, h1⟩ := castK_inv h; clear h; subst e; exact ⟨y, h1, fun val hv => hv⟩
    | _ => simp [ArgT.getK] at h
  | .nils, x, K, r, h => by
    cases x with
    | nils => exact ⟨(), h, fun val hv => hv⟩
    | _ => simp [ArgT.getK] at h
  | .fn f cs, x, K, r, h => by
    cases x with
    | fn g c =>
      simp only [ArgT.getK] at h
      cases hb : Nat.beq g f with
      | false => rw [hb] at h; simp at h
      | true =>
        rw [hb] at h; simp only [cond_true] at h
        obtain rfl := Nat.eq_of_beq_eq_true hb
        obtain ⟨v, h1, h2⟩ := capsK_arg (w := w) (ok := ok) h
        exact ⟨v, h1, fun val ⟨vs, e, hl⟩ => ⟨vs, e, h2 vs hl⟩⟩
    | _ => simp [ArgT.getK] at h
theorem capsK_arg {R : Type} {w : World} {ok : Nat → Prop} : ∀ {l : List ArgT} {x : RVal} {K : argsC l → Option R} {r : R}, capsK l x K = some r → ∃ v, K v = some r ∧ ∀ vs, ARel.AList w ok x vs → ARel.AList w ok (mkCaps l v) vs
  | [], x, K, r, h => by
    cases x with
    | tnil => exact ⟨(), h, fun vs hv => hv⟩
    | _ => simp [capsK] at h
  | a :: l, x, K, r, h => by
    cases x with
    | tcons y z =>
      simp only [capsK] at h
      obtain ⟨u, h1, h2⟩ := getK_arg (w := w) (ok := ok) h
      obtain ⟨v, h3, h4⟩ := capsK_arg (w := w) (ok := ok) h1
      exact ⟨(u, v), h3, fun vs ⟨p, q, e, g1, g2⟩ => ⟨p, q, e, h2 p g1, h4 q g2⟩⟩
    | _ => simp [capsK] at h
end

theorem argsK_inv {R : Type} {w : World} {ok : Nat → Prop} : ∀ {l : List ArgT} {xs : List RVal} {K : argsC l → Option R} {r : R}, argsK l xs K = some r → ∃ v, K v = some r ∧ ∀ vs, ArgsRel w ok xs vs → ArgsRel w ok (mkArgs l v) vs
  | [], [], K, r, h => ⟨(), h, fun vs hv => hv⟩
  | [], _ :: _, K, r, h => by simp [argsK] at h
  | _ :: _, [], K, r, h => by simp [argsK] at h
  | a :: l, x :: xs, K, r, h => by
    simp only [argsK] at h
    obtain ⟨u, h1, h2⟩ := getK_arg (w := w) (ok := ok) h
    obtain ⟨v, h3, h4⟩ := argsK_inv (w := w) (ok := ok) h1
    exact ⟨(u, v), h3, fun vs ⟨p, q, e, g1, g2⟩ => ⟨p, q, e, h2 p g1, h4 q g2⟩⟩

mutual
theorem getK_argNat {R S : Type} (K : S → Option R) : ∀ (a : ArgT) (x : RVal) (g : a.C → Option S) (g' : a.C → Option R), (∀ v, g' v = (g v).bind K) → a.getK x g' = (a.getK x g).bind K
  | .data t, x, g, g', h => by
    cases x with
    | data t' y => exact castK_nat _ _ _ _ _ _ h
    | nils => cases t <;> first | rfl | exact h _
    | _ => rfl
  | .rptr t, x, g, g', h => by
    cases x with
    | rptr t' y => exact castK_nat _ _ _ _ _ _ h
    | _ => rfl
  | .nils, x, g, g', h => by
    cases x with
    | nils => exact h _
    | _ => rfl
  | .fn f cs, x, g, g', h => by
    cases x with
    | fn f' c =>
      simp only [ArgT.getK]
      cases Nat.beq f' f with
      | true => exact capsK_nat K cs c g g' h
      | false => rfl
    | _ => rfl
theorem capsK_nat {R S : Type} (K : S → Option R) : ∀ (l : List ArgT) (x : RVal) (g : argsC l → Option S) (g' : argsC l → Option R), (∀ v, g' v = (g v).bind K) → capsK l x g' = (capsK l x g).bind K
  | [], x, g, g', h => by cases x <;> first | rfl | exact h _
  | a :: l, x, g, g', h => by
    cases x with
    | tcons y z => exact getK_argNat K a y _ _ fun u => capsK_nat K l z _ _ fun v => h _
    | _ => rfl
end

theorem argsK_nat {R S : Type} (K : S → Option R) : ∀ (l : List ArgT) (xs : List RVal) (g : argsC l → Option S) (g' : argsC l → Option R), (∀ v, g' v = (g v).bind K) → argsK l xs g' = (argsK l xs g).bind K
  | [], [], g, g', h => h _
  | [], _ :: _, g, g', h => rfl
  | _ :: _, [], g, g', h => rfl
  | a :: l, x :: xs, g, g', h => getK_argNat K a x _ _ fun u => argsK_nat K l xs _ _ fun v => h _

/-! ## Tables of called functions -/
structure Ent where
  f : FuncId
  inp : List ArgT
  out : List ResT
  run : argsC inp → Option (resC out)

def Ent.K {R : Type} (e : Ent) (args : List RVal) (K : List ARes → Option R) : Option R := argsK e.inp args fun v => (e.run v).bind fun r => K (mkRes e.out r)

def envOf : List Ent → Env
  | [], _, _, _, _ => none
  | e :: es, R, f, args, K => cond (Nat.beq e.f f && fits e.inp args) (e.K args K) (envOf es R f args K)

def EntOk (P : Program) (G : World → Prop) (e : Ent) : Prop := Enters P e.f ∧ ∀ v r, e.run v = some r → CallOk P G e.f (mkArgs e.inp v) (mkRes e.out r)

theorem callOk_args {P : Program} {G : World → Prop} {f : FuncId} {inp : List ArgT} {args : List RVal} {v : argsC inp} (h1 : argsK inp args some = some v) {rs : List ARes} (h : CallOk P G f (mkArgs inp v) rs) : CallOk P G f args rs := by
  unfold CallOk at h ⊢
  split at h
  · refine ⟨h.1, fun l rest e => ?_⟩
    subst e
    intro w ok v0 vals hG hok hargs hfirst
    cases inp with
    | nil => simp [argsK] at h1
    | cons a inp =>
      simp only [argsK] at h1
      cases a with
      | data t' =>
        simp only [ArgT.getK] at h1
        obtain ⟨e, h2⟩ := castK_inv h1
        clear h1; subst e
        obtain ⟨v', h3, h4⟩ := argsK_inv (w := w) (ok := ok) h2
        obtain rfl := Option.some.inj h3
        exact h.2 l _ rfl w ok v0 vals hG hok (h4 vals hargs) hfirst
      | rptr t' => simp [ArgT.getK] at h1
      | nils => simp [ArgT.getK] at h1
      | fn g cs => simp [ArgT.getK] at h1
  · intro w ok vals hG hok hargs
    obtain ⟨v', h5, h6⟩ := argsK_inv (w := w) (ok := ok) h1
    obtain rfl : v' = v := Option.some.inj h5
    exact h w ok vals hG hok (h6 _ hargs)

theorem callOk_pure {P : Program} {G : World → Prop} {f : FuncId} {args : List RVal} {out : List ResT} {r : resC out} (hu : noUpd out = true) (h : PureCall P G f args (mkRes out r)) : CallOk P G f args (mkRes out r) := by
  unfold CallOk
  split
  · rename_i t m e
    cases out with
    | nil => simp [mkRes] at e
    | cons a out =>
      cases out with
      | nil =>
        cases a with
        | upd t => simp [noUpd, ResT.isUpd] at hu
        | data t => simp [mkRes, ResT.mk] at e
        | own t => simp [mkRes, ResT.mk] at e
      | cons b out =>
        cases out <;> simp [mkRes] at e
  · exact h

theorem envOf_sound {P : Program} {G : World → Prop} : ∀ {l : List Ent}, (∀ e ∈ l, EntOk P G e) → EnvSound P G (envOf l)
  | [], _ => fun R f args K r h => by simp [envOf] at h
  | e :: es, ho => fun R f args K r h => by
    simp only [envOf] at h
    cases hc : (Nat.beq e.f f && fits e.inp args) with
    | false => rw [hc] at h; exact envOf_sound (fun e he => ho e (by simp [he])) R f args K r h
    | true =>
      rw [hc] at h; simp only [cond_true] at h
      simp only [Bool.and_eq_true] at hc
      obtain rfl := Nat.eq_of_beq_eq_true hc.1
      obtain ⟨hen, hp⟩ := ho e (by simp)
      -- the arguments as they are read; the same in every world
      have hnat := argsK_nat (R := R) (S := argsC e.inp) (fun v => (e.run v).bind fun r => K (mkRes e.out r)) e.inp args some (fun v => (e.run v).bind fun r => K (mkRes e.out r)) (fun v => rfl)
      unfold Ent.K at h
      rw [hnat] at h
      obtain ⟨v, h1, h2⟩ := Option.bind_eq_some_iff.1 h
      obtain ⟨q, h3, h4⟩ := Option.bind_eq_some_iff.1 h2
      exact ⟨mkRes e.out q, h4, hen, callOk_args h1 (hp v q h3)⟩

theorem envOf_nat : ∀ (l : List Ent), EnvNat (envOf l)
  | [] => fun R f args K => rfl
  | e :: es => fun R f args K => by
    simp only [envOf]
    cases (Nat.beq e.f f && fits e.inp args) with
    | false => exact envOf_nat es R f args K
    | true =>
      simp only [cond_true]
      refine argsK_nat K e.inp args _ _ fun v => ?_
      cases e.run v <;> rfl

/-! ## Types -/
def zeq : Value → Value → Bool
  | .int k n, .int k' n' => decide (k = k') && decide (n = n')
  | .bool a, .bool b => decide (a = b)
  | .string s, .string t => Nat.beq s.size 0 && Nat.beq t.size 0
  | .slice none 0 0, .slice none 0 0 => true
  | _, _ => false

def zeqL : List Value → List Value → Bool
  | [], [] => true
  | a :: l, b :: m => zeq a b && zeqL l m
  | _, _ => false

theorem bytes_nil {s : ByteArray} (h : s.size = 0) : s = ⟨#[]⟩ := by
  obtain ⟨d⟩ := s
  have : d.size = 0 := h
  simp [Array.eq_empty_of_size_eq_zero this]

theorem zeq_eq {a b : Value} (h : zeq a b = true) : a = b := by
  unfold zeq at h
  split at h
  · simp only [Bool.and_eq_true, decide_eq_true_eq] at h; rw [h.1, h.2]
  · simp only [decide_eq_true_eq] at h; rw [h]
  · simp only [Bool.and_eq_true] at h
    rw [bytes_nil (Nat.eq_of_beq_eq_true h.1), bytes_nil (Nat.eq_of_beq_eq_true h.2)]
  · rfl
  · simp at h

theorem zeqL_eq : ∀ {l m : List Value}, zeqL l m = true → l = m
  | [], [], _ => rfl
  | [], _ :: _, h => by simp [zeqL] at h
  | _ :: _, [], h => by simp [zeqL] at h
  | a :: l, b :: m, h => by
    simp only [zeqL, Bool.and_eq_true] at h
    rw [zeq_eq h.1, zeqL_eq h.2]

def isAggV : Value → Bool
  | .agg _ => true
  | _ => false

def infoB (P : Program) (ty : TypeId) (t : Ty) : Bool :=
  match P.info? ty with
  | some i => match i.zero with
    | some z => Nat.beq i.size t.width && (Nat.blt 0 t.width && (Nat.ble i.bytes 4096 && (zeqL z.cells.toList t.zcells && ((t.isAgg == isAggV z) &&
      (!t.isAgg || (!P.stoodInHeld ty && (!P.eqGuardType P.depth ty && (P.fieldsOf ty).toList.all fun f => !(f.name == "_"))))))))
    | none => false
  | none => false

theorem infoB_ok {P : Program} {ty : TypeId} {t : Ty} (h : infoB P ty t = true) : InfoOk P ty t := by
  unfold infoB at h
  split at h
  · rename_i i hi
    split at h
    · rename_i z hz
      simp only [Bool.and_eq_true, beq_iff_eq] at h
      obtain ⟨h1, h2, h3, h4, h5, h6⟩ := h
      refine ⟨i, z, hi, Nat.eq_of_beq_eq_true h1, by simpa [Nat.blt_eq] using h2, Nat.le_of_ble_eq_true h3, hz, zeqL_eq h4, ?_, fun ha => ?_⟩
      · rw [h5]
        cases z <;> simp [isAggV]
      · rw [ha] at h6
        simpa using h6
    · simp at h
  · simp at h

mutual
def tyB (P : Program) : Ty → TypeId → Bool
  | .int k, ty => infoB P ty (.int k) && match P.underlying ty with
    | some (.int k') => decide (k = k')
    | _ => false
  | .bool, ty => infoB P ty .bool && match P.underlying ty with
    | some .bool => true
    | _ => false
  | .str, ty => infoB P ty .str && match P.underlying ty with
    | some .string => true
    | _ => false
  | .list t, ty => infoB P ty (.list t) && match P.underlying ty with
    | some (.slice e) => tyB P t e
    | _ => false
  | .agg t, ty => infoB P ty (.agg t) && match P.underlying ty with
    | some (.struct fs) => chainB P t 0 fs.toList
    | _ => false
  | .unit, _ => false
  | .pair _ _, _ => false
def chainB (P : Program) : Ty → Nat → List Field → Bool
  | .pair a b, off, f :: fs => Nat.beq f.offset off && (tyB P a f.type && chainB P b (off + a.width) fs)
  | .unit, _, [] => true
  | _, _, _ => false
end

mutual
theorem tyB_ok {P : Program} : ∀ {t : Ty} {ty : TypeId}, tyB P t ty = true → TyOk P t ty
  | .int k, ty, h => by
    simp only [tyB, Bool.and_eq_true] at h
    refine ⟨infoB_ok h.1, ?_⟩
    have h2 := h.2
    split at h2
    · rename_i k' e; simp only [decide_eq_true_eq] at h2; rw [e, h2]
    · simp at h2
  | .bool, ty, h => by
    simp only [tyB, Bool.and_eq_true] at h
    refine ⟨infoB_ok h.1, ?_⟩
    have h2 := h.2
    split at h2
    · rename_i e; exact e
    · simp at h2
  | .str, ty, h => by
    simp only [tyB, Bool.and_eq_true] at h
    refine ⟨infoB_ok h.1, ?_⟩
    have h2 := h.2
    split at h2
    · rename_i e; exact e
    · simp at h2
  | .list t, ty, h => by
    simp only [tyB, Bool.and_eq_true] at h
    refine ⟨infoB_ok h.1, ?_⟩
    have h2 := h.2
    split at h2
    · rename_i e he; exact ⟨e, he, tyB_ok h2⟩
    · simp at h2
  | .agg t, ty, h => by
    simp only [tyB, Bool.and_eq_true] at h
    refine ⟨infoB_ok h.1, ?_⟩
    have h2 := h.2
    split at h2
    · rename_i fs he; exact ⟨fs, he, chainB_ok h2⟩
    · simp at h2
  | .unit, _, h => by simp [tyB] at h
  | .pair _ _, _, h => by simp [tyB] at h
theorem chainB_ok {P : Program} : ∀ {t : Ty} {off : Nat} {fs : List Field}, chainB P t off fs = true → ChainOk P t off fs
  | .pair a b, off, f :: fs, h => by
    simp only [chainB, Bool.and_eq_true] at h
    exact ⟨Nat.eq_of_beq_eq_true h.1, tyB_ok h.2.1, chainB_ok h.2.2⟩
  | .unit, _, [], _ => trivial
  | .pair a b, _, [], h => by simp [chainB] at h
  | .unit, _, _ :: _, h => by simp [chainB] at h
  | .int _, _, _, h => by simp [chainB] at h
  | .bool, _, _, h => by simp [chainB] at h
  | .str, _, _, h => by simp [chainB] at h
  | .list _, _, _, h => by simp [chainB] at h
  | .agg _, _, _, h => by simp [chainB] at h
end

def lookT : List (Nat × Ty) → TypeId → Option Ty
  | [], _ => none
  | p :: r, t => cond (Nat.beq p.1 t) (some p.2) (lookT r t)

def tabB (P : Program) : List (Nat × Ty) → Bool
  | [] => true
  | p :: r => tyB P p.2 p.1 && tabB P r

theorem lookT_ok {P : Program} : ∀ {l : List (Nat × Ty)}, tabB P l = true → TTOk P (lookT l)
  | [], _ => fun ty t h => by simp [lookT] at h
  | p :: l, hb => fun ty t h => by
    simp only [tabB, Bool.and_eq_true] at hb
    simp only [lookT] at h
    cases hc : Nat.beq p.1 ty with
    | true =>
      rw [hc] at h
      obtain rfl : p.2 = t := Option.some.inj h
      rw [← Nat.eq_of_beq_eq_true hc]
      exact tyB_ok hb.1
    | false => rw [hc] at h; exact lookT_ok hb.2 ty t h

/-! ## Functions -/
theorem subs_cons {P : Program} {G : World → Prop} {s : Sub} {subs : List Sub} {root c : Code} (hn : nodesAt s.key root = [c]) (h0 : SubSound P G s c) (hs : SubsSound P G subs root) : SubsSound P G (s :: subs) root := by
  intro k s' c' hf hc
  simp only [findSub] at hf
  cases hb : Nat.beq s.key k with
  | true =>
    rw [hb] at hf
    obtain rfl : s = s' := Option.some.inj hf
    rw [← Nat.eq_of_beq_eq_true hb, hn] at hc
    obtain rfl : c' = c := by simpa using hc
    exact h0
  | false => rw [hb] at hf; exact hs k s' c' hf hc

def bodyOf (fn : Func) : Code := fn.body.getD .skip

theorem ent_ok {P : Program} {G : World → Prop} {tt : TypeId → Option Ty} {env : Env} (hT : TTOk P tt) (hE : EnvSound P G env) (hn : EnvNat env) (hM : P.follows .mixedOrders = true) (hL : Lasting G) {fn : Func} {c : Code} {subs : List Sub} (hS : SubsSound P G subs c)
    (e : Ent) (hf : P.funcs[e.f]? = some fn) (hb : fn.body = some c) (hnm : (fn.name == "runtime.NumGoroutine") = false) (hr : ∀ v, fexec tt env subs fn c (mkArgs e.inp v) (fun rs => getRes e.out rs some) = e.run v) (hu : noUpd e.out = true := by rfl) : EntOk P G e := by
  refine ⟨⟨fn, hf, by rw [hb]; rfl, hnm⟩, fun v r h => callOk_pure hu ?_⟩
  refine pure_of_fexec hT hE hn hM hL hf hb hS (K := fun rs => getRes e.out rs some) (r := r) (by rw [hr]; exact h) fun rs' h' => ?_
  obtain ⟨u, h1, h2⟩ := getRes_inv h'
  obtain rfl : u = r := Option.some.inj h1
  exact h2

end Go.PB

namespace Go.PB
open Go Go.RowKit

abbrev w64 (x : Int) : Int := IntKind.wrap .i64 x
def sEq (x y : ByteArray) : Bool := x.toList == y.toList
def sLt (x y : ByteArray) : Bool := Op.bytesLess x.toList y.toList
def sLen (x : ByteArray) : Int := (x.size : Int)
def sAt (s : ByteArray) (i : Int) : Int := (((s.data.getD (Int.toNat i) 0).toNat : Nat) : Int)
def sCut (s : ByteArray) (l h : Int) : ByteArray := s.extract l.toNat h.toNat
def lLen {α : Type} (x : List α) : Int := (x.length : Int)
def lCut {α : Type} (xs : List α) (l h : Int) : List α := (xs.take h.toNat).drop l.toNat
def lAt (t : Ty) (l : List t.C) (i : Int) : t.C := l.getD (Int.toNat i) t.zero
def runeAt (s : ByteArray) (p : Nat) : Int := ((Utf8.decode s p).1 : Int)
def runeTo (s : ByteArray) (p : Nat) : Nat := p + (Utf8.decode s p).2

def sNil : ByteArray := ⟨#[]⟩
def iAnd (k : IntKind) (x y : Int) : Int := k.wrap (BitVec.ofInt k.bits x &&& BitVec.ofInt k.bits y).toNat
def iOr (k : IntKind) (x y : Int) : Int := k.wrap (BitVec.ofInt k.bits x ||| BitVec.ofInt k.bits y).toNat
def iXor (k : IntKind) (x y : Int) : Int := k.wrap (BitVec.ofInt k.bits x ^^^ BitVec.ofInt k.bits y).toNat
def iAndNot (k : IntKind) (x y : Int) : Int := k.wrap (BitVec.ofInt k.bits x &&& ~~~ BitVec.ofInt k.bits y).toNat
def iNot (k : IntKind) (x : Int) : Int := k.wrap (BitVec.ofInt k.bits (if k.signed then -1 else k.max) ^^^ BitVec.ofInt k.bits x).toNat
def iShl (k : IntKind) (x y : Int) : Int := k.wrap (x * 2 ^ min y.toNat k.bits)
def iShr (k : IntKind) (x y : Int) : Int := x.fdiv (2 ^ min y.toNat k.bits)

/-! Pieces of code by their names. -/
def loopAt (k : Nat) (root : Code) : Code :=
  match nodesAt k root with
  | [.loop c] => c
  | _ => .skip

def condAt (k : Nat) (root : Code) : Code :=
  match nodesAt k root with
  | [c] => c
  | _ => .skip

def condK {R : Type} (tt : TypeId → Option Ty) (env : Env) (subs : List Sub) (c : Code) (st : St) (ks : Ks R) : Option R :=
  match c with
  | .cond b x y => match ev st.tmps b with
    | .data .bool b => cond b (exec tt env subs x st ks) (exec tt env subs y st ks)
    | _ => none
  | _ => none

theorem sub_cond {P : Program} {G : World → Prop} {tt : TypeId → Option Ty} {env : Env} (hT : TTOk P tt) (hE : EnvSound P G env) (hn : EnvNat env) (hM : P.follows .mixedOrders = true) (hL : Lasting G) {subs : List Sub} {c : Code} (hs : SubsSound P G subs c)
    {s : Sub} (hr : ∀ (v : s.inp.C) (o : WaysC s.ways), s.run v = some o → condK tt env subs c (mkSt s.inp v) (capKs s.ways) = some o) : SubSound P G s c := by
  cases c with
  | cond b x y =>
    exact sub_plain hT hE hn hM hL rfl (fun k s c' h1 h2 => hs k s c' h1 (by simp [nodesAt, h2])) (fun k s c' h1 h2 => hs k s c' h1 (by simp [nodesAt, h2])) hr
  | _ =>
    intro F w0 R st ks r a w hG hk h
    obtain ⟨v, h1, h2⟩ := capSt_inv hk
    obtain ⟨o, h3, h4⟩ := Option.bind_eq_some_iff.1 h1
    have := hr v o h3
    simp [condK] at this

theorem ents_nil {P : Program} {G : World → Prop} : ∀ e ∈ ([] : List Ent), EntOk P G e := fun e h => by simp at h
theorem ents_cons {P : Program} {G : World → Prop} {e : Ent} {l : List Ent} (h : EntOk P G e) (hl : ∀ e ∈ l, EntOk P G e) : ∀ x ∈ e :: l, EntOk P G x := fun x hx => by
  rcases List.mem_cons.1 hx with rfl | hx
  · exact h
  · exact hl x hx

end Go.PB
