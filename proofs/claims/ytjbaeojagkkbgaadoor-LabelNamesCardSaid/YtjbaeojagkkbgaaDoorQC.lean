/-
  Library functions as entries; plain laws; the way from an entry to a row.
-/
import Derived.Test.YtjbaeojagkkbgaaDoorQB
import Derived.ChangeAgain
import Derived.Lib.SplitLaws
import Derived.Shelf.Strings.SplitShaped
import Derived.Shelf.Strings.Shaped
import Derived.SizedLaws
import Derived.HandedShaped
set_option linter.unusedVariables false
namespace Go.PB
open Go Go.RowKit

theorem keptBut_of_below {w w' : World} (h : Below w.heap.size w w') : w.keptBut w' (fun _ => False) := by
  refine ⟨h.os, h.output, fun i hi => ?_⟩
  rw [h.block i hi]
  cases he : w.heap[i]? with
  | none => rfl
  | some o => cases o <;> simp

theorem lasting_shaped (P : Program) : Lasting (fun w => w.ShapedOpen P) := fun w w' hb h => h.keptBut (keptBut_of_below hb) (fun _ hp => hp.elim)

theorem toList2 {vals : Array Value} {a b : Value} (h : vals.toList = [a, b]) : vals = #[a, b] := by
  rw [← Array.toArray_toList (xs := vals), h]

section
variable {P : Program}

def cutRun (s sep : ByteArray) : Option (ByteArray × ByteArray × Bool) :=
  if s.size < 4294967281 then some (⟨(Lib.cut s.data.toList sep.data.toList).1.toArray⟩, ⟨(Lib.cut s.data.toList sep.data.toList).2.1.toArray⟩, (Lib.cut s.data.toList sep.data.toList).2.2) else none

theorem cut_ok {f : FuncId} (hen : Enters P f) (h : ∀ (s sep : ByteArray) (w : World), w.ShapedOpen P → s.size < 4294967281 → Calls P f #[.string s, .string sep] w fun e w' => e = .returned (.tuple #[.string ⟨(Lib.cut s.data.toList sep.data.toList).1.toArray⟩, .string ⟨(Lib.cut s.data.toList sep.data.toList).2.1.toArray⟩, .bool (Lib.cut s.data.toList sep.data.toList).2.2]) ∧ ∃ n, w' = w.drewN n) :
    EntOk P (fun w => w.ShapedOpen P) { f := f, inp := [.data .str, .data .str], out := [.data .str, .data .str, .data .bool], run := fun v => cutRun v.1 v.2.1 } := by
  refine ⟨hen, fun v r hr => ?_⟩
  obtain ⟨s, sep, u⟩ := v
  simp only [cutRun] at hr
  split at hr
  · rename_i hs
    obtain rfl := Option.some.inj hr
    intro w ok vals hG hok ⟨v1, vs1, e1, h1, v2, vs2, e2, h2, e3⟩
    subst e2; subst e3
    have hv := toList2 e1
    subst hv
    have h1' := DVal.str_inv h1
    have h2' := DVal.str_inv h2
    subst h1'; subst h2'
    refine (h s sep w hG hs).mono ?_
    rintro e w' ⟨rfl, n, rfl⟩
    refine ⟨[_, _, _], [], rfl, ⟨rfl, rfl, rfl, Nat.le_refl _, fun _ _ => rfl⟩, _, _, rfl, dval_str _ _ _, _, _, rfl, dval_str _ _ _, _, _, rfl, dval_bool _ _ _, rfl, rfl⟩
  · simp at hr

def splitRun (s sep : ByteArray) : Option (List ByteArray) :=
  if s.size < 4294967281 ∧ 1 ≤ sep.size then some (Lib.splitB sep 0 (Lib.countB s sep) s) else none

theorem rowC_strs (w : World) (ok : Nat → Prop) : ∀ l : List ByteArray, RowC (Cells w ok .str) l (l.map Value.string)
  | [] => rfl
  | x :: l => ⟨[.string x], l.map Value.string, rfl, rfl, rowC_strs w ok l⟩

theorem heap_alloc (w : World) (o : Obj) : (w.alloc o).heap = w.heap.push o := rfl

/-- A new row of strings. -/
theorem new_strs (w : World) (ok : Nat → Prop) (l : List ByteArray) (n : Nat) (hn : l.length = n) (T : TypeId) (hok : ok w.heap.size) :
    DVal (w.alloc (.cells (l.map Value.string).toArray T)) ok (.list .str) l (.slice (some ⟨w.heap.size, 0, none⟩) n n) := by
  refine dval_list ⟨some ⟨w.heap.size, 0, none⟩, n, by rw [hn], by omega, .inr ⟨w.heap.size, 0, l.map Value.string, rfl, hok, rowC_strs _ _ l, fun j u hj => ?_⟩⟩
  have hb : (w.alloc (.cells (l.map Value.string).toArray T)).heap[w.heap.size]? = some (.cells (l.map Value.string).toArray T (0, 0)) := by rw [heap_alloc]; simp
  rw [Nat.zero_add, cell_of_row _ _ j _ T _ hb]
  simpa using hj

theorem below_alloc (w : World) (o : Obj) : Below w.heap.size w (w.alloc o) :=
  ⟨rfl, rfl, rfl, by rw [heap_alloc]; simp, fun k hk => by rw [heap_alloc, Array.getElem?_push, if_neg (by omega)]⟩

theorem split_ok {f : FuncId} {T : TypeId} (hen : Enters P f) (h : ∀ (s sep : ByteArray) (w : World), w.ShapedOpen P → s.size < 4294967281 → 1 ≤ sep.size → Calls P f #[.string s, .string sep] w fun e w' =>
      e = .returned (.slice (some ⟨w.heap.size, 0, none⟩) (Lib.countB s sep + 1) (Lib.countB s sep + 1)) ∧ w' = w.alloc (.cells ((Lib.splitB sep 0 (Lib.countB s sep) s).map Value.string).toArray T)) :
    EntOk P (fun w => w.ShapedOpen P) { f := f, inp := [.data .str, .data .str], out := [.data (.list .str)], run := fun v => splitRun v.1 v.2.1 } := by
  refine ⟨hen, fun v r hr => ?_⟩
  obtain ⟨s, sep, u⟩ := v
  simp only [splitRun] at hr
  split at hr
  · rename_i hs
    obtain rfl := Option.some.inj hr
    intro w ok vals hG hok ⟨v1, vs1, e1, h1, v2, vs2, e2, h2, e3⟩
    subst e2; subst e3
    have hv := toList2 e1
    subst hv
    have h1' := DVal.str_inv h1
    have h2' := DVal.str_inv h2
    subst h1'; subst h2'
    refine (h s sep w hG hs.1 hs.2).mono ?_
    rintro e w' ⟨rfl, rfl⟩
    refine ⟨[_], [], rfl, below_alloc _ _, _, _, rfl, new_strs w _ _ _ ?_ T ?_, rfl, rfl⟩
    · exact Lib.splitB_all sep hs.2 0 _ s rfl
    · exact ⟨.inr ⟨Nat.le_refl _, by rw [heap_alloc]; simp⟩, by simp⟩
  · simp at hr
end
end Go.PB

namespace Go.PB
open Go Go.RowKit

/-! ## Loops -/
theorem iter_to {A B : Type} {step : A → Option (A ⊕ B)} {f : Nat → A} {b : B} {m : Nat} : ∀ (k i : Nat), i ≤ m → (∀ j, i ≤ j → j < m → step (f j) = some (.inl (f (j + 1)))) → step (f m) = some (.inr b) → m - i < k → iter step k (f i) = some b
  | 0, i, _, _, _, hk => by omega
  | k + 1, i, hi, h1, h2, hk => by
    rw [iter_succ]
    by_cases e : i = m
    · subst e; rw [h2]; rfl
    · rw [h1 i (Nat.le_refl _) (by omega)]
      exact iter_to k (i + 1) (by omega) (fun j a b => h1 j (by omega) b) h2 (by omega)

def allN (p : Nat → Bool) : Nat → Bool
  | 0 => true
  | n + 1 => allN p n && p n

theorem allN_iff {p : Nat → Bool} : ∀ {n : Nat}, allN p n = true ↔ ∀ i, i < n → p i = true
  | 0 => by simp [allN]
  | n + 1 => by
    simp only [allN, Bool.and_eq_true, allN_iff (n := n)]
    constructor
    · rintro ⟨h1, h2⟩ i hi
      rcases Nat.lt_or_ge i n with h | h
      · exact h1 i h
      · obtain rfl : i = n := by omega
        exact h2
    · exact fun h => ⟨fun i hi => h i (by omega), h n (by omega)⟩

theorem allN_congr {p q : Nat → Bool} : ∀ {n : Nat}, (∀ i, i < n → p i = q i) → allN p n = allN q n
  | 0, _ => rfl
  | n + 1, h => by simp only [allN]; rw [allN_congr fun i hi => h i (by omega), h n (by omega)]

theorem first_bad {p : Nat → Bool} {n : Nat} (h : allN p n = false) : ∃ m, m < n ∧ p m = false ∧ ∀ j, j < m → p j = true := by
  induction n with
  | zero => simp [allN] at h
  | succ n ih =>
    cases hn : allN p n with
    | false => obtain ⟨m, h1, h2, h3⟩ := ih hn; exact ⟨m, by omega, h2, h3⟩
    | true => simp only [allN, hn, Bool.true_and] at h; exact ⟨n, by omega, h, allN_iff.1 hn⟩

/-- A loop that goes on while all is well. -/
theorem iter_all {A B : Type} {step : A → Option (A ⊕ B)} (f : Nat → A) {good bad : B} (p : Nat → Bool) (n : Nat) {k : Nat} (h : ∀ i, i < n → step (f i) = if p i = true then some (.inl (f (i + 1))) else some (.inr bad)) (hn : step (f n) = some (.inr good)) (hk : n < k) :
    iter step k (f 0) = some (if allN p n = true then good else bad) := by
  cases ha : allN p n with
  | true =>
    have := allN_iff.1 ha
    rw [if_pos rfl]
    exact iter_to k 0 (by omega) (fun j _ hj => by rw [h j hj, if_pos (this j hj)]) hn (by omega)
  | false =>
    obtain ⟨m, h1, h2, h3⟩ := first_bad ha
    rw [if_neg (by simp)]
    exact iter_to (m := m) k 0 (by omega) (fun j _ hj => by rw [h j (by omega), if_pos (h3 j hj)]) (by rw [h m h1, if_neg (by simp [h2])]) (by omega)

/-! ## Numbers -/
theorem w64_of {x : Int} (h1 : -9223372036854775808 ≤ x) (h2 : x < 9223372036854775808) : w64 x = x := by
  unfold w64 IntKind.wrap
  simp only [IntKind.bits, IntKind.signed]
  generalize hd : (true && decide (x % 2 ^ 64 ≥ 2 ^ (64 - 1))) = b
  cases b <;> simp at hd ⊢ <;> omega

/-! ## Texts -/
/-- The byte at i. -/
def byteAt (s : ByteArray) (i : Nat) : Nat := (s.data.getD i 0).toNat

theorem byteAt_lt (s : ByteArray) (i : Nat) : byteAt s i < 256 := (s.data.getD i 0).toNat_lt

theorem sAt_nat (s : ByteArray) (i : Nat) : sAt s (i : Int) = (byteAt s i : Int) := rfl

theorem get!_eq (s : ByteArray) (i : Nat) : (s.get! i).toNat = byteAt s i := by
  obtain ⟨d⟩ := s
  unfold byteAt ByteArray.get!
  simp only
  rw [getElem!_def, Array.getD_eq_getD_getElem?]
  cases d[i]? <;> rfl

theorem decode_small {s : ByteArray} {i : Nat} (h : byteAt s i < 128) : Utf8.decode s i = (byteAt s i, 1) := by
  unfold Utf8.decode
  simp only [Nat.add_zero, get!_eq]
  rw [if_pos h]

theorem decode_big {s : ByteArray} {i : Nat} (h : 128 ≤ byteAt s i) : 128 ≤ (Utf8.decode s i).1 := by
  unfold Utf8.decode
  simp only [Nat.add_zero, get!_eq]
  rw [if_neg (by omega)]
  have hre : (128 : Nat) ≤ Utf8.runeError := by decide
  split
  · split
    · assumption
    · exact hre
  · split
    · split
      · rename_i h2; simp only [Bool.and_eq_true, decide_eq_true_eq] at h2; show 128 ≤ _; simp only at *; omega
      · exact hre
    · split
      · split
        · rename_i h2; simp only [Bool.and_eq_true, decide_eq_true_eq] at h2; show 128 ≤ _; simp only at *; omega
        · exact hre
      · exact hre

theorem runeAt_small {s : ByteArray} {i : Nat} (h : byteAt s i < 128) : runeAt s i = (byteAt s i : Int) := by unfold runeAt; rw [decode_small h]
theorem runeTo_small {s : ByteArray} {i : Nat} (h : byteAt s i < 128) : runeTo s i = i + 1 := by unfold runeTo; rw [decode_small h]
theorem runeAt_big {s : ByteArray} {i : Nat} (h : 128 ≤ byteAt s i) : 128 ≤ runeAt s i := by have := decode_big h; unfold runeAt; omega

theorem sEq_iff {x y : ByteArray} : sEq x y = true ↔ x = y := by
  unfold sEq
  rw [beq_iff_eq]
  constructor
  · intro h
    rw [ByteArray.toList_eq, ByteArray.toList_eq] at h
    obtain ⟨a⟩ := x; obtain ⟨b⟩ := y
    simp only at h
    rw [Array.toList_inj.1 h]
  · rintro rfl; rfl

end Go.PB

namespace Go.PB
open Go Go.RowKit

/-- The call of a law that is true. -/
theorem law_calls {P : Program} {G : World → Prop} {f : FuncId} {inp : List ArgT} {F : argsC inp → Option Bool} (h : EntOk P G { f := f, inp := inp, out := [.data .bool], run := F }) (v : argsC inp) (hv : F v = some true)
    (w : World) (hG : G w) (ok : Nat → Prop) (hok : ∀ b, ok b → b < w.heap.size) (vals : Array Value) (ha : ArgsRel w ok (mkArgs inp v) vals.toList) :
    Calls P f vals w fun e w' => e = .returned (.bool true) ∧ Below w.heap.size w w' := by
  refine (h.2 v true hv w ok vals hG hok ha).mono ?_
  rintro e w' ⟨vs, gs, rfl, hb, u, vs', e1, hd, e2, _⟩
  subst e1; subst e2
  rw [hd.bool_inv]
  exact ⟨rfl, hb⟩
end Go.PB

namespace Go
variable {H : Type} {enc : TypeId × Value → H}

theorem returnsInHanded_of_change_both {a : Assume} {C : Checked} {os : Os} {f : FuncId} {fn : Func} {s : ChangeSpec} {conds : List PathCond} {apart fresh handsOn again : Bool} {X : World → Array Value → Prop}
    (hX : ∀ (w w' : World) (args : Array Value), w.heap = w'.heap → X w args → X w' args)
    (own : ownKnob C.prog.godebug = none) (started : os.Started) (noInit : C.prog.inits.idxOf? f = none) (hfn : C.prog.funcs[f]? = some fn)
    (witness : ∃ (w : World) (tape : Tape) (i : Input), w.os = os ∧ (w.forCall tape i).Shaped C.prog ∧ i.vars = [] ∧ Input.okWide C.prog (w.forCall tape i) .any w.heap.size f i ∧
      ((s.pre enc C.prog fn conds apart (w.forCall tape i).memory i.args ∧ X (w.forCall tape i).memory i.args) ∧ sizedMet enc C.prog fn (OpenSpec.ofChange s) apart (w.forCall tape i).memory i.args) ∧ a.holds C.prog (lone (Frame.enter C.prog f i.args .normal) [] (w.forCall tape i)))
    (contract : ∀ (W : World) (base : Nat) (args : Array Value) (ds gs : List (DataW H)) (before : List MemPlace),
      (∀ (j : Nat) t v, fn.params[j]? = some t → args[j]? = some v → Value.okWide C.prog W .any base t v) →
      DataW.Whole enc C.prog fn.params.toList s.vars apart W args.toList ds gs before →
      W.ShapedOpen C.prog → X W args →
      Calls C.prog f args W fun e W' => ∃ v, e = .returned v ∧ s.post enc C.prog fn apart fresh handsOn again W args v W') :
    ReturnsInHanded a C os f .any (fun w args => (s.pre enc C.prog fn conds apart w args ∧ X w args) ∧ sizedMet enc C.prog fn (OpenSpec.ofChange s) apart w args) (s.post enc C.prog fn apart fresh handsOn again) := by
  refine returnsInHanded_of_calls own started noInit witness ?_
  intro w tape i _ hsh _ hok hpre hholds
  obtain ⟨_, _, _, fn', hfn', _, _, _, _, hval⟩ := hok
  have e : fn' = fn := Option.some.inj (hfn'.symm.trans hfn)
  subst e
  obtain ⟨⟨⟨ds, gs, before, hw, hc⟩, hx⟩, hz⟩ := hpre
  have hw' := DataW.Whole.of_heap (w' := w.forCall tape i) (by rfl) hw
  refine (contract (w.forCall tape i) w.heap.size i.args ds gs before hval hw' hsh (hX _ _ _ (by rfl) hx)).mono fun e W' ⟨v, he, hp⟩ => ?_
  subst he
  exact ChangeSpec.post_blind hp
end Go
