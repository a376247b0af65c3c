/-
  ObjectSame: the plain law.
-/
import Derived.Test.YtpffibjemegioaaGreatDoorQPlain
import Derived.Test.YtpffibjemegioaaGreatDoorQD
set_option linter.unusedVariables false
namespace Go.Proofs.YtpffibjemegioaaGreatDoor
open Go Go.PB

abbrev Pr := ByteArray × ByteArray × Unit
def zP : Pr := (sNil, sNil, ())
theorem lAtP (l : List Pr) (i : Nat) : lAt (.agg (.pair .str (.pair .str .unit))) l (i : Int) = l.getD i zP := rfl
theorem lAtS (l : List ByteArray) (i : Nat) : lAt .str l (i : Int) = l.getD i sNil := rfl
theorem lAtI (l : List Int) (i : Nat) : lAt (.int .i64) l (i : Int) = l.getD i 0 := rfl

/-- An answer, and what it says. -/
def Says (x : Option Bool) (p : Prop) : Prop := ∃ r, x = some r ∧ (r = true ↔ p)

theorem Says.ite {b : Bool} {x : Option Bool} {p q : Prop} (hb : b = true ↔ ¬ q) (h : q → Says x p) : Says (bif b then some false else x) (q ∧ p) := by
  cases hc : b with
  | true => exact ⟨false, rfl, by simp; intro hq; exact absurd hq (hb.1 hc)⟩
  | false =>
    have hq : q := Classical.byContradiction fun hn => by rw [hb.2 hn] at hc; cases hc
    obtain ⟨r, h1, h2⟩ := h hq
    exact ⟨r, h1, by rw [h2]; exact ⟨fun h => ⟨hq, h⟩, fun h => h.2⟩⟩

theorem Says.iff {x : Option Bool} {p q : Prop} (h : Says x p) (e : p ↔ q) : Says x q := by
  obtain ⟨r, h1, h2⟩ := h
  exact ⟨r, h1, h2.trans e⟩

theorem Says.bind {x : Option Bool} {y : Option Bool} {p q : Prop} (h : Says x p) (h' : p → Says y q) : Says (x.bind fun r => bif r then y else some false) (p ∧ q) := by
  obtain ⟨r, rfl, h2⟩ := h
  cases r with
  | true =>
    obtain ⟨r', h3, h4⟩ := h' (h2.1 rfl)
    exact ⟨r', h3, by rw [h4]; exact ⟨fun h => ⟨h2.1 rfl, h⟩, fun h => h.2⟩⟩
  | false => exact ⟨false, rfl, by simp; intro hp; exact absurd (h2.2 hp) (by simp)⟩

theorem list_eq {α : Type} (z : α) {a b : List α} (h : a.length = b.length) : (∀ i, i < a.length → a.getD i z = b.getD i z) ↔ a = b := by
  constructor
  · intro hi
    refine List.ext_getElem h fun i h1 h2 => ?_
    have := hi i h1
    simpa [List.getD_eq_getElem?_getD, List.getElem?_eq_getElem h1, List.getElem?_eq_getElem h2] using this
  · rintro rfl _ _; rfl

theorem sEq_bool {x y : ByteArray} : sEq x y = true ↔ x = y := sEq_iff
theorem pEq_bool {x y : Pr} : Ty.eqD (.agg (.pair .str (.pair .str .unit))) x y = true ↔ x = y := by
  obtain ⟨a, b, u⟩ := x
  obtain ⟨c, d, v⟩ := y
  show (sEq a c && (sEq b d && true)) = true ↔ _
  simp [sEq_iff]

theorem loop_says {α S : Type} {step : S → Option (S ⊕ ((Bool × Unit) ⊕ Unit))} (z : α) (q : α → α → Bool) (hq : ∀ x y, q x y = true ↔ x = y) {k : Nat} (a b : List α) (hl : a.length = b.length) (hk : a.length < k) (f : Nat → S)
    (h : ∀ i, i < a.length → step (f i) = if q (a.getD i z) (b.getD i z) = true then some (.inl (f (i + 1))) else some (.inr (.inl (false, ())))) (hn : step (f a.length) = some (.inr (.inr ()))) :
    Says ((iter step k (f 0)).bind fun o => match o with | .inl o' => some o'.1 | .inr _ => some true) (a = b) := by
  rw [iter_all f (good := .inr ()) (bad := .inl (false, ())) (fun i => q (a.getD i z) (b.getD i z)) a.length h hn hk]
  cases ha : allN (fun i => q (a.getD i z) (b.getD i z)) a.length with
  | true =>
    refine ⟨true, by simp, by simp; exact (list_eq z hl).1 fun i hi => (hq _ _).1 (allN_iff.1 ha i hi)⟩
  | false =>
    refine ⟨false, by simp, by simp; intro e; subst e; rw [allN_iff.2 fun i hi => (hq _ _).2 rfl] at ha; cases ha⟩

theorem len_ne {α : Type} (a b : List α) : (lLen a != lLen b) = true ↔ ¬ a.length = b.length := by
  unfold lLen; simp; omega

theorem f62_says {k : Nat} (a b : List ByteArray) (hk : a.length < k) (hs : a.length ≤ 1000000) : Says (f62 k a b) (a = b) := by
  unfold f62
  refine (Says.ite (q := a.length = b.length) (len_ne a b) (p := a = b) fun hl => ?_).iff ⟨fun h => h.2, fun h => ⟨by rw [h], h⟩⟩
  refine loop_says (step := f62_s8_u k) sNil sEq (fun x y => sEq_iff) a b hl hk (fun i => (a, b, (i : Int), ())) (fun i hi => ?_) ?_
  · show f62_s8 k a b i = _
    unfold f62_s8
    rw [lt_l hi, cond_true, rangeK_l hi, rangeK_l (by omega), lAtS, lAtS]
    cases sEq (a.getD i sNil) (b.getD i sNil) with
    | true => simp [next_l i _ hi (by omega)]
    | false => simp
  · show f62_s8 k a b a.length = _
    unfold f62_s8
    simp [lLen]

theorem f63_says {k : Nat} (a b : List Pr) (hk : a.length < k) (hs : a.length ≤ 1000000) : Says (f63 k a b) (a = b) := by
  unfold f63
  refine (Says.ite (q := a.length = b.length) (len_ne a b) (p := a = b) fun hl => ?_).iff ⟨fun h => h.2, fun h => ⟨by rw [h], h⟩⟩
  refine loop_says (step := f63_s8_u k) zP (Ty.eqD (.agg (.pair .str (.pair .str .unit)))) (fun x y => pEq_bool) a b hl hk (fun i => (a, b, (i : Int), ())) (fun i hi => ?_) ?_
  · show f63_s8 k a b i = _
    unfold f63_s8
    rw [lt_l hi, cond_true, rangeK_l hi, rangeK_l (by omega), lAtP, lAtP]
    cases Ty.eqD (.agg (.pair .str (.pair .str .unit))) (a.getD i zP) (b.getD i zP) with
    | true => simp [next_l i _ hi (by omega)]
    | false => simp
  · show f63_s8 k a b a.length = _
    unfold f63_s8
    simp [lLen]

theorem f59_says {k : Nat} (a b : List ByteArray) (hk : a.length < k) (hs : a.length ≤ 1000000) : Says (f59 k a b) (a = b) := by
  unfold f59
  refine (Says.ite (q := a.length = b.length) (len_ne a b) (p := a = b) fun hl => ?_).iff ⟨fun h => h.2, fun h => ⟨by rw [h], h⟩⟩
  refine loop_says (step := f59_s8_u k) sNil sEq (fun x y => sEq_iff) a b hl hk (fun i => (a, b, lLen a, (i : Int), ())) (fun i hi => ?_) ?_
  · show f59_s8 k a b (lLen a) i = _
    unfold f59_s8
    rw [lt_l hi, cond_true, rangeK_l hi, rangeK_l (by omega), lAtS, lAtS]
    cases sEq (a.getD i sNil) (b.getD i sNil) with
    | true => simp [next_l i _ hi (by omega)]
    | false => simp
  · show f59_s8 k a b (lLen a) a.length = _
    unfold f59_s8
    simp [lLen]

theorem f60_says {k : Nat} (a b : List Pr) (hk : a.length < k) (hs : a.length ≤ 1000000) : Says (f60 k a b) (a = b) := by
  unfold f60
  refine (Says.ite (q := a.length = b.length) (len_ne a b) (p := a = b) fun hl => ?_).iff ⟨fun h => h.2, fun h => ⟨by rw [h], h⟩⟩
  refine loop_says (step := f60_s8_u k) zP (Ty.eqD (.agg (.pair .str (.pair .str .unit)))) (fun x y => pEq_bool) a b hl hk (fun i => (a, b, lLen a, (i : Int), ())) (fun i hi => ?_) ?_
  · show f60_s8 k a b (lLen a) i = _
    unfold f60_s8
    rw [lt_l hi, cond_true, rangeK_l hi, rangeK_l (by omega), lAtP, lAtP]
    cases Ty.eqD (.agg (.pair .str (.pair .str .unit))) (a.getD i zP) (b.getD i zP) with
    | true => simp [next_l i _ hi (by omega)]
    | false => simp
  · show f60_s8 k a b (lLen a) a.length = _
    unfold f60_s8
    simp [lLen]

theorem f61_says {k : Nat} (a b : List Int) (hk : a.length < k) (hs : a.length ≤ 1000000) : Says (f61 k a b) (a = b) := by
  unfold f61
  refine (Says.ite (q := a.length = b.length) (len_ne a b) (p := a = b) fun hl => ?_).iff ⟨fun h => h.2, fun h => ⟨by rw [h], h⟩⟩
  refine loop_says (step := f61_s8_u k) 0 (fun x y => x == y) (fun x y => beq_iff_eq) a b hl hk (fun i => (a, b, lLen a, (i : Int), ())) (fun i hi => ?_) ?_
  · show f61_s8 k a b (lLen a) i = _
    unfold f61_s8
    rw [lt_l hi, cond_true, rangeK_l hi, rangeK_l (by omega), lAtI, lAtI, bne]
    cases (a.getD i 0 == b.getD i 0) with
    | true => simp [next_l i _ hi (by omega)]
    | false => simp
  · show f61_s8 k a b (lLen a) a.length = _
    unfold f61_s8
    simp [lLen]

/-! ## Objects -/
abbrev Ob := Int × ByteArray × Int × Int × Bool × (List ByteArray) × (List Pr) × (List ByteArray) × ByteArray × Int × Int × (List Int) × (List ByteArray) × ByteArray × ByteArray × Int × ByteArray × ByteArray × ByteArray × Unit

structure Short (k : Nat) (a : Ob) : Prop where
  e5 : a.2.2.2.2.2.1.length < k
  e6 : a.2.2.2.2.2.2.1.length < k
  e7 : a.2.2.2.2.2.2.2.1.length < k
  e11 : a.2.2.2.2.2.2.2.2.2.2.2.1.length < k
  e12 : a.2.2.2.2.2.2.2.2.2.2.2.2.1.length < k

theorem Says.last {x : Option Bool} {p : Prop} (h : Says x p) : Says (x.bind fun r => some r) p := by
  obtain ⟨r, rfl, h2⟩ := h; exact ⟨r, rfl, h2⟩
theorem Says.bif {b : Bool} {x : Option Bool} {p q : Prop} (hb : b = true ↔ q) (h : q → Says x p) : Says (bif b then x else some false) (q ∧ p) := by
  cases hc : b with
  | true =>
    obtain ⟨r, h1, h2⟩ := h (hb.1 hc)
    exact ⟨r, h1, by rw [h2]; exact ⟨fun h => ⟨hb.1 hc, h⟩, fun h => h.2⟩⟩
  | false => exact ⟨false, rfl, by simp; intro hq; rw [hb.2 hq] at hc; cases hc⟩

theorem f15_says {k : Nat} (a b : Ob) (h : Short k a) (hk : k ≤ 1000000) : Says (f15 k a b) (a = b) := by
  obtain ⟨a0, a1, a2, a3, a4, a5, a6, a7, a8, a9, a10, a11, a12, a13, a14, a15, a16, a17, a18, u⟩ := a
  obtain ⟨b0, b1, b2, b3, b4, b5, b6, b7, b8, b9, b10, b11, b12, b13, b14, b15, b16, b17, b18, v⟩ := b
  obtain ⟨h5, h6, h7, h11, h12⟩ := h
  unfold f15 f58
  simp only [Option.bind_some]
  refine (Says.bif (q := a0 = b0 ∧ a2 = b2 ∧ a3 = b3 ∧ a9 = b9 ∧ a10 = b10 ∧ a15 = b15 ∧ a4 = b4 ∧ a1 = b1 ∧ a8 = b8 ∧ a13 = b13 ∧ a14 = b14 ∧ a16 = b16 ∧ a17 = b17 ∧ a18 = b18) ?_ fun _ =>
    Says.bind (f59_says a5 b5 h5 (by simp only at h5; omega)) fun _ => Says.bind (f60_says a6 b6 h6 (by simp only at h6; omega)) fun _ => Says.bind (f59_says a7 b7 h7 (by simp only at h7; omega)) fun _ =>
    Says.bind (f61_says a11 b11 h11 (by simp only at h11; omega)) fun _ => Says.last (f59_says a12 b12 h12 (by simp only at h12; omega))).iff ?_
  · show (decide (a0 = b0) && (decide (a2 = b2) && (decide (a3 = b3) && (decide (a9 = b9) && (decide (a10 = b10) && (decide (a15 = b15) && ((a4 == b4) && (sEq a1 b1 && (sEq a8 b8 && (sEq a13 b13 && (sEq a14 b14 && (sEq a16 b16 && (sEq a17 b17 && (sEq a18 b18 && true)))))))))))))) = true ↔ _
    simp [sEq_iff]
  · constructor
    · rintro ⟨⟨rfl, rfl, rfl, rfl, rfl, rfl, rfl, rfl, rfl, rfl, rfl, rfl, rfl, rfl⟩, rfl, rfl, rfl, rfl, rfl⟩; rfl
    · intro e
      simp only [Prod.mk.injEq] at e
      simp [e]

theorem f16_loop {k : Nat} (a b : Ob) (hl : a.2.2.2.2.2.2.2.2.2.2.2.1.length = b.2.2.2.2.2.2.2.2.2.2.2.1.length) (hk : a.2.2.2.2.2.2.2.2.2.2.2.1.length < k) (hs : k ≤ 1000000) :
    (f16_l12 k 0 a b = some (.inr (a, b, ())) ∧ a.2.2.2.2.2.2.2.2.2.2.2.1 = b.2.2.2.2.2.2.2.2.2.2.2.1) ∨ (f16_l12 k 0 a b = some (.inl (false, ())) ∧ a.2.2.2.2.2.2.2.2.2.2.2.1 ≠ b.2.2.2.2.2.2.2.2.2.2.2.1) := by
  have h := iter_all (step := f16_s12_u k) (k := k) (fun i => ((i : Int), a, b, ())) (good := .inr (a, b, ())) (bad := .inl (false, ())) (fun i => a.2.2.2.2.2.2.2.2.2.2.2.1.getD i 0 == b.2.2.2.2.2.2.2.2.2.2.2.1.getD i 0) a.2.2.2.2.2.2.2.2.2.2.2.1.length (fun i hi => by
    show f16_s12 k i a b = _
    unfold f16_s12
    rw [lt_l hi, cond_true, rangeK_l hi, rangeK_l (by omega), lAtI, lAtI, bne]
    cases (a.2.2.2.2.2.2.2.2.2.2.2.1.getD i 0 == b.2.2.2.2.2.2.2.2.2.2.2.1.getD i 0) with
    | true => simp [next_l i _ hi (by omega)]
    | false => simp) (by
    show f16_s12 k a.2.2.2.2.2.2.2.2.2.2.2.1.length a b = _
    unfold f16_s12
    simp [lLen]) hk
  have h' : f16_l12 k 0 a b = _ := h
  cases ha : allN (fun i => a.2.2.2.2.2.2.2.2.2.2.2.1.getD i 0 == b.2.2.2.2.2.2.2.2.2.2.2.1.getD i 0) a.2.2.2.2.2.2.2.2.2.2.2.1.length with
  | true => rw [ha] at h'; exact .inl ⟨by simpa using h', (list_eq 0 hl).1 fun i hi => by simpa using allN_iff.1 ha i hi⟩
  | false => rw [ha] at h'; exact .inr ⟨by simpa using h', fun e => by rw [allN_iff.2 fun i hi => by rw [e]; simp] at ha; cases ha⟩

theorem ne_int {x y : Int} : (x != y) = true ↔ ¬ x = y := by simp
theorem ne_str {x y : ByteArray} : (!(sEq x y)) = true ↔ ¬ x = y := by
  rw [Bool.not_eq_true', ← sEq_iff]; simp
theorem ne_bool {x y : Bool} : (!(x == y)) = true ↔ ¬ x = y := by simp

theorem f16_says {k : Nat} (a b : Ob) (h : Short k a) (hk : k ≤ 1000000) : Says (f16 k a b) (a = b) := by
  have hloop := f16_loop (k := k) a b
  obtain ⟨a0, a1, a2, a3, a4, a5, a6, a7, a8, a9, a10, a11, a12, a13, a14, a15, a16, a17, a18, u⟩ := a
  obtain ⟨b0, b1, b2, b3, b4, b5, b6, b7, b8, b9, b10, b11, b12, b13, b14, b15, b16, b17, b18, v⟩ := b
  obtain ⟨h5, h6, h7, h11, h12⟩ := h
  simp only at h5 h6 h7 h11 h12 hloop
  unfold f16
  refine (Says.ite (q := a0 = b0) ne_int fun _ => Says.ite (q := a1 = b1) ne_str fun _ => Says.ite (q := a2 = b2) ne_int fun _ => Says.ite (q := a3 = b3) ne_int fun _ => Says.ite (q := a4 = b4) ne_bool fun _ =>
    Says.ite (q := a8 = b8) ne_str fun _ => Says.ite (q := a9 = b9) ne_int fun _ => Says.ite (q := a10 = b10) ne_int fun _ => Says.ite (q := a13 = b13) ne_str fun _ => Says.ite (q := a14 = b14) ne_str fun _ =>
    Says.ite (q := a15 = b15) ne_int fun _ => Says.ite (q := a16 = b16) ne_str fun _ => Says.ite (q := a17 = b17) ne_str fun _ => Says.ite (q := a18 = b18) ne_str fun _ =>
    Says.ite (q := a11.length = b11.length) (len_ne a11 b11) (p := a11 = b11 ∧ a5 = b5 ∧ a6 = b6 ∧ a7 = b7 ∧ a12 = b12) fun hl => ?_).iff ?_
  · have inner : Says ((f62 k a5 b5).bind fun r2 => bif r2 then ((f63 k a6 b6).bind fun r3 => bif r3 then ((f62 k a7 b7).bind fun r4 => bif r4 then ((f62 k a12 b12).bind fun r5 => some r5) else some false) else some false) else some false) (a5 = b5 ∧ a6 = b6 ∧ a7 = b7 ∧ a12 = b12) :=
      Says.bind (f62_says a5 b5 h5 (by omega)) fun _ => Says.bind (f63_says a6 b6 h6 (by omega)) fun _ => Says.bind (f62_says a7 b7 h7 (by omega)) fun _ => Says.last (f62_says a12 b12 h12 (by omega))
    rcases hloop hl h11 hk with ⟨e, e'⟩ | ⟨e, e'⟩
    · rw [e]
      exact inner.iff ⟨fun h => ⟨e', h⟩, fun h => h.2⟩
    · rw [e]
      exact ⟨false, rfl, by simp; intro h; exact absurd h e'⟩
  · constructor
    · rintro ⟨rfl, rfl, rfl, rfl, rfl, rfl, rfl, rfl, rfl, rfl, rfl, rfl, rfl, rfl, _, rfl, rfl, rfl, rfl, rfl⟩; rfl
    · intro e
      simp only [Prod.mk.injEq] at e
      simp [e]

/-! ## What is long -/
def Tot (x : Option Bool) (p : Prop) : Prop := ∃ r, x = some r ∧ (r = false → p)

theorem Tot.ite {b : Bool} {x : Option Bool} {p q : Prop} (hb : b = false → q) (h : q → Tot x p) : Tot (bif b then some true else x) (q ∧ p) := by
  cases hc : b with
  | true => exact ⟨true, rfl, by simp⟩
  | false =>
    obtain ⟨r, h1, h2⟩ := h (hb hc)
    exact ⟨r, h1, fun h => ⟨hb hc, h2 h⟩⟩
theorem Tot.bind {x y : Option Bool} {p q : Prop} (h : Tot x p) (h' : p → Tot y q) : Tot (x.bind fun r => bif r then some true else y) (p ∧ q) := by
  obtain ⟨r, rfl, h2⟩ := h
  cases r with
  | true => exact ⟨true, rfl, by simp⟩
  | false =>
    obtain ⟨r', h3, h4⟩ := h' (h2 rfl)
    exact ⟨r', h3, fun h => ⟨h2 rfl, h4 h⟩⟩
theorem Tot.last {x : Option Bool} {p : Prop} (h : Tot x p) : Tot (x.bind fun r => some r) p := by
  obtain ⟨r, rfl, h2⟩ := h; exact ⟨r, rfl, h2⟩

theorem len_gt {α : Type} {l : List α} (h : decide (lLen l > 40) = false) : l.length ≤ 40 := by
  unfold lLen at h; simp at h; omega

theorem f37_tot {k : Nat} (hk : 40 < k) (l : List Pr) : Tot (f37 k l) (l.length ≤ 40) := by
  unfold f37
  cases hc : decide (lLen l > 40) with
  | true => exact ⟨true, rfl, by simp⟩
  | false =>
    have hl := len_gt hc
    have h := iter_all (step := f37_s8_u k) (k := k) (fun i => (l, (i : Int), ())) (good := .inr ()) (bad := .inl (true, ())) (fun i => !(decide (sLen (l.getD i zP).1 > 200)) && !(decide (sLen (l.getD i zP).2.1 > 200))) l.length (fun i hi => by
      show f37_s8 k l i = _
      unfold f37_s8
      rw [lt_l hi, cond_true, rangeK_l hi, rangeK_l hi, lAtP]
      cases decide (sLen (l.getD i zP).1 > 200) <;> cases decide (sLen (l.getD i zP).2.1 > 200) <;> simp [next_l i _ hi (by omega)]) (by
      show f37_s8 k l l.length = _
      unfold f37_s8
      simp [lLen]) (by omega)
    have h' : f37_l8 k l 0 = _ := h
    rw [h']
    cases allN (fun i => !(decide (sLen (l.getD i zP).1 > 200)) && !(decide (sLen (l.getD i zP).2.1 > 200))) l.length with
    | true => exact ⟨false, by simp, fun _ => hl⟩
    | false => exact ⟨true, by simp, fun _ => hl⟩

theorem f38_tot {k : Nat} (hk : 40 < k) (l : List ByteArray) : Tot (f38 k l) (l.length ≤ 40) := by
  unfold f38
  cases hc : decide (lLen l > 40) with
  | true => exact ⟨true, rfl, by simp⟩
  | false =>
    have hl := len_gt hc
    have h := iter_all (step := f38_s8_u k) (k := k) (fun i => (l, (i : Int), ())) (good := .inr ()) (bad := .inl (true, ())) (fun i => !(decide (sLen (l.getD i sNil) > 600))) l.length (fun i hi => by
      show f38_s8 k l i = _
      unfold f38_s8
      rw [lt_l hi, cond_true, rangeK_l hi, lAtS]
      cases decide (sLen (l.getD i sNil) > 600) <;> simp [next_l i _ hi (by omega)]) (by
      show f38_s8 k l l.length = _
      unfold f38_s8
      simp [lLen]) (by omega)
    have h' : f38_l8 k l 0 = _ := h
    rw [h']
    cases allN (fun i => !(decide (sLen (l.getD i sNil) > 600))) l.length with
    | true => exact ⟨false, by simp, fun _ => hl⟩
    | false => exact ⟨true, by simp, fun _ => hl⟩

theorem f10_tot {k : Nat} (hk : 40 < k) (a : Ob) : Tot (f10 k a) (Short k a) := by
  unfold f10
  obtain ⟨r, h1, h2⟩ := Tot.ite (b := decide ((w64 ((w64 ((w64 ((w64 ((w64 ((w64 ((sLen a.2.1) + (sLen a.2.2.2.2.2.2.2.2.1))) + (sLen a.2.2.2.2.2.2.2.2.2.2.2.2.2.1))) + (sLen a.2.2.2.2.2.2.2.2.2.2.2.2.2.2.1))) + (sLen a.2.2.2.2.2.2.2.2.2.2.2.2.2.2.2.2.1))) + (sLen a.2.2.2.2.2.2.2.2.2.2.2.2.2.2.2.2.2.1))) + (sLen a.2.2.2.2.2.2.2.2.2.2.2.2.2.2.2.2.2.2.1))) > 5000)) (q := True) (fun _ => trivial) fun _ =>
    Tot.ite (b := decide (lLen a.2.2.2.2.2.2.2.2.2.2.2.1 > 40)) len_gt fun _ => Tot.bind (f37_tot hk a.2.2.2.2.2.2.1) fun _ => Tot.bind (f38_tot hk a.2.2.2.2.2.1) fun _ => Tot.bind (f38_tot hk a.2.2.2.2.2.2.2.1) fun _ => Tot.last (f38_tot hk a.2.2.2.2.2.2.2.2.2.2.2.2.1)
  exact ⟨r, h1, fun h => by
    obtain ⟨_, g1, g2, g3, g4, g5⟩ := h2 h
    exact ⟨by omega, by omega, by omega, by omega, by omega⟩⟩

/-! ## The clone is written to -/
theorem tail_loop {S B : Type} {step : S → Option (S ⊕ B)} (P : Ob → Prop) (len : Ob → Nat) (mk : Nat → Ob → S) (fin : Ob → B)
    (h : ∀ i o, P o → i < len o → ∃ o', step (mk i o) = some (.inl (mk (i + 1) o')) ∧ P o' ∧ len o' = len o) (hn : ∀ o, P o → step (mk (len o) o) = some (.inr (fin o))) :
    ∀ (n i : Nat) (o : Ob), P o → i ≤ len o → len o - i < n → ∃ o', iter step n (mk i o) = some (fin o') ∧ P o'
  | 0, i, o, _, _, hl => by omega
  | n + 1, i, o, ho, hi, hl => by
    rw [iter_succ]
    by_cases e : i = len o
    · subst e; rw [hn o ho]; exact ⟨o, rfl, ho⟩
    · obtain ⟨o', h1, h2, h3⟩ := h i o ho (by omega)
      rw [h1]
      exact tail_loop P len mk fin h hn n (i + 1) o' h2 (by omega) (by omega)

theorem f4_tail24 {k : Nat} (hk : k ≤ 1000000) (t : Bool) (h0 h1 o : Ob) (ho : Short k o) : ∃ o', f4_l24 k t 0 h0 h1 o = some (t, h0, h1, o', ()) ∧ Short k o' := by
  have := tail_loop (step := f4_s24_u k) (Short k) (fun a => a.2.2.2.2.2.2.2.2.2.2.2.2.1.length) (fun i o => (t, (i : Int), h0, h1, o, ())) (fun o => (t, h0, h1, o, ())) (fun i o ho hi => by
    refine ⟨(o.1, o.2.1, o.2.2.1, o.2.2.2.1, o.2.2.2.2.1, o.2.2.2.2.2.1, o.2.2.2.2.2.2.1, o.2.2.2.2.2.2.2.1, o.2.2.2.2.2.2.2.2.1, o.2.2.2.2.2.2.2.2.2.1, o.2.2.2.2.2.2.2.2.2.2.1, o.2.2.2.2.2.2.2.2.2.2.2.1, (List.set o.2.2.2.2.2.2.2.2.2.2.2.2.1 (Int.toNat (i : Int)) (⟨#[120]⟩ : ByteArray)), o.2.2.2.2.2.2.2.2.2.2.2.2.2.1, o.2.2.2.2.2.2.2.2.2.2.2.2.2.2.1, o.2.2.2.2.2.2.2.2.2.2.2.2.2.2.2.1, o.2.2.2.2.2.2.2.2.2.2.2.2.2.2.2.2.1, o.2.2.2.2.2.2.2.2.2.2.2.2.2.2.2.2.2.1, o.2.2.2.2.2.2.2.2.2.2.2.2.2.2.2.2.2.2.1, ()), ?_, ?_, ?_⟩
    · show f4_s24 k t i h0 h1 o = _
      unfold f4_s24
      have hi' : i < (o.2.2.2.2.2.2.2.2.2.2.2.2.1).length := hi
      rw [lt_l hi', cond_true, rangeK_l hi', next_l i _ hi' (by have := ho.e12; omega)]
    · exact ⟨by simpa using ho.e5, by simpa using ho.e6, by simpa using ho.e7, by simpa using ho.e11, by simpa using ho.e12⟩
    · simp) (fun o ho => by
    show f4_s24 k t _ h0 h1 o = _
    unfold f4_s24
    simp [lLen]) k 0 o ho (Nat.zero_le _) (by have := ho.e12; omega)
  exact this

theorem f4_tail32 {k : Nat} (hk : k ≤ 1000000) (t : Bool) (h0 h1 o : Ob) (ho : Short k o) : ∃ o', f4_l32 k t 0 h0 h1 o = some (t, h0, h1, o', ()) ∧ Short k o' := by
  have := tail_loop (step := f4_s32_u k) (Short k) (fun a => a.2.2.2.2.2.2.2.1.length) (fun i o => (t, (i : Int), h0, h1, o, ())) (fun o => (t, h0, h1, o, ())) (fun i o ho hi => by
    refine ⟨(o.1, o.2.1, o.2.2.1, o.2.2.2.1, o.2.2.2.2.1, o.2.2.2.2.2.1, o.2.2.2.2.2.2.1, (List.set o.2.2.2.2.2.2.2.1 (Int.toNat (i : Int)) (⟨#[120]⟩ : ByteArray)), o.2.2.2.2.2.2.2.2.1, o.2.2.2.2.2.2.2.2.2.1, o.2.2.2.2.2.2.2.2.2.2.1, o.2.2.2.2.2.2.2.2.2.2.2.1, o.2.2.2.2.2.2.2.2.2.2.2.2.1, o.2.2.2.2.2.2.2.2.2.2.2.2.2.1, o.2.2.2.2.2.2.2.2.2.2.2.2.2.2.1, o.2.2.2.2.2.2.2.2.2.2.2.2.2.2.2.1, o.2.2.2.2.2.2.2.2.2.2.2.2.2.2.2.2.1, o.2.2.2.2.2.2.2.2.2.2.2.2.2.2.2.2.2.1, o.2.2.2.2.2.2.2.2.2.2.2.2.2.2.2.2.2.2.1, ()), ?_, ?_, ?_⟩
    · show f4_s32 k t i h0 h1 o = _
      unfold f4_s32
      have hi' : i < (o.2.2.2.2.2.2.2.1).length := hi
      rw [lt_l hi', cond_true, rangeK_l hi', next_l i _ hi' (by have := ho.e7; omega)]
    · exact ⟨by simpa using ho.e5, by simpa using ho.e6, by simpa using ho.e7, by simpa using ho.e11, by simpa using ho.e12⟩
    · simp) (fun o ho => by
    show f4_s32 k t _ h0 h1 o = _
    unfold f4_s32
    simp [lLen]) k 0 o ho (Nat.zero_le _) (by have := ho.e7; omega)
  exact this

theorem f4_tail40 {k : Nat} (hk : k ≤ 1000000) (t : Bool) (h0 h1 o : Ob) (ho : Short k o) : ∃ o', f4_l40 k t 0 h0 h1 o = some (t, h0, h1, o', ()) ∧ Short k o' := by
  have := tail_loop (step := f4_s40_u k) (Short k) (fun a => a.2.2.2.2.2.2.2.2.2.2.2.1.length) (fun i o => (t, (i : Int), h0, h1, o, ())) (fun o => (t, h0, h1, o, ())) (fun i o ho hi => by
    refine ⟨(o.1, o.2.1, o.2.2.1, o.2.2.2.1, o.2.2.2.2.1, o.2.2.2.2.2.1, o.2.2.2.2.2.2.1, o.2.2.2.2.2.2.2.1, o.2.2.2.2.2.2.2.2.1, o.2.2.2.2.2.2.2.2.2.1, o.2.2.2.2.2.2.2.2.2.2.1, (List.set o.2.2.2.2.2.2.2.2.2.2.2.1 (Int.toNat (i : Int)) 77), o.2.2.2.2.2.2.2.2.2.2.2.2.1, o.2.2.2.2.2.2.2.2.2.2.2.2.2.1, o.2.2.2.2.2.2.2.2.2.2.2.2.2.2.1, o.2.2.2.2.2.2.2.2.2.2.2.2.2.2.2.1, o.2.2.2.2.2.2.2.2.2.2.2.2.2.2.2.2.1, o.2.2.2.2.2.2.2.2.2.2.2.2.2.2.2.2.2.1, o.2.2.2.2.2.2.2.2.2.2.2.2.2.2.2.2.2.2.1, ()), ?_, ?_, ?_⟩
    · show f4_s40 k t i h0 h1 o = _
      unfold f4_s40
      have hi' : i < (o.2.2.2.2.2.2.2.2.2.2.2.1).length := hi
      rw [lt_l hi', cond_true, rangeK_l hi', next_l i _ hi' (by have := ho.e11; omega)]
    · exact ⟨by simpa using ho.e5, by simpa using ho.e6, by simpa using ho.e7, by simpa using ho.e11, by simpa using ho.e12⟩
    · simp) (fun o ho => by
    show f4_s40 k t _ h0 h1 o = _
    unfold f4_s40
    simp [lLen]) k 0 o ho (Nat.zero_le _) (by have := ho.e11; omega)
  exact this

theorem f4_tail48 {k : Nat} (hk : k ≤ 1000000) (t : Bool) (h0 h1 o : Ob) (ho : Short k o) : ∃ o', f4_l48 k t 0 h0 h1 o = some (t, h0, h1, o', ()) ∧ Short k o' := by
  have := tail_loop (step := f4_s48_u k) (Short k) (fun a => a.2.2.2.2.2.2.1.length) (fun i o => (t, (i : Int), h0, h1, o, ())) (fun o => (t, h0, h1, o, ())) (fun i o ho hi => by
    refine ⟨(o.1, o.2.1, o.2.2.1, o.2.2.2.1, o.2.2.2.2.1, o.2.2.2.2.2.1, (List.set o.2.2.2.2.2.2.1 (Int.toNat (i : Int)) ((⟨#[120]⟩ : ByteArray), (List.getD o.2.2.2.2.2.2.1 (Int.toNat (i : Int)) (Ty.zero (.agg (.pair .str (.pair .str .unit))))).2.1, ())), o.2.2.2.2.2.2.2.1, o.2.2.2.2.2.2.2.2.1, o.2.2.2.2.2.2.2.2.2.1, o.2.2.2.2.2.2.2.2.2.2.1, o.2.2.2.2.2.2.2.2.2.2.2.1, o.2.2.2.2.2.2.2.2.2.2.2.2.1, o.2.2.2.2.2.2.2.2.2.2.2.2.2.1, o.2.2.2.2.2.2.2.2.2.2.2.2.2.2.1, o.2.2.2.2.2.2.2.2.2.2.2.2.2.2.2.1, o.2.2.2.2.2.2.2.2.2.2.2.2.2.2.2.2.1, o.2.2.2.2.2.2.2.2.2.2.2.2.2.2.2.2.2.1, o.2.2.2.2.2.2.2.2.2.2.2.2.2.2.2.2.2.2.1, ()), ?_, ?_, ?_⟩
    · show f4_s48 k t i h0 h1 o = _
      unfold f4_s48
      have hi' : i < (o.2.2.2.2.2.2.1).length := hi
      rw [lt_l hi', cond_true, rangeK_l hi', next_l i _ hi' (by have := ho.e6; omega)]
    · exact ⟨by simpa using ho.e5, by simpa using ho.e6, by simpa using ho.e7, by simpa using ho.e11, by simpa using ho.e12⟩
    · simp) (fun o ho => by
    show f4_s48 k t _ h0 h1 o = _
    unfold f4_s48
    simp [lLen]) k 0 o ho (Nat.zero_le _) (by have := ho.e6; omega)
  exact this

theorem f4_tail56 {k : Nat} (hk : k ≤ 1000000) (t : Bool) (h0 h1 o : Ob) (ho : Short k o) : ∃ o', f4_l56 k t 0 h0 h1 o = some (t, h0, h1, ()) ∧ Short k o' := by
  have := tail_loop (step := f4_s56_u k) (Short k) (fun a => a.2.2.2.2.2.1.length) (fun i o => (t, (i : Int), h0, h1, o, ())) (fun o => (t, h0, h1, ())) (fun i o ho hi => by
    refine ⟨(o.1, o.2.1, o.2.2.1, o.2.2.2.1, o.2.2.2.2.1, (List.set o.2.2.2.2.2.1 (Int.toNat (i : Int)) (⟨#[120]⟩ : ByteArray)), o.2.2.2.2.2.2.1, o.2.2.2.2.2.2.2.1, o.2.2.2.2.2.2.2.2.1, o.2.2.2.2.2.2.2.2.2.1, o.2.2.2.2.2.2.2.2.2.2.1, o.2.2.2.2.2.2.2.2.2.2.2.1, o.2.2.2.2.2.2.2.2.2.2.2.2.1, o.2.2.2.2.2.2.2.2.2.2.2.2.2.1, o.2.2.2.2.2.2.2.2.2.2.2.2.2.2.1, o.2.2.2.2.2.2.2.2.2.2.2.2.2.2.2.1, o.2.2.2.2.2.2.2.2.2.2.2.2.2.2.2.2.1, o.2.2.2.2.2.2.2.2.2.2.2.2.2.2.2.2.2.1, o.2.2.2.2.2.2.2.2.2.2.2.2.2.2.2.2.2.2.1, ()), ?_, ?_, ?_⟩
    · show f4_s56 k t i h0 h1 o = _
      unfold f4_s56
      have hi' : i < (o.2.2.2.2.2.1).length := hi
      rw [lt_l hi', cond_true, rangeK_l hi', next_l i _ hi' (by have := ho.e5; omega)]
    · exact ⟨by simpa using ho.e5, by simpa using ho.e6, by simpa using ho.e7, by simpa using ho.e11, by simpa using ho.e12⟩
    · simp) (fun o ho => by
    show f4_s56 k t _ h0 h1 o = _
    unfold f4_s56
    simp [lLen]) k 0 o ho (Nat.zero_le _) (by have := ho.e5; omega)
  exact this

theorem f17_same {k : Nat} (a : Ob) (h : Short k a) (hk : k ≤ 1000000) : f17 k a = some a := by
  obtain ⟨h5, h6, h7, h11, h12⟩ := h
  unfold f17 f64 f65 f66 cloneRun
  rw [if_pos (by omega), Option.bind_some, if_pos (by omega), Option.bind_some, if_pos (by omega), Option.bind_some, if_pos (by omega), Option.bind_some, if_pos (by omega), Option.bind_some]

theorem f4_true {k : Nat} (hk : 40 < k) (hk' : k ≤ 1000000) (h9 : f9 k = some true) (a b : Ob) : f4 k a b = some true := by
  unfold f4
  rw [h9]
  simp only [Option.bind_some, Bool.not_true, cond_false]
  obtain ⟨r2, e2, g2⟩ := f10_tot hk a
  rw [e2, Option.bind_some]
  cases r2 with
  | true => rfl
  | false =>
    have ha := g2 rfl
    simp only [cond_false]
    obtain ⟨r3, e3, g3⟩ := f10_tot hk b
    rw [e3, Option.bind_some]
    cases r3 with
    | true => rfl
    | false =>
      have hb := g3 rfl
      simp only [cond_false]
      obtain ⟨r4, e4, g4⟩ := f15_says a b ha hk'
      obtain ⟨r5, e5, g5⟩ := f16_says a b ha hk'
      have e45 : r4 = r5 := Bool.eq_iff_iff.2 (g4.trans g5.symm)
      obtain ⟨r6, e6, g6⟩ := f15_says a a ha hk'
      obtain rfl := g6.2 rfl
      obtain ⟨r8, e8, g8⟩ := f16_says a a ha hk'
      obtain rfl := g8.2 rfl
      obtain ⟨o1, t1, p1⟩ := f4_tail24 hk' r5 a b a ha
      obtain ⟨o2, t2, p2⟩ := f4_tail32 hk' r5 a b o1 p1
      obtain ⟨o3, t3, p3⟩ := f4_tail40 hk' r5 a b o2 p2
      obtain ⟨o4, t4, p4⟩ := f4_tail48 hk' r5 a b o3 p3
      obtain ⟨o5, t5, p5⟩ := f4_tail56 hk' r5 a b o4 p4
      rw [e4, Option.bind_some, e5, Option.bind_some, e45]
      simp only [beq_self_eq_true, Bool.not_true, cond_false]
      rw [e6, Option.bind_some]
      simp only [Bool.not_true, cond_false]
      rw [f17_same a ha hk', Option.bind_some, e8, Option.bind_some]
      simp only [Bool.not_true, cond_false]
      rw [Option.bind_some, t1, Option.bind_some]
      simp only
      rw [t2, Option.bind_some]
      simp only
      rw [t3, Option.bind_some]
      simp only
      rw [t4, Option.bind_some]
      simp only
      rw [t5, Option.bind_some]
      simp only
      rw [e5, Option.bind_some]
      simp

end Go.Proofs.YtpffibjemegioaaGreatDoor

namespace Go.Proofs.YtpffibjemegioaaGreatDoor
open Go Go.RowKit Go.PB
theorem awake_true : f9 60 = some true := by kernel_rfl
end Go.Proofs.YtpffibjemegioaaGreatDoor
