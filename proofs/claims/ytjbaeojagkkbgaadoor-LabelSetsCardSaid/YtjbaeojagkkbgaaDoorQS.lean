/-
  Selectors: the plain laws.
-/
import Derived.Test.YtjbaeojagkkbgaaDoorQL
import Derived.Lib.SlTrimSet
set_option linter.unusedVariables false
namespace Go.Proofs.YtjbaeojagkkbgaaDoor
open Go Go.PB

abbrev Nd := ByteArray × Int × List ByteArray × Unit
def zN : Nd := (sNil, 0, [], ())
theorem lAtN (l : List Nd) (i : Nat) : lAt (.agg (.pair .str (.pair (.int .i64) (.pair (.list .str) .unit)))) l (i : Int) = l.getD i zN := rfl

/-! ## A key's value -/
def getL (l : List Pr) (key : ByteArray) : ByteArray × Bool := match l.find? (fun p => sEq p.1 key) with
  | some p => (p.2.1, true)
  | none => (sNil, false)

theorem f24_eq {k : Nat} {l : List Pr} {key : ByteArray} (hl : l.length < k) (hk : k ≤ 1000000) : f24 k l key = some (getL l key) := by
  obtain ⟨r, h1, h2⟩ := iter_find (step := f24_s4_u k) (k := k) (fun i => (key, l, lLen l, (i : Int), ())) (good := .inr ()) (fun i => .inl ((l.getD i zP).2.1, true, ())) (fun i => !(sEq (l.getD i zP).1 key)) l.length
    (fun i hi => by
      show f24_s4 k key l (lLen l) i = _
      unfold f24_s4
      simp only [lt_l hi, rangeK_l hi, lAtP, cond_true, next_l i _ hi (by omega)]
      cases sEq (l.getD i zP).1 key <;> rfl)
    (by
      show f24_s4 k key l (lLen l) l.length = _
      unfold f24_s4
      rw [lt_l_not]; rfl) hl
  show ((iter (f24_s4_u k) k (key, l, lLen l, ((0 : Nat) : Int), ())).bind _) = _
  rw [h1]
  unfold getL
  rcases h2 with ⟨h3, rfl⟩ | ⟨m, hm, h3, h4, rfl⟩
  · rw [find_no (fun p : Pr => sEq p.1 key) zP l fun i hi => by have := allN_iff.1 h3 i hi; simpa using this]; rfl
  · rw [find_first (fun p : Pr => sEq p.1 key) zP l m hm (by simpa using h3) (fun j hj => by have := h4 j hj; simpa using this)]; rfl

theorem f25_eq {k : Nat} {l : List Pr} {key : ByteArray} (hl : l.length < k) (hk : k ≤ 1000000) : f25 k l key = some (getL l key) := by
  obtain ⟨r, h1, h2⟩ := iter_find (step := f25_s4_u k) (k := k) (fun i => (l, key, (i : Int), ())) (good := .inr ()) (fun i => .inl ((l.getD i zP).2.1, true, ())) (fun i => !(sEq (l.getD i zP).1 key)) l.length
    (fun i hi => by
      show f25_s4 k l key i = _
      unfold f25_s4
      simp only [lt_l hi, rangeK_l hi, lAtP, cond_true, next_l i _ hi (by omega)]
      cases sEq (l.getD i zP).1 key <;> rfl)
    (by
      show f25_s4 k l key l.length = _
      unfold f25_s4
      rw [lt_l_not]; rfl) hl
  show ((iter (f25_s4_u k) k (l, key, ((0 : Nat) : Int), ())).bind _) = _
  rw [h1]
  unfold getL
  rcases h2 with ⟨h3, rfl⟩ | ⟨m, hm, h3, h4, rfl⟩
  · rw [find_no (fun p : Pr => sEq p.1 key) zP l fun i hi => by have := allN_iff.1 h3 i hi; simpa using this]; rfl
  · rw [find_first (fun p : Pr => sEq p.1 key) zP l m hm (by simpa using h3) (fun j hj => by have := h4 j hj; simpa using this)]; rfl

/-! ## Does a text stand among some? -/
theorem f61_eq {k : Nat} {l : List ByteArray} {v : ByteArray} (hl : l.length < k) (hk : k ≤ 1000000) : f61 k l v = some (l.any (sEq v)) := by
  obtain ⟨r, h1, h2⟩ := iter_find (step := f80_s4_u k) (k := k) (fun i => (l, v, lLen l, (i : Int), ())) (good := .inr ()) (fun i => .inl ((i : Int), ())) (fun i => !(sEq v (l.getD i sNil))) l.length
    (fun i hi => by
      show f80_s4 k l v (lLen l) i = _
      unfold f80_s4
      simp only [lt_l hi, rangeK_l hi, lAtS, cond_true, next_l i _ hi (by omega)]
      cases sEq v (l.getD i sNil) <;> rfl)
    (by
      show f80_s4 k l v (lLen l) l.length = _
      unfold f80_s4
      rw [lt_l_not]; rfl) hl
  show (((iter (f80_s4_u k) k (l, v, lLen l, ((0 : Nat) : Int), ())).bind _).bind _) = _
  rw [h1]
  rcases h2 with ⟨h3, rfl⟩ | ⟨m, hm, h3, h4, rfl⟩
  · have : l.any (sEq v) = false := by
      rw [List.any_eq_false]
      intro x hx
      obtain ⟨i, hi, e⟩ := mem_getD hx sNil
      have := allN_iff.1 h3 i hi
      rw [← e]; simpa using this
    rw [this]; rfl
  · have : l.any (sEq v) = true := by
      rw [List.any_eq_true]
      exact ⟨_, getD_mem hm sNil, by simpa using h3⟩
    rw [this]
    show some (decide ((m : Int) ≥ 0)) = _
    simp

/-! ## Values -/
def valsAt (l : List ByteArray) (i : Nat) : Bool := valueOk false (l.getD i sNil) && (i == 0 || sLt (l.getD (i - 1) sNil) (l.getD i sNil))
def valsOk (l : List ByteArray) : Bool := decide (1 ≤ l.length) && (decide (l.length ≤ 8) && allN (valsAt l) l.length)

def SmallV (k : Nat) (l : List ByteArray) : Prop := l.length < k ∧ ∀ v ∈ l, v.size < k
def SmallN (k : Nat) (n : Nd) : Prop := n.1.size < k ∧ SmallV k n.2.2.1
def SmallS (k : Nat) (l : List Nd) : Prop := l.length < k ∧ ∀ n ∈ l, SmallN k n

theorem f79_eq {k : Nat} {l : List ByteArray} (hs : SmallV k l) (hk : k ≤ 1000000) (h4 : 4 < k) : f79 k l = some (valsOk l) := by
  have h := iter_all (step := f79_s4_u k) (k := k) (fun i => (l, l, lLen l, (i : Int), ())) (good := .inr (l, ())) (bad := .inl (false, ())) (valsAt l) l.length
    (fun i hi => by
      show f79_s4 k l l (lLen l) i = _
      unfold f79_s4
      have m1 := hs.2 _ (getD_mem hi sNil)
      simp only [lt_l hi, rangeK_l hi, lAtS, f14_eq (Nat.le_of_lt (Nat.lt_of_lt_of_le m1 hk)) m1 h4, Option.bind_some, cond_true, gt0, next_l i _ hi (by have := hs.1; omega)]
      unfold valsAt
      cases i with
      | zero => cases valueOk false (l.getD 0 sNil) <;> rfl
      | succ j =>
        have hlk := hs.1
        simp only [prev_l j (by omega), rangeK_l (show j < l.length by omega), lAtS, Nat.add_sub_cancel]
        cases valueOk false (l.getD (j + 1) sNil) <;> cases sLt (l.getD j sNil) (l.getD (j + 1) sNil) <;> rfl)
    (by
      show f79_s4 k l l (lLen l) l.length = _
      unfold f79_s4
      rw [lt_l_not]; rfl) hs.1
  show ((iter (f79_s4_u k) k (l, l, lLen l, ((0 : Nat) : Int), ())).bind _) = _
  rw [h]
  unfold valsOk
  have e1 : decide (lLen l ≥ 1) = decide (1 ≤ l.length) := by unfold lLen; congr 1; exact propext ⟨fun h => by omega, fun h => by omega⟩
  have e2 : decide (lLen l ≤ 8) = decide (l.length ≤ 8) := by unfold lLen; congr 1; exact propext ⟨fun h => by omega, fun h => by omega⟩
  cases allN (valsAt l) l.length with
  | true =>
    simp only [if_true, Option.bind_some, e1, e2]
    cases decide (1 ≤ l.length) <;> cases decide (l.length ≤ 8) <;> rfl
  | false =>
    cases decide (1 ≤ l.length) <;> cases decide (l.length ≤ 8) <;> rfl

/-! ## A requirement -/
def needOk (n : Nd) : Bool := keyOk n.1 && (bif (n.2.1 == 0) || (n.2.1 == 1) then valsOk n.2.2.1 else ((n.2.1 == 2) || (n.2.1 == 3)) && (lLen n.2.2.1 == 0))

theorem f59_eq {k : Nat} {n : Nd} (hs : SmallN k n) (hk : k ≤ 1000000) (h4 : 4 < k) : f59 k n = some (needOk n) := by
  unfold f59 f78 needOk
  rw [f12_eq (by have := hs.1; omega) hs.1 h4, f79_eq hs.2 hk h4]
  cases keyOk n.1 <;> cases (n.2.1 == 0) <;> cases (n.2.1 == 1) <;> cases (n.2.1 == 2) <;> cases (n.2.1 == 3) <;> rfl

theorem f62_eq {k : Nat} {n : Nd} (hs : SmallN k n) (hk : k ≤ 1000000) (h4 : 8 < k) : f62 k n = some (needOk n) := by
  unfold f62 needOk
  rw [f13_eq (by have := hs.1; omega) hs.1 (by omega)]
  obtain ⟨key, op, l, ⟨⟩⟩ := n
  obtain ⟨hs1, hs2⟩ := hs
  simp only at hs1 hs2 ⊢
  simp only [Option.bind_some]
  cases keyOk key with
  | false => rfl
  | true =>
    simp only [Bool.not_true, cond_false, Bool.true_and]
    by_cases o1 : op < 0
    · have e0 : (op == 0) = false := by rw [beq_eq_false_iff_ne]; omega
      have e1 : (op == 1) = false := by rw [beq_eq_false_iff_ne]; omega
      have e2 : (op == 2) = false := by rw [beq_eq_false_iff_ne]; omega
      have e3 : (op == 3) = false := by rw [beq_eq_false_iff_ne]; omega
      rw [decide_eq_true o1, e0, e1, e2, e3]; rfl
    · rw [decide_eq_false o1]
      by_cases o2 : op > 3
      · have e0 : (op == 0) = false := by rw [beq_eq_false_iff_ne]; omega
        have e1 : (op == 1) = false := by rw [beq_eq_false_iff_ne]; omega
        have e2 : (op == 2) = false := by rw [beq_eq_false_iff_ne]; omega
        have e3 : (op == 3) = false := by rw [beq_eq_false_iff_ne]; omega
        rw [decide_eq_true o2, e0, e1, e2, e3]; rfl
      · rw [decide_eq_false o2]
        by_cases o3 : op ≥ 2
        · have e0 : (op == 0) = false := by rw [beq_eq_false_iff_ne]; omega
          have e1 : (op == 1) = false := by rw [beq_eq_false_iff_ne]; omega
          have e23 : ((op == 2) || (op == 3)) = true := by
            have : op = 2 ∨ op = 3 := by omega
            rcases this with rfl | rfl <;> rfl
          rw [decide_eq_true o3, e0, e1, e23]; rfl
        · have e01 : ((op == 0) || (op == 1)) = true := by
            have : op = 0 ∨ op = 1 := by omega
            rcases this with rfl | rfl <;> rfl
          rw [decide_eq_false o3, e01]
          simp only [cond_false, cond_true]
          unfold valsOk
          have e1 : decide (lLen l < 1) = !decide (1 ≤ l.length) := by
            unfold lLen
            by_cases h : 1 ≤ l.length
            · rw [decide_eq_true h]; simp; omega
            · rw [decide_eq_false h]; simp; omega
          have e2 : decide (lLen l > 8) = !decide (l.length ≤ 8) := by
            unfold lLen
            by_cases h : l.length ≤ 8
            · rw [decide_eq_true h]; simp; omega
            · rw [decide_eq_false h]; simp; omega
          rw [e1, e2]
          by_cases h1 : 1 ≤ l.length
          · by_cases h8 : l.length ≤ 8
            · rw [decide_eq_true h1, decide_eq_true h8]
              simp only [Bool.not_true, cond_false, Bool.true_and]
              have h := iter_all (step := f62_s16_u k) (k := k) (fun i => ((i : Int), ((key, op, l, ()) : Nd), ())) (good := .inr ()) (bad := .inl (false, ())) (valsAt l) l.length
                (fun i hi => by
                  show f62_s16 k i (key, op, l, ()) = _
                  unfold f62_s16
                  have m1 := hs2.2 _ (getD_mem hi sNil)
                  simp only [lt_l hi, rangeK_l hi, lAtS, f15_eq false (Nat.le_of_lt (Nat.lt_of_lt_of_le m1 hk)) m1 (by omega), Option.bind_some, cond_true, gt0, next_l i _ hi (by omega)]
                  unfold valsAt
                  cases i with
                  | zero => cases valueOk false (l.getD 0 sNil) <;> rfl
                  | succ j =>
                    have hj : j < l.length := by omega
                    have n1 := hs2.2 _ (getD_mem hj sNil)
                    simp only [prev_l j (by omega), rangeK_l hj, lAtS, Nat.add_sub_cancel, f53_eq n1 (Nat.le_of_lt (Nat.lt_of_lt_of_le n1 hk)), Option.bind_some]
                    cases valueOk false (l.getD (j + 1) sNil) <;> cases sLt (l.getD j sNil) (l.getD (j + 1) sNil) <;> rfl)
                (by
                  show f62_s16 k l.length (key, op, l, ()) = _
                  unfold f62_s16
                  simp only [lt_l_not]; rfl) (by omega)
              show ((iter (f62_s16_u k) k (((0 : Nat) : Int), ((key, op, l, ()) : Nd), ())).bind _) = _
              rw [h]
              cases allN (valsAt l) l.length <;> rfl
            · rw [decide_eq_true h1, decide_eq_false h8]; rfl
          · rw [decide_eq_false h1]; rfl

/-! ## A selector -/
def selOk (l : List Nd) : Bool := decide (l.length ≤ 8) && l.all needOk

theorem f57r_eq {k : Nat} {l : List Nd} (hs : SmallS k l) (hk : k ≤ 1000000) (h4 : 8 < k) : f57r k l = some (!(l.all needOk)) := by
  obtain ⟨r, h1, h2⟩ := iter_find (step := f77r_s4_u k) (k := k) (fun i => (l, lLen l, (i : Int), ())) (good := .inr ()) (fun i => .inl ((i : Int), ())) (fun i => needOk (l.getD i zN)) l.length
    (fun i hi => by
      show f77r_s4 k l (lLen l) i = _
      unfold f77r_s4 f58
      have hlk := hs.1
      simp only [lt_l hi, rangeK_l hi, lAtN, cond_true, next_l i _ hi (by omega), f59_eq (hs.2 _ (getD_mem hi zN)) hk (by omega), Option.bind_some]
      cases needOk (l.getD i zN) <;> rfl)
    (by
      show f77r_s4 k l (lLen l) l.length = _
      unfold f77r_s4
      rw [lt_l_not]; rfl) hs.1
  show (((iter (f77r_s4_u k) k (l, lLen l, ((0 : Nat) : Int), ())).bind _).bind _) = _
  rw [h1]
  rcases h2 with ⟨h3, rfl⟩ | ⟨m, hm, h3, h4, rfl⟩
  · rw [← allN_getD needOk zN, h3]; rfl
  · rw [not_all needOk zN l m hm h3]
    show some (decide ((m : Int) ≥ 0)) = _
    simp

theorem f35_eq {k : Nat} {l : List Nd} (hs : SmallS k l) (hk : k ≤ 1000000) (h4 : 8 < k) : f35 k l = some (selOk l) := by
  unfold f35 selOk
  rw [f57r_eq hs hk h4]
  have e2 : decide (lLen l ≤ 8) = decide (l.length ≤ 8) := by unfold lLen; congr 1; exact propext ⟨fun h => by omega, fun h => by omega⟩
  rw [e2]
  cases decide (l.length ≤ 8) <;> cases l.all needOk <;> rfl

theorem f41_eq {k : Nat} {l : List Nd} (hs : SmallS k l) (hk : k ≤ 1000000) (h4 : 8 < k) : f41 k l = some (bif selOk l then lLen l else 0) := by
  unfold f41
  rw [f35_eq hs hk h4]
  cases selOk l <;> rfl

theorem f38_eq {k : Nat} {l : List Nd} (hs : SmallS k l) (hk : k ≤ 1000000) (h4 : 8 < k) : f38 k l = some (selOk l) := by
  have h := iter_all (step := f38_s4_u k) (k := k) (fun i => (l, (i : Int), ())) (good := .inr ()) (bad := .inl (false, ())) (fun i => decide (i < 8) && needOk (l.getD i zN)) l.length
    (fun i hi => by
      show f38_s4 k l i = _
      unfold f38_s4
      have hlk := hs.1
      have e : decide ((i : Int) ≥ 8) = !decide (i < 8) := by
        by_cases h : i < 8
        · rw [decide_eq_true h]; simp; omega
        · rw [decide_eq_false h]; simp; omega
      simp only [lt_l hi, rangeK_l hi, lAtN, cond_true, next_l i _ hi (by omega), f62_eq (hs.2 _ (getD_mem hi zN)) hk h4, Option.bind_some, e]
      cases decide (i < 8) <;> cases needOk (l.getD i zN) <;> rfl)
    (by
      show f38_s4 k l l.length = _
      unfold f38_s4
      rw [lt_l_not]; rfl) hs.1
  show ((iter (f38_s4_u k) k (l, ((0 : Nat) : Int), ())).bind _) = _
  rw [h]
  have e : allN (fun i => decide (i < 8) && needOk (l.getD i zN)) l.length = selOk l := by
    unfold selOk
    rw [← allN_getD needOk zN]
    cases h1 : allN (fun i => decide (i < 8) && needOk (l.getD i zN)) l.length with
    | true =>
      have h2 := allN_iff.1 h1
      symm
      rw [Bool.and_eq_true]
      refine ⟨?_, allN_iff.2 fun i hi => by have := h2 i hi; simp only [Bool.and_eq_true] at this; exact this.2⟩
      rw [decide_eq_true_eq]
      rcases Nat.lt_or_ge 8 l.length with h | h
      · have := h2 8 h; simp at this
      · exact h
    | false =>
      obtain ⟨m, hm, h2, _⟩ := first_bad h1
      symm
      cases h3 : allN (fun i => needOk (l.getD i zN)) l.length with
      | false => simp
      | true =>
        have h5 := allN_iff.1 h3 m hm
        rw [h5] at h2
        simp at h2 ⊢; omega
  rw [e]
  cases selOk l <;> rfl

/-! ## What fits -/
def fitN (n : Nd) (labels : List Pr) : Bool := needOk n && (bif n.2.1 == 0 then (getL labels n.1).2 && n.2.2.1.any (sEq (getL labels n.1).1) else bif n.2.1 == 1 then !((getL labels n.1).2 && n.2.2.1.any (sEq (getL labels n.1).1)) else bif n.2.1 == 2 then (getL labels n.1).2 else !(getL labels n.1).2)
def fitS (l : List Nd) (labels : List Pr) : Bool := selOk l && l.all (fun n => fitN n labels)

theorem f37_eq {k : Nat} {n : Nd} {labels : List Pr} (hs : SmallN k n) (hl : labels.length < k) (hk : k ≤ 1000000) (h4 : 8 < k) : f37 k n labels = some (fitN n labels) := by
  unfold f37 fitN
  rw [f59_eq hs hk (by omega), f24_eq hl hk]
  simp only [Option.bind_some]
  rw [f61_eq hs.2.1 hk]
  generalize getL labels n.1 = g
  obtain ⟨v, ok⟩ := g
  simp only [Option.bind_some]
  cases needOk n <;> cases (n.2.1 == 0) <;> cases (n.2.1 == 1) <;> cases (n.2.1 == 2) <;> cases ok <;> cases n.2.2.1.any (sEq v) <;> rfl

theorem f40_loop {k : Nat} {n : Nd} {v : ByteArray} {ok : Bool} (hl : n.2.2.1.length < k) (hk : k ≤ 1000000) : f40_l12 k v ok false 0 n = some (ok, n.2.2.1.any (sEq v), n, ()) := by
  have h := iter_to (step := f40_s12_u k) (f := fun i => (v, ok, (n.2.2.1.take i).any (sEq v), (i : Int), n, ())) (b := (ok, n.2.2.1.any (sEq v), n, ())) (m := n.2.2.1.length) k 0 (by omega)
    (fun i _ hi => by
      show f40_s12 k v ok ((n.2.2.1.take i).any (sEq v)) i n = _
      unfold f40_s12
      simp only [lt_l hi, rangeK_l hi, lAtS, next_l i _ hi (by omega), take_next hi sNil, List.any_append, sEq_comm _ v, cond_true]
      cases (n.2.2.1.take i).any (sEq v) <;> simp)
    (by
      show f40_s12 k v ok ((n.2.2.1.take n.2.2.1.length).any (sEq v)) n.2.2.1.length n = _
      unfold f40_s12
      rw [lt_l_not, List.take_length]; rfl) (by omega)
  exact h

theorem f40_eq {k : Nat} {n : Nd} {labels : List Pr} (hs : SmallN k n) (hl : labels.length < k) (hk : k ≤ 1000000) (h4 : 8 < k) : f40 k n labels = some (fitN n labels) := by
  unfold f40 fitN
  rw [f62_eq hs hk h4, f25_eq hl hk]
  simp only [Option.bind_some]
  rw [f40_loop hs.2.1 hk]
  generalize getL labels n.1 = g
  obtain ⟨v, ok⟩ := g
  simp only [Option.bind_some]
  cases needOk n <;> cases (n.2.1 == 0) <;> cases (n.2.1 == 1) <;> cases (n.2.1 == 2) <;> cases ok <;> cases n.2.2.1.any (sEq v) <;> rfl

theorem f57f_eq {k : Nat} {l : List Nd} {labels : List Pr} (hs : SmallS k l) (hl : labels.length < k) (hk : k ≤ 1000000) (h4 : 8 < k) : f57f k l labels = some (!(l.all (fun n => fitN n labels))) := by
  obtain ⟨r, h1, h2⟩ := iter_find (step := f77f_s4_u k) (k := k) (fun i => (l, (labels, ()), lLen l, (i : Int), ())) (good := .inr ()) (fun i => .inl ((i : Int), ())) (fun i => fitN (l.getD i zN) labels) l.length
    (fun i hi => by
      show f77f_s4 k l (labels, ()) (lLen l) i = _
      unfold f77f_s4 f60
      have hlk := hs.1
      simp only [lt_l hi, rangeK_l hi, lAtN, cond_true, next_l i _ hi (by omega), f37_eq (hs.2 _ (getD_mem hi zN)) hl hk h4, Option.bind_some]
      cases fitN (l.getD i zN) labels <;> rfl)
    (by
      show f77f_s4 k l (labels, ()) (lLen l) l.length = _
      unfold f77f_s4
      rw [lt_l_not]; rfl) hs.1
  show (((iter (f77f_s4_u k) k (l, (labels, ()), lLen l, ((0 : Nat) : Int), ())).bind _).bind _) = _
  rw [h1]
  rcases h2 with ⟨h3, rfl⟩ | ⟨m, hm, h3, h4, rfl⟩
  · rw [← allN_getD (fun n => fitN n labels) zN, h3]; rfl
  · rw [not_all (fun n => fitN n labels) zN l m hm h3]
    show some (decide ((m : Int) ≥ 0)) = _
    simp

theorem f36_eq {k : Nat} {l : List Nd} {labels : List Pr} (hs : SmallS k l) (hl : labels.length < k) (hk : k ≤ 1000000) (h4 : 8 < k) : f36 k l labels = some (fitS l labels) := by
  unfold f36 fitS
  rw [f35_eq hs hk h4, f57f_eq hs hl hk h4]
  cases selOk l <;> cases l.all (fun n => fitN n labels) <;> rfl

theorem f39_eq {k : Nat} {l : List Nd} {labels : List Pr} (hs : SmallS k l) (hl : labels.length < k) (hk : k ≤ 1000000) (h4 : 8 < k) : f39 k l labels = some (fitS l labels) := by
  unfold f39 fitS
  rw [f38_eq hs hk h4]
  have h := iter_all (step := f39_s8_u k) (k := k) (fun i => (l, labels, (i : Int), ())) (good := .inr ()) (bad := .inl (false, ())) (fun i => fitN (l.getD i zN) labels) l.length
    (fun i hi => by
      show f39_s8 k l labels i = _
      unfold f39_s8
      have hlk := hs.1
      simp only [lt_l hi, rangeK_l hi, lAtN, cond_true, next_l i _ hi (by omega), f40_eq (hs.2 _ (getD_mem hi zN)) hl hk h4, Option.bind_some]
      cases fitN (l.getD i zN) labels <;> rfl)
    (by
      show f39_s8 k l labels l.length = _
      unfold f39_s8
      rw [lt_l_not]; rfl) hs.1
  cases selOk l with
  | false => rfl
  | true =>
    simp only [Option.bind_some, Bool.not_true, cond_false, Bool.true_and]
    show ((iter (f39_s8_u k) k (l, labels, ((0 : Nat) : Int), ())).bind _) = _
    rw [h, ← allN_getD (fun n => fitN n labels) zN]
    cases allN (fun i => fitN (l.getD i zN) labels) l.length <;> rfl

/-! ## Long -/
def longV (l : List ByteArray) : Bool := !(allN (fun j => decide ((l.getD j sNil).size ≤ 200)) l.length)
def longNAt (l : List Nd) (i : Nat) : Bool := decide ((l.getD i zN).1.size ≤ 200) && (decide ((l.getD i zN).2.2.1.length ≤ 20) && !longV (l.getD i zN).2.2.1)
def longS (l : List Nd) : Bool := !(decide (l.length ≤ 20) && allN (longNAt l) l.length)

theorem f30_in {k : Nat} {l : List Nd} {i : Nat} (hi : i < l.length) (h20 : (l.getD i zN).2.2.1.length ≤ 20) (hk : 40 < k) : f30_l18 k l i 0 = some (bif longV (l.getD i zN).2.2.1 then .inl (true, ()) else .inr (l, (i : Int), ())) := by
  have h := iter_all (step := f30_s18_u k) (k := k) (fun j => (l, (i : Int), (j : Int), ())) (good := .inr (l, (i : Int), ())) (bad := .inl (true, ())) (fun j => decide (((l.getD i zN).2.2.1.getD j sNil).size ≤ 200)) (l.getD i zN).2.2.1.length
    (fun j hj => by
      show f30_s18 k l i j = _
      unfold f30_s18
      rw [lAtN, lAtS, s200]
      simp only [rangeK_l hi, lt_l hj, rangeK_l hj, cond_true, next_l j _ hj (by omega)]
      cases decide (((l.getD i zN).2.2.1.getD j sNil).size ≤ 200) <;> rfl)
    (by
      show f30_s18 k l i (l.getD i zN).2.2.1.length = _
      unfold f30_s18
      rw [lAtN]
      simp only [rangeK_l hi]
      rw [lt_l_not]; rfl) (by omega)
  show iter (f30_s18_u k) k (l, (i : Int), ((0 : Nat) : Int), ()) = _
  rw [h]
  unfold longV
  cases allN (fun j => decide (((l.getD i zN).2.2.1.getD j sNil).size ≤ 200)) (l.getD i zN).2.2.1.length <;> rfl

theorem f30_eq {k : Nat} {l : List Nd} (hk : 40 < k) : f30 k l = some (longS l) := by
  unfold f30 longS
  by_cases h20 : l.length ≤ 20
  · have e1 : decide (lLen l > 20) = false := by unfold lLen; simp; omega
    rw [e1]
    simp only [cond_false]
    have h := iter_all (step := f30_s8_u k) (k := k) (fun i => (l, (i : Int), ())) (good := .inr ()) (bad := .inl (true, ())) (longNAt l) l.length
      (fun i hi => by
        show f30_s8 k l i = _
        unfold f30_s8 longNAt
        rw [lAtN, s200]
        simp only [lt_l hi, rangeK_l hi, cond_true]
        by_cases hv : (l.getD i zN).2.2.1.length ≤ 20
        · have e2 : decide (lLen (l.getD i zN).2.2.1 > 20) = false := by unfold lLen; rw [decide_eq_false_iff_not]; omega
          rw [e2, decide_eq_true hv, f30_in hi hv hk]
          have hn := next_l i _ hi (by omega)
          cases decide ((l.getD i zN).1.size ≤ 200) <;> cases longV (l.getD i zN).2.2.1 <;> simp [hn]
        · have e2 : decide (lLen (l.getD i zN).2.2.1 > 20) = true := by unfold lLen; rw [decide_eq_true_eq]; omega
          rw [e2, decide_eq_false hv]
          cases decide ((l.getD i zN).1.size ≤ 200) <;> rfl)
      (by
        show f30_s8 k l l.length = _
        unfold f30_s8
        rw [lt_l_not]; rfl) (by omega)
    show ((iter (f30_s8_u k) k (l, ((0 : Nat) : Int), ())).bind _) = _
    rw [h]
    simp only [h20, decide_true, Bool.true_and]
    cases allN (longNAt l) l.length <;> rfl
  · have e1 : decide (lLen l > 20) = true := by unfold lLen; simp; omega
    rw [e1]
    simp [h20]

theorem longS_small {l : List Nd} (h : longS l = false) {k : Nat} (hk : 200 < k) : SmallS k l := by
  unfold longS at h
  simp only [Bool.not_eq_false', Bool.and_eq_true, decide_eq_true_eq] at h
  refine ⟨by omega, fun n hn => ?_⟩
  obtain ⟨i, hi, e⟩ := mem_getD hn zN
  have := allN_iff.1 h.2 i hi
  unfold longNAt longV at this
  rw [e] at this
  simp only [Bool.and_eq_true, decide_eq_true_eq, Bool.not_not] at this
  refine ⟨by omega, by omega, fun v hv => ?_⟩
  obtain ⟨j, hj, e2⟩ := mem_getD hv sNil
  have h2 := allN_iff.1 this.2.2 j hj
  rw [e2, decide_eq_true_eq] at h2
  omega

theorem f29_true : f29 5000 = some true := by kernel_rfl

/-! ## SelectorFits -/
theorem f8_true (l : List Nd) (n : Nd) (labels : List Pr) : f8 5000 l n labels = some true := by
  unfold f8
  rw [f29_true, f30_eq (by omega), f30_eq (by omega), f16_eq (by omega)]
  simp only [Option.bind_some, Bool.not_true, cond_false]
  cases h1 : longS l with
  | true => rfl
  | false =>
    cases h2 : longS [n] with
    | true => rfl
    | false =>
      cases h3 : longB labels with
      | true => rfl
      | false =>
        simp only [cond_false]
        have s1 := longS_small h1 (k := 5000) (by omega)
        have s2 := (longS_small h2 (k := 5000) (by omega)).2 n (by simp)
        have s3 : labels.length < 5000 := by have := (long_small h3).1; omega
        rw [f38_eq s1 (by omega) (by omega), f35_eq s1 (by omega) (by omega), f36_eq s1 s3 (by omega) (by omega), f39_eq s1 s3 (by omega) (by omega), f37_eq s2 s3 (by omega) (by omega), f40_eq s2 s3 (by omega) (by omega), f41_eq s1 (by omega) (by omega)]
        simp only [Option.bind_some, beq_self_eq_true, cond_true]
        cases selOk l <;> simp

/-! ## SelectorMore -/
theorem xor1 (op : Int) (h : op = 0 ∨ op = 1 ∨ op = 2 ∨ op = 3) : (op = 0 ∧ iXor .i64 op 1 = 1) ∨ (op = 1 ∧ iXor .i64 op 1 = 0) ∨ (op = 2 ∧ iXor .i64 op 1 = 3) ∨ (op = 3 ∧ iXor .i64 op 1 = 2) := by
  rcases h with rfl | rfl | rfl | rfl
  · exact .inl ⟨rfl, by decide⟩
  · exact .inr (.inl ⟨rfl, by decide⟩)
  · exact .inr (.inr (.inl ⟨rfl, by decide⟩))
  · exact .inr (.inr (.inr ⟨rfl, by decide⟩))

theorem needOk_op {n : Nd} (h : needOk n = true) : n.2.1 = 0 ∨ n.2.1 = 1 ∨ n.2.1 = 2 ∨ n.2.1 = 3 := by
  unfold needOk at h
  rw [Bool.and_eq_true] at h
  have h2 := h.2
  by_cases h0 : n.2.1 = 0
  · exact .inl h0
  · by_cases h1 : n.2.1 = 1
    · exact .inr (.inl h1)
    · rw [beq_eq_false_iff_ne.2 h0, beq_eq_false_iff_ne.2 h1] at h2
      simp only [Bool.or_false, cond_false, Bool.and_eq_true, Bool.or_eq_true, beq_iff_eq] at h2
      rcases h2.1 with h | h
      · exact .inr (.inr (.inl h))
      · exact .inr (.inr (.inr h))

theorem contrary {n : Nd} (h : needOk n = true) (labels : List Pr) : fitN ((n.1, (iXor .i64 n.2.1 1), n.2.2) : Nd) labels = !(fitN n labels) := by
  obtain ⟨key, op, vs, ⟨⟩⟩ := n
  unfold fitN
  rw [h]
  have hn : needOk ((key, iXor .i64 op 1, vs, ()) : Nd) = true := by
    unfold needOk at h ⊢
    simp only at h ⊢
    rcases xor1 op (needOk_op (n := (key, op, vs, ())) (by unfold needOk; exact h)) with ⟨rfl, e⟩ | ⟨rfl, e⟩ | ⟨rfl, e⟩ | ⟨rfl, e⟩ <;> rw [e] <;> exact h
  simp only at hn ⊢
  rw [hn]
  rcases xor1 op (needOk_op h) with ⟨rfl, e⟩ | ⟨rfl, e⟩ | ⟨rfl, e⟩ | ⟨rfl, e⟩ <;> rw [e] <;> simp

theorem SmallS.more {k : Nat} {l : List Nd} {n : Nd} (h1 : SmallS k l) (h2 : SmallN k n) (h3 : l.length + 1 < k) : SmallS k (l ++ [n]) := by
  refine ⟨by simpa using h3, fun m hm => ?_⟩
  rcases List.mem_append.1 hm with h | h
  · exact h1.2 m h
  · simp at h; subst h; exact h2

/-- The end of the law: a requirement and its contrary. -/
theorem f7_end {n : Nd} {labels : List Pr} (s2 : SmallS 5000 [n]) (s3 : labels.length < 5000) :
    ((f35 5000 [n]).bind fun r9 => (bif (!r9) then ((f37 5000 n labels).bind fun r10 => (some (!r10))) else ((f37 5000 n labels).bind fun r11 => ((f37 5000 (n.1, (iXor .i64 n.2.1 1), n.2.2) labels).bind fun r12 => (bif (!(r11 == r12)) then ((f36 5000 [] labels).bind fun r13 => (some r13)) else (some false)))))) = some true := by
  have sn := s2.2 n (by simp)
  have sn' : SmallN 5000 ((n.1, (iXor .i64 n.2.1 1), n.2.2) : Nd) := sn
  rw [f35_eq s2 (by omega) (by omega), f37_eq sn s3 (by omega) (by omega), f37_eq sn' s3 (by omega) (by omega), f36_eq (l := []) ⟨by simp, by simp⟩ s3 (by omega) (by omega)]
  simp only [Option.bind_some]
  have e : selOk [n] = needOk n := by unfold selOk; simp
  rw [e]
  cases h : needOk n with
  | false => unfold fitN; rw [h]; rfl
  | true =>
    rw [contrary h]
    cases fitN n labels <;> rfl

theorem f7_true (l : List Nd) (n : Nd) (labels : List Pr) : f7 5000 l n labels = some true := by
  unfold f7
  rw [f29_true, f30_eq (by omega), f30_eq (by omega), f16_eq (by omega)]
  simp only [Option.bind_some, Bool.not_true, cond_false]
  cases h1 : longS l with
  | true => rfl
  | false =>
    cases h2 : longS [n] with
    | true => rfl
    | false =>
      cases h3 : longB labels with
      | true => rfl
      | false =>
        simp only [cond_false]
        have s1 := longS_small h1 (k := 5000) (by omega)
        have s2 := longS_small h2 (k := 5000) (by omega)
        have sn := s2.2 n (by simp)
        have s3 : labels.length < 5000 := by have := (long_small h3).1; omega
        have hl : l.length ≤ 20 := by
          unfold longS at h1
          simp only [Bool.not_eq_false', Bool.and_eq_true, decide_eq_true_eq] at h1
          exact h1.1
        have sm := s1.more sn (by omega)
        rw [List.nil_append, roomK_of (by simp [most]; omega), roomK_of (by simp [most]; omega)]
        have he := f7_end (labels := labels) s2 s3
        rw [f35_eq sm (by omega) (by omega), f36_eq sm s3 (by omega) (by omega), f36_eq s1 s3 (by omega) (by omega)]
        simp only [Option.bind_some]
        cases hm : selOk (l ++ [n]) with
        | false => simp only [cond_false]; exact he
        | true =>
          simp only [cond_true]
          have hsplit : selOk l = true ∧ needOk n = true := by
            unfold selOk at hm ⊢
            simp only [Bool.and_eq_true, decide_eq_true_eq, List.length_append, List.length_cons, List.length_nil, List.all_append, List.all_cons, List.all_nil, Bool.and_true] at hm ⊢
            exact ⟨⟨by omega, hm.2.1⟩, hm.2.2⟩
          have hf : fitS (l ++ [n]) labels = (fitS l labels && fitN n labels) := by
            unfold fitS
            rw [hm, hsplit.1]
            simp [List.all_append]
          rw [hf]
          cases hfl : fitS l labels with
          | true =>
            rw [f37_eq sn s3 (by omega) (by omega)] at he ⊢
            simp only [cond_true, Option.bind_some, Bool.true_and, beq_self_eq_true, Bool.not_true, cond_false] at he ⊢
            exact he
          | false =>
            simp only [cond_false, Bool.false_and, beq_self_eq_true, Bool.not_true]
            exact he

end Go.Proofs.YtjbaeojagkkbgaaDoor

namespace Go.Proofs.YtjbaeojagkkbgaaDoor
open Go Go.PB

/-! ## The library's functions, as they are used -/
theorem f49_gen {k : Nat} {w sep : ByteArray} (h : w.size ≤ 1000000) : f49 k w sep = some (ba (Lib.cut (bl w) (bl sep)).1, ba (Lib.cut (bl w) (bl sep)).2.1, (Lib.cut (bl w) (bl sep)).2.2) := by
  show cutRun w _ = _
  unfold cutRun
  rw [if_pos (by omega)]
  rfl

def piecesC (c : UInt8) (s : ByteArray) : List ByteArray := Lib.splitB (⟨#[c]⟩ : ByteArray) 0 (Lib.countB s ⟨#[c]⟩) s
theorem piecesC_bl (c : UInt8) (s : ByteArray) : (piecesC c s).map bl = cutAt c (bl s) := splitB_cut c s
theorem piecesC_len (c : UInt8) (s : ByteArray) : (piecesC c s).length ≤ s.size + 1 := by
  have := cutAt_len c (bl s)
  rw [← piecesC_bl, List.length_map, bl_len] at this; exact this
theorem piecesC_size {c : UInt8} {s w : ByteArray} (h : w ∈ piecesC c s) : w.size ≤ s.size := by
  have := cutAt_part c (bl s) (bl w) (by rw [← piecesC_bl]; exact List.mem_map_of_mem h)
  rw [bl_len, bl_len] at this; exact this
theorem f48_gen {k : Nat} {c : UInt8} {s : ByteArray} (h : s.size ≤ 1000000) : f48 k s (⟨#[c]⟩ : ByteArray) = some (piecesC c s) := by
  show splitRun s _ = _
  unfold splitRun
  rw [if_pos ⟨by omega, by rw [sz1]; omega⟩]; rfl

theorem map_bl_inj {xs ys : List ByteArray} (h : xs.map bl = ys.map bl) : xs = ys := by
  have h2 := congrArg (List.map ba) h
  rw [List.map_map, List.map_map] at h2
  have e : ∀ zs : List ByteArray, zs.map (ba ∘ bl) = zs := fun zs => by
    conv => rhs; rw [← List.map_id zs]
    exact List.map_congr_left fun z _ => ba_bl z
  rw [e, e] at h2; exact h2

def trimP (s : ByteArray) : ByteArray := ba (Lib.trimS (bl s) [40, 41])
theorem f76_eq {k : Nat} {s : ByteArray} (h : s.size ≤ 1000000) : f76 k s (⟨#[40, 41]⟩ : ByteArray) = some (trimP s) := by
  show trimRun s _ = _
  unfold trimRun
  rw [if_pos ⟨by omega, by decide, by decide⟩]; rfl

theorem dropWhile_len {α : Type} (p : α → Bool) : ∀ l : List α, (l.dropWhile p).length ≤ l.length
  | [] => by simp
  | x :: l => by
    have := dropWhile_len p l
    rw [List.dropWhile_cons]
    split
    · simp only [List.length_cons]; omega
    · simp
theorem trimP_size (s : ByteArray) : (trimP s).size ≤ s.size := by
  unfold trimP Lib.trimS Lib.trimLeftS Lib.trimRightS
  rw [size_ba]
  have h1 := dropWhile_len (fun x => [40, 41].contains x) ((bl s).reverse)
  have h2 := dropWhile_len (fun x => [40, 41].contains x) ((bl s).reverse.dropWhile (fun x => [40, 41].contains x)).reverse
  simp only [List.length_reverse] at h1 h2
  rw [bl_len] at h1
  omega

theorem trim_in {x : List UInt8} (h1 : (40 : UInt8) ∉ x) (h2 : (41 : UInt8) ∉ x) : Lib.trimS (40 :: (x ++ [41])) [40, 41] = x := by
  have hno : ∀ b ∈ x, ([40, 41] : List UInt8).contains b = false := by
    intro b hb
    simp only [List.contains_eq_mem, List.mem_cons, List.not_mem_nil, or_false, decide_eq_false_iff_not, not_or]
    exact ⟨fun e => h1 (e ▸ hb), fun e => h2 (e ▸ hb)⟩
  have hd : ∀ y : List UInt8, (∀ b ∈ y, ([40, 41] : List UInt8).contains b = false) → y.dropWhile (fun b => ([40, 41] : List UInt8).contains b) = y := by
    intro y hy
    cases y with
    | nil => rfl
    | cons b r => rw [List.dropWhile_cons, hy b (by simp)]; simp
  have hd2 : ∀ y : List UInt8, (∀ b ∈ y, ([40, 41] : List UInt8).contains b = false) → (y ++ [40]).dropWhile (fun b => ([40, 41] : List UInt8).contains b) = if y = [] then [] else y ++ [40] := by
    intro y hy
    cases y with
    | nil => rfl
    | cons b r => rw [List.cons_append, List.dropWhile_cons, hy b (by simp)]; simp
  unfold Lib.trimS Lib.trimLeftS Lib.trimRightS
  have e1 : (40 :: (x ++ [41])).reverse = 41 :: (x.reverse ++ [40]) := by simp
  rw [e1, List.dropWhile_cons]
  have c41 : ([40, 41] : List UInt8).contains 41 = true := by decide
  have c40 : ([40, 41] : List UInt8).contains 40 = true := by decide
  rw [if_pos c41, hd2 x.reverse (fun b hb => hno b (List.mem_reverse.1 hb))]
  by_cases hx : x = []
  · subst hx; rfl
  · rw [if_neg (by simpa using hx)]
    have e2 : (x.reverse ++ [40]).reverse = 40 :: x := by simp
    rw [e2, List.dropWhile_cons, if_pos c40, hd x hno]

/-! ## A requirement's text -/
def joinV (l : List ByteArray) : List UInt8 := Lib.join (l.map bl) [44]
def txt (n : Nd) : List UInt8 := bif n.2.1 == 0 then bl n.1 ++ ([32, 105, 110, 32] ++ (40 :: (joinV n.2.2.1 ++ [41]))) else bif n.2.1 == 1 then bl n.1 ++ ([32, 110, 111, 116, 105, 110, 32] ++ (40 :: (joinV n.2.2.1 ++ [41]))) else bif n.2.1 == 3 then 33 :: bl n.1 else bl n.1

theorem joinV_len {k : Nat} {l : List ByteArray} (h : SmallV k l) (hk : k ≤ 1000000) : (joinV l).length ≤ 1000001000000 := by
  have := join_len [44] 1000000 (l.map bl) (fun q hq => by
    obtain ⟨v, hv, rfl⟩ := List.mem_map.1 hq
    have := h.2 v hv
    rw [bl_len]; omega)
  rw [List.length_map] at this
  unfold joinV
  simp only [List.length_cons, List.length_nil] at this
  have h1 : l.length ≤ 1000000 := by have := h.1; omega
  have h2 : l.length * (1000000 + (0 + 1)) ≤ 1000000 * 1000001 := Nat.mul_le_mul h1 (by omega)
  omega

theorem f47_gen {k : Nat} {c : UInt8} {l : List ByteArray} (h1 : l.length ≤ 1000000) (h2 : (Lib.join (l.map bl) [c]).length ≤ 140737488355328) : f47 k l (⟨#[c]⟩ : ByteArray) = some (ba (Lib.join (l.map bl) [c])) := by
  show joinRun l _ = _
  unfold joinRun
  rw [if_pos ⟨by omega, h2⟩]; rfl

theorem bl4 : bl (⟨#[32, 105, 110, 32]⟩ : ByteArray) = [32, 105, 110, 32] := rfl
theorem bl7 : bl (⟨#[32, 110, 111, 116, 105, 110, 32]⟩ : ByteArray) = [32, 110, 111, 116, 105, 110, 32] := rfl

theorem f55_eq {k : Nat} {n : Nd} (hs : SmallN k n) (hk : k ≤ 1000000) : f55 k n = some (ba (txt n)) := by
  unfold f55 txt
  have hj := joinV_len hs.2 hk
  rw [f47_gen (by have := hs.2.1; omega) (by unfold joinV at hj; omega)]
  have hsz : (ba (Lib.join (n.2.2.1.map bl) [44])).size ≤ 1000001000000 := by rw [size_ba]; exact hj
  have hkey := hs.1
  have s4 : (⟨#[32, 105, 110, 32]⟩ : ByteArray).size = 4 := rfl
  have s7 : (⟨#[32, 110, 111, 116, 105, 110, 32]⟩ : ByteArray).size = 7 := rfl
  simp only [Option.bind_some]
  rw [roomK_of (by rw [sz1]; omega), roomK_of (by rw [ByteArray.size_append, sz1, sz1]; omega)]
  rw [roomK_of (by rw [s4]; omega), roomK_of (by simp only [ByteArray.size_append, sz1, s4]; omega), roomK_of (by rw [s7]; omega), roomK_of (by simp only [ByteArray.size_append, sz1, s7]; omega), roomK_of (by rw [sz1]; omega)]
  cases (n.2.1 == 0) with
  | true =>
    simp only [cond_true]
    congr 1
    apply bl_inj
    simp only [bl_append, bl_ba, bl1, bl4, bl7, joinV]
    simp
  | false =>
    cases (n.2.1 == 1) with
    | true =>
      simp only [cond_true, cond_false]
      congr 1
      apply bl_inj
      simp only [bl_append, bl_ba, bl1, bl4, bl7, joinV]
      simp
    | false =>
      cases (n.2.1 == 3) with
      | true =>
        simp only [cond_true, cond_false]
        rfl
      | false => simp only [cond_false, ba_bl]

theorem valsOk_all {l : List ByteArray} (h : valsOk l = true) : 1 ≤ l.length ∧ l.length ≤ 8 ∧ ∀ v ∈ l, valueOk false v = true := by
  unfold valsOk at h
  simp only [Bool.and_eq_true, decide_eq_true_eq] at h
  refine ⟨h.1, h.2.1, fun v hv => ?_⟩
  obtain ⟨i, hi, e⟩ := mem_getD hv sNil
  have := allN_iff.1 h.2.2 i hi
  unfold valsAt at this
  rw [e, Bool.and_eq_true] at this
  exact this.1

theorem joinV_no {l : List ByteArray} (h : ∀ v ∈ l, valueOk false v = true) {c : UInt8} (hc : (c.toNat : Int) = 61 ∨ (c.toNat : Int) = 59 ∨ (c.toNat : Int) = 32 ∨ (c.toNat : Int) = 33 ∨ (c.toNat : Int) = 40 ∨ (c.toNat : Int) = 41) (hc44 : c ≠ 44) : c ∉ joinV l := by
  unfold joinV
  have hv : ∀ v ∈ l, c ∉ bl v := fun v hv => value_no (h v hv) (by rcases hc with h | h | h | h | h | h <;> simp [h])
  cases l with
  | nil => simp [Lib.join_nil]
  | cons v r =>
    rw [List.map_cons, Lib.join_cons]
    simp only [List.mem_append, not_or]
    refine ⟨hv v (by simp), ?_⟩
    unfold Lib.joinTail
    simp only [List.mem_flatten, List.mem_map, not_exists, not_and]
    rintro x ⟨y, ⟨u, hu, rfl⟩, rfl⟩ hx
    rcases List.mem_append.1 hx with hx | hx
    · simp at hx; exact hc44 hx
    · exact hv u (by simp [hu]) hx

theorem joinV_small {l : List ByteArray} (h : valsOk l = true) : (joinV l).length ≤ 512 := by
  obtain ⟨h1, h2, h3⟩ := valsOk_all h
  have := join_len [44] 63 (l.map bl) (fun q hq => by
    obtain ⟨v, hv, rfl⟩ := List.mem_map.1 hq
    rw [bl_len]; exact valueOk_size (h3 v hv))
  rw [List.length_map] at this
  unfold joinV
  simp only [List.length_cons, List.length_nil] at this
  omega

theorem needOk_cases {n : Nd} (h : needOk n = true) : keyOk n.1 = true ∧ (((n.2.1 = 0 ∨ n.2.1 = 1) ∧ valsOk n.2.2.1 = true) ∨ ((n.2.1 = 2 ∨ n.2.1 = 3) ∧ n.2.2.1 = [])) := by
  have ho := needOk_op h
  unfold needOk at h
  rw [Bool.and_eq_true] at h
  refine ⟨h.1, ?_⟩
  have h2 := h.2
  rcases ho with e | e | e | e
  · exact .inl ⟨.inl e, by rw [e] at h2; exact h2⟩
  · exact .inl ⟨.inr e, by rw [e] at h2; exact h2⟩
  · refine .inr ⟨.inl e, ?_⟩
    rw [e] at h2
    have : (lLen n.2.2.1 == 0) = true := h2
    rw [beq_iff_eq] at this
    unfold lLen at this
    exact List.length_eq_zero_iff.1 (by omega)
  · refine .inr ⟨.inr e, ?_⟩
    rw [e] at h2
    have : (lLen n.2.2.1 == 0) = true := h2
    rw [beq_iff_eq] at this
    unfold lLen at this
    exact List.length_eq_zero_iff.1 (by omega)

theorem txt_small {n : Nd} (h : needOk n = true) : 1 ≤ (txt n).length ∧ (txt n).length ≤ 600 := by
  obtain ⟨h1, h2⟩ := needOk_cases h
  have hk := keyOk_size h1
  unfold txt
  rcases h2 with ⟨h2, h3⟩ | ⟨h2, h3⟩
  · have := joinV_small h3
    rcases h2 with e | e <;> rw [e] <;> simp [bl_len] <;> omega
  · rcases h2 with e | e <;> rw [e] <;> simp [bl_len] <;> omega

theorem txt_no59 {n : Nd} (h : needOk n = true) : (59 : UInt8) ∉ txt n := by
  obtain ⟨h1, h2⟩ := needOk_cases h
  have hk : (59 : UInt8) ∉ bl n.1 := key_no h1 (by decide)
  unfold txt
  rcases h2 with ⟨h2, h3⟩ | ⟨h2, h3⟩
  · have hj : (59 : UInt8) ∉ joinV n.2.2.1 := joinV_no (valsOk_all h3).2.2 (by decide) (by decide)
    rcases h2 with e | e <;> rw [e] <;> simp [hk, hj]
  · rcases h2 with e | e <;> rw [e] <;> simp [hk]

/-! ## Print -/
def printS (l : List Nd) : List UInt8 := Lib.join (l.map txt) [59]

theorem sel_all {l : List Nd} (h : selOk l = true) : l.length ≤ 8 ∧ ∀ n ∈ l, needOk n = true := by
  unfold selOk at h
  simp only [Bool.and_eq_true, decide_eq_true_eq, List.all_eq_true] at h
  exact h

theorem printS_part {l : List Nd} (h : selOk l = true) (i : Nat) : (Lib.join ((l.take i).map txt) [59]).length ≤ 4808 := by
  obtain ⟨h1, h2⟩ := sel_all h
  have := join_len [59] 600 ((l.take i).map txt) (fun q hq => by
    obtain ⟨n, hn, rfl⟩ := List.mem_map.1 hq
    exact (txt_small (h2 n (List.mem_of_mem_take hn))).2)
  rw [List.length_map, List.length_take] at this
  simp only [List.length_cons, List.length_nil] at this
  have h3 : min i l.length ≤ 8 := by omega
  omega
theorem printS_len {l : List Nd} (h : selOk l = true) : (printS l).length ≤ 4808 := by
  have := printS_part h l.length
  rw [List.take_length] at this; exact this

theorem f31_loop {k : Nat} {l : List Nd} (hs : SmallS k l) (hk : k ≤ 1000000) : f31_l10 k l (lLen l) 0 [] = some (l.map (fun n => ba (txt n)), ()) := by
  have hlk := hs.1
  have h := iter_to (step := f31_s10_u k) (f := fun i => (l, lLen l, (i : Int), (l.take i).map (fun n => ba (txt n)), ())) (b := (l.map (fun n => ba (txt n)), ())) (m := l.length) k 0 (by omega)
    (fun i _ hi => by
      show f31_s10 k l (lLen l) i ((l.take i).map (fun n => ba (txt n))) = _
      unfold f31_s10
      rw [lt_l hi, rangeK_l hi, lAtN, next_l i _ hi (by omega), f55_eq (hs.2 _ (getD_mem hi zN)) hk]
      simp only [cond_true, Option.bind_some]
      rw [roomK_of (by simp [most]; omega), map_take_next hi zN])
    (by
      show f31_s10 k l (lLen l) l.length ((l.take l.length).map (fun n => ba (txt n))) = _
      unfold f31_s10
      rw [lt_l_not, List.take_length]; rfl) hlk
  exact h

theorem map_txt (l : List Nd) : (l.map (fun n => ba (txt n))).map bl = l.map txt := by
  rw [List.map_map]
  exact List.map_congr_left fun n _ => bl_ba _

theorem f31_eq {k : Nat} {l : List Nd} (hs : SmallS k l) (hk : k ≤ 1000000) (h4 : 8 < k) : f31 k l = some (if selOk l = true then (ba (printS l), 0) else (sNil, 4)) := by
  unfold f31
  rw [f35_eq hs hk h4]
  cases hr : selOk l with
  | false => rfl
  | true =>
    simp only [Option.bind_some, Bool.not_true, cond_false, if_true]
    rw [f31_loop hs hk]
    simp only [Option.bind_some]
    have hp := printS_len hr
    rw [f47_gen (by rw [List.length_map]; have := hs.1; omega) (by rw [map_txt]; unfold printS at hp; omega), map_txt]
    rfl

/-! ## What is read -/
def need (w : ByteArray) : Nd :=
  match bl w with
  | 33 :: r => (ba r, 3, [], ())
  | _ => bif (Lib.cut (bl w) [32]).2.2 then
      (ba (Lib.cut (bl w) [32]).1, (bif decide ((Lib.cut (Lib.cut (bl w) [32]).2.1 [32]).1 = [110, 111, 116, 105, 110]) then 1 else 0), piecesC 44 (trimP (ba (Lib.cut (Lib.cut (bl w) [32]).2.1 [32]).2.1)), ())
    else (ba (Lib.cut (bl w) [32]).1, 2, [], ())

theorem f75_eq {k : Nat} {w : ByteArray} (h : w.size ≤ 1000000) : f75 k w (⟨#[33]⟩ : ByteArray) = some (match bl w with | 33 :: r => (ba r, true) | _ => (w, false)) := by
  unfold f75 f89 f108
  have e1 : sLen (⟨#[33]⟩ : ByteArray) = ((1 : Nat) : Int) := rfl
  rw [e1]
  cases hw : bl w with
  | nil =>
    have h0 := bl_eq_nil.1 hw
    have : decide (sLen w ≥ ((1 : Nat) : Int)) = false := by unfold sLen; simp; omega
    rw [this]; rfl
  | cons b r =>
    have hsz : w.size = r.length + 1 := by rw [← bl_len, hw]; rfl
    have : decide (sLen w ≥ ((1 : Nat) : Int)) = true := by unfold sLen; simp; omega
    rw [this]
    have c1 : ∀ {R : Type} (K : Option R), cutK 0 ((1 : Nat) : Int) (sLen w) K = K := fun K => if_pos ⟨by omega, by omega, by unfold sLen; omega⟩
    have c2 : ∀ {R : Type} (K : Option R), cutK ((1 : Nat) : Int) (sLen w) (sLen w) K = K := fun K => if_pos ⟨by omega, by unfold sLen; omega, by omega⟩
    simp only [cond_true, c1, c2, Option.bind_some]
    have s1 : bl (sCut w 0 ((1 : Nat) : Int)) = [b] := by
      unfold sCut bl
      rw [ByteArray.data_extract]
      simp only [Array.toList_extract, List.extract_eq_take_drop]
      show List.take _ (List.drop _ (bl w)) = _
      rw [hw]; rfl
    have s2 : sCut w ((1 : Nat) : Int) (sLen w) = ba r := by
      apply bl_inj
      rw [bl_ba]
      unfold sCut bl
      rw [ByteArray.data_extract]
      simp only [Array.toList_extract, List.extract_eq_take_drop]
      show List.take _ (List.drop _ (bl w)) = _
      rw [hw]
      have : (sLen w).toNat = r.length + 1 := by unfold sLen; omega
      rw [this]
      simp
    rw [sEq_bl, s1, s2]
    have e33 : bl (⟨#[33]⟩ : ByteArray) = [33] := rfl
    rw [e33]
    by_cases hb : b = 33
    · subst hb; rfl
    · have : decide ([b] = [33]) = false := by simp [hb]
      rw [this]
      simp only [Bool.not_false, cond_true, Option.bind_some]
      congr 1
      split
      · rename_i r' e; simp at e; exact absurd e.1 hb
      · rfl

theorem cutC_len (c : UInt8) (s : List UInt8) : (Lib.cut s [c]).1.length ≤ s.length ∧ (Lib.cut s [c]).2.1.length ≤ s.length := by
  by_cases h : c ∈ s
  · obtain ⟨a, b, rfl, ha⟩ := first_of h
    rw [cut_at b ha]
    simp
    omega
  · rw [cut_none h]; simp

theorem f56_eq {k : Nat} {w : ByteArray} (h : w.size ≤ 1000000) : f56 k w = some (need w) := by
  unfold f56 need
  rw [f75_eq h]
  simp only [Option.bind_some]
  split
  · rfl
  · simp only [cond_false]
    have e32 : bl (⟨#[32]⟩ : ByteArray) = [32] := rfl
    have l1 := cutC_len 32 (bl w)
    rw [bl_len] at l1
    rw [f49_gen h, e32]
    simp only [Option.bind_some]
    cases (Lib.cut (bl w) [32]).2.2 with
    | false => rfl
    | true =>
      simp only [Bool.not_true, cond_false, cond_true]
      have l2 := cutC_len 32 (Lib.cut (bl w) [32]).2.1
      rw [f49_gen (by rw [size_ba]; omega), e32, bl_ba]
      simp only [Option.bind_some]
      rw [f76_eq (by rw [size_ba]; omega)]
      simp only [Option.bind_some]
      rw [f48_gen (by have := trimP_size (ba (Lib.cut (Lib.cut (bl w) [32]).2.1 [32]).2.1); rw [size_ba] at this; omega)]
      simp only [Option.bind_some]
      have e5 : bl (⟨#[110, 111, 116, 105, 110]⟩ : ByteArray) = [110, 111, 116, 105, 110] := rfl
      rw [sEq_bl, bl_ba, e5]
      cases decide ((Lib.cut (Lib.cut (bl w) [32]).2.1 [32]).1 = [110, 111, 116, 105, 110]) <;> rfl

theorem need_small {k : Nat} {w : ByteArray} (h : w.size + 1 < k) : SmallN k (need w) := by
  unfold need
  have l1 := cutC_len 32 (bl w)
  rw [bl_len] at l1
  have l2 := cutC_len 32 (Lib.cut (bl w) [32]).2.1
  split
  · rename_i r e
    have := congrArg List.length e
    rw [bl_len] at this
    simp only [List.length_cons] at this
    exact ⟨by rw [size_ba]; omega, by simp; omega, by simp⟩
  · cases (Lib.cut (bl w) [32]).2.2 with
    | false => exact ⟨by simp only [cond_false]; rw [size_ba]; omega, by simp only [cond_false]; simp; omega, by simp⟩
    | true =>
      simp only [cond_true]
      have h1 := trimP_size (ba (Lib.cut (Lib.cut (bl w) [32]).2.1 [32]).2.1)
      rw [size_ba] at h1
      have h2 := piecesC_len 44 (trimP (ba (Lib.cut (Lib.cut (bl w) [32]).2.1 [32]).2.1))
      exact ⟨by simp only; rw [size_ba]; omega, by simp only; omega, fun v hv => by have := piecesC_size hv; omega⟩

/-- A requirement is read from its text as it was. -/
theorem need_txt {n : Nd} (h : needOk n = true) {w : ByteArray} (hw : bl w = txt n) : need w = n := by
  obtain ⟨h1, h2⟩ := needOk_cases h
  obtain ⟨key, op, vs, ⟨⟩⟩ := n
  simp only at h1 h2
  have hk := keyOk_size h1
  have k33 : (33 : UInt8) ∉ bl key := key_no h1 (by decide)
  have k32 : (32 : UInt8) ∉ bl key := key_no h1 (by decide)
  have hne : bl key ≠ [] := fun e => hk.2 (bl_eq_nil.1 e)
  obtain ⟨b0, r0, e0⟩ := List.exists_cons_of_ne_nil hne
  have hb0 : b0 ≠ 33 := fun e => k33 (by rw [e0, e]; simp)
  have start : ∀ y : List UInt8, bl w = bl key ++ y → need w = bif (Lib.cut (bl w) [32]).2.2 then
      ((ba (Lib.cut (bl w) [32]).1, (bif decide ((Lib.cut (Lib.cut (bl w) [32]).2.1 [32]).1 = [110, 111, 116, 105, 110]) then 1 else 0), piecesC 44 (trimP (ba (Lib.cut (Lib.cut (bl w) [32]).2.1 [32]).2.1)), ()) : Nd)
    else (ba (Lib.cut (bl w) [32]).1, 2, [], ()) := by
    intro y hy
    unfold need
    split
    · rename_i r e
      rw [hy, e0] at e
      simp at e
      exact absurd e.1 hb0
    · rfl
  rcases h2 with ⟨h2, h3⟩ | ⟨h2, h3⟩
  · obtain ⟨v1, v8, va⟩ := valsOk_all h3
    have j40 : (40 : UInt8) ∉ joinV vs := joinV_no va (by decide) (by decide)
    have j41 : (41 : UInt8) ∉ joinV vs := joinV_no va (by decide) (by decide)
    have hp : piecesC 44 (trimP (ba (40 :: (joinV vs ++ [41])))) = vs := by
      apply map_bl_inj
      rw [piecesC_bl]
      unfold trimP
      rw [bl_ba, bl_ba, trim_in j40 j41]
      unfold joinV
      refine cutAt_join (by intro e; simp at e; subst e; simp at v1) fun q hq => ?_
      obtain ⟨v, hv, rfl⟩ := List.mem_map.1 hq
      exact value_no (va v hv) (by decide)
    rcases h2 with e | e
    · subst e
      have hw' : bl w = bl key ++ (32 :: ([105, 110] ++ (32 :: (40 :: (joinV vs ++ [41]))))) := hw
      rw [start _ hw', hw', cut_at _ k32]
      simp only [cond_true]
      rw [cut_at (a := [105, 110]) _ (by decide)]
      simp only [hp, ba_bl]
      rfl
    · subst e
      have hw' : bl w = bl key ++ (32 :: ([110, 111, 116, 105, 110] ++ (32 :: (40 :: (joinV vs ++ [41]))))) := hw
      rw [start _ hw', hw', cut_at _ k32]
      simp only [cond_true]
      rw [cut_at (a := [110, 111, 116, 105, 110]) _ (by decide)]
      simp only [hp, ba_bl]
      rfl
  · subst h3
    rcases h2 with e | e
    · subst e
      have hw' : bl w = bl key := hw
      rw [start [] (by simpa using hw'), hw', cut_none k32]
      simp only [cond_false, ba_bl]
    · subst e
      have hw' : bl w = 33 :: bl key := hw
      unfold need
      rw [hw']
      simp only [ba_bl]

/-! ## Parse -/
def needsL (s : ByteArray) : List Nd := (piecesC 59 s).map need
def goodS (s : ByteArray) : Bool := decide ((piecesC 59 s).length ≤ 8) && (selOk (needsL s) && decide (printS (needsL s) = bl s))
def parseS (s : ByteArray) : List Nd × Int := if s.size = 0 then ([], 0) else if goodS s = true then (needsL s, 0) else ([], 4)

theorem f33_loop {k : Nat} {s : ByteArray} {ws : List ByteArray} (hw : ∀ w ∈ ws, w.size ≤ 1000000) (hl : ws.length < k) (hk : k ≤ 1000000) :
    f33_l10 k s ws (lLen ws) 0 [] = some (if decide (ws.length ≤ 8) = true then .inr (s, ws.map need, ()) else .inl ([], 4, ())) := by
  have h := iter_all (step := f33_s10_u k) (k := k) (fun i => (s, ws, lLen ws, (i : Int), (ws.take i).map need, ())) (good := .inr (s, ws.map need, ())) (bad := .inl ([], 4, ())) (fun i => decide (i < 8)) ws.length
    (fun i hi => by
      show f33_s10 k s ws (lLen ws) i ((ws.take i).map need) = _
      unfold f33_s10
      have hm := hw _ (getD_mem hi sNil)
      have e8 : decide (lLen ((ws.take i).map need) ≥ 8) = !decide (i < 8) := by
        unfold lLen
        rw [List.length_map, List.length_take, Nat.min_eq_left (by omega)]
        by_cases h : i < 8
        · rw [decide_eq_true h]; simp; omega
        · rw [decide_eq_false h]; simp; omega
      rw [lt_l hi, rangeK_l hi, lAtS, f56_eq hm, next_l i _ hi (by omega), e8]
      simp only [cond_true, Option.bind_some]
      rw [roomK_of (by simp [most]; omega), map_take_next hi sNil]
      cases decide (i < 8) <;> rfl)
    (by
      show f33_s10 k s ws (lLen ws) ws.length ((ws.take ws.length).map need) = _
      unfold f33_s10
      rw [lt_l_not, List.take_length]; rfl) hl
  have e : allN (fun i => decide (i < 8)) ws.length = decide (ws.length ≤ 8) := by
    by_cases h : ws.length ≤ 8
    · rw [decide_eq_true h]; exact allN_iff.2 fun i hi => by simp; omega
    · rw [decide_eq_false h]
      cases ha : allN (fun i => decide (i < 8)) ws.length with
      | false => rfl
      | true => have := allN_iff.1 ha 8 (by omega); simp at this
  rw [e] at h
  exact h

theorem f33_eq {k : Nat} {s : ByteArray} (hs : s.size + 2 < k) (hk : k ≤ 1000000) (h4 : 40 < k) : f33 k s = some (parseS s) := by
  unfold f33 parseS
  rw [sNil_eq]
  by_cases h0 : s.size = 0
  · simp [h0]
  · simp only [h0, decide_false, cond_false, if_false]
    rw [f48_gen (by omega)]
    simp only [Option.bind_some]
    rw [f33_loop (fun w hw => by have := piecesC_size hw; omega) (by have := piecesC_len 59 s; omega) hk]
    unfold goodS
    cases ha : decide ((piecesC 59 s).length ≤ 8) with
    | false => rfl
    | true =>
      simp only [if_true, Option.bind_some, Bool.true_and]
      have hsm : SmallS k (needsL s) := by
        refine ⟨by unfold needsL; rw [List.length_map]; have := piecesC_len 59 s; omega, fun n hn => ?_⟩
        obtain ⟨w, hw, rfl⟩ := List.mem_map.1 hn
        have h1 := piecesC_size hw
        exact need_small (by omega)
      show ((f31 k (needsL s)).bind _) = _
      rw [f31_eq hsm hk (by omega)]
      cases hg : selOk (needsL s) with
      | false => rfl
      | true =>
        simp only [if_true, Option.bind_some, Bool.true_and, bne_self_eq_false, cond_false]
        rw [sEq_bl, bl_ba]
        cases decide (printS (needsL s) = bl s) <;> rfl

theorem parseS_print {l : List Nd} (h : selOk l = true) : parseS (ba (printS l)) = (l, 0) := by
  obtain ⟨h1, h2⟩ := sel_all h
  unfold parseS
  rw [size_ba]
  cases l with
  | nil => rfl
  | cons n0 r =>
    have hne : ¬ (printS (n0 :: r)).length = 0 := by
      unfold printS
      rw [List.map_cons, Lib.join_cons, List.length_append]
      have := (txt_small (h2 n0 (by simp))).1
      omega
    rw [if_neg hne]
    generalize hL : (n0 :: r) = L at *
    have hLne : L ≠ [] := by rw [← hL]; simp
    have hp : (piecesC 59 (ba (printS L))).map bl = L.map txt := by
      rw [piecesC_bl, bl_ba]
      refine cutAt_join (by simpa using hLne) fun q hq => ?_
      obtain ⟨n, hn, rfl⟩ := List.mem_map.1 hq
      exact txt_no59 (h2 n hn)
    have hlen : (piecesC 59 (ba (printS L))).length = L.length := by
      have := congrArg List.length hp
      simpa using this
    have hmap : needsL (ba (printS L)) = L := by
      unfold needsL
      refine List.ext_getElem (by rw [List.length_map]; exact hlen) fun i hi hi2 => ?_
      rw [List.getElem_map]
      refine need_txt (h2 _ (List.getElem_mem hi2)) ?_
      have h5 := congrArg (fun x => x[i]?) hp
      simp only [List.getElem?_map, List.getElem?_eq_getElem hi2] at h5
      rw [List.getElem?_eq_getElem (by rw [hlen]; exact hi2)] at h5
      simpa using h5
    unfold goodS
    rw [hmap, h, hlen, bl_ba]
    simp [h1]

theorem print_parseS {s : ByteArray} (h : (parseS s).2 = 0) : selOk (parseS s).1 = true ∧ ba (printS (parseS s).1) = s := by
  unfold parseS at h ⊢
  by_cases h0 : s.size = 0
  · simp only [h0, if_true]
    refine ⟨rfl, bl_inj ?_⟩
    rw [bl_ba, bl_eq_nil.2 h0]; rfl
  · simp only [h0, if_false] at h ⊢
    cases hg : goodS s with
    | false => rw [hg] at h; simp at h
    | true =>
      simp only [if_true]
      unfold goodS at hg
      simp only [Bool.and_eq_true, decide_eq_true_eq] at hg
      exact ⟨hg.2.1, bl_inj (by rw [bl_ba, hg.2.2])⟩

theorem parseS_bad {s : ByteArray} (h : (parseS s).2 ≠ 0) : parseS s = ([], 4) := by
  unfold parseS at h ⊢
  by_cases h0 : s.size = 0
  · rw [if_pos h0] at h; exact absurd rfl h
  · rw [if_neg h0] at h ⊢
    cases hg : goodS s with
    | false => simp
    | true => rw [hg] at h; simp at h

end Go.Proofs.YtjbaeojagkkbgaaDoor

namespace Go.Proofs.YtjbaeojagkkbgaaDoor
open Go Go.PB

theorem bl5 : bl (⟨#[32, 105, 110, 32, 40]⟩ : ByteArray) = [32, 105, 110, 32, 40] := rfl
theorem bl8 : bl (⟨#[32, 110, 111, 116, 105, 110, 32, 40]⟩ : ByteArray) = [32, 110, 111, 116, 105, 110, 32, 40] := rfl
theorem sz5 : (⟨#[32, 105, 110, 32, 40]⟩ : ByteArray).size = 5 := rfl
theorem sz8 : (⟨#[32, 110, 111, 116, 105, 110, 32, 40]⟩ : ByteArray).size = 8 := rfl

theorem vals_part {l : List ByteArray} (h : valsOk l = true) (j : Nat) : (Lib.join ((l.take j).map bl) [44]).length ≤ 512 := by
  obtain ⟨h1, h2, h3⟩ := valsOk_all h
  have := join_len [44] 63 ((l.take j).map bl) (fun q hq => by
    obtain ⟨v, hv, rfl⟩ := List.mem_map.1 hq
    rw [bl_len]; exact valueOk_size (h3 v (List.mem_of_mem_take hv)))
  rw [List.length_map, List.length_take] at this
  simp only [List.length_cons, List.length_nil] at this
  have h4 : min j l.length ≤ 8 := by omega
  omega

theorem f32_in {k : Nat} {l : List Nd} {i : Nat} (t4 : ByteArray) (hi : i < l.length) (hl : l.length ≤ 8) (hv : valsOk (l.getD i zN).2.2.1 = true) (ht : t4.size ≤ 100000) (hk : 40 < k) :
    f32_l34 k l t4 i 0 = some (l, ba (bl t4 ++ joinV (l.getD i zN).2.2.1), (i : Int), ()) := by
  obtain ⟨v1, v8, va⟩ := valsOk_all hv
  have h := iter_to (step := f32_s34_u k) (f := fun j => (l, ba (bl t4 ++ Lib.join (((l.getD i zN).2.2.1.take j).map bl) [44]), (i : Int), (j : Int), ())) (b := (l, ba (bl t4 ++ joinV (l.getD i zN).2.2.1), (i : Int), ())) (m := (l.getD i zN).2.2.1.length) k 0 (by omega)
    (fun j _ hj => by
      show f32_s34 k l (ba (bl t4 ++ Lib.join (((l.getD i zN).2.2.1.take j).map bl) [44])) i j = _
      unfold f32_s34
      have hp := vals_part hv j
      have hs : (ba (bl t4 ++ Lib.join (((l.getD i zN).2.2.1.take j).map bl) [44])).size ≤ 100600 := by rw [size_ba, List.length_append, bl_len]; omega
      have hvj := valueOk_size (va _ (getD_mem hj sNil))
      rw [lAtN, lAtS, gt0, map_take_next hj sNil]
      simp only [rangeK_l hi, lt_l hj, rangeK_l hj, cond_true, next_l j _ hj (by omega)]
      cases j with
      | zero =>
        simp only [beq_self_eq_true, Bool.not_true, cond_false]
        rw [roomK_of (by omega)]
        congr 4
        apply bl_inj
        simp only [bl_append, bl_ba, List.take_zero, List.map_nil, List.nil_append, Lib.join_nil, Lib.join_one, List.append_nil]
      | succ j =>
        have hb : (j + 1 == 0) = false := rfl
        simp only [hb, Bool.not_false, cond_true]
        rw [roomK_of (by rw [sz1]; omega), roomK_of (by rw [ByteArray.size_append, sz1]; omega)]
        congr 4
        apply bl_inj
        rw [bl_ba, join_snoc _ _ _ (by
          intro e
          have := congrArg List.length e
          rw [List.length_map, List.length_take] at this
          simp only [List.length_nil] at this; omega)]
        simp only [bl_append, bl_ba, bl1, List.append_assoc])
    (by
      show f32_s34 k l (ba (bl t4 ++ Lib.join (((l.getD i zN).2.2.1.take (l.getD i zN).2.2.1.length).map bl) [44])) i (l.getD i zN).2.2.1.length = _
      unfold f32_s34
      rw [lAtN, List.take_length]
      simp only [rangeK_l hi]
      rw [lt_l_not]; rfl) (by omega)
  have e : ba (bl t4 ++ Lib.join (((l.getD i zN).2.2.1.take 0).map bl) [44]) = t4 := by
    apply bl_inj
    rw [bl_ba]; simp [Lib.join_nil]
  rw [e] at h
  exact h

theorem f32_loop {k : Nat} {l : List Nd} (h : selOk l = true) (hk : 40 < k) : f32_l10 k l sNil 0 = some (ba (printS l), ()) := by
  obtain ⟨h1, h2⟩ := sel_all h
  have hpart := printS_part h
  have hmain := iter_to (step := f32_s10_u k) (f := fun i => (l, ba (Lib.join ((l.take i).map txt) [59]), (i : Int), ())) (b := (ba (printS l), ())) (m := l.length) k 0 (by omega)
    (fun i _ hi => by
      show f32_s10 k l (ba (Lib.join ((l.take i).map txt) [59])) i = _
      unfold f32_s10
      have hp := hpart i
      have hs : (ba (Lib.join ((l.take i).map txt) [59])).size ≤ 4808 := by rw [size_ba]; exact hp
      have hn := h2 _ (getD_mem hi zN)
      obtain ⟨hkey, hc⟩ := needOk_cases hn
      have hks := (keyOk_size hkey).1
      have hin : ∀ t4 : ByteArray, t4.size ≤ 100000 → valsOk (l.getD i zN).2.2.1 = true → f32_l34 k l t4 i 0 = some (l, ba (bl t4 ++ joinV (l.getD i zN).2.2.1), (i : Int), ()) := fun t4 ht hv => f32_in t4 hi h1 hv ht hk
      rw [lt_l hi, lAtN, gt0, map_take_next hi zN]
      simp only [rangeK_l hi, cond_true, next_l i _ hi (by omega)]
      generalize l.getD i zN = n at *
      obtain ⟨key, op, vs, ⟨⟩⟩ := n
      simp only at hks hc hin ⊢
      have a03 : ((0 : Int) == 3) = false := rfl
      have a13 : ((1 : Int) == 3) = false := rfl
      have a23 : ((2 : Int) == 3) = false := rfl
      have a10 : ((1 : Int) == 0) = false := rfl
      have a20 : ((2 : Int) == 0) = false := rfl
      have a30 : ((3 : Int) == 0) = false := rfl
      have a21 : ((2 : Int) == 1) = false := rfl
      have a31 : ((3 : Int) == 1) = false := rfl
      have b0 : decide ((0 : Int) ≥ 2) = false := rfl
      have b1 : decide ((1 : Int) ≥ 2) = false := rfl
      have b2 : decide ((2 : Int) ≥ 2) = true := rfl
      have b3 : decide ((3 : Int) ≥ 2) = true := rfl
      have hsn : ∀ x : List UInt8, i ≠ 0 → Lib.join ((l.take i).map txt ++ [x]) [59] = Lib.join ((l.take i).map txt) [59] ++ [59] ++ x := fun x hi0 => join_snoc _ _ _ (by
          intro e
          have := congrArg List.length e
          rw [List.length_map, List.length_take] at this
          simp only [List.length_nil] at this; omega)
      have hz : ∀ x : List UInt8, i = 0 → Lib.join ((l.take i).map txt ++ [x]) [59] = x ∧ Lib.join ((l.take i).map txt) [59] = [] := fun x hi0 => by
        subst hi0
        exact ⟨by simp [Lib.join_one], by simp [Lib.join_nil]⟩
      by_cases hi0 : i = 0
      · rw [beq_iff_eq.2 hi0]
        simp only [Bool.not_true, cond_false]
        rcases hc with ⟨rfl | rfl, hv⟩ | ⟨rfl | rfl, hv⟩
        · -- in
          simp only [a03, b0, beq_self_eq_true, cond_true, cond_false]
          rw [roomK_of (by (try simp only [ByteArray.size_append, sz1, sz5, sz8]); omega)]
          rw [roomK_of (by (try simp only [ByteArray.size_append, sz1, sz5, sz8]); omega)]
          rw [hin _ (by (try simp only [ByteArray.size_append, sz1, sz5, sz8]); omega) hv]
          simp only [Option.bind_some, next_l i _ hi (show l.length ≤ 4294967296 by omega)]
          rw [roomK_of (by rw [sz1, size_ba, List.length_append, bl_len]; simp only [ByteArray.size_append, sz1, sz5, sz8]; have := joinV_small hv; omega)]
          congr 4
          apply bl_inj
          rw [bl_ba]
          rw [(hz _ hi0).1]
          simp only [txt, beq_self_eq_true, cond_true, cond_false, bl_append, bl_ba, bl1, bl5, bl8, (hz [] hi0).2]
          try simp [List.append_assoc]
        · -- not in
          simp only [a13, b1, a10, cond_true, cond_false]
          rw [roomK_of (by (try simp only [ByteArray.size_append, sz1, sz5, sz8]); omega)]
          rw [roomK_of (by (try simp only [ByteArray.size_append, sz1, sz5, sz8]); omega)]
          rw [hin _ (by (try simp only [ByteArray.size_append, sz1, sz5, sz8]); omega) hv]
          simp only [Option.bind_some, next_l i _ hi (show l.length ≤ 4294967296 by omega)]
          rw [roomK_of (by rw [sz1, size_ba, List.length_append, bl_len]; simp only [ByteArray.size_append, sz1, sz5, sz8]; have := joinV_small hv; omega)]
          congr 4
          apply bl_inj
          rw [bl_ba]
          rw [(hz _ hi0).1]
          simp only [txt, a10, beq_self_eq_true, cond_true, cond_false, bl_append, bl_ba, bl1, bl5, bl8, (hz [] hi0).2]
          try simp [List.append_assoc]
        · -- there
          simp only [a23, b2, cond_true, cond_false]
          rw [roomK_of (by (try simp only [ByteArray.size_append, sz1, sz5, sz8]); omega)]
          congr 4
          apply bl_inj
          rw [bl_ba]
          rw [(hz _ hi0).1]
          simp only [txt, a20, a21, a23, cond_true, cond_false, bl_append, bl_ba, bl1, bl5, bl8, (hz [] hi0).2]
          try simp [List.append_assoc]
        · -- not there
          simp only [beq_self_eq_true, b3, cond_true, cond_false]
          rw [roomK_of (by (try simp only [ByteArray.size_append, sz1, sz5, sz8]); omega)]
          rw [roomK_of (by (try simp only [ByteArray.size_append, sz1, sz5, sz8]); omega)]
          congr 4
          apply bl_inj
          rw [bl_ba]
          rw [(hz _ hi0).1]
          simp only [txt, a30, a31, beq_self_eq_true, cond_true, cond_false, bl_append, bl_ba, bl1, bl5, bl8, (hz [] hi0).2]
          try simp [List.append_assoc]
      · rw [beq_eq_false_iff_ne.2 hi0]
        simp only [Bool.not_false, cond_true]
        rcases hc with ⟨rfl | rfl, hv⟩ | ⟨rfl | rfl, hv⟩
        · -- in
          simp only [a03, b0, beq_self_eq_true, cond_true, cond_false]
          rw [roomK_of (by (try simp only [ByteArray.size_append, sz1, sz5, sz8]); omega)]
          rw [roomK_of (by (try simp only [ByteArray.size_append, sz1, sz5, sz8]); omega)]
          rw [roomK_of (by (try simp only [ByteArray.size_append, sz1, sz5, sz8]); omega)]
          rw [hin _ (by (try simp only [ByteArray.size_append, sz1, sz5, sz8]); omega) hv]
          simp only [Option.bind_some, next_l i _ hi (show l.length ≤ 4294967296 by omega)]
          rw [roomK_of (by rw [sz1, size_ba, List.length_append, bl_len]; simp only [ByteArray.size_append, sz1, sz5, sz8]; have := joinV_small hv; omega)]
          congr 4
          apply bl_inj
          rw [bl_ba]
          rw [hsn _ hi0]
          simp only [txt, beq_self_eq_true, cond_true, cond_false, bl_append, bl_ba, bl1, bl5, bl8]
          try simp [List.append_assoc]
        · -- not in
          simp only [a13, b1, a10, cond_true, cond_false]
          rw [roomK_of (by (try simp only [ByteArray.size_append, sz1, sz5, sz8]); omega)]
          rw [roomK_of (by (try simp only [ByteArray.size_append, sz1, sz5, sz8]); omega)]
          rw [roomK_of (by (try simp only [ByteArray.size_append, sz1, sz5, sz8]); omega)]
          rw [hin _ (by (try simp only [ByteArray.size_append, sz1, sz5, sz8]); omega) hv]
          simp only [Option.bind_some, next_l i _ hi (show l.length ≤ 4294967296 by omega)]
          rw [roomK_of (by rw [sz1, size_ba, List.length_append, bl_len]; simp only [ByteArray.size_append, sz1, sz5, sz8]; have := joinV_small hv; omega)]
          congr 4
          apply bl_inj
          rw [bl_ba]
          rw [hsn _ hi0]
          simp only [txt, a10, beq_self_eq_true, cond_true, cond_false, bl_append, bl_ba, bl1, bl5, bl8]
          try simp [List.append_assoc]
        · -- there
          simp only [a23, b2, cond_true, cond_false]
          rw [roomK_of (by (try simp only [ByteArray.size_append, sz1, sz5, sz8]); omega)]
          rw [roomK_of (by (try simp only [ByteArray.size_append, sz1, sz5, sz8]); omega)]
          congr 4
          apply bl_inj
          rw [bl_ba]
          rw [hsn _ hi0]
          simp only [txt, a20, a21, a23, cond_true, cond_false, bl_append, bl_ba, bl1, bl5, bl8]
          try simp [List.append_assoc]
        · -- not there
          simp only [beq_self_eq_true, b3, cond_true, cond_false]
          rw [roomK_of (by (try simp only [ByteArray.size_append, sz1, sz5, sz8]); omega)]
          rw [roomK_of (by (try simp only [ByteArray.size_append, sz1, sz5, sz8]); omega)]
          rw [roomK_of (by (try simp only [ByteArray.size_append, sz1, sz5, sz8]); omega)]
          congr 4
          apply bl_inj
          rw [bl_ba]
          rw [hsn _ hi0]
          simp only [txt, a30, a31, beq_self_eq_true, cond_true, cond_false, bl_append, bl_ba, bl1, bl5, bl8]
          try simp [List.append_assoc])
    (by
      show f32_s10 k l (ba (Lib.join ((l.take l.length).map txt) [59])) l.length = _
      unfold f32_s10
      rw [lt_l_not, List.take_length]; rfl) (by omega)
  exact hmain

theorem f32_eq {k : Nat} {l : List Nd} (hs : SmallS k l) (hk : k ≤ 1000000) (h4 : 40 < k) : f32 k l = some (if selOk l = true then (ba (printS l), 0) else (sNil, 4)) := by
  unfold f32
  rw [f38_eq hs hk (by omega)]
  cases hr : selOk l with
  | false => rfl
  | true =>
    simp only [Option.bind_some, Bool.not_true, cond_false, if_true]
    rw [f32_loop hr h4]
    rfl

/-! ## Same -/
theorem f34_refl_in {k : Nat} {l : List Nd} {i : Nat} (hi : i < l.length) (hv : (l.getD i zN).2.2.1.length < k) (hk : k ≤ 1000000) : f34_l18 k l l i 0 = some (.inr (l, l, (i : Int), ())) := by
  have h := iter_to (step := f34_s18_u k) (f := fun j => (l, l, (i : Int), (j : Int), ())) (b := .inr (l, l, (i : Int), ())) (m := (l.getD i zN).2.2.1.length) k 0 (by omega)
    (fun j _ hj => by
      show f34_s18 k l l i j = _
      unfold f34_s18
      rw [lAtN, lAtS, sEq_iff.2 rfl]
      simp only [rangeK_l hi, lt_l hj, rangeK_l hj, cond_true, next_l j _ hj (by omega)]
      rfl)
    (by
      show f34_s18 k l l i (l.getD i zN).2.2.1.length = _
      unfold f34_s18
      rw [lAtN]
      simp only [rangeK_l hi]
      rw [lt_l_not]; rfl) (by omega)
  exact h

theorem f34_refl {k : Nat} {l : List Nd} (hs : SmallS k l) (hk : k ≤ 1000000) : f34 k l l = some true := by
  unfold f34
  rw [bne_self_eq_false]
  simp only [cond_false]
  have hlk := hs.1
  have h := iter_to (step := f34_s8_u k) (f := fun i => (l, l, (i : Int), ())) (b := .inr ()) (m := l.length) k 0 (by omega)
    (fun i _ hi => by
      show f34_s8 k l l i = _
      unfold f34_s8
      rw [lt_l hi, lAtN, sEq_iff.2 rfl, bne_self_eq_false, bne_self_eq_false, f34_refl_in hi (hs.2 _ (getD_mem hi zN)).2.1 hk]
      simp only [rangeK_l hi, cond_true, Bool.not_true, cond_false, Option.bind_some, next_l i _ hi (by omega)])
    (by
      show f34_s8 k l l l.length = _
      unfold f34_s8
      rw [lt_l_not]; rfl) hlk
  have h' : f34_l8 k l l 0 = _ := h
  rw [h']; rfl

theorem f29_true' : f29 20000 = some true := by kernel_rfl

/-- The end of the law: any text is a selector's, or none's. -/
theorem f6_end {k : Nat} {s : ByteArray} (hs : s.size + 2 < k) (hk : k ≤ 1000000) (h4 : 5000 < k) :
    ((f33 k s).bind fun r7 => (bif (r7.2 != 0) then (bif (r7.2 == 4) then (some ((lLen r7.1) == 0)) else (some false)) else ((f32 k r7.1).bind fun r8 => (bif (r8.2 == 0) then (some (sEq r8.1 s)) else (some false))))) = some true := by
  rw [f33_eq hs hk (by omega), Option.bind_some]
  by_cases h0 : (parseS s).2 = 0
  · obtain ⟨h1, h2⟩ := print_parseS h0
    have hsm : SmallS k (parseS s).1 := by
      obtain ⟨h3, h5⟩ := sel_all h1
      refine ⟨by omega, fun n hn => ?_⟩
      obtain ⟨h6, h7⟩ := needOk_cases (h5 n hn)
      have := keyOk_size h6
      refine ⟨by omega, ?_⟩
      rcases h7 with ⟨_, h8⟩ | ⟨_, h8⟩
      · obtain ⟨v1, v8, va⟩ := valsOk_all h8
        exact ⟨by omega, fun v hv => by have := valueOk_size (va v hv); omega⟩
      · rw [h8]; exact ⟨by simp; omega, by simp⟩
    rw [f32_eq hsm hk (by omega), h0, h1]
    simp only [bne_self_eq_false, cond_false, if_true, Option.bind_some, beq_self_eq_true, cond_true]
    rw [h2, sEq_iff.2 rfl]
  · rw [parseS_bad h0]; rfl

theorem f6_true (l : List Nd) (s : ByteArray) : f6 20000 l s = some true := by
  unfold f6
  rw [f29_true', f30_eq (by omega)]
  simp only [Option.bind_some, Bool.not_true, cond_false]
  cases hl : longS l with
  | true => rfl
  | false =>
    simp only [cond_false]
    by_cases h4 : s.size ≤ 6000
    · have e : decide (sLen s > 6000) = false := by unfold sLen; simp; omega
      rw [e]
      simp only [cond_false]
      have hsm := longS_small hl (k := 20000) (by omega)
      rw [f31_eq hsm (by omega) (by omega), f32_eq hsm (by omega) (by omega)]
      simp only [Option.bind_some]
      rw [sEq_iff.2 rfl, bne_self_eq_false]
      simp only [Bool.not_true, cond_false]
      cases hr : selOk l with
      | false =>
        simp only [Bool.false_eq_true, if_false]
        exact f6_end (by omega) (by omega) (by omega)
      | true =>
        simp only [if_true, beq_self_eq_true, cond_true]
        have hp := printS_len hr
        rw [f33_eq (by rw [size_ba]; omega) (by omega) (by omega), parseS_print hr]
        simp only [Option.bind_some, bne_self_eq_false, cond_false]
        rw [f34_refl hsm (by omega)]
        simp only [Option.bind_some, Bool.not_true, cond_false]
        exact f6_end (by omega) (by omega) (by omega)
    · have e : decide (sLen s > 6000) = true := by unfold sLen; simp; omega
      rw [e]; rfl

end Go.Proofs.YtjbaeojagkkbgaaDoor
