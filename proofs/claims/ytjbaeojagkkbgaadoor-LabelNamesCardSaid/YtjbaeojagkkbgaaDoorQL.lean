/-
  The plain law of LabelNames.
-/
import Derived.Test.YtjbaeojagkkbgaaDoorQC
import Derived.Test.YtjbaeojagkkbgaaDoorQT
set_option linter.unusedVariables false
namespace Go.Proofs.YtjbaeojagkkbgaaDoor
open Go Go.PB

def smallB (c : Int) : Bool := (decide (c ≥ 97) && decide (c ≤ 122)) || (decide (c ≥ 48) && decide (c ≤ 57))
def plainB (c : Int) : Bool := smallB c || (decide (c ≥ 65) && decide (c ≤ 90))

theorem f43_eq (k : Nat) (c : Int) : f43 k c = some (smallB c) := by
  unfold f43 smallB
  cases decide (c ≥ 97) <;> cases decide (c ≤ 122) <;> cases decide (c ≥ 48) <;> rfl
theorem f44_eq (k : Nat) (c : Int) : f44 k c = some (smallB c) := f43_eq k c
theorem f45_eq (k : Nat) (c : Int) : f45 k c = some (plainB c) := by
  unfold f45 plainB
  rw [f43_eq]
  simp only [Option.bind_some]
  cases smallB c <;> cases decide (c ≥ 65) <;> rfl
theorem f46_eq (k : Nat) (c : Int) : f46 k c = some (plainB c) := f45_eq k c

theorem small_big {c : Int} (h : 128 ≤ c) : smallB c = false := by unfold smallB; simp; omega
theorem plain_big {c : Int} (h : 128 ≤ c) : plainB c = false := by unfold plainB; rw [small_big h]; simp; omega

/-- Does a sign stand in a text of single bytes? -/
def hasB (m : ByteArray) (c : Int) : Bool := !(allN (fun i => !((byteAt m i : Int) == c)) m.size)

theorem f63_eq {k : Nat} {m : ByteArray} (hm : ∀ i, i < m.size → byteAt m i < 128) (hk : m.size < k) (c : Int) : f63 k m c = some (hasB m c) := by
  have h := iter_all (step := f63_s4_u k) (k := k) (fun i => (c, m, i, ())) (good := .inr ()) (bad := .inl (true, ())) (fun i => !((byteAt m i : Int) == c)) m.size
    (fun i hi => by
      show f63_s4 k c m i = _
      unfold f63_s4
      rw [if_pos hi, runeAt_small (hm i hi), runeTo_small (hm i hi)]
      cases ((byteAt m i : Int) == c) <;> rfl)
    (by
      show f63_s4 k c m m.size = _
      unfold f63_s4
      rw [if_neg (by omega)]) hk
  show ((iter (f63_s4_u k) k (c, m, 0, ())).bind _) = _
  rw [h]
  unfold hasB
  cases allN (fun i => !((byteAt m i : Int) == c)) m.size <;> rfl

theorem has_big {m : ByteArray} (hm : ∀ i, i < m.size → byteAt m i < 128) {c : Int} (h : 128 ≤ c) : hasB m c = false := by
  unfold hasB
  rw [allN_iff.2 fun i hi => by have := hm i hi; simp; omega]
  rfl

/-- What stands at place i of a text is as it should be. -/
def okAt (e : Int → Bool) (m : ByteArray) (s : ByteArray) (i : Nat) : Bool :=
  e (byteAt s i) || (!(i == 0) && !(i + 1 == s.size) && hasB m (byteAt s i))

theorem edge_eq (s : ByteArray) (hs : s.size ≤ 1000) (i : Nat) (hi : i < s.size) : (((i : Nat) : Int) == w64 (sLen s - 1)) = (i + 1 == s.size) := by
  rw [w64_of (by unfold sLen; omega) (by unfold sLen; omega)]
  unfold sLen
  by_cases h : i + 1 = s.size
  · rw [beq_iff_eq.2 h, beq_iff_eq.2 (by omega)]
  · rw [beq_eq_false_iff_ne.2 h, beq_eq_false_iff_ne.2 (by omega)]

theorem zero_eq (i : Nat) : ((i : Int) == 0) = (i == 0) := by
  by_cases h : i = 0
  · subst h; rfl
  · rw [beq_eq_false_iff_ne.2 h, beq_eq_false_iff_ne.2 (by omega)]

theorem f42s_eq {k : Nat} {s m : ByteArray} (hm : ∀ i, i < m.size → byteAt m i < 128) (hmk : m.size < k) (hs : s.size ≤ 1000) (hk : 1000 < k) : f42s k s m = some (decide (s.size ≤ 63) && allN (okAt smallB m s) s.size) := by
  unfold f42s
  by_cases h63 : s.size ≤ 63
  · have e1 : decide (sLen s > 63) = false := by unfold sLen; simp; omega
    rw [e1]
    simp only [cond_false]
    have h := iter_all (step := f42s_s8_u k) (k := k) (fun i => (s, m, s, i, ())) (good := .inr ()) (bad := .inl (false, ())) (okAt smallB m s) s.size
      (fun i hi => by
        show f42s_s8 k s m s i = _
        unfold f42s_s8
        rw [if_pos hi, zero_eq, edge_eq s hs i hi, f43_eq, f63_eq hm hmk]
        unfold okAt
        rcases Nat.lt_or_ge (byteAt s i) 128 with hb | hb
        · rw [runeAt_small hb, runeTo_small hb]
          cases (i == 0) <;> cases (i + 1 == s.size) <;> cases smallB (byteAt s i) <;> cases hasB m (byteAt s i) <;> rfl
        · have h1 := runeAt_big hb
          rw [small_big h1, has_big hm h1, small_big (c := (byteAt s i : Int)) (by omega), has_big hm (c := (byteAt s i : Int)) (by omega)]
          cases (i == 0) <;> cases (i + 1 == s.size) <;> rfl)
      (by
        show f42s_s8 k s m s s.size = _
        unfold f42s_s8
        rw [if_neg (by omega)]) (by omega)
    show ((iter (f42s_s8_u k) k (s, m, s, 0, ())).bind _) = _
    rw [h]
    simp only [h63, decide_true, Bool.true_and]
    cases allN (okAt smallB m s) s.size <;> rfl
  · have e1 : decide (sLen s > 63) = true := by unfold sLen; simp; omega
    rw [e1]
    simp [h63]

theorem f42p_eq {k : Nat} {s m : ByteArray} (hm : ∀ i, i < m.size → byteAt m i < 128) (hmk : m.size < k) (hs : s.size ≤ 1000) (hk : 1000 < k) : f42p k s m = some (decide (s.size ≤ 63) && allN (okAt plainB m s) s.size) := by
  unfold f42p
  by_cases h63 : s.size ≤ 63
  · have e1 : decide (sLen s > 63) = false := by unfold sLen; simp; omega
    rw [e1]
    simp only [cond_false]
    have h := iter_all (step := f42p_s8_u k) (k := k) (fun i => (s, m, s, i, ())) (good := .inr ()) (bad := .inl (false, ())) (okAt plainB m s) s.size
      (fun i hi => by
        show f42p_s8 k s m s i = _
        unfold f42p_s8
        rw [if_pos hi, zero_eq, edge_eq s hs i hi, f45_eq, f63_eq hm hmk]
        unfold okAt
        rcases Nat.lt_or_ge (byteAt s i) 128 with hb | hb
        · rw [runeAt_small hb, runeTo_small hb]
          cases (i == 0) <;> cases (i + 1 == s.size) <;> cases plainB (byteAt s i) <;> cases hasB m (byteAt s i) <;> rfl
        · have h1 := runeAt_big hb
          rw [plain_big h1, has_big hm h1, plain_big (c := (byteAt s i : Int)) (by omega), has_big hm (c := (byteAt s i : Int)) (by omega)]
          cases (i == 0) <;> cases (i + 1 == s.size) <;> rfl)
      (by
        show f42p_s8 k s m s s.size = _
        unfold f42p_s8
        rw [if_neg (by omega)]) (by omega)
    show ((iter (f42p_s8_u k) k (s, m, s, 0, ())).bind _) = _
    rw [h]
    simp only [h63, decide_true, Bool.true_and]
    cases allN (okAt plainB m s) s.size <;> rfl
  · have e1 : decide (sLen s > 63) = true := by unfold sLen; simp; omega
    rw [e1]
    simp [h63]

end Go.Proofs.YtjbaeojagkkbgaaDoor

namespace Go.Proofs.YtjbaeojagkkbgaaDoor
open Go Go.PB

def m3 : ByteArray := ⟨#[45, 95, 46]⟩
def m4 : ByteArray := ⟨#[45, 95, 46, 47]⟩
def m1 : ByteArray := ⟨#[45]⟩

theorem has1 (c : Int) : hasB m1 c = (c == 45) := by
  have h : hasB m1 c = !(true && !(((45 : Nat) : Int) == c)) := rfl
  rw [h, show (((45 : Nat) : Int) == c) = (c == 45) from BEq.comm]
  cases (c == 45) <;> rfl
theorem has3 (c : Int) : hasB m3 c = ((c == 45) || ((c == 95) || (c == 46))) := by
  have h : hasB m3 c = !(((true && !(((45 : Nat) : Int) == c)) && !(((95 : Nat) : Int) == c)) && !(((46 : Nat) : Int) == c)) := rfl
  rw [h, show (((45 : Nat) : Int) == c) = (c == 45) from BEq.comm, show (((95 : Nat) : Int) == c) = (c == 95) from BEq.comm, show (((46 : Nat) : Int) == c) = (c == 46) from BEq.comm]
  cases (c == 45) <;> cases (c == 95) <;> cases (c == 46) <;> rfl
theorem has4 (c : Int) : hasB m4 c = ((c == 45) || ((c == 95) || ((c == 46) || (c == 47)))) := by
  have h : hasB m4 c = !((((true && !(((45 : Nat) : Int) == c)) && !(((95 : Nat) : Int) == c)) && !(((46 : Nat) : Int) == c)) && !(((47 : Nat) : Int) == c)) := rfl
  rw [h, show (((45 : Nat) : Int) == c) = (c == 45) from BEq.comm, show (((95 : Nat) : Int) == c) = (c == 95) from BEq.comm, show (((46 : Nat) : Int) == c) = (c == 46) from BEq.comm, show (((47 : Nat) : Int) == c) = (c == 47) from BEq.comm]
  cases (c == 45) <;> cases (c == 95) <;> cases (c == 46) <;> cases (c == 47) <;> rfl

theorem m1_small : ∀ i, i < m1.size → byteAt m1 i < 128 := by
  have : m1.size = 1 := rfl
  intro i hi; match i, (by omega : i < 1) with
  | 0, _ => decide
theorem m3_small : ∀ i, i < m3.size → byteAt m3 i < 128 := by
  have : m3.size = 3 := rfl
  intro i hi; match i, (by omega : i < 3) with
  | 0, _ => decide
  | 1, _ => decide
  | 2, _ => decide
theorem m4_small : ∀ i, i < m4.size → byteAt m4 i < 128 := by
  have : m4.size = 4 := rfl
  intro i hi; match i, (by omega : i < 4) with
  | 0, _ => decide
  | 1, _ => decide
  | 2, _ => decide
  | 3, _ => decide

theorem ne_not (a b : Int) : (a != b) = !(a == b) := rfl

theorem next64 (i n : Nat) (hi : i < n) (hn : n ≤ 1000) : w64 ((i : Int) + 1) = ((i + 1 : Nat) : Int) := by
  rw [w64_of (by omega) (by omega)]; omega

def valueOk (slash : Bool) (s : ByteArray) : Bool := decide (s.size ≤ 63) && allN (okAt plainB (bif slash then m4 else m3) s) s.size

theorem f15_eq {k : Nat} {s : ByteArray} (slash : Bool) (hs : s.size ≤ 1000) (hk : 1000 < k) : f15 k s slash = some (valueOk slash s) := by
  unfold f15 valueOk
  by_cases h63 : s.size ≤ 63
  · have e1 : decide (sLen s > 63) = false := by unfold sLen; simp; omega
    rw [e1]
    simp only [cond_false]
    have h := iter_all (step := f15_s8_u k) (k := k) (fun i => (s, slash, (i : Int), ())) (good := .inr ()) (bad := .inl (false, ())) (okAt plainB (bif slash then m4 else m3) s) s.size
      (fun i hi => by
        show f15_s8 k s slash i = _
        unfold f15_s8
        have e2 : decide ((i : Int) < sLen s) = true := by unfold sLen; simp; omega
        have e3 : ∀ {α : Type} (x : Option α), rangeK (i : Int) (sLen s) x = x := fun x => by unfold rangeK; rw [if_pos (by unfold sLen; omega)]
        rw [e2]
        simp only [cond_true, e3, f46_eq, Option.bind_some, zero_eq, edge_eq s hs i hi, sAt_nat, next64 i s.size hi hs, ne_not]
        unfold okAt
        cases slash with
        | true =>
          simp only [cond_true, has4]
          cases plainB (byteAt s i) <;> cases (i == 0) <;> cases (i + 1 == s.size) <;> cases ((byteAt s i : Int) == 45) <;> cases ((byteAt s i : Int) == 95) <;> cases ((byteAt s i : Int) == 46) <;> cases ((byteAt s i : Int) == 47) <;> rfl
        | false =>
          simp only [cond_false, has3]
          cases plainB (byteAt s i) <;> cases (i == 0) <;> cases (i + 1 == s.size) <;> cases ((byteAt s i : Int) == 45) <;> cases ((byteAt s i : Int) == 95) <;> cases ((byteAt s i : Int) == 46) <;> rfl)
      (by
        show f15_s8 k s slash s.size = _
        unfold f15_s8
        have e2 : decide ((s.size : Int) < sLen s) = false := by unfold sLen; simp
        rw [e2]; rfl) (by omega)
    show ((iter (f15_s8_u k) k (s, slash, ((0 : Nat) : Int), ())).bind _) = _
    rw [h]
    simp only [h63, decide_true, Bool.true_and]
    cases allN (okAt plainB (bif slash then m4 else m3) s) s.size <;> rfl
  · have e1 : decide (sLen s > 63) = true := by unfold sLen; simp; omega
    rw [e1]
    simp [h63]

theorem f14_eq {k : Nat} {s : ByteArray} (hs : s.size ≤ 1000) (hk : 1000 < k) : f14 k s = some (valueOk false s) := by
  show (f42p k s m3).bind _ = _
  rw [f42p_eq m3_small (by show 3 < k; omega) hs hk]
  rfl

theorem sNil_eq (s : ByteArray) : sEq s sNil = decide (s.size = 0) := by
  cases h : decide (s.size = 0) with
  | true =>
    have h' : s.size = 0 := by simpa using h
    rw [sEq_iff]; exact bytes_nil h'
  | false =>
    have h' : ¬ s.size = 0 := by simpa using h
    cases he : sEq s sNil with
    | false => rfl
    | true => rw [sEq_iff] at he; exact absurd (by rw [he]; rfl) h'

def keyOk (s : ByteArray) : Bool := !decide (s.size = 0) && valueOk true s

theorem f12_eq {k : Nat} {s : ByteArray} (hs : s.size ≤ 1000) (hk : 1000 < k) : f12 k s = some (keyOk s) := by
  unfold f12 keyOk
  rw [sNil_eq]
  have h := f42p_eq (s := s) m4_small (by show 4 < k; omega) hs hk
  have h' : f42p k s (⟨#[45, 95, 46, 47]⟩ : ByteArray) = some (valueOk true s) := h
  rw [h']
  cases decide (s.size = 0) <;> rfl

theorem f13_eq {k : Nat} {s : ByteArray} (hs : s.size ≤ 1000) (hk : 1000 < k) : f13 k s = some (keyOk s) := by
  unfold f13 keyOk
  rw [f15_eq true hs hk]
  have e : decide (sLen s > 0) = !decide (s.size = 0) := by
    unfold sLen
    by_cases h : s.size = 0
    · simp [h]
    · simp [h]; omega
  rw [e]
  cases decide (s.size = 0) <;> rfl

def nameOk (s : ByteArray) : Bool := !decide (s.size = 0) && (decide (s.size ≤ 63) && allN (okAt smallB m1 s) s.size)

theorem f10_eq {k : Nat} {s : ByteArray} (hs : s.size ≤ 1000) (hk : 1000 < k) : f10 k s = some (nameOk s) := by
  unfold f10 nameOk
  rw [sNil_eq]
  have h := f42s_eq (s := s) m1_small (by show 1 < k; omega) hs hk
  have h' : f42s k s (⟨#[45]⟩ : ByteArray) = _ := h
  rw [h']
  cases decide (s.size = 0) <;> rfl

def ok11 (s : ByteArray) (i : Nat) : Bool := smallB (byteAt s i) || ((byteAt s i : Int) == 45)

theorem f11_eq {k : Nat} {s : ByteArray} (hs : s.size ≤ 1000) (hk : 1000 < k) : f11 k s = some (nameOk s) := by
  unfold f11 nameOk
  by_cases h0 : s.size = 0
  · have e : decide (sLen s < 1) = true := by unfold sLen; simp; omega
    rw [e]; simp [h0]
  have e : decide (sLen s < 1) = false := by unfold sLen; simp; omega
  rw [e]
  simp only [cond_false]
  by_cases h63 : s.size ≤ 63
  · have e1 : decide (sLen s > 63) = false := by unfold sLen; simp; omega
    rw [e1]
    simp only [cond_false]
    have ew : w64 (sLen s - 1) = ((s.size - 1 : Nat) : Int) := by rw [w64_of (by unfold sLen; omega) (by unfold sLen; omega)]; unfold sLen; omega
    rw [ew]
    have r0 : ∀ {α : Type} (x : Option α), rangeK 0 (sLen s) x = x := fun x => by unfold rangeK; rw [if_pos (by unfold sLen; omega)]
    have r1 : ∀ {α : Type} (x : Option α), rangeK ((s.size - 1 : Nat) : Int) (sLen s) x = x := fun x => by unfold rangeK; rw [if_pos (by unfold sLen; omega)]
    rw [r0, r1]
    have h := iter_all (step := f11_s8_u k) (k := k) (fun i => (s, (i : Int), ())) (good := .inr ()) (bad := .inl (false, ())) (ok11 s) s.size
      (fun i hi => by
        show f11_s8 k s i = _
        unfold f11_s8
        have e2 : decide ((i : Int) < sLen s) = true := by unfold sLen; simp; omega
        have e3 : ∀ {α : Type} (x : Option α), rangeK (i : Int) (sLen s) x = x := fun x => by unfold rangeK; rw [if_pos (by unfold sLen; omega)]
        rw [e2]
        simp only [cond_true, e3, f44_eq, Option.bind_some, sAt_nat, next64 i s.size hi hs, ne_not]
        unfold ok11
        cases smallB (byteAt s i) <;> cases ((byteAt s i : Int) == 45) <;> rfl)
      (by
        show f11_s8 k s s.size = _
        unfold f11_s8
        have e2 : decide ((s.size : Int) < sLen s) = false := by unfold sLen; simp
        rw [e2]; rfl) (by omega)
    have hl : f11_l8 k s 0 = _ := h
    rw [hl]
    have s0 : sAt s 0 = ((byteAt s 0 : Nat) : Int) := sAt_nat s 0
    rw [s0, sAt_nat]
    have key : (bif ((byteAt s 0 : Int) == 45) then false else bif ((byteAt s (s.size - 1) : Int) == 45) then false else allN (ok11 s) s.size) = allN (okAt smallB m1 s) s.size := by
      have small45 : smallB 45 = false := rfl
      cases ha : allN (okAt smallB m1 s) s.size with
      | true =>
        have hall := allN_iff.1 ha
        have edge : ∀ i, i < s.size → (i = 0 ∨ i + 1 = s.size) → ((byteAt s i : Int) == 45) = false := fun i hi he => by
          have := hall i hi
          unfold okAt at this
          cases hb : ((byteAt s i : Int) == 45) with
          | false => rfl
          | true =>
            have hb' : (byteAt s i : Int) = 45 := by simpa using hb
            rw [hb', small45] at this
            rcases he with he | he
            · subst he; simp at this
            · rw [he] at this; simp at this
        rw [edge 0 (by omega) (.inl rfl), edge (s.size - 1) (by omega) (.inr (by omega))]
        simp only [cond_false]
        refine allN_iff.2 fun i hi => ?_
        have := hall i hi
        unfold okAt at this; unfold ok11
        rw [has1] at this
        revert this
        cases smallB (byteAt s i) <;> cases ((byteAt s i : Int) == 45) <;> simp
      | false =>
        obtain ⟨i, h1, h2, _⟩ := first_bad ha
        unfold okAt at h2
        rw [has1] at h2
        cases e0 : ((byteAt s 0 : Int) == 45) with
        | true => rfl
        | false =>
          cases en : ((byteAt s (s.size - 1) : Int) == 45) with
          | true => rfl
          | false =>
            simp only [cond_false]
            cases hb : allN (ok11 s) s.size with
            | false => rfl
            | true =>
              have h3 := allN_iff.1 hb i h1
              unfold ok11 at h3
              cases hsm : smallB (byteAt s i) with
              | true => rw [hsm] at h2; simp at h2
              | false =>
                rw [hsm] at h2 h3
                simp only [Bool.false_or] at h2 h3
                rw [h3] at h2
                by_cases hi0 : i = 0
                · subst hi0; rw [h3] at e0; cases e0
                · by_cases hin : i + 1 = s.size
                  · rw [show s.size - 1 = i by omega, h3] at en; cases en
                  · simp [hi0, hin] at h2
    simp only [h0, h63, decide_true, decide_false, Bool.not_false, Bool.true_and]
    rw [← key]
    cases ((byteAt s 0 : Int) == 45) <;> cases ((byteAt s (s.size - 1) : Int) == 45) <;> cases allN (ok11 s) s.size <;> rfl
  · have e1 : decide (sLen s > 63) = true := by unfold sLen; simp; omega
    rw [e1]
    simp [h63]

theorem f9_true : f9 5000 = some true := by kernel_rfl

theorem f3_true (s : ByteArray) : f3 5000 s = some true := by
  unfold f3
  rw [f9_true]
  simp only [Option.bind_some, Bool.not_true, cond_false]
  by_cases h : s.size ≤ 1000
  · have e : decide (sLen s > 1000) = false := by unfold sLen; simp; omega
    rw [e]
    simp only [cond_false]
    rw [f10_eq h (by omega), f11_eq h (by omega), f12_eq h (by omega), f13_eq h (by omega), f14_eq h (by omega), f15_eq false h (by omega)]
    simp
  · have e : decide (sLen s > 1000) = true := by unfold sLen; simp; omega
    rw [e]; rfl

end Go.Proofs.YtjbaeojagkkbgaaDoor
