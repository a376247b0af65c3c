/-
  Labels: the plain laws.
-/
import Derived.Test.YtjbaeojagkkbgaaDoorQC
import Derived.Test.YtjbaeojagkkbgaaDoorQTA
set_option linter.unusedVariables false
namespace Go.Proofs.YtjbaeojagkkbgaaDoor
open Go Go.PB

def smallB (c : Int) : Bool := (decide (c ≥ 97) && decide (c ≤ 122)) || (decide (c ≥ 48) && decide (c ≤ 57))
def plainB (c : Int) : Bool := smallB c || (decide (c ≥ 65) && decide (c ≤ 90))

theorem f43_eq (k : Nat) (c : Int) : f43 k c = some (smallB c) := by
  unfold f43 smallB
  cases decide (c ≥ 97) <;> cases decide (c ≤ 122) <;> cases decide (c ≥ 48) <;> rfl
theorem f44_eq (k : Nat) (c : Int) : f44 k c = some (smallB c) := f43_eq k c
theorem f45_eq (k : Nat) (c : Int) : f45 k c = some (plainB c) := by
  unfold f45 plainB
  rw [f43_eq]
  simp only [Option.bind_some]
  cases smallB c <;> cases decide (c ≥ 65) <;> rfl
theorem f46_eq (k : Nat) (c : Int) : f46 k c = some (plainB c) := f45_eq k c

theorem small_big {c : Int} (h : 128 ≤ c) : smallB c = false := by unfold smallB; simp; omega
theorem plain_big {c : Int} (h : 128 ≤ c) : plainB c = false := by unfold plainB; rw [small_big h]; simp; omega

/-- Does a sign stand in a text of single bytes? -/
def hasB (m : ByteArray) (c : Int) : Bool := !(allN (fun i => !((byteAt m i : Int) == c)) m.size)

theorem f63_eq {k : Nat} {m : ByteArray} (hm : ∀ i, i < m.size → byteAt m i < 128) (hk : m.size < k) (c : Int) : f63 k m c = some (hasB m c) := by
  have h := iter_all (step := f63_s4_u k) (k := k) (fun i => (c, m, i, ())) (good := .inr ()) (bad := .inl (true, ())) (fun i => !((byteAt m i : Int) == c)) m.size
    (fun i hi => by
      show f63_s4 k c m i = _
      unfold f63_s4
      rw [if_pos hi, runeAt_small (hm i hi), runeTo_small (hm i hi)]
      cases ((byteAt m i : Int) == c) <;> rfl)
    (by
      show f63_s4 k c m m.size = _
      unfold f63_s4
      rw [if_neg (by omega)]) hk
  show ((iter (f63_s4_u k) k (c, m, 0, ())).bind _) = _
  rw [h]
  unfold hasB
  cases allN (fun i => !((byteAt m i : Int) == c)) m.size <;> rfl

theorem has_big {m : ByteArray} (hm : ∀ i, i < m.size → byteAt m i < 128) {c : Int} (h : 128 ≤ c) : hasB m c = false := by
  unfold hasB
  rw [allN_iff.2 fun i hi => by have := hm i hi; simp; omega]
  rfl

/-- What stands at place i of a text is as it should be. -/
def okAt (e : Int → Bool) (m : ByteArray) (s : ByteArray) (i : Nat) : Bool :=
  e (byteAt s i) || (!(i == 0) && !(i + 1 == s.size) && hasB m (byteAt s i))

theorem edge_eq (s : ByteArray) (hs : s.size ≤ 1000000) (i : Nat) (hi : i < s.size) : (((i : Nat) : Int) == w64 (sLen s - 1)) = (i + 1 == s.size) := by
  rw [w64_of (by unfold sLen; omega) (by unfold sLen; omega)]
  unfold sLen
  by_cases h : i + 1 = s.size
  · rw [beq_iff_eq.2 h, beq_iff_eq.2 (by omega)]
  · rw [beq_eq_false_iff_ne.2 h, beq_eq_false_iff_ne.2 (by omega)]

theorem zero_eq (i : Nat) : ((i : Int) == 0) = (i == 0) := by
  by_cases h : i = 0
  · subst h; rfl
  · rw [beq_eq_false_iff_ne.2 h, beq_eq_false_iff_ne.2 (by omega)]

theorem f42s_eq {k : Nat} {s m : ByteArray} (hm : ∀ i, i < m.size → byteAt m i < 128) (hmk : m.size < k) (hs : s.size ≤ 1000000) (hk : s.size < k) (hk4 : 4 < k) : f42s k s m = some (decide (s.size ≤ 63) && allN (okAt smallB m s) s.size) := by
  unfold f42s
  by_cases h63 : s.size ≤ 63
  · have e1 : decide (sLen s > 63) = false := by unfold sLen; simp; omega
    rw [e1]
    simp only [cond_false]
    have h := iter_all (step := f42s_s8_u k) (k := k) (fun i => (s, m, s, i, ())) (good := .inr ()) (bad := .inl (false, ())) (okAt smallB m s) s.size
      (fun i hi => by
        show f42s_s8 k s m s i = _
        unfold f42s_s8
        rw [if_pos hi, zero_eq, edge_eq s hs i hi, f43_eq, f63_eq hm hmk]
        unfold okAt
        rcases Nat.lt_or_ge (byteAt s i) 128 with hb | hb
        · rw [runeAt_small hb, runeTo_small hb]
          cases (i == 0) <;> cases (i + 1 == s.size) <;> cases smallB (byteAt s i) <;> cases hasB m (byteAt s i) <;> rfl
        · have h1 := runeAt_big hb
          rw [small_big h1, has_big hm h1, small_big (c := (byteAt s i : Int)) (by omega), has_big hm (c := (byteAt s i : Int)) (by omega)]
          cases (i == 0) <;> cases (i + 1 == s.size) <;> rfl)
      (by
        show f42s_s8 k s m s s.size = _
        unfold f42s_s8
        rw [if_neg (by omega)]) (by omega)
    show ((iter (f42s_s8_u k) k (s, m, s, 0, ())).bind _) = _
    rw [h]
    simp only [h63, decide_true, Bool.true_and]
    cases allN (okAt smallB m s) s.size <;> rfl
  · have e1 : decide (sLen s > 63) = true := by unfold sLen; simp; omega
    rw [e1]
    simp [h63]

theorem f42p_eq {k : Nat} {s m : ByteArray} (hm : ∀ i, i < m.size → byteAt m i < 128) (hmk : m.size < k) (hs : s.size ≤ 1000000) (hk : s.size < k) (hk4 : 4 < k) : f42p k s m = some (decide (s.size ≤ 63) && allN (okAt plainB m s) s.size) := by
  unfold f42p
  by_cases h63 : s.size ≤ 63
  · have e1 : decide (sLen s > 63) = false := by unfold sLen; simp; omega
    rw [e1]
    simp only [cond_false]
    have h := iter_all (step := f42p_s8_u k) (k := k) (fun i => (s, m, s, i, ())) (good := .inr ()) (bad := .inl (false, ())) (okAt plainB m s) s.size
      (fun i hi => by
        show f42p_s8 k s m s i = _
        unfold f42p_s8
        rw [if_pos hi, zero_eq, edge_eq s hs i hi, f45_eq, f63_eq hm hmk]
        unfold okAt
        rcases Nat.lt_or_ge (byteAt s i) 128 with hb | hb
        · rw [runeAt_small hb, runeTo_small hb]
          cases (i == 0) <;> cases (i + 1 == s.size) <;> cases plainB (byteAt s i) <;> cases hasB m (byteAt s i) <;> rfl
        · have h1 := runeAt_big hb
          rw [plain_big h1, has_big hm h1, plain_big (c := (byteAt s i : Int)) (by omega), has_big hm (c := (byteAt s i : Int)) (by omega)]
          cases (i == 0) <;> cases (i + 1 == s.size) <;> rfl)
      (by
        show f42p_s8 k s m s s.size = _
        unfold f42p_s8
        rw [if_neg (by omega)]) (by omega)
    show ((iter (f42p_s8_u k) k (s, m, s, 0, ())).bind _) = _
    rw [h]
    simp only [h63, decide_true, Bool.true_and]
    cases allN (okAt plainB m s) s.size <;> rfl
  · have e1 : decide (sLen s > 63) = true := by unfold sLen; simp; omega
    rw [e1]
    simp [h63]

end Go.Proofs.YtjbaeojagkkbgaaDoor

namespace Go.Proofs.YtjbaeojagkkbgaaDoor
open Go Go.PB

def m3 : ByteArray := ⟨#[45, 95, 46]⟩
def m4 : ByteArray := ⟨#[45, 95, 46, 47]⟩
def m1 : ByteArray := ⟨#[45]⟩

theorem has1 (c : Int) : hasB m1 c = (c == 45) := by
  have h : hasB m1 c = !(true && !(((45 : Nat) : Int) == c)) := rfl
  rw [h, show (((45 : Nat) : Int) == c) = (c == 45) from BEq.comm]
  cases (c == 45) <;> rfl
theorem has3 (c : Int) : hasB m3 c = ((c == 45) || ((c == 95) || (c == 46))) := by
  have h : hasB m3 c = !(((true && !(((45 : Nat) : Int) == c)) && !(((95 : Nat) : Int) == c)) && !(((46 : Nat) : Int) == c)) := rfl
  rw [h, show (((45 : Nat) : Int) == c) = (c == 45) from BEq.comm, show (((95 : Nat) : Int) == c) = (c == 95) from BEq.comm, show (((46 : Nat) : Int) == c) = (c == 46) from BEq.comm]
  cases (c == 45) <;> cases (c == 95) <;> cases (c == 46) <;> rfl
theorem has4 (c : Int) : hasB m4 c = ((c == 45) || ((c == 95) || ((c == 46) || (c == 47)))) := by
  have h : hasB m4 c = !((((true && !(((45 : Nat) : Int) == c)) && !(((95 : Nat) : Int) == c)) && !(((46 : Nat) : Int) == c)) && !(((47 : Nat) : Int) == c)) := rfl
  rw [h, show (((45 : Nat) : Int) == c) = (c == 45) from BEq.comm, show (((95 : Nat) : Int) == c) = (c == 95) from BEq.comm, show (((46 : Nat) : Int) == c) = (c == 46) from BEq.comm, show (((47 : Nat) : Int) == c) = (c == 47) from BEq.comm]
  cases (c == 45) <;> cases (c == 95) <;> cases (c == 46) <;> cases (c == 47) <;> rfl

theorem m1_small : ∀ i, i < m1.size → byteAt m1 i < 128 := by
  have : m1.size = 1 := rfl
  intro i hi; match i, (by omega : i < 1) with
  | 0, _ => decide
theorem m3_small : ∀ i, i < m3.size → byteAt m3 i < 128 := by
  have : m3.size = 3 := rfl
  intro i hi; match i, (by omega : i < 3) with
  | 0, _ => decide
  | 1, _ => decide
  | 2, _ => decide
theorem m4_small : ∀ i, i < m4.size → byteAt m4 i < 128 := by
  have : m4.size = 4 := rfl
  intro i hi; match i, (by omega : i < 4) with
  | 0, _ => decide
  | 1, _ => decide
  | 2, _ => decide
  | 3, _ => decide

theorem ne_not (a b : Int) : (a != b) = !(a == b) := rfl

theorem next64 (i n : Nat) (hi : i < n) (hn : n ≤ 1000000) : w64 ((i : Int) + 1) = ((i + 1 : Nat) : Int) := by
  rw [w64_of (by omega) (by omega)]; omega

def valueOk (slash : Bool) (s : ByteArray) : Bool := decide (s.size ≤ 63) && allN (okAt plainB (bif slash then m4 else m3) s) s.size

theorem f15_eq {k : Nat} {s : ByteArray} (slash : Bool) (hs : s.size ≤ 1000000) (hk : s.size < k) (hk4 : 4 < k) : f15 k s slash = some (valueOk slash s) := by
  unfold f15 valueOk
  by_cases h63 : s.size ≤ 63
  · have e1 : decide (sLen s > 63) = false := by unfold sLen; simp; omega
    rw [e1]
    simp only [cond_false]
    have h := iter_all (step := f15_s8_u k) (k := k) (fun i => (s, slash, (i : Int), ())) (good := .inr ()) (bad := .inl (false, ())) (okAt plainB (bif slash then m4 else m3) s) s.size
      (fun i hi => by
        show f15_s8 k s slash i = _
        unfold f15_s8
        have e2 : decide ((i : Int) < sLen s) = true := by unfold sLen; simp; omega
        have e3 : ∀ {α : Type} (x : Option α), rangeK (i : Int) (sLen s) x = x := fun x => by unfold rangeK; rw [if_pos (by unfold sLen; omega)]
        rw [e2]
        simp only [cond_true, e3, f46_eq, Option.bind_some, zero_eq, edge_eq s hs i hi, sAt_nat, next64 i s.size hi hs, ne_not]
        unfold okAt
        cases slash with
        | true =>
          simp only [cond_true, has4]
          cases plainB (byteAt s i) <;> cases (i == 0) <;> cases (i + 1 == s.size) <;> cases ((byteAt s i : Int) == 45) <;> cases ((byteAt s i : Int) == 95) <;> cases ((byteAt s i : Int) == 46) <;> cases ((byteAt s i : Int) == 47) <;> rfl
        | false =>
          simp only [cond_false, has3]
          cases plainB (byteAt s i) <;> cases (i == 0) <;> cases (i + 1 == s.size) <;> cases ((byteAt s i : Int) == 45) <;> cases ((byteAt s i : Int) == 95) <;> cases ((byteAt s i : Int) == 46) <;> rfl)
      (by
        show f15_s8 k s slash s.size = _
        unfold f15_s8
        have e2 : decide ((s.size : Int) < sLen s) = false := by unfold sLen; simp
        rw [e2]; rfl) (by omega)
    show ((iter (f15_s8_u k) k (s, slash, ((0 : Nat) : Int), ())).bind _) = _
    rw [h]
    simp only [h63, decide_true, Bool.true_and]
    cases allN (okAt plainB (bif slash then m4 else m3) s) s.size <;> rfl
  · have e1 : decide (sLen s > 63) = true := by unfold sLen; simp; omega
    rw [e1]
    simp [h63]

theorem f14_eq {k : Nat} {s : ByteArray} (hs : s.size ≤ 1000000) (hk : s.size < k) (hk4 : 4 < k) : f14 k s = some (valueOk false s) := by
  show (f42p k s m3).bind _ = _
  rw [f42p_eq m3_small (by show 3 < k; omega) hs hk hk4]
  rfl

theorem sNil_eq (s : ByteArray) : sEq s sNil = decide (s.size = 0) := by
  cases h : decide (s.size = 0) with
  | true =>
    have h' : s.size = 0 := by simpa using h
    rw [sEq_iff]; exact bytes_nil h'
  | false =>
    have h' : ¬ s.size = 0 := by simpa using h
    cases he : sEq s sNil with
    | false => rfl
    | true => rw [sEq_iff] at he; exact absurd (by rw [he]; rfl) h'

def keyOk (s : ByteArray) : Bool := !decide (s.size = 0) && valueOk true s

theorem f12_eq {k : Nat} {s : ByteArray} (hs : s.size ≤ 1000000) (hk : s.size < k) (hk4 : 4 < k) : f12 k s = some (keyOk s) := by
  unfold f12 keyOk
  rw [sNil_eq]
  have h := f42p_eq (s := s) m4_small (by show 4 < k; omega) hs hk hk4
  have h' : f42p k s (⟨#[45, 95, 46, 47]⟩ : ByteArray) = some (valueOk true s) := h
  rw [h']
  cases decide (s.size = 0) <;> rfl

theorem f13_eq {k : Nat} {s : ByteArray} (hs : s.size ≤ 1000000) (hk : s.size < k) (hk4 : 4 < k) : f13 k s = some (keyOk s) := by
  unfold f13 keyOk
  rw [f15_eq true hs hk hk4]
  have e : decide (sLen s > 0) = !decide (s.size = 0) := by
    unfold sLen
    by_cases h : s.size = 0
    · simp [h]
    · simp [h]; omega
  rw [e]
  cases decide (s.size = 0) <;> rfl

def nameOk (s : ByteArray) : Bool := !decide (s.size = 0) && (decide (s.size ≤ 63) && allN (okAt smallB m1 s) s.size)

theorem f10_eq {k : Nat} {s : ByteArray} (hs : s.size ≤ 1000000) (hk : s.size < k) (hk4 : 4 < k) : f10 k s = some (nameOk s) := by
  unfold f10 nameOk
  rw [sNil_eq]
  have h := f42s_eq (s := s) m1_small (by show 1 < k; omega) hs hk hk4
  have h' : f42s k s (⟨#[45]⟩ : ByteArray) = _ := h
  rw [h']
  cases decide (s.size = 0) <;> rfl

def ok11 (s : ByteArray) (i : Nat) : Bool := smallB (byteAt s i) || ((byteAt s i : Int) == 45)

theorem f11_eq {k : Nat} {s : ByteArray} (hs : s.size ≤ 1000000) (hk : s.size < k) (hk4 : 4 < k) : f11 k s = some (nameOk s) := by
  unfold f11 nameOk
  by_cases h0 : s.size = 0
  · have e : decide (sLen s < 1) = true := by unfold sLen; simp; omega
    rw [e]; simp [h0]
  have e : decide (sLen s < 1) = false := by unfold sLen; simp; omega
  rw [e]
  simp only [cond_false]
  by_cases h63 : s.size ≤ 63
  · have e1 : decide (sLen s > 63) = false := by unfold sLen; simp; omega
    rw [e1]
    simp only [cond_false]
    have ew : w64 (sLen s - 1) = ((s.size - 1 : Nat) : Int) := by rw [w64_of (by unfold sLen; omega) (by unfold sLen; omega)]; unfold sLen; omega
    rw [ew]
    have r0 : ∀ {α : Type} (x : Option α), rangeK 0 (sLen s) x = x := fun x => by unfold rangeK; rw [if_pos (by unfold sLen; omega)]
    have r1 : ∀ {α : Type} (x : Option α), rangeK ((s.size - 1 : Nat) : Int) (sLen s) x = x := fun x => by unfold rangeK; rw [if_pos (by unfold sLen; omega)]
    rw [r0, r1]
    have h := iter_all (step := f11_s8_u k) (k := k) (fun i => (s, (i : Int), ())) (good := .inr ()) (bad := .inl (false, ())) (ok11 s) s.size
      (fun i hi => by
        show f11_s8 k s i = _
        unfold f11_s8
        have e2 : decide ((i : Int) < sLen s) = true := by unfold sLen; simp; omega
        have e3 : ∀ {α : Type} (x : Option α), rangeK (i : Int) (sLen s) x = x := fun x => by unfold rangeK; rw [if_pos (by unfold sLen; omega)]
        rw [e2]
        simp only [cond_true, e3, f44_eq, Option.bind_some, sAt_nat, next64 i s.size hi hs, ne_not]
        unfold ok11
        cases smallB (byteAt s i) <;> cases ((byteAt s i : Int) == 45) <;> rfl)
      (by
        show f11_s8 k s s.size = _
        unfold f11_s8
        have e2 : decide ((s.size : Int) < sLen s) = false := by unfold sLen; simp
        rw [e2]; rfl) (by omega)
    have hl : f11_l8 k s 0 = _ := h
    rw [hl]
    have s0 : sAt s 0 = ((byteAt s 0 : Nat) : Int) := sAt_nat s 0
    rw [s0, sAt_nat]
    have key : (bif ((byteAt s 0 : Int) == 45) then false else bif ((byteAt s (s.size - 1) : Int) == 45) then false else allN (ok11 s) s.size) = allN (okAt smallB m1 s) s.size := by
      have small45 : smallB 45 = false := rfl
      cases ha : allN (okAt smallB m1 s) s.size with
      | true =>
        have hall := allN_iff.1 ha
        have edge : ∀ i, i < s.size → (i = 0 ∨ i + 1 = s.size) → ((byteAt s i : Int) == 45) = false := fun i hi he => by
          have := hall i hi
          unfold okAt at this
          cases hb : ((byteAt s i : Int) == 45) with
          | false => rfl
          | true =>
            have hb' : (byteAt s i : Int) = 45 := by simpa using hb
            rw [hb', small45] at this
            rcases he with he | he
            · subst he; simp at this
            · rw [he] at this; simp at this
        rw [edge 0 (by omega) (.inl rfl), edge (s.size - 1) (by omega) (.inr (by omega))]
        simp only [cond_false]
        refine allN_iff.2 fun i hi => ?_
        have := hall i hi
        unfold okAt at this; unfold ok11
        rw [has1] at this
        revert this
        cases smallB (byteAt s i) <;> cases ((byteAt s i : Int) == 45) <;> simp
      | false =>
        obtain ⟨i, h1, h2, _⟩ := first_bad ha
        unfold okAt at h2
        rw [has1] at h2
        cases e0 : ((byteAt s 0 : Int) == 45) with
        | true => rfl
        | false =>
          cases en : ((byteAt s (s.size - 1) : Int) == 45) with
          | true => rfl
          | false =>
            simp only [cond_false]
            cases hb : allN (ok11 s) s.size with
            | false => rfl
            | true =>
              have h3 := allN_iff.1 hb i h1
              unfold ok11 at h3
              cases hsm : smallB (byteAt s i) with
              | true => rw [hsm] at h2; simp at h2
              | false =>
                rw [hsm] at h2 h3
                simp only [Bool.false_or] at h2 h3
                rw [h3] at h2
                by_cases hi0 : i = 0
                · subst hi0; rw [h3] at e0; cases e0
                · by_cases hin : i + 1 = s.size
                  · rw [show s.size - 1 = i by omega, h3] at en; cases en
                  · simp [hi0, hin] at h2
    simp only [h0, h63, decide_true, decide_false, Bool.not_false, Bool.true_and]
    rw [← key]
    cases ((byteAt s 0 : Int) == 45) <;> cases ((byteAt s (s.size - 1) : Int) == 45) <;> cases allN (ok11 s) s.size <;> rfl
  · have e1 : decide (sLen s > 63) = true := by unfold sLen; simp; omega
    rw [e1]
    simp [h63]

theorem f9_true : f9 5000 = some true := by kernel_rfl

theorem f3_true (s : ByteArray) : f3 5000 s = some true := by
  unfold f3
  rw [f9_true]
  simp only [Option.bind_some, Bool.not_true, cond_false]
  by_cases h : s.size ≤ 1000
  · have e : decide (sLen s > 1000) = false := by unfold sLen; simp; omega
    rw [e]
    simp only [cond_false]
    have h' : s.size ≤ 1000000 := by omega
    rw [f10_eq h' (by omega) (by omega), f11_eq h' (by omega) (by omega), f12_eq h' (by omega) (by omega), f13_eq h' (by omega) (by omega), f14_eq h' (by omega) (by omega), f15_eq false h' (by omega) (by omega)]
    simp
  · have e : decide (sLen s > 1000) = true := by unfold sLen; simp; omega
    rw [e]; rfl

end Go.Proofs.YtjbaeojagkkbgaaDoor

namespace Go.Proofs.YtjbaeojagkkbgaaDoor
open Go Go.PB

abbrev Pr := ByteArray × ByteArray × Unit
def zP : Pr := (sNil, sNil, ())

def SmallL (k : Nat) (l : List Pr) : Prop := ∀ p ∈ l, p.1.size < k ∧ p.2.1.size < k

theorem lAtP (l : List Pr) (i : Nat) : lAt (.agg (.pair .str (.pair .str .unit))) l (i : Int) = l.getD i zP := rfl

/-! ## One text before another -/
theorem less_at {s t : List UInt8} {i : Nat} (hs : i < s.length) (ht : i < t.length) : Op.bytesLess (s.drop i) (t.drop i) = (bif ((s.getD i 0).toNat : Int) != ((t.getD i 0).toNat : Int) then decide (((s.getD i 0).toNat : Int) < ((t.getD i 0).toNat : Int)) else Op.bytesLess (s.drop (i + 1)) (t.drop (i + 1))) := by
  rw [List.drop_eq_getElem_cons hs, List.drop_eq_getElem_cons ht]
  simp only [List.getD_eq_getElem?_getD, List.getElem?_eq_getElem hs, List.getElem?_eq_getElem ht, Option.getD_some, Op.bytesLess]
  generalize s[i] = a
  generalize t[i] = b
  rw [show (((a.toNat : Nat) : Int) != ((b.toNat : Nat) : Int)) = !(a == b) from ?_]
  · cases h : (a == b) with
    | true =>
      have e : a = b := by simpa using h
      subst e
      simp [UInt8.lt_irrefl]
    | false =>
      simp [UInt8.lt_iff_toNat_lt]
  · rw [ne_not]
    congr 1
    cases h : (a == b) with
    | true => have e : a = b := by simpa using h
              subst e; simp
    | false =>
      rw [beq_eq_false_iff_ne] at h
      rw [beq_eq_false_iff_ne]
      intro e
      exact h (UInt8.toNat_inj.1 (by omega))

theorem sAt_bl (s : ByteArray) (i : Nat) : sAt s (i : Int) = (((bl s).getD i 0).toNat : Int) := by
  rw [sAt_nat, byteAt_bl]

def f53_o : ((Bool × Unit) ⊕ (ByteArray × ByteArray × Unit)) → Option Bool
  | .inl o => some o.1
  | .inr o => some (decide (sLen o.1 < sLen o.2.1))

theorem f53_loop {k : Nat} (s t : ByteArray) (hs : s.size ≤ 1000000) : ∀ (n i : Nat), s.size - i < n → i ≤ s.size → i ≤ t.size →
    (iter (f53_s4_u k) n (s, t, (i : Int), ())).bind f53_o
      = some (bif i == s.size then decide (s.size < t.size) else bif i == t.size then decide (s.size < t.size) else Op.bytesLess ((bl s).drop i) ((bl t).drop i))
  | 0, i, h, _, _ => by omega
  | n + 1, i, h, h1, h2 => by
    rw [iter_succ]
    show ((f53_s4 k s t i).bind _).bind _ = _
    unfold f53_s4
    by_cases e1 : i = s.size
    · have : decide ((i : Int) < sLen s) = false := by unfold sLen; simp; omega
      rw [this, beq_iff_eq.2 e1]
      simp [sLen, f53_o]
    · have l1 : decide ((i : Int) < sLen s) = true := by unfold sLen; simp; omega
      rw [l1, beq_eq_false_iff_ne.2 e1]
      by_cases e2 : i = t.size
      · have : decide ((i : Int) < sLen t) = false := by unfold sLen; simp; omega
        rw [this, beq_iff_eq.2 e2]
        simp [sLen, f53_o]
      · have l2 : decide ((i : Int) < sLen t) = true := by unfold sLen; simp; omega
        have hi1 : i < (bl s).length := by rw [bl_len]; omega
        have hi2 : i < (bl t).length := by rw [bl_len]; omega
        rw [l2, beq_eq_false_iff_ne.2 e2]
        simp only [cond_true, cond_false, rangeK_s (show i < s.size by omega), rangeK_s (show i < t.size by omega), sAt_bl, next_l i s.size (by omega) (by omega)]
        rw [less_at hi1 hi2]
        cases hc : ((((bl s).getD i 0).toNat : Int) != (((bl t).getD i 0).toNat : Int)) with
        | true => rfl
        | false =>
          simp only [cond_false, Option.bind_some]
          have ih := f53_loop (k := k) s t hs n (i + 1) (by omega) (by omega) (by omega)
          refine ih.trans ?_
          congr 1
          by_cases e3 : i + 1 = s.size
          · rw [beq_iff_eq.2 e3]
            simp only [cond_true]
            rw [List.drop_eq_nil_of_le (show (bl s).length ≤ i + 1 by rw [bl_len]; omega)]
            by_cases e4 : i + 1 = t.size
            · rw [List.drop_eq_nil_of_le (show (bl t).length ≤ i + 1 by rw [bl_len]; omega)]
              simp [Op.bytesLess]; omega
            · rw [List.drop_eq_getElem_cons (l := bl t) (i := i + 1) (by rw [bl_len]; omega)]
              simp [Op.bytesLess]; omega
          · rw [beq_eq_false_iff_ne.2 e3]
            simp only [cond_false]
            by_cases e4 : i + 1 = t.size
            · rw [beq_iff_eq.2 e4, List.drop_eq_nil_of_le (show (bl t).length ≤ i + 1 by rw [bl_len]; omega), less_nil_r]
              simp; omega
            · rw [beq_eq_false_iff_ne.2 e4]; rfl

theorem sLt_bl (s t : ByteArray) : sLt s t = Op.bytesLess (bl s) (bl t) := by
  unfold sLt; rw [ByteArray.toList_eq, ByteArray.toList_eq]

theorem f53_eq {k : Nat} {s t : ByteArray} (hs : s.size < k) (hs' : s.size ≤ 1000000) : f53 k s t = some (sLt s t) := by
  have h := f53_loop (k := k) s t hs' k 0 (by omega) (by omega) (by omega)
  have e : f53 k s t = _ := h
  rw [e, sLt_bl, List.drop_zero, List.drop_zero]
  congr 1
  by_cases e1 : 0 = s.size
  · rw [beq_iff_eq.2 e1, bl_eq_nil.2 e1.symm]
    cases hb : bl t with
    | nil => rw [bl_eq_nil] at hb; simp [Op.bytesLess, hb]
    | cons b r => have := bl_len t; rw [hb] at this; simp at this; simp [Op.bytesLess]; omega
  · rw [beq_eq_false_iff_ne.2 e1]
    by_cases e2 : 0 = t.size
    · rw [beq_iff_eq.2 e2, bl_eq_nil.2 e2.symm, less_nil_r]; simp; omega
    · rw [beq_eq_false_iff_ne.2 e2]; rfl

/-! ## Right -/
def rightAt (l : List Pr) (i : Nat) : Bool := (keyOk (l.getD i zP).1 && valueOk false (l.getD i zP).2.1) && (i == 0 || sLt (l.getD (i - 1) zP).1 (l.getD i zP).1)
def rightB (l : List Pr) : Bool := decide (l.length ≤ 16) && allN (rightAt l) l.length

theorem f26_eq {k : Nat} {l : List Pr} (hs : SmallL k l) (hk : k ≤ 1000000) (hl : l.length < k) (h4 : 4 < k) : f26 k l = some (rightB l) := by
  have h := iter_all (step := f26_s4_u k) (k := k) (fun i => (l, l, lLen l, (i : Int), ())) (good := .inr (l, ())) (bad := .inl (false, ())) (rightAt l) l.length
    (fun i hi => by
      show f26_s4 k l l (lLen l) i = _
      unfold f26_s4
      obtain ⟨m1, m2⟩ := hs _ (getD_mem hi zP)
      simp only [lt_l hi, rangeK_l hi, lAtP, f12_eq (Nat.le_of_lt (Nat.lt_of_lt_of_le m1 hk)) m1 h4, f14_eq (Nat.le_of_lt (Nat.lt_of_lt_of_le m2 hk)) m2 h4, Option.bind_some, cond_true, gt0, next_l i _ hi (by omega)]
      unfold rightAt
      cases i with
      | zero => cases keyOk (l.getD 0 zP).1 <;> cases valueOk false (l.getD 0 zP).2.1 <;> rfl
      | succ j =>
        simp only [prev_l j (by omega), rangeK_l (show j < l.length by omega), lAtP, Nat.add_sub_cancel]
        cases keyOk (l.getD (j + 1) zP).1 <;> cases valueOk false (l.getD (j + 1) zP).2.1 <;> cases sLt (l.getD j zP).1 (l.getD (j + 1) zP).1 <;> rfl)
    (by
      show f26_s4 k l l (lLen l) l.length = _
      unfold f26_s4
      rw [lt_l_not]; rfl) hl
  show ((iter (f26_s4_u k) k (l, l, lLen l, ((0 : Nat) : Int), ())).bind _) = _
  rw [h]
  unfold rightB
  have e2 : decide (lLen l ≤ 16) = decide (l.length ≤ 16) := by unfold lLen; congr 1; exact propext ⟨fun h => by omega, fun h => by omega⟩
  cases allN (rightAt l) l.length with
  | true => simp only [if_true, Option.bind_some, e2, Bool.and_true]
  | false => simp

theorem f27_eq {k : Nat} {l : List Pr} (hs : SmallL k l) (hk : k ≤ 1000000) (hk2 : 16 < k) : f27 k l = some (rightB l) := by
  unfold f27 rightB
  by_cases h16 : l.length ≤ 16
  · have e1 : decide (lLen l > 16) = false := by unfold lLen; simp; omega
    rw [e1]
    simp only [cond_false]
    have h := iter_all (step := f27_s8_u k) (k := k) (fun i => (l, (i : Int), ())) (good := .inr ()) (bad := .inl (false, ())) (rightAt l) l.length
      (fun i hi => by
        show f27_s8 k l i = _
        unfold f27_s8
        obtain ⟨m1, m2⟩ := hs _ (getD_mem hi zP)
        simp only [lt_l hi, rangeK_l hi, lAtP, f13_eq (Nat.le_of_lt (Nat.lt_of_lt_of_le m1 hk)) m1 (by omega), f15_eq false (Nat.le_of_lt (Nat.lt_of_lt_of_le m2 hk)) m2 (by omega), Option.bind_some, cond_true, gt0, next_l i _ hi (by omega)]
        unfold rightAt
        cases i with
        | zero => cases keyOk (l.getD 0 zP).1 <;> cases valueOk false (l.getD 0 zP).2.1 <;> rfl
        | succ j =>
          have hj : j < l.length := by omega
          obtain ⟨n1, n2⟩ := hs _ (getD_mem hj zP)
          simp only [prev_l j (by omega), rangeK_l hj, lAtP, Nat.add_sub_cancel, f53_eq n1 (Nat.le_of_lt (Nat.lt_of_lt_of_le n1 hk)), Option.bind_some]
          cases keyOk (l.getD (j + 1) zP).1 <;> cases valueOk false (l.getD (j + 1) zP).2.1 <;> cases sLt (l.getD j zP).1 (l.getD (j + 1) zP).1 <;> rfl)
      (by
        show f27_s8 k l l.length = _
        unfold f27_s8
        rw [lt_l_not]; rfl) (by omega)
    show ((iter (f27_s8_u k) k (l, ((0 : Nat) : Int), ())).bind _) = _
    rw [h]
    simp only [h16, decide_true, Bool.true_and]
    cases allN (rightAt l) l.length <;> rfl
  · have e1 : decide (lLen l > 16) = true := by unfold lLen; simp; omega
    rw [e1]
    simp [h16]

/-! ## Long -/
def longAt (l : List Pr) (i : Nat) : Bool := decide ((l.getD i zP).1.size ≤ 200) && decide ((l.getD i zP).2.1.size ≤ 200)
def longB (l : List Pr) : Bool := !(decide (l.length ≤ 40) && allN (longAt l) l.length)

theorem s200 (s : ByteArray) : decide (sLen s > 200) = !decide (s.size ≤ 200) := by
  unfold sLen
  by_cases h : s.size ≤ 200
  · simp [h]; omega
  · simp [h]; omega

theorem f16_eq {k : Nat} {l : List Pr} (hk : 40 < k) : f16 k l = some (longB l) := by
  unfold f16 longB
  by_cases h40 : l.length ≤ 40
  · have e1 : decide (lLen l > 40) = false := by unfold lLen; simp; omega
    rw [e1]
    simp only [cond_false]
    have h := iter_all (step := f16_s8_u k) (k := k) (fun i => (l, (i : Int), ())) (good := .inr ()) (bad := .inl (true, ())) (longAt l) l.length
      (fun i hi => by
        show f16_s8 k l i = _
        unfold f16_s8
        rw [lAtP, s200, s200]
        simp only [lt_l hi, rangeK_l hi, cond_true, next_l i _ hi (by omega)]
        unfold longAt
        cases decide ((l.getD i zP).1.size ≤ 200) <;> cases decide ((l.getD i zP).2.1.size ≤ 200) <;> rfl)
      (by
        show f16_s8 k l l.length = _
        unfold f16_s8
        rw [lt_l_not]; rfl) (by omega)
    show ((iter (f16_s8_u k) k (l, ((0 : Nat) : Int), ())).bind _) = _
    rw [h]
    simp only [h40, decide_true, Bool.true_and]
    cases allN (longAt l) l.length <;> rfl
  · have e1 : decide (lLen l > 40) = true := by unfold lLen; simp; omega
    rw [e1]
    simp [h40]

theorem long_small {l : List Pr} (h : longB l = false) : l.length ≤ 40 ∧ ∀ p ∈ l, p.1.size ≤ 200 ∧ p.2.1.size ≤ 200 := by
  unfold longB at h
  simp only [Bool.not_eq_false', Bool.and_eq_true, decide_eq_true_eq] at h
  refine ⟨h.1, fun p hp => ?_⟩
  obtain ⟨i, hi, e⟩ := mem_getD hp zP
  have := allN_iff.1 h.2 i hi
  unfold longAt at this
  rw [e] at this
  simpa using this

/-! ## Same -/
theorem f20_eq {k : Nat} {a b : List Pr} (hk : a.length < k) (hk' : k ≤ 1000000) : f20 k a b = some (decide (a = b)) := by
  unfold f20
  by_cases hl : a.length = b.length
  · have e1 : ((lLen a) != (lLen b)) = false := by unfold lLen; simp; omega
    rw [e1]
    simp only [cond_false]
    have h := iter_all (step := f20_s8_u k) (k := k) (fun i => (a, b, (i : Int), ())) (good := .inr ()) (bad := .inl (false, ())) (fun i => decide (a.getD i zP = b.getD i zP)) a.length
      (fun i hi => by
        show f20_s8 k a b i = _
        unfold f20_s8
        simp only [lt_l hi, rangeK_l hi, rangeK_l (show i < b.length by omega), lAtP, cond_true, next_l i _ hi (by omega)]
        have e : Ty.eqD (.agg (.pair .str (.pair .str .unit))) (a.getD i zP) (b.getD i zP) = decide (a.getD i zP = b.getD i zP) := by
          generalize a.getD i zP = x
          generalize b.getD i zP = y
          obtain ⟨x1, x2, ⟨⟩⟩ := x
          obtain ⟨y1, y2, ⟨⟩⟩ := y
          show (sEq x1 y1 && (sEq x2 y2 && true)) = _
          cases h1 : sEq x1 y1 with
          | true =>
            rw [sEq_iff] at h1; subst h1
            cases h2 : sEq x2 y2 with
            | true => rw [sEq_iff] at h2; subst h2; simp
            | false =>
              have : x2 ≠ y2 := fun e => by rw [← sEq_iff, h2] at e; cases e
              simp [this]
          | false =>
            have : x1 ≠ y1 := fun e => by rw [← sEq_iff, h1] at e; cases e
            simp [this]
        rw [e]
        cases decide (a.getD i zP = b.getD i zP) <;> rfl)
      (by
        show f20_s8 k a b a.length = _
        unfold f20_s8
        rw [lt_l_not]; rfl) hk
    show ((iter (f20_s8_u k) k (a, b, ((0 : Nat) : Int), ())).bind _) = _
    rw [h]
    have e2 : allN (fun i => decide (a.getD i zP = b.getD i zP)) a.length = decide (a = b) := by
      cases h3 : allN (fun i => decide (a.getD i zP = b.getD i zP)) a.length with
      | true =>
        have h4 := allN_iff.1 h3
        symm; rw [decide_eq_true_eq]
        refine List.ext_getElem hl fun i h5 h6 => ?_
        have := h4 i h5
        simp only [decide_eq_true_eq, List.getD_eq_getElem?_getD, List.getElem?_eq_getElem h5, List.getElem?_eq_getElem h6, Option.getD_some] at this
        exact this
      | false =>
        symm; rw [decide_eq_false_iff_not]
        intro e; subst e
        obtain ⟨m, _, h5, _⟩ := first_bad h3
        simp at h5
    rw [e2]
    cases decide (a = b) <;> rfl
  · have e1 : ((lLen a) != (lLen b)) = true := by unfold lLen; simp; omega
    rw [e1]
    have : a ≠ b := fun e => hl (by rw [e])
    simp [this]

end Go.Proofs.YtjbaeojagkkbgaaDoor

namespace Go.Proofs.YtjbaeojagkkbgaaDoor
open Go Go.PB

def ptxt (p : Pr) : List UInt8 := bl p.1 ++ 61 :: bl p.2.1
def ptB (p : Pr) : ByteArray := (p.1 ++ (⟨#[61]⟩ : ByteArray)) ++ p.2.1
def printL (l : List Pr) : List UInt8 := Lib.join (l.map ptxt) [44]

theorem bl1 (c : UInt8) : bl (⟨#[c]⟩ : ByteArray) = [c] := rfl
theorem bl_ptB (p : Pr) : bl (ptB p) = ptxt p := by unfold ptB ptxt; rw [bl_append, bl_append, bl1]; simp
theorem sz1 (c : UInt8) : (⟨#[c]⟩ : ByteArray).size = 1 := rfl
theorem size_ba (l : List UInt8) : (ba l).size = l.length := by rw [← bl_len, bl_ba]

theorem valueOk_size {b : Bool} {s : ByteArray} (h : valueOk b s = true) : s.size ≤ 63 := by
  unfold valueOk at h; simp only [Bool.and_eq_true, decide_eq_true_eq] at h; exact h.1
theorem keyOk_size {s : ByteArray} (h : keyOk s = true) : s.size ≤ 63 ∧ s.size ≠ 0 := by
  unfold keyOk at h; simp only [Bool.and_eq_true, Bool.not_eq_true', decide_eq_false_iff_not] at h; exact ⟨valueOk_size h.2, h.1⟩

theorem right_all {l : List Pr} (h : rightB l = true) : l.length ≤ 16 ∧ ∀ p ∈ l, keyOk p.1 = true ∧ valueOk false p.2.1 = true := by
  unfold rightB at h
  simp only [Bool.and_eq_true, decide_eq_true_eq] at h
  refine ⟨h.1, fun p hp => ?_⟩
  obtain ⟨i, hi, e⟩ := mem_getD hp zP
  have := allN_iff.1 h.2 i hi
  unfold rightAt at this
  rw [e] at this
  simp only [Bool.and_eq_true] at this
  exact this.1
theorem right_small {l : List Pr} (h : rightB l = true) : l.length ≤ 16 ∧ ∀ p ∈ l, p.1.size ≤ 63 ∧ p.2.1.size ≤ 63 := by
  obtain ⟨h1, h2⟩ := right_all h
  exact ⟨h1, fun p hp => ⟨(keyOk_size (h2 p hp).1).1, valueOk_size (h2 p hp).2⟩⟩

theorem ptxt_len (p : Pr) : (ptxt p).length = p.1.size + 1 + p.2.1.size := by unfold ptxt; rw [List.length_append, List.length_cons, bl_len, bl_len]; omega
theorem joined_len {l : List Pr} (h : rightB l = true) (i : Nat) : (Lib.join ((l.take i).map ptxt) [44]).length ≤ 2048 := by
  obtain ⟨h1, h2⟩ := right_small h
  have := join_len [44] 127 ((l.take i).map ptxt) (fun q hq => by
    obtain ⟨p, hp, rfl⟩ := List.mem_map.1 hq
    have := h2 p (List.mem_of_mem_take hp)
    rw [ptxt_len]; omega)
  rw [List.length_map, List.length_take] at this
  simp only [List.length_cons, List.length_nil] at this
  have h3 : min i l.length ≤ 16 := by omega
  omega

theorem f17_loop {k : Nat} {l : List Pr} (h : rightB l = true) (hk : 40 < k) : f17_l10 k l (lLen l) 0 [] = some (l.map ptB, ()) := by
  obtain ⟨h1, h2⟩ := right_small h
  have h := iter_to (step := f17_s10_u k) (f := fun i => (l, lLen l, (i : Int), (l.take i).map ptB, ())) (b := (l.map ptB, ())) (m := l.length) k 0 (by omega)
    (fun i _ hi => by
      show f17_s10 k l (lLen l) i ((l.take i).map ptB) = _
      unfold f17_s10
      obtain ⟨m1, m2⟩ := h2 _ (getD_mem hi zP)
      rw [lt_l hi, rangeK_l hi, lAtP, next_l i _ hi (by omega)]
      rw [roomK_of (by rw [sz1]; omega), roomK_of (by rw [ByteArray.size_append, sz1]; omega), roomK_of (by simp [most]; omega), map_take_next hi zP]
      rfl)
    (by
      show f17_s10 k l (lLen l) l.length ((l.take l.length).map ptB) = _
      unfold f17_s10
      rw [lt_l_not, List.take_length]; rfl) (by omega)
  exact h

theorem f17_eq {k : Nat} {l : List Pr} (hs : SmallL k l) (hk : k ≤ 1000000) (hl : l.length < k) (h4 : 40 < k) : f17 k l = some (if rightB l = true then (ba (printL l), 0) else (sNil, 4)) := by
  unfold f17
  rw [f26_eq hs hk hl (by omega)]
  cases hr : rightB l with
  | false => rfl
  | true =>
    simp only [Option.bind_some, Bool.not_true, cond_false, if_true]
    rw [f17_loop hr h4]
    show ((joinRun (l.map ptB) _).bind _) = _
    have e : (l.map ptB).map (fun x => x.data.toList) = l.map ptxt := by
      rw [List.map_map]
      exact List.map_congr_left fun p _ => bl_ptB p
    have hj := joined_len hr l.length
    rw [List.take_length] at hj
    unfold joinRun
    rw [e, if_pos ⟨by rw [List.length_map]; have := (right_small hr).1; omega, by show (Lib.join _ [44]).length ≤ _; omega⟩]
    rfl

theorem f18_loop {k : Nat} {l : List Pr} (h : rightB l = true) (hk : 40 < k) : f18_l10 k l sNil 0 = some (ba (printL l), ()) := by
  have hj := joined_len h
  obtain ⟨h1, h2⟩ := right_small h
  have h := iter_to (step := f18_s10_u k) (f := fun i => (l, ba (Lib.join ((l.take i).map ptxt) [44]), (i : Int), ())) (b := (ba (printL l), ())) (m := l.length) k 0 (by omega)
    (fun i _ hi => by
      show f18_s10 k l (ba (Lib.join ((l.take i).map ptxt) [44])) i = _
      unfold f18_s10
      obtain ⟨m1, m2⟩ := h2 _ (getD_mem hi zP)
      have hji := hj i
      rw [lt_l hi, gt0, map_take_next hi zP]
      have hsz : (ba (Lib.join ((l.take i).map ptxt) [44])).size ≤ 2048 := by rw [size_ba]; exact hji
      cases i with
      | zero =>
        simp only [cond_true, Bool.not_true, cond_false, beq_self_eq_true, rangeK_l hi, lAtP, next_l 0 _ hi (by omega)]
        rw [roomK_of (by omega), roomK_of (by rw [ByteArray.size_append, sz1]; omega), roomK_of (by rw [ByteArray.size_append, ByteArray.size_append, sz1]; omega)]
        congr 4
        apply bl_inj
        simp only [bl_append, bl_ba, bl1, List.take_zero, List.map_nil, List.nil_append, Lib.join_nil, Lib.join_one, ptxt]
        simp
      | succ j =>
        have hb : (j + 1 == 0) = false := rfl
        simp only [cond_true, hb, Bool.not_false, rangeK_l hi, lAtP, next_l (j + 1) _ hi (by omega)]
        rw [roomK_of (by rw [sz1]; omega), roomK_of (by rw [ByteArray.size_append, sz1]; omega), roomK_of (by rw [ByteArray.size_append, ByteArray.size_append, sz1, sz1]; omega), roomK_of (by rw [ByteArray.size_append, ByteArray.size_append, ByteArray.size_append, sz1, sz1]; omega)]
        congr 4
        apply bl_inj
        rw [bl_ba, join_snoc _ _ _ (by
          intro e
          have := congrArg List.length e
          rw [List.length_map, List.length_take] at this
          simp only [List.length_nil] at this; omega)]
        simp only [bl_append, bl_ba, bl1, ptxt]
        simp [List.append_assoc])
    (by
      show f18_s10 k l (ba (Lib.join ((l.take l.length).map ptxt) [44])) l.length = _
      unfold f18_s10
      rw [lt_l_not, List.take_length]; rfl) (by omega)
  exact h

theorem f18_eq {k : Nat} {l : List Pr} (hs : SmallL k l) (hk : k ≤ 1000000) (h4 : 40 < k) : f18 k l = some (if rightB l = true then (ba (printL l), 0) else (sNil, 4)) := by
  unfold f18
  rw [f27_eq hs hk (by omega)]
  cases hr : rightB l with
  | false => rfl
  | true =>
    simp only [Option.bind_some, Bool.not_true, cond_false, if_true]
    rw [f18_loop hr h4]
    rfl

/-! ## What is read -/
def cut61 (w : ByteArray) : List UInt8 × List UInt8 × Bool := Lib.cut (bl w) [61]
def read1 (w : ByteArray) : Pr := (ba (cut61 w).1, ba (cut61 w).2.1, ())
def readOk (ws : List ByteArray) (i : Nat) : Bool := (cut61 (ws.getD i sNil)).2.2 && decide (i < 16)

theorem lAtS (l : List ByteArray) (i : Nat) : lAt .str l (i : Int) = l.getD i sNil := rfl

theorem f49_eq {k : Nat} {w : ByteArray} (h : w.size ≤ 1000000) : f49 k w (⟨#[61]⟩ : ByteArray) = some (ba (cut61 w).1, ba (cut61 w).2.1, (cut61 w).2.2) := by
  show cutRun w _ = _
  unfold cutRun
  rw [if_pos (by omega)]
  rfl

theorem f19_loop {k : Nat} {ws : List ByteArray} (hw : ∀ w ∈ ws, w.size ≤ 1000000) (hl : ws.length < k) (hk : k ≤ 1000000) :
    f19_l10 k ws (lLen ws) 0 [] = some (if allN (readOk ws) ws.length = true then .inr (ws.map read1, ()) else .inl ([], 4, ())) := by
  have h := iter_all (step := f19_s10_u k) (k := k) (fun i => (ws, lLen ws, (i : Int), (ws.take i).map read1, ())) (good := .inr (ws.map read1, ())) (bad := .inl ([], 4, ())) (readOk ws) ws.length
    (fun i hi => by
      show f19_s10 k ws (lLen ws) i ((ws.take i).map read1) = _
      unfold f19_s10
      have hm := hw _ (getD_mem hi sNil)
      have e16 : decide (lLen ((ws.take i).map read1) ≥ 16) = !decide (i < 16) := by
        unfold lLen
        rw [List.length_map, List.length_take, Nat.min_eq_left (by omega)]
        by_cases h : i < 16
        · rw [decide_eq_true h]; simp; omega
        · rw [decide_eq_false h]; simp; omega
      rw [lt_l hi, rangeK_l hi, lAtS, f49_eq hm, next_l i _ hi (by omega), e16]
      simp only [cond_true, Option.bind_some]
      rw [roomK_of (by simp [most]; omega), map_take_next hi sNil]
      unfold readOk read1
      cases (cut61 (ws.getD i sNil)).2.2 <;> cases decide (i < 16) <;> rfl)
    (by
      show f19_s10 k ws (lLen ws) ws.length ((ws.take ws.length).map read1) = _
      unfold f19_s10
      rw [lt_l_not, List.take_length]; rfl) hl
  exact h

def pieces (s : ByteArray) : List ByteArray := Lib.splitB (⟨#[44]⟩ : ByteArray) 0 (Lib.countB s ⟨#[44]⟩) s
theorem pieces_bl (s : ByteArray) : (pieces s).map bl = cutAt 44 (bl s) := splitB_cut 44 s
theorem pieces_len (s : ByteArray) : (pieces s).length ≤ s.size + 1 := by
  have := cutAt_len 44 (bl s)
  rw [← pieces_bl, List.length_map, bl_len] at this; exact this
theorem pieces_size {s w : ByteArray} (h : w ∈ pieces s) : w.size ≤ s.size := by
  have := cutAt_part 44 (bl s) (bl w) (by rw [← pieces_bl]; exact List.mem_map_of_mem h)
  rw [bl_len, bl_len] at this; exact this

def goodB (s : ByteArray) : Bool := allN (readOk (pieces s)) (pieces s).length && rightB ((pieces s).map read1)
def parseL (s : ByteArray) : List Pr × Int := if s.size = 0 then ([], 0) else if goodB s = true then ((pieces s).map read1, 0) else ([], 4)

theorem cut_len (s : List UInt8) : (Lib.cut s [61]).1.length ≤ s.length ∧ (Lib.cut s [61]).2.1.length ≤ s.length := by
  by_cases h : (61 : UInt8) ∈ s
  · obtain ⟨a, b, rfl, ha⟩ := first_of h
    rw [cut_at b ha]
    simp
    omega
  · rw [cut_none h]; simp

theorem f19_eq {k : Nat} {s : ByteArray} (hs : s.size + 1 < k) (hk : k ≤ 1000000) (h4 : 40 < k) : f19 k s = some (parseL s) := by
  unfold f19 parseL
  rw [sNil_eq]
  by_cases h0 : s.size = 0
  · simp [h0]
  · have e : f48 k s (⟨#[44]⟩ : ByteArray) = some (pieces s) := by
      show splitRun s _ = _
      unfold splitRun
      rw [if_pos ⟨by omega, by rw [sz1]; omega⟩]; rfl
    simp only [h0, decide_false, cond_false, if_false]
    rw [e]
    simp only [Option.bind_some]
    rw [f19_loop (fun w hw => by have := pieces_size hw; omega) (by have := pieces_len s; omega) hk]
    unfold goodB
    cases ha : allN (readOk (pieces s)) (pieces s).length with
    | false => rfl
    | true =>
      simp only [if_true, Option.bind_some, Bool.true_and]
      have hsm : SmallL k ((pieces s).map read1) := by
        intro p hp
        obtain ⟨w, hw, rfl⟩ := List.mem_map.1 hp
        have h1 := pieces_size hw
        have h2 := cut_len (bl w)
        rw [bl_len] at h2
        unfold read1 cut61
        simp only [size_ba]
        omega
      rw [f26_eq hsm hk (by rw [List.length_map]; have := pieces_len s; omega) (by omega)]
      cases rightB ((pieces s).map read1) <;> rfl

/-! ## No sign that cuts stands in a key or a value -/
theorem plain_not {c : Int} (h : c = 44 ∨ c = 61 ∨ c = 59 ∨ c = 32 ∨ c = 33 ∨ c = 40 ∨ c = 41) : plainB c = false ∧ hasB m3 c = false ∧ hasB m4 c = false := by
  rw [has3, has4]
  rcases h with rfl | rfl | rfl | rfl | rfl | rfl | rfl <;> decide

theorem value_no {b : Bool} {s : ByteArray} (h : valueOk b s = true) {c : UInt8} (hc : (c.toNat : Int) = 44 ∨ (c.toNat : Int) = 61 ∨ (c.toNat : Int) = 59 ∨ (c.toNat : Int) = 32 ∨ (c.toNat : Int) = 33 ∨ (c.toNat : Int) = 40 ∨ (c.toNat : Int) = 41) : c ∉ bl s := by
  intro hm
  obtain ⟨i, hi, e⟩ := mem_getD hm 0
  unfold valueOk at h
  simp only [Bool.and_eq_true] at h
  have := allN_iff.1 h.2 i (by rw [← bl_len]; exact hi)
  unfold okAt at this
  rw [byteAt_bl, e] at this
  obtain ⟨h1, h2, h3⟩ := plain_not hc
  rw [h1] at this
  cases b with
  | true => simp only [cond_true] at this; rw [h3] at this; simp at this
  | false => simp only [cond_false] at this; rw [h2] at this; simp at this

theorem key_no {s : ByteArray} (h : keyOk s = true) {c : UInt8} (hc : (c.toNat : Int) = 44 ∨ (c.toNat : Int) = 61 ∨ (c.toNat : Int) = 59 ∨ (c.toNat : Int) = 32 ∨ (c.toNat : Int) = 33 ∨ (c.toNat : Int) = 40 ∨ (c.toNat : Int) = 41) : c ∉ bl s := by
  unfold keyOk at h
  simp only [Bool.and_eq_true] at h
  exact value_no h.2 hc

/-- What is printed is read again. -/
theorem parse_print {l : List Pr} (h : rightB l = true) : parseL (ba (printL l)) = (l, 0) := by
  obtain ⟨h1, h2⟩ := right_all h
  unfold parseL
  rw [size_ba]
  cases l with
  | nil => rfl
  | cons p0 r =>
    have hne : ¬ (printL (p0 :: r)).length = 0 := by
      unfold printL
      rw [List.map_cons, Lib.join_cons, List.length_append, ptxt_len]; omega
    rw [if_neg hne]
    generalize hL : (p0 :: r) = L at *
    have hLne : L ≠ [] := by rw [← hL]; simp
    have hp : (pieces (ba (printL L))).map bl = L.map ptxt := by
      rw [pieces_bl, bl_ba]
      refine cutAt_join (by simpa using hLne) fun q hq => ?_
      obtain ⟨p, hp, rfl⟩ := List.mem_map.1 hq
      unfold ptxt
      simp only [List.mem_append, List.mem_cons, not_or]
      exact ⟨key_no (h2 p hp).1 (c := 44) (.inl rfl), by decide, value_no (h2 p hp).2 (c := 44) (.inl rfl)⟩
    have hcut : ∀ p ∈ L, Lib.cut (ptxt p) [61] = (bl p.1, bl p.2.1, true) := fun p hp => cut_at _ (key_no (h2 p hp).1 (c := 61) (.inr (.inl rfl)))
    have hlen : (pieces (ba (printL L))).length = L.length := by
      have := congrArg List.length hp
      simpa using this
    have hmap : (pieces (ba (printL L))).map read1 = L := by
      have e : (pieces (ba (printL L))).map read1 = ((pieces (ba (printL L))).map bl).map fun x => ((ba (Lib.cut x [61]).1, ba (Lib.cut x [61]).2.1, ()) : Pr) := by
        rw [List.map_map]; rfl
      rw [e, hp, List.map_map]
      conv => rhs; rw [← List.map_id L]
      refine List.map_congr_left fun p hp => ?_
      simp only [Function.comp, hcut p hp, ba_bl, id]
    have hok : allN (readOk (pieces (ba (printL L)))) (pieces (ba (printL L))).length = true := by
      refine allN_iff.2 fun i hi => ?_
      unfold readOk
      rw [Bool.and_eq_true]
      refine ⟨?_, by simp; omega⟩
      have hm : bl ((pieces (ba (printL L))).getD i sNil) ∈ L.map ptxt := by
        rw [← hp]; exact List.mem_map_of_mem (getD_mem hi sNil)
      obtain ⟨p, hp', e⟩ := List.mem_map.1 hm
      unfold cut61
      rw [← e, hcut p hp']
    unfold goodB
    rw [hok, hmap, h]
    rfl

/-- What is read is printed so. -/
theorem print_parse {s : ByteArray} (h : (parseL s).2 = 0) : rightB (parseL s).1 = true ∧ ba (printL (parseL s).1) = s := by
  unfold parseL at h ⊢
  by_cases h0 : s.size = 0
  · simp only [h0, if_true]
    refine ⟨rfl, bl_inj ?_⟩
    rw [bl_ba, bl_eq_nil.2 h0]; rfl
  · simp only [h0, if_false] at h ⊢
    cases hg : goodB s with
    | false => rw [hg] at h; simp at h
    | true =>
      simp only [if_true]
      unfold goodB at hg
      simp only [Bool.and_eq_true] at hg
      refine ⟨hg.2, bl_inj ?_⟩
      rw [bl_ba]
      unfold printL
      rw [← join_cutAt 44 (bl s), ← pieces_bl, List.map_map]
      congr 1
      refine List.map_congr_left fun w hw => ?_
      obtain ⟨i, hi, e⟩ := mem_getD hw sNil
      have := allN_iff.1 hg.1 i hi
      unfold readOk at this
      rw [e, Bool.and_eq_true] at this
      have hc := this.1
      simp only [Function.comp, read1, ptxt, bl_ba]
      unfold cut61 at hc ⊢
      by_cases hm : (61 : UInt8) ∈ bl w
      · obtain ⟨a, b, e1, ha⟩ := first_of hm
        rw [e1, cut_at b ha]
      · rw [cut_none hm] at hc; cases hc

theorem parse_bad {s : ByteArray} (h : (parseL s).2 ≠ 0) : parseL s = ([], 4) := by
  unfold parseL at h ⊢
  by_cases h0 : s.size = 0
  · rw [if_pos h0] at h; exact absurd rfl h
  · rw [if_neg h0] at h ⊢
    cases hg : goodB s with
    | false => simp
    | true => rw [hg] at h; simp at h

/-- The end of the law: any text is labels', or none's. -/
theorem f4_end {k : Nat} {s : ByteArray} (hs : s.size + 1 < k) (hk : k ≤ 1000000) (h4 : 100 < k) :
    ((f19 k s).bind fun r7 => (bif (r7.2 != 0) then (bif (r7.2 == 4) then (some ((lLen r7.1) == 0)) else (some false)) else ((f18 k r7.1).bind fun r8 => (bif (r8.2 == 0) then (some (sEq r8.1 s)) else (some false))))) = some true := by
  rw [f19_eq hs hk (by omega), Option.bind_some]
  by_cases h0 : (parseL s).2 = 0
  · obtain ⟨h1, h2⟩ := print_parse h0
    have hsm : SmallL k (parseL s).1 := fun p hp => by have := (right_small h1).2 p hp; omega
    rw [f18_eq hsm hk (by omega), h0, h1]
    simp only [bne_self_eq_false, cond_false, if_true, Option.bind_some, beq_self_eq_true, cond_true]
    rw [h2, sEq_iff.2 rfl]
  · rw [parse_bad h0]; rfl

theorem f4_true (l : List Pr) (s : ByteArray) : f4 5000 l s = some true := by
  unfold f4
  rw [f9_true]
  simp only [Option.bind_some, Bool.not_true, cond_false]
  rw [f16_eq (by omega)]
  cases hl : longB l with
  | true => rfl
  | false =>
    obtain ⟨h1, h2⟩ := long_small hl
    simp only [Option.bind_some, cond_false]
    by_cases h4 : s.size ≤ 4000
    · have e : decide (sLen s > 4000) = false := by unfold sLen; simp; omega
      rw [e]
      simp only [cond_false]
      have hsm : SmallL 5000 l := fun p hp => by have := h2 p hp; omega
      rw [f17_eq hsm (by omega) (by omega) (by omega), f18_eq hsm (by omega) (by omega)]
      simp only [Option.bind_some]
      rw [sEq_iff.2 rfl, bne_self_eq_false]
      simp only [Bool.not_true, cond_false]
      cases hr : rightB l with
      | false =>
        simp only [Bool.false_eq_true, if_false]
        exact f4_end (by omega) (by omega) (by omega)
      | true =>
        simp only [if_true, beq_self_eq_true, cond_true]
        have hj := joined_len hr l.length
        rw [List.take_length] at hj
        rw [f19_eq (by rw [size_ba]; unfold printL; omega) (by omega) (by omega), parse_print hr]
        simp only [Option.bind_some, bne_self_eq_false, cond_false]
        rw [f20_eq (by omega) (by omega)]
        simp only [Option.bind_some, decide_true, Bool.not_true, cond_false]
        exact f4_end (by omega) (by omega) (by omega)
    · have e : decide (sLen s > 4000) = true := by unfold sLen; simp; omega
      rw [e]; rfl

end Go.Proofs.YtjbaeojagkkbgaaDoor
