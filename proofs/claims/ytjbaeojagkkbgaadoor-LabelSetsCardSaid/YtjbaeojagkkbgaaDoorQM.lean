/-
  LabelSets: the plain law.
-/
import Derived.Test.YtjbaeojagkkbgaaDoorQS
set_option linter.unusedVariables false
namespace Go.Proofs.YtjbaeojagkkbgaaDoor
open Go Go.PB

/-! ## The order of texts -/
theorem less_irrefl : ∀ x : List UInt8, Op.bytesLess x x = false
  | [] => rfl
  | a :: x => by simp [Op.bytesLess, less_irrefl x, UInt8.lt_irrefl]
theorem less_trans : ∀ {x y z : List UInt8}, Op.bytesLess x y = true → Op.bytesLess y z = true → Op.bytesLess x z = true
  | x, [], z, h, _ => by rw [less_nil_r] at h; cases h
  | x, _ :: _, [], _, h => by rw [less_nil_r] at h; cases h
  | [], _ :: _, _ :: _, _, _ => rfl
  | a :: x, b :: y, c :: z, h1, h2 => by
    simp only [Op.bytesLess, Bool.or_eq_true, decide_eq_true_eq, Bool.and_eq_true, beq_iff_eq] at h1 h2 ⊢
    rcases h1 with h1 | ⟨rfl, h1⟩
    · rcases h2 with h2 | ⟨rfl, h2⟩
      · left; rw [UInt8.lt_iff_toNat_lt] at *; omega
      · left; exact h1
    · rcases h2 with h2 | ⟨rfl, h2⟩
      · left; exact h2
      · right; exact ⟨rfl, less_trans h1 h2⟩
theorem less_total : ∀ {x y : List UInt8}, Op.bytesLess x y = false → Op.bytesLess y x = false → x = y
  | [], [], _, _ => rfl
  | [], _ :: _, h, _ => by simp [Op.bytesLess] at h
  | _ :: _, [], _, h => by simp [Op.bytesLess] at h
  | a :: x, b :: y, h1, h2 => by
    simp only [Op.bytesLess, Bool.or_eq_false_iff, decide_eq_false_iff_not, Bool.and_eq_false_iff, beq_eq_false_iff_ne] at h1 h2
    have e : a = b := UInt8.toNat_inj.1 (by
      have q1 := h1.1; have q2 := h2.1
      rw [UInt8.lt_iff_toNat_lt] at q1 q2; omega)
    subst e
    rcases h1.2 with h | h
    · exact absurd rfl h
    · rcases h2.2 with h' | h'
      · exact absurd rfl h'
      · rw [less_total h h']

theorem sLt_irrefl (s : ByteArray) : sLt s s = false := by rw [sLt_bl]; exact less_irrefl _
theorem sLt_trans {a b c : ByteArray} (h1 : sLt a b = true) (h2 : sLt b c = true) : sLt a c = true := by rw [sLt_bl] at *; exact less_trans h1 h2
theorem sLt_total {a b : ByteArray} (h1 : sLt a b = false) (h2 : sEq a b = false) : sLt b a = true := by
  cases h : sLt b a with
  | true => rfl
  | false =>
    rw [sLt_bl] at h1 h
    have := bl_inj (less_total h1 h)
    rw [← sEq_iff] at this; rw [this] at h2; cases h2
theorem sLt_ne {a b : ByteArray} (h : sLt a b = true) : sEq a b = false := by
  cases he : sEq a b with
  | false => rfl
  | true => rw [sEq_iff] at he; subst he; rw [sLt_irrefl] at h; cases h

theorem cmp_lt : ∀ a b : List UInt8, decide (Lib.compareBytes a b < 0) = Op.bytesLess a b
  | [], [] => rfl
  | [], _ :: _ => rfl
  | _ :: _, [] => rfl
  | a :: x, b :: y => by
    unfold Lib.compareBytes
    rw [show Op.bytesLess (a :: x) (b :: y) = (decide (a < b) || (a == b && Op.bytesLess x y)) from rfl]
    by_cases h1 : a < b
    · rw [if_pos h1, decide_eq_true h1]; rfl
    · rw [if_neg h1, decide_eq_false h1]
      by_cases h2 : b < a
      · rw [if_pos h2]
        have : a ≠ b := fun e => by rw [e] at h2; exact UInt8.lt_irrefl _ h2
        rw [beq_eq_false_iff_ne.2 this]; rfl
      · rw [if_neg h2]
        have e : a = b := UInt8.toNat_inj.1 (by rw [UInt8.lt_iff_toNat_lt] at h1 h2; omega)
        subst e
        simp [cmp_lt x y]
theorem cmp_eq : ∀ a b : List UInt8, (Lib.compareBytes a b == 0) = decide (a = b)
  | [], [] => rfl
  | [], _ :: _ => by simp [Lib.compareBytes]
  | _ :: _, [] => by simp [Lib.compareBytes]
  | a :: x, b :: y => by
    unfold Lib.compareBytes
    by_cases h1 : a < b
    · rw [if_pos h1]
      have : a ≠ b := fun e => by rw [e] at h1; exact UInt8.lt_irrefl _ h1
      simp [this]
    · rw [if_neg h1]
      by_cases h2 : b < a
      · rw [if_pos h2]
        have : a ≠ b := fun e => by rw [e] at h2; exact UInt8.lt_irrefl _ h2
        simp [this]
      · rw [if_neg h2]
        have e : a = b := UInt8.toNat_inj.1 (by rw [UInt8.lt_iff_toNat_lt] at h1 h2; omega)
        subst e
        simp [cmp_eq x y]

theorem f70_lt {k : Nat} (p : Pr) (key : ByteArray) : ∃ r, f70 k p key = some r ∧ decide (r < 0) = sLt p.1 key ∧ (r == 0) = sEq p.1 key := by
  refine ⟨Lib.compareBytes (bl p.1) (bl key), rfl, ?_, ?_⟩
  · rw [cmp_lt, sLt_bl]
  · rw [cmp_eq, sEq_bl]

/-! ## Sorted labels -/
def Sorted (l : List Pr) : Prop := l.Pairwise fun p q => sLt p.1 q.1 = true

theorem sorted_of {l : List Pr} (h : ∀ i, i < l.length → i = 0 ∨ sLt (l.getD (i - 1) zP).1 (l.getD i zP).1 = true) : Sorted l := by
  have step : ∀ d i, i + (d + 1) < l.length → sLt (l.getD i zP).1 (l.getD (i + (d + 1)) zP).1 = true := by
    intro d
    induction d with
    | zero =>
      intro i hi
      rcases h (i + 1) hi with e | e
      · omega
      · exact e
    | succ d ih =>
      intro i hi
      have h1 := ih i (by omega)
      rcases h (i + (d + 1) + 1) (by omega) with e | e
      · omega
      · exact sLt_trans h1 e
  unfold Sorted
  rw [List.pairwise_iff_getElem]
  intro i j hi hj hij
  have := step (j - i - 1) i (by omega)
  rw [show i + (j - i - 1 + 1) = j by omega] at this
  simpa [List.getD_eq_getElem?_getD, List.getElem?_eq_getElem hi, List.getElem?_eq_getElem hj] using this

theorem of_sorted {l : List Pr} (h : Sorted l) (i : Nat) (hi : i < l.length) : (i == 0 || sLt (l.getD (i - 1) zP).1 (l.getD i zP).1) = true := by
  cases i with
  | zero => rfl
  | succ i =>
    unfold Sorted at h
    rw [List.pairwise_iff_getElem] at h
    have := h i (i + 1) (by omega) hi (by omega)
    simpa [List.getD_eq_getElem?_getD, List.getElem?_eq_getElem hi, List.getElem?_eq_getElem (show i < l.length by omega)] using this

theorem right_iff {l : List Pr} : rightB l = true ↔ l.length ≤ 16 ∧ (∀ p ∈ l, keyOk p.1 = true ∧ valueOk false p.2.1 = true) ∧ Sorted l := by
  constructor
  · intro h
    refine ⟨(right_all h).1, (right_all h).2, sorted_of fun i hi => ?_⟩
    unfold rightB at h
    simp only [Bool.and_eq_true] at h
    have := allN_iff.1 h.2 i hi
    unfold rightAt at this
    simp only [Bool.and_eq_true, Bool.or_eq_true, beq_iff_eq] at this
    exact this.2
  · rintro ⟨h1, h2, h3⟩
    unfold rightB
    rw [Bool.and_eq_true]
    refine ⟨by simpa using h1, allN_iff.2 fun i hi => ?_⟩
    unfold rightAt
    have h4 := h2 _ (getD_mem hi zP)
    rw [h4.1, h4.2, of_sorted h3 i hi]; rfl

/-! ## Where a key belongs -/
def lowB (key : ByteArray) (l : List Pr) : List Pr := l.takeWhile fun p => sLt p.1 key
def highB (key : ByteArray) (l : List Pr) : List Pr := l.dropWhile fun p => sLt p.1 key
def foundB (key : ByteArray) (l : List Pr) : Bool := match highB key l with
  | q :: _ => sEq q.1 key
  | [] => false
def tailB (key : ByteArray) (l : List Pr) : List Pr := match highB key l with
  | q :: r => if sEq q.1 key = true then r else q :: r
  | [] => []
def setL (l : List Pr) (key value : ByteArray) : List Pr := lowB key l ++ (key, value, ()) :: tailB key l

theorem low_high (key : ByteArray) (l : List Pr) : lowB key l ++ highB key l = l := List.takeWhile_append_dropWhile
theorem low_lt (key : ByteArray) : ∀ (l : List Pr) (p : Pr), p ∈ lowB key l → sLt p.1 key = true
  | [], p, h => by simp [lowB] at h
  | q :: l, p, h => by
    unfold lowB at h
    rw [List.takeWhile_cons] at h
    split at h
    · rename_i hq
      rcases List.mem_cons.1 h with rfl | h
      · exact hq
      · exact low_lt key l p h
    · simp at h
theorem high_head {key : ByteArray} {q : Pr} {r : List Pr} : ∀ {l : List Pr}, highB key l = q :: r → sLt q.1 key = false
  | [], h => by simp [highB] at h
  | x :: l, h => by
    unfold highB at h
    rw [List.dropWhile_cons] at h
    split at h
    · exact high_head (l := l) h
    · rename_i hx
      injection h with e1 e2
      rw [← e1]; simpa using hx

theorem sorted_high {key : ByteArray} {l : List Pr} (hs : Sorted l) : Sorted (lowB key l) ∧ Sorted (highB key l) ∧ ∀ p ∈ lowB key l, ∀ q ∈ highB key l, sLt p.1 q.1 = true := by
  have h : Sorted (lowB key l ++ highB key l) := by rw [low_high]; exact hs
  exact List.pairwise_append.1 h

theorem high_not {key : ByteArray} {l : List Pr} (hs : Sorted l) (p : Pr) (h : p ∈ highB key l) : sLt p.1 key = false := by
  obtain ⟨_, h2, _⟩ := sorted_high (key := key) hs
  cases hq : highB key l with
  | nil => rw [hq] at h; simp at h
  | cons q r =>
    rw [hq] at h h2
    have h0 := high_head hq
    rcases List.mem_cons.1 h with rfl | h
    · exact h0
    · have h3 := (List.pairwise_cons.1 h2).1 p h
      cases hp : sLt p.1 key with
      | false => rfl
      | true => rw [sLt_trans h3 hp] at h0; cases h0

theorem tail_gt {key : ByteArray} {l : List Pr} (hs : Sorted l) (p : Pr) (h : p ∈ tailB key l) : sLt key p.1 = true := by
  obtain ⟨_, h2, _⟩ := sorted_high (key := key) hs
  unfold tailB at h
  cases hq : highB key l with
  | nil => rw [hq] at h; simp at h
  | cons q r =>
    rw [hq] at h h2
    have h0 := high_head hq
    simp only at h
    split at h
    · rename_i he
      rw [sEq_iff] at he
      have := (List.pairwise_cons.1 h2).1 p h
      rw [he] at this; exact this
    · rename_i he
      have hk : sLt key q.1 = true := sLt_total h0 (by simpa using he)
      rcases List.mem_cons.1 h with rfl | h
      · exact hk
      · exact sLt_trans hk ((List.pairwise_cons.1 h2).1 p h)

theorem tail_sub {key : ByteArray} {l : List Pr} (p : Pr) (h : p ∈ tailB key l) : p ∈ highB key l := by
  unfold tailB at h
  cases hq : highB key l with
  | nil => rw [hq] at h; simp at h
  | cons q r =>
    rw [hq] at h
    simp only at h
    split at h
    · exact List.mem_cons_of_mem _ h
    · exact h
theorem tail_sorted {key : ByteArray} {l : List Pr} (hs : Sorted l) : Sorted (tailB key l) := by
  obtain ⟨_, h2, _⟩ := sorted_high (key := key) hs
  unfold tailB
  cases hq : highB key l with
  | nil => exact List.Pairwise.nil
  | cons q r =>
    rw [hq] at h2
    simp only
    split
    · exact (List.pairwise_cons.1 h2).2
    · exact h2
theorem high_len {key : ByteArray} {l : List Pr} : (highB key l).length = (tailB key l).length + (bif foundB key l then 1 else 0) := by
  unfold tailB foundB
  cases hq : highB key l with
  | nil => rfl
  | cons q r =>
    simp only
    cases he : sEq q.1 key <;> simp
theorem len_eq {key : ByteArray} {l : List Pr} : l.length = (lowB key l).length + (tailB key l).length + (bif foundB key l then 1 else 0) := by
  conv => lhs; rw [← low_high key l]
  rw [List.length_append, high_len]; omega

theorem setL_right {l : List Pr} {key value : ByteArray} (h : rightB l = true) (hk : keyOk key = true) (hv : valueOk false value = true) (hl : foundB key l = true ∨ l.length < 16) : rightB (setL l key value) = true := by
  obtain ⟨h1, h2, h3⟩ := right_iff.1 h
  have hlen := len_eq (key := key) (l := l)
  have sub : ∀ p, p ∈ lowB key l ∨ p ∈ highB key l → p ∈ l := fun p hp => by rw [← low_high key l]; exact List.mem_append.2 hp
  refine right_iff.2 ⟨?_, ?_, ?_⟩
  · unfold setL
    rw [List.length_append, List.length_cons]
    rcases hl with hl | hl
    · rw [hl] at hlen; simp only [cond_true] at hlen; omega
    · omega
  · intro p hp
    unfold setL at hp
    rcases List.mem_append.1 hp with hp | hp
    · exact h2 p (sub p (.inl hp))
    · rcases List.mem_cons.1 hp with rfl | hp
      · exact ⟨hk, hv⟩
      · exact h2 p (sub p (.inr (tail_sub p hp)))
  · unfold setL
    refine List.pairwise_append.2 ⟨(sorted_high h3).1, List.pairwise_cons.2 ⟨fun p hp => tail_gt h3 p hp, tail_sorted h3⟩, fun p hp q hq => ?_⟩
    rcases List.mem_cons.1 hq with rfl | hq
    · exact low_lt key l p hp
    · exact (sorted_high (key := key) h3).2.2 p hp q (tail_sub q hq)

theorem getL_split {key : ByteArray} {A B : List Pr} (hA : ∀ p ∈ A, sEq p.1 key = false) : getL (A ++ B) key = getL B key := by
  unfold getL
  have : (A ++ B).find? (fun p => sEq p.1 key) = B.find? (fun p => sEq p.1 key) := by
    rw [List.find?_append]
    have : A.find? (fun p => sEq p.1 key) = none := by
      rw [List.find?_eq_none]; intro x hx; rw [hA x hx]; simp
    rw [this]; rfl
  rw [this]

theorem low_ne {key : ByteArray} {l : List Pr} (p : Pr) (h : p ∈ lowB key l) : sEq p.1 key = false := sLt_ne (low_lt key l p h)

theorem getL_set {l : List Pr} {key value : ByteArray} : getL (setL l key value) key = (value, true) := by
  unfold setL
  rw [getL_split low_ne]
  unfold getL
  rw [List.find?_cons, sEq_iff.2 rfl]

theorem getL_found {l : List Pr} {key : ByteArray} (hs : Sorted l) : (getL l key).2 = foundB key l := by
  conv => lhs; rw [← low_high key l]
  rw [getL_split low_ne]
  unfold foundB
  cases hq : highB key l with
  | nil => rfl
  | cons q r =>
    unfold getL
    rw [List.find?_cons]
    simp only
    cases he : sEq q.1 key with
    | true => rfl
    | false =>
      have hr : r.find? (fun p => sEq p.1 key) = none := by
        rw [List.find?_eq_none]
        intro x hx
        have : x ∈ tailB key l := by unfold tailB; rw [hq]; simp [he, hx]
        have := sLt_ne (tail_gt hs x this)
        rw [sEq_comm] at this; rw [this]; simp
      simp [hr]

/-! ## Without -/
theorem f28_eq {k : Nat} {l : List Pr} {key : ByteArray} (hl : l.length < k) (hk : k ≤ 1000000) : f28 k l key = some (l.filter fun p => !sEq p.1 key) := by
  have h := iter_to (step := f28_s6_u k) (f := fun i => (l, key, (i : Int), (l.take i).filter (fun p => !sEq p.1 key), ())) (b := (l.filter (fun p => !sEq p.1 key), ())) (m := l.length) k 0 (by omega)
    (fun i _ hi => by
      show f28_s6 k l key i ((l.take i).filter (fun p => !sEq p.1 key)) = _
      unfold f28_s6
      have hfl : ((l.take i).filter (fun p => !sEq p.1 key)).length ≤ i := Nat.le_trans (List.length_filter_le _ _) (by rw [List.length_take]; omega)
      rw [lt_l hi, lAtP, take_next hi zP, List.filter_append]
      simp only [rangeK_l hi, cond_true, next_l i _ hi (by omega)]
      rw [roomK_of (by show (List.filter (fun p : Pr => !sEq p.1 key) (l.take i)).length + 1 ≤ 4294967296; omega), List.filter_cons, List.filter_nil]
      cases he : sEq (l.getD i zP).1 key
      · rfl
      · show _ = some (Sum.inl (l, key, _, _ ++ [], ()))
        rw [List.append_nil]; rfl)
    (by
      show f28_s6 k l key l.length ((l.take l.length).filter (fun p => !sEq p.1 key)) = _
      unfold f28_s6
      rw [lt_l_not, List.take_length]; rfl) hl
  show ((iter (f28_s6_u k) k (l, key, ((0 : Nat) : Int), [], ())).bind _) = _
  have h' : iter (f28_s6_u k) k (l, key, ((0 : Nat) : Int), [], ()) = _ := h
  rw [h']; rfl

theorem filter_sorted {l : List Pr} {key : ByteArray} (hs : Sorted l) : (l.filter fun p => !sEq p.1 key) = lowB key l ++ tailB key l := by
  conv => lhs; rw [← low_high key l]
  rw [List.filter_append]
  have h1 : (lowB key l).filter (fun p => !sEq p.1 key) = lowB key l := List.filter_eq_self.2 fun p hp => by rw [low_ne p hp]; rfl
  have h2 : (tailB key l).filter (fun p => !sEq p.1 key) = tailB key l := List.filter_eq_self.2 fun p hp => by
    have := sLt_ne (tail_gt hs p hp)
    rw [sEq_comm] at this; rw [this]; rfl
  rw [h1]
  congr 1
  cases hq : highB key l with
  | nil => unfold tailB; rw [hq]; rfl
  | cons q r =>
    have h3 : tailB key l = if sEq q.1 key = true then r else q :: r := by unfold tailB; rw [hq]
    rw [h3] at h2 ⊢
    cases he : sEq q.1 key with
    | true => rw [he] at h2; simp only [if_true] at h2 ⊢; rw [List.filter_cons, he]; simpa using h2
    | false => rw [he] at h2; simpa using h2

/-! ## Binary search -/
theorem mid_eq (lo hi : Nat) (h : lo + hi < 4294967296) : w64 (iShr .u64 (IntKind.wrap .u64 (w64 ((lo : Int) + (hi : Int)))) 1) = (((lo + hi) / 2 : Nat) : Int) := by
  have e1 : w64 ((lo : Int) + (hi : Int)) = ((lo + hi : Nat) : Int) := by rw [w64_of (by omega) (by omega)]; omega
  have e2 : IntKind.wrap .u64 ((lo + hi : Nat) : Int) = ((lo + hi : Nat) : Int) := by
    unfold IntKind.wrap
    simp only [IntKind.bits, IntKind.signed, Bool.false_and]
    have : ((lo + hi : Nat) : Int) % 2 ^ 64 = ((lo + hi : Nat) : Int) := Int.emod_eq_of_lt (by omega) (by omega)
    simpa using this
  rw [e1, e2]
  unfold iShr
  have e3 : ((lo + hi : Nat) : Int).fdiv (2 ^ min (1 : Int).toNat IntKind.u64.bits) = (((lo + hi) / 2 : Nat) : Int) := by
    rw [Int.fdiv_eq_ediv_of_nonneg _ (by simp [IntKind.bits])]
    simp [IntKind.bits]
  rw [e3, w64_of (by omega) (by omega)]

theorem f69_loop {k : Nat} {l : List Pr} {key : ByteArray} {a : Nat} (hl : l.length ≤ 1000000) (hS : ∀ i, i < l.length → sLt (l.getD i zP).1 key = decide (i < a)) : ∀ (n lo hi : Nat), lo ≤ a → a ≤ hi → hi ≤ l.length → hi - lo < n →
    iter (f69_s6_u k) n (l, key, lLen l, (lo : Int), (hi : Int), ()) = some (l, key, lLen l, (a : Int), ())
  | 0, _, _, _, _, _, h => by omega
  | n + 1, lo, hi, h1, h2, h3, h4 => by
    rw [iter_succ]
    show ((f69_s6 k l key (lLen l) lo hi).bind _) = _
    unfold f69_s6
    by_cases he : lo < hi
    · have hd : decide ((lo : Int) < (hi : Int)) = true := by simp; omega
      have hm : (lo + hi) / 2 < l.length := by omega
      rw [hd, mid_eq lo hi (by omega), lAtP]
      simp only [cond_true, rangeK_l hm]
      obtain ⟨r, hr, hr1, _⟩ := f70_lt (k := k) (l.getD ((lo + hi) / 2) zP) key
      rw [hr]
      simp only [Option.bind_some]
      rw [hr1, hS _ hm]
      by_cases hc : (lo + hi) / 2 < a
      · rw [decide_eq_true hc]
        simp only [cond_true, Option.bind_some]
        rw [next_l _ l.length hm (by omega)]
        exact f69_loop hl hS n _ hi (by omega) h2 h3 (by omega)
      · rw [decide_eq_false hc]
        simp only [cond_false, Option.bind_some]
        exact f69_loop hl hS n lo _ h1 (by omega) (by omega) (by omega)
    · have hd : decide ((lo : Int) < (hi : Int)) = false := by simp; omega
      rw [hd]
      have : a = lo := by omega
      subst this; rfl

theorem getD_low {key : ByteArray} {l : List Pr} (hs : Sorted l) (i : Nat) (hi : i < l.length) : sLt (l.getD i zP).1 key = decide (i < (lowB key l).length) := by
  have e : l.getD i zP = (lowB key l ++ highB key l).getD i zP := by rw [low_high]
  rw [e, List.getD_eq_getElem?_getD]
  by_cases h : i < (lowB key l).length
  · rw [decide_eq_true h, List.getElem?_append_left h, List.getElem?_eq_getElem h]
    exact low_lt key l _ (List.getElem_mem h)
  · have hl : l.length = (lowB key l).length + (highB key l).length := by
      conv => lhs; rw [← low_high key l]
      rw [List.length_append]
    rw [decide_eq_false h, List.getElem?_append_right (by omega), List.getElem?_eq_getElem (show i - (lowB key l).length < (highB key l).length by omega)]
    exact high_not hs _ (List.getElem_mem _)

theorem at_low {key : ByteArray} {l : List Pr} (h : (lowB key l).length < l.length) : ∃ q r, highB key l = q :: r ∧ l.getD (lowB key l).length zP = q := by
  have hl : l.length = (lowB key l).length + (highB key l).length := by
    conv => lhs; rw [← low_high key l]
    rw [List.length_append]
  cases hq : highB key l with
  | nil => rw [hq] at hl; simp at hl; omega
  | cons q r =>
    refine ⟨q, r, rfl, ?_⟩
    have e : l.getD (lowB key l).length zP = (lowB key l ++ highB key l).getD (lowB key l).length zP := by rw [low_high]
    rw [e, hq, List.getD_eq_getElem?_getD, List.getElem?_append_right (Nat.le_refl _)]
    simp

theorem f51_eq {k : Nat} {l : List Pr} {key : ByteArray} (hs : Sorted l) (hl : l.length < k) (hk : k ≤ 1000000) : f51 k l key = some (((lowB key l).length : Int), foundB key l) := by
  have hlen : l.length = (lowB key l).length + (highB key l).length := by
    conv => lhs; rw [← low_high key l]
    rw [List.length_append]
  have h := f69_loop (k := k) (by omega) (fun i hi => getD_low (key := key) hs i hi) k 0 l.length (by omega) (by omega) (Nat.le_refl _) (by omega)
  have h' : f69_l6 k l key (lLen l) 0 (lLen l) = _ := h
  unfold f51 f69
  rw [h']
  simp only [Option.bind_some]
  by_cases hlt : (lowB key l).length < l.length
  · rw [lt_l hlt, lAtP]
    simp only [cond_true, rangeK_l hlt]
    obtain ⟨q, r, hq, hg⟩ := at_low hlt
    obtain ⟨x, hx, _, hx2⟩ := f70_lt (k := k) (l.getD (lowB key l).length zP) key
    rw [hx]
    simp only [Option.bind_some]
    rw [hx2, hg]
    unfold foundB
    rw [hq]
  · have e : (lowB key l).length = l.length := by omega
    have hd : decide ((((lowB key l).length : Nat) : Int) < lLen l) = false := by rw [e]; exact lt_l_not l
    rw [hd]
    simp only [cond_false, Option.bind_some]
    have hq : highB key l = [] := List.length_eq_zero_iff.1 (by omega)
    unfold foundB
    rw [hq]

/-! ## Set -/
theorem set_mid {α : Type} : ∀ (A : List α) (q x : α) (r : List α), (A ++ q :: r).set A.length x = A ++ x :: r
  | [], _, _, _ => rfl
  | a :: A, q, x, r => by rw [List.cons_append, List.length_cons, List.set_cons_succ, set_mid A q x r]; rfl

def setOf (l : List Pr) (key value : ByteArray) : List Pr × Int := if rightB l && (keyOk key && valueOk false value) then (if (!foundB key l) && decide (l.length ≥ 16) then ([], 5) else (setL l key value, 0)) else ([], 4)

theorem f21_eq {k : Nat} {l : List Pr} {key value : ByteArray} (hs : SmallL k l) (hl : l.length < k) (hk : k ≤ 1000000) (hkey : key.size < k) (hval : value.size < k) (h4 : 40 < k) : f21 k l key value = some (setOf l key value) := by
  unfold f21 setOf
  rw [f26_eq hs hk hl (by omega), f12_eq (by omega) hkey (by omega), f14_eq (by omega) hval (by omega)]
  cases hr : rightB l with
  | false => rfl
  | true =>
    cases hkk : keyOk key with
    | false => rfl
    | true =>
      cases hvv : valueOk false value with
      | false => rfl
      | true =>
        obtain ⟨h1, h2, h3⟩ := right_iff.1 hr
        have e50 : f50 k l = some l := by show cloneRun l = _; unfold cloneRun; rw [if_pos (by omega)]
        simp only [Option.bind_some, Bool.not_true, cond_false, Bool.and_self, if_true]
        rw [e50]
        simp only [Option.bind_some]
        rw [f51_eq h3 hl hk]
        simp only [Option.bind_some]
        have hlen := len_eq (key := key) (l := l)
        cases hf : foundB key l with
        | true =>
          rw [hf] at hlen
          simp only [cond_true] at hlen ⊢
          have hlt : (lowB key l).length < l.length := by omega
          rw [rangeK_l hlt]
          obtain ⟨q, r, hq, hg⟩ := at_low hlt
          have hqk : q.1 = key := by
            unfold foundB at hf; rw [hq] at hf
            exact sEq_iff.1 hf
          have htl : tailB key l = r := by unfold tailB; rw [hq]; simp [hqk, sEq_iff.2 rfl]
          simp only [Bool.not_true, Bool.false_and]
          show some (List.set l _ ((List.getD l _ zP).1, value, (List.getD l _ zP).2.2), 0) = _
          rw [Int.toNat_natCast, hg]
          have e1 : l.set (lowB key l).length (q.1, value, q.2.2) = setL l key value := by
            have := set_mid (lowB key l) q (q.1, value, q.2.2) r
            rw [← hq, low_high] at this
            rw [this]
            unfold setL
            rw [htl, hqk]
          rw [e1]; rfl
        | false =>
          have e16 : decide (lLen l ≥ 16) = decide (l.length ≥ 16) := by unfold lLen; congr 1; exact propext ⟨fun h => by omega, fun h => by omega⟩
          simp only [cond_false, Bool.not_false, Bool.true_and, e16]
          by_cases h16 : l.length ≥ 16
          · rw [decide_eq_true h16]; rfl
          · rw [decide_eq_false h16]
            have e52 : f52 k l ((lowB key l).length : Int) [(key, value, ())] = some (setL l key value) := by
              show insertRun l _ _ = _
              simp only [insertRun]
              have hle : (lowB key l).length ≤ l.length := by omega
              rw [if_pos ⟨by omega, by omega, by omega⟩, Int.toNat_natCast]
              have hq : highB key l = tailB key l := by
                unfold foundB at hf
                unfold tailB
                cases hq : highB key l with
                | nil => rfl
                | cons q r => rw [hq] at hf; simp only at hf; simp [hf]
              have e1 : l.take (lowB key l).length = lowB key l := by
                have := List.take_left (l₁ := lowB key l) (l₂ := highB key l)
                rw [low_high] at this; exact this
              have e2 : l.drop (lowB key l).length = tailB key l := by
                have := List.drop_left (l₁ := lowB key l) (l₂ := highB key l)
                rw [low_high] at this; rw [this, hq]
              rw [e1, e2]; rfl
            rw [e52]; rfl


theorem f22_loop {k : Nat} {A T : List Pr} {key value : ByteArray} (hA : ∀ p ∈ A, sLt p.1 key = true) (hT : ∀ p ∈ T, sLt p.1 key = false) (hs : SmallL k (A ++ T)) (hl : (A ++ T).length < k) (hk : k ≤ 1000000) :
    f22_l16 k key value (A ++ T) 0 [] = some (key, value, A ++ T, (A.length : Int), A, ()) := by
  have hlen : (A ++ T).length = A.length + T.length := List.length_append
  have h := iter_to (step := f22_s16_u k) (f := fun i => (key, value, A ++ T, (i : Int), (A ++ T).take i, ())) (b := (key, value, A ++ T, (A.length : Int), A, ())) (m := A.length) k 0 (by omega)
    (fun i _ hi => by
      show f22_s16 k key value (A ++ T) i ((A ++ T).take i) = _
      unfold f22_s16
      have hi' : i < (A ++ T).length := by omega
      have hm := hs _ (getD_mem hi' zP)
      have hg : (A ++ T).getD i zP = A.getD i zP := by rw [List.getD_eq_getElem?_getD, List.getElem?_append_left hi, List.getD_eq_getElem?_getD]
      have hlt := hA _ (getD_mem hi zP)
      rw [lt_l hi', lAtP, f53_eq hm.1 (by have := hm.1; omega), take_next hi' zP, hg, hlt]
      simp only [rangeK_l hi', cond_true, Option.bind_some, next_l i _ hi' (by omega)]
      rw [roomK_of (by show ((A ++ T).take i).length + 1 ≤ 4294967296; rw [List.length_take]; omega)])
    (by
      show f22_s16 k key value (A ++ T) A.length ((A ++ T).take A.length) = _
      unfold f22_s16
      rw [List.take_left]
      by_cases ht : T = []
      · subst ht
        have e : A.length = (A ++ ([] : List Pr)).length := by simp
        have hd : decide (((A.length : Nat) : Int) < lLen (A ++ ([] : List Pr))) = false := by rw [e]; exact lt_l_not _
        rw [hd]; rfl
      · have hTl : 0 < T.length := List.length_pos_iff.2 ht
        have hi' : A.length < (A ++ T).length := by omega
        have hm := hs _ (getD_mem hi' zP)
        have hg : (A ++ T).getD A.length zP ∈ T := by
          rw [List.getD_eq_getElem?_getD, List.getElem?_append_right (Nat.le_refl _), Nat.sub_self, List.getElem?_eq_getElem hTl]
          exact List.getElem_mem hTl
        rw [lt_l hi', lAtP, f53_eq hm.1 (by have := hm.1; omega), hT _ hg]
        simp only [rangeK_l hi', cond_true, cond_false, Option.bind_some]) (by omega)
  exact h

theorem f22_eq {k : Nat} {l : List Pr} {key value : ByteArray} (hs : SmallL k l) (hl : l.length < k) (hk : k ≤ 1000000) (hkey : key.size < k) (hval : value.size < k) (h4 : 40 < k) : f22 k l key value = some (setOf l key value) := by
  unfold f22 setOf
  rw [f27_eq hs hk (by omega), f13_eq (by omega) hkey (by omega), f15_eq false (by omega) hval (by omega)]
  cases hr : rightB l with
  | false => rfl
  | true =>
    cases hkk : keyOk key with
    | false => rfl
    | true =>
      cases hvv : valueOk false value with
      | false => rfl
      | true =>
        obtain ⟨h1, h2, h3⟩ := right_iff.1 hr
        simp only [Option.bind_some, Bool.not_true, cond_false, Bool.and_self, if_true]
        rw [f28_eq hl hk, filter_sorted h3]
        simp only [Option.bind_some]
        have hlen := len_eq (key := key) (l := l)
        have hAT : (lowB key l ++ tailB key l).length = (lowB key l).length + (tailB key l).length := List.length_append
        have hsm : SmallL k (lowB key l ++ tailB key l) := fun p hp => hs p (by
          rw [← low_high key l]
          rcases List.mem_append.1 hp with h | h
          · exact List.mem_append_left _ h
          · exact List.mem_append_right _ (tail_sub p h))
        have e16 : decide (lLen (lowB key l ++ tailB key l) ≥ 16) = ((!foundB key l) && decide (l.length ≥ 16)) := by
          unfold lLen
          rw [hAT]
          cases hf : foundB key l with
          | true => rw [hf] at hlen; simp only [cond_true] at hlen; simp; omega
          | false =>
            rw [hf] at hlen; simp only [cond_false] at hlen
            simp only [Bool.not_false, Bool.true_and]
            congr 1; exact propext ⟨fun h => by omega, fun h => by omega⟩
        rw [e16]
        cases hc : ((!foundB key l) && decide (l.length ≥ 16)) with
        | true => rfl
        | false =>
          simp only [cond_false, Bool.false_eq_true, if_false]
          rw [f22_loop (fun p hp => low_lt key l p hp) (fun p hp => by
            cases h : sLt p.1 key with
            | false => rfl
            | true => have := sLt_trans (tail_gt h3 p hp) h; rw [sLt_irrefl] at this; cases this) hsm (by omega) hk]
          simp only [Option.bind_some]
          have e1 : lCut (lowB key l ++ tailB key l) ((lowB key l).length : Int) (lLen (lowB key l ++ tailB key l)) = tailB key l := by
            unfold lCut lLen
            rw [Int.toNat_natCast, Int.toNat_natCast, List.take_length, List.drop_left]
          rw [e1, roomK_of (by show (lowB key l).length + 1 ≤ 4294967296; omega)]
          have hcut : ∀ {R : Type} (K : Option R), cutK ((lowB key l).length : Int) (lLen (lowB key l ++ tailB key l)) (lLen (lowB key l ++ tailB key l)) K = K := fun K => by
            unfold lLen; exact cutK_i (by omega) (Nat.le_refl _) K
          rw [hcut, roomK_of (by show (lowB key l ++ [(key, value, ())]).length + (tailB key l).length ≤ 4294967296; rw [List.length_append]; simp only [List.length_cons, List.length_nil]; omega)]
          unfold setL
          rw [List.append_assoc]; rfl

/-! ## Unset -/
theorem f54_eq {k : Nat} {x y : List Pr} (hx : x.length ≤ 1000) (hy : y.length ≤ 1000) (hk : 3 < k) : f54 k [x, y] = some (x ++ y) := by
  have h1 := iter_to (step := f54_s6_u k) (f := fun i => ([x, y], (((([x, y] : List (List Pr)).take i).map List.length).sum : Int), [x, y], lLen [x, y], (i : Int), ())) (b := ([x, y], ((x.length + y.length : Nat) : Int), ())) (m := 2) k 0 (by omega)
    (fun i _ hi => by
      show f54_s6 k [x, y] _ [x, y] (lLen [x, y]) i = _
      unfold f54_s6
      have hi' : i < ([x, y] : List (List Pr)).length := hi
      rw [lt_l hi']
      simp only [cond_true, rangeK_l hi']
      have hL : lAt (.list (.agg (.pair .str (.pair .str .unit)))) [x, y] (i : Int) = ([x, y] : List (List Pr)).getD i [] := rfl
      rw [hL, next_l i _ hi' (by simp)]
      match i, hi with
      | 0, _ =>
        have e : w64 ((((List.map List.length (List.take 0 [x, y])).sum : Nat) : Int) + lLen (([x, y] : List (List Pr)).getD 0 [])) = ((x.length : Nat) : Int) := by
          show w64 (((0 : Nat) : Int) + lLen x) = _
          unfold lLen
          rw [w64_of (by omega) (by omega)]; omega
        rw [e]
        have hd : decide (((x.length : Nat) : Int) < 0) = false := by simp
        rw [hd]; rfl
      | 1, _ =>
        have e : w64 ((((List.map List.length (List.take 1 [x, y])).sum : Nat) : Int) + lLen (([x, y] : List (List Pr)).getD 1 [])) = ((x.length + y.length : Nat) : Int) := by
          show w64 (((x.length + 0 : Nat) : Int) + lLen y) = _
          unfold lLen
          rw [w64_of (by omega) (by omega)]; omega
        rw [e]
        have hd : decide (((x.length + y.length : Nat) : Int) < 0) = false := by simp; omega
        rw [hd]; rfl)
    (by
      show f54_s6 k [x, y] _ [x, y] (lLen [x, y]) ((2 : Nat) : Int) = _
      unfold f54_s6
      have hd : decide (((2 : Nat) : Int) < lLen ([x, y] : List (List Pr))) = false := lt_l_not _
      rw [hd]; rfl) (by omega)
  have h1' : f54_l6 k [x, y] 0 [x, y] (lLen [x, y]) 0 = _ := h1
  have h2 := iter_to (step := f54_s22_u k) (f := fun i => ([x, y], lLen [x, y], (i : Int), (([x, y] : List (List Pr)).take i).flatten, ())) (b := (x ++ y, ())) (m := 2) k 0 (by omega)
    (fun i _ hi => by
      show f54_s22 k [x, y] (lLen [x, y]) i _ = _
      unfold f54_s22
      have hi' : i < ([x, y] : List (List Pr)).length := hi
      rw [lt_l hi']
      simp only [cond_true, rangeK_l hi']
      have hL : lAt (.list (.agg (.pair .str (.pair .str .unit)))) [x, y] (i : Int) = ([x, y] : List (List Pr)).getD i [] := rfl
      rw [hL, next_l i _ hi' (by simp)]
      match i, hi with
      | 0, _ =>
        rw [roomK_of (by show 0 + x.length ≤ 4294967296; omega)]
        show some (Sum.inl ([x, y], lLen [x, y], _, [] ++ x, ())) = some (Sum.inl ([x, y], lLen [x, y], _, x ++ [], ()))
        rw [List.append_nil]; rfl
      | 1, _ =>
        rw [roomK_of (by show (x ++ []).length + y.length ≤ 4294967296; rw [List.append_nil]; omega)]
        show some (Sum.inl ([x, y], lLen [x, y], _, (x ++ []) ++ y, ())) = some (Sum.inl ([x, y], lLen [x, y], _, x ++ (y ++ []), ()))
        rw [List.append_nil, List.append_nil])
    (by
      show f54_s22 k [x, y] (lLen [x, y]) ((2 : Nat) : Int) _ = _
      unfold f54_s22
      have hd : decide (((2 : Nat) : Int) < lLen ([x, y] : List (List Pr))) = false := lt_l_not _
      rw [hd]
      show some (Sum.inr (x ++ (y ++ []), ())) = _
      rw [List.append_nil]) (by omega)
  have h2' : f54_l22 k [x, y] (lLen [x, y]) 0 [] = _ := h2
  unfold f54
  rw [h1']
  simp only [Option.bind_some]
  have e74 : f74 k ((x.length + y.length : Nat) : Int) = some [] := by
    show growRun _ = _
    unfold growRun
    rw [if_pos ⟨by omega, by omega⟩]
  rw [e74]
  simp only [Option.bind_some]
  rw [h2']; rfl

def unsetOf (l : List Pr) (key : ByteArray) : List Pr × Int := if rightB l then (if foundB key l then (lowB key l ++ tailB key l, 0) else ([], 7)) else ([], 4)

theorem f23_eq {k : Nat} {l : List Pr} {key : ByteArray} (hs : SmallL k l) (hl : l.length < k) (hk : k ≤ 1000000) (h4 : 40 < k) : f23 k l key = some (unsetOf l key) := by
  unfold f23 unsetOf
  rw [f26_eq hs hk hl (by omega)]
  cases hr : rightB l with
  | false => rfl
  | true =>
    obtain ⟨h1, h2, h3⟩ := right_iff.1 hr
    simp only [Option.bind_some, Bool.not_true, cond_false, if_true]
    rw [f51_eq h3 hl hk]
    simp only [Option.bind_some]
    cases hf : foundB key l with
    | false => rfl
    | true =>
      have hlen := len_eq (key := key) (l := l)
      rw [hf] at hlen
      simp only [cond_true] at hlen
      have hlt : (lowB key l).length < l.length := by omega
      simp only [Bool.not_true, cond_false, if_true]
      have hc1 : ∀ {R : Type} (K : Option R), cutK 0 ((lowB key l).length : Int) (lLen l) K = K := fun K => cutK_i (l := 0) (Nat.zero_le _) (by omega) K
      rw [next_l _ _ hlt (by omega)]
      have hc2 : ∀ {R : Type} (K : Option R), cutK (((lowB key l).length + 1 : Nat) : Int) (lLen l) (lLen l) K = K := fun K => by unfold lLen; exact cutK_i (by omega) (Nat.le_refl _) K
      rw [hc1, hc2]
      obtain ⟨q, r, hq, hg⟩ := at_low hlt
      have hqk : q.1 = key := by
        unfold foundB at hf; rw [hq] at hf
        exact sEq_iff.1 hf
      have htl : tailB key l = r := by unfold tailB; rw [hq]; simp [hqk, sEq_iff.2 rfl]
      have e1 : lCut l 0 ((lowB key l).length : Int) = lowB key l := by
        unfold lCut
        rw [Int.toNat_natCast]
        have := List.take_left (l₁ := lowB key l) (l₂ := highB key l)
        rw [low_high] at this
        rw [this]; rfl
      have e2 : lCut l (((lowB key l).length + 1 : Nat) : Int) (lLen l) = tailB key l := by
        unfold lCut lLen
        rw [Int.toNat_natCast, Int.toNat_natCast, List.take_length]
        have := List.drop_left (l₁ := lowB key l) (l₂ := highB key l)
        rw [low_high, hq] at this
        rw [← List.drop_drop, this, htl]; rfl
      rw [e1, e2, f54_eq (by omega) (by omega) (by omega)]
      rfl

/-! ## The law -/
theorem f5_true (l : List Pr) (key value : ByteArray) : f5 5000 l key value = some true := by
  unfold f5
  rw [f9_true, f16_eq (by omega)]
  simp only [Option.bind_some, Bool.not_true, cond_false]
  cases hl : longB l with
  | true => rfl
  | false =>
    obtain ⟨g1, g2⟩ := long_small hl
    simp only [cond_false]
    rw [s200, s200]
    cases hks : decide (key.size ≤ 200) with
    | false => rfl
    | true =>
      cases hvs : decide (value.size ≤ 200) with
      | false => rfl
      | true =>
        rw [decide_eq_true_eq] at hks hvs
        have hsm : SmallL 5000 l := fun p hp => by have := g2 p hp; omega
        simp only [Bool.not_true, cond_false]
        rw [roomK_of (by show 0 + l.length ≤ 4294967296; omega)]
        rw [f21_eq hsm (by omega) (by omega) (by omega) (by omega) (by omega), f22_eq hsm (by omega) (by omega) (by omega) (by omega) (by omega), f23_eq hsm (by omega) (by omega) (by omega), f24_eq (by omega) (by omega), f25_eq (by omega) (by omega), f26_eq hsm (by omega) (by omega) (by omega), f27_eq hsm (by omega) (by omega), f28_eq (by omega) (by omega)]
        simp only [Option.bind_some, bne_self_eq_false, cond_false, beq_self_eq_true, Bool.not_true]
        have hset : (setOf l key value).1.length < 5000 := by
          unfold setOf
          split
          · rename_i h
            simp only [Bool.and_eq_true] at h
            split
            · simp
            · have := (right_iff.1 h.1).1
              have := len_eq (key := key) (l := l)
              unfold setL
              rw [List.length_append, List.length_cons]
              omega
          · simp
        rw [f20_eq hset (by omega), sEq_iff.2 rfl, List.nil_append, f20_eq (show l.length < 5000 by omega) (by omega)]
        simp only [Option.bind_some, decide_true, Bool.not_true, cond_false]
        -- what is unset
        have hend : (bif (!rightB l) then (bif ((unsetOf l key).2 == 4) then (some ((lLen (unsetOf l key).1) == 0)) else (some false)) else (bif (!(getL l key).2) then (bif ((unsetOf l key).2 == 7) then (some ((lLen (unsetOf l key).1) == 0)) else (some false)) else (bif ((unsetOf l key).2 == 0) then ((f20 5000 (unsetOf l key).1 (l.filter fun p => !sEq p.1 key)).bind fun r16 => (some r16)) else (some false)))) = some true := by
          cases hr : rightB l with
          | false => unfold unsetOf; rw [hr]; rfl
          | true =>
            obtain ⟨h1, h2, h3⟩ := right_iff.1 hr
            rw [getL_found h3, filter_sorted h3]
            unfold unsetOf
            rw [hr]
            cases hf : foundB key l with
            | false => rfl
            | true =>
              have hlen := len_eq (key := key) (l := l)
              simp only [if_true, Bool.not_true, cond_false, beq_self_eq_true, cond_true]
              rw [f20_eq (by rw [List.length_append]; omega) (by omega)]
              simp
        by_cases h0 : (setOf l key value).2 = 0
        · have hright : rightB l = true ∧ keyOk key = true ∧ valueOk false value = true ∧ (foundB key l = true ∨ l.length < 16) ∧ (setOf l key value).1 = setL l key value := by
            unfold setOf at h0 ⊢
            split at h0
            · rename_i h
              rw [if_pos h]
              simp only [Bool.and_eq_true] at h
              split at h0
              · simp at h0
              · rename_i hc
                rw [if_neg hc]
                refine ⟨h.1, h.2.1, h.2.2, ?_, rfl⟩
                simp only [Bool.and_eq_true, Bool.not_eq_true', decide_eq_true_eq, not_and] at hc
                cases hf : foundB key l with
                | true => exact .inl rfl
                | false => exact .inr (by have := hc hf; omega)
            · simp at h0
          obtain ⟨q1, q2, q3, q4, q5⟩ := hright
          have hr2 := setL_right q1 q2 q3 q4
          have hsm2 : SmallL 5000 (setL l key value) := fun p hp => by have := (right_small hr2).2 p hp; omega
          have hl2 := (right_small hr2).1
          rw [h0, q5, f24_eq (by omega) (by omega), getL_set, f26_eq hsm2 (by omega) (by omega) (by omega), hr2]
          simp only [Option.bind_some, beq_self_eq_true, cond_true, Bool.not_true, cond_false]
          rw [sEq_iff.2 rfl]
          simp only [Bool.not_true, cond_false]
          exact hend
        · have hb : ((setOf l key value).2 == 0) = false := beq_eq_false_iff_ne.2 h0
          rw [hb]
          simp only [cond_false]
          exact hend

end Go.Proofs.YtjbaeojagkkbgaaDoor
