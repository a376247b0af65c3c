/-
  StoreKeeps: every call comes to an end: addresses, prefixes, labels, selectors.
-/
import Derived.Test.YtpffibjemegioaaGreatDoorQKPlain
import Derived.Test.YtpffibjemegioaaGreatDoorQKD
import Derived.KernelRfl
import Derived.Lib.ItoaLen
import Derived.Lib.AtoiAllCases
import Derived.Lib.ParseIntBCases
import Derived.Lib.RuneCount
set_option linter.unusedVariables false
set_option linter.unusedSimpArgs false
namespace Go.Proofs.YtpffibjemegioaaGreatDoor.Keeps
open Go Go.PB
/-! ## 1. Loops -/
theorem iter_ok {A B : Type} {step : A → Option (A ⊕ B)} (I : A → Prop) (μ : A → Nat) (Q : B → Prop)
    (h : ∀ v, I v → (∃ v', step v = some (.inl v') ∧ I v' ∧ μ v' < μ v) ∨ ∃ b, step v = some (.inr b) ∧ Q b) : ∀ (k : Nat) (v : A), I v → μ v < k → ∃ b, iter step k v = some b ∧ Q b
  | 0, v, _, hk => by omega
  | k + 1, v, hv, hk => by
    rw [iter_succ]
    rcases h v hv with ⟨v', h1, h2, h3⟩ | ⟨b, h1, h2⟩
    · rw [h1]
      exact iter_ok I μ Q h k v' h2 (by omega)
    · rw [h1]
      exact ⟨b, rfl, h2⟩
/-! ## 2. Numbers -/
abbrev Num := Int × Int × Unit
abbrev Addr6 := Bool × Num × Unit
abbrev Pref := Addr6 × Int × Unit
def U64 (n : Int) : Prop := 0 ≤ n ∧ n < 18446744073709551616
def NumOk (a : Num) : Prop := U64 a.1 ∧ U64 a.2.1
theorem u64_wrap (n : Int) : U64 (IntKind.u64.wrap n) := by
  unfold U64; rw [IntKind.wrap_u64]; omega
theorem u64_or (a b : Int) : U64 (iOr .u64 a b) := u64_wrap _
theorem u64_and (a b : Int) : U64 (iAnd .u64 a b) := u64_wrap _
theorem u64_not (a : Int) : U64 (iNot .u64 a) := u64_wrap _
theorem u64_shl (a b : Int) : U64 (iShl .u64 a b) := u64_wrap _
theorem u64_shr {a : Int} (h : U64 a) (b : Int) : U64 (iShr .u64 a b) := by
  unfold U64 iShr at *
  have hp : (0 : Int) < 2 ^ min b.toNat (IntKind.u64.bits) := Int.pow_pos (by omega)
  have e : a.fdiv (2 ^ min b.toNat (IntKind.u64.bits)) = a / (2 ^ min b.toNat (IntKind.u64.bits)) := Int.fdiv_eq_ediv_of_nonneg _ (by omega)
  rw [e]
  refine ⟨Int.ediv_nonneg h.1 (by omega), ?_⟩
  have := Int.ediv_le_self (2 ^ min b.toNat (IntKind.u64.bits)) h.1
  omega
theorem u64_zero : U64 0 := by unfold U64; omega
theorem num_zero : NumOk (0, 0, ()) := ⟨u64_zero, u64_zero⟩
theorem posK_of {R : Type} {y : Int} (h : 0 ≤ y) (K : Option R) : posK y K = K := by
  unfold posK; rw [if_neg (by omega)]
theorem w64_in {x : Int} (h1 : -9223372036854775808 ≤ x) (h2 : x < 9223372036854775808) : w64 x = x := w64_of h1 h2
theorem f254_ok (k : Nat) {a : Num} {n : Int} (ha : NumOk a) (h0 : 0 ≤ n) (hn : n ≤ 1000000) : ∃ r, f254 k a n = some r ∧ NumOk r := by
  unfold f254
  by_cases h1 : n ≥ 128
  · exact ⟨_, by simp [h1], num_zero⟩
  · have e1 : w64 (n - 64) = n - 64 := w64_in (by omega) (by omega)
    have e2 : w64 (64 - n) = 64 - n := w64_in (by omega) (by omega)
    by_cases h2 : n ≥ 64
    · refine ⟨_, by simp [h1, h2, show ¬ n ≤ -128 by omega, show ¬ n < 0 by omega, e1, posK_of (show 0 ≤ n - 64 by omega)]; rfl, u64_zero, u64_shr ha.1 _⟩
    · refine ⟨_, by simp [h1, h2, show ¬ n ≤ -128 by omega, show ¬ n < 0 by omega, e2, posK_of h0, posK_of (show 0 ≤ 64 - n by omega)]; rfl, u64_shr ha.1 _, u64_or _ _⟩
theorem f251_ok (k : Nat) {a : Num} {n : Int} (h0 : 0 ≤ n) (hn : n ≤ 1000000) : ∃ r, f251 k a n = some r ∧ NumOk r := by
  unfold f251
  by_cases h1 : n ≥ 128
  · exact ⟨_, by simp [h1], num_zero⟩
  · have e1 : w64 (n - 64) = n - 64 := w64_in (by omega) (by omega)
    have e2 : w64 (64 - n) = 64 - n := w64_in (by omega) (by omega)
    by_cases h2 : n ≥ 64
    · refine ⟨_, by simp [h1, h2, show ¬ n ≤ -128 by omega, show ¬ n < 0 by omega, e1, posK_of (show 0 ≤ n - 64 by omega)]; rfl, u64_shl _ _, u64_zero⟩
    · refine ⟨_, by simp [h1, h2, show ¬ n ≤ -128 by omega, show ¬ n < 0 by omega, e2, posK_of h0, posK_of (show 0 ≤ 64 - n by omega)]; rfl, u64_or _ _, u64_shl _ _⟩
theorem f311_ok (k : Nat) (a : Num) : ∃ r, f311 k a = some r ∧ NumOk r := ⟨_, rfl, u64_not _, u64_not _⟩
theorem f243_ok (k : Nat) (a b : Num) : ∃ r, f243 k a b = some r ∧ NumOk r := ⟨_, rfl, u64_and _ _, u64_and _ _⟩
theorem f250_ok (k : Nat) (a b : Num) : ∃ r, f250 k a b = some r ∧ NumOk r := ⟨_, rfl, u64_or _ _, u64_or _ _⟩
theorem f287_ok (k : Nat) {n : Int} (hn : n ≤ 1000000) : ∃ r, f287 k n = some r ∧ NumOk r := by
  unfold f287
  by_cases h1 : n < 1
  · exact ⟨_, by simp [h1], num_zero⟩
  · by_cases h2 : n ≥ 128
    · obtain ⟨r, e, h⟩ := f311_ok k (0, 0, ())
      exact ⟨r, by simp [h1, h2, e], h⟩
    · obtain ⟨r, e, h⟩ := f311_ok k (0, 0, ())
      obtain ⟨r', e', h'⟩ := f251_ok k (a := r) (n := n) (by omega) hn
      obtain ⟨r2, e2, h2'⟩ := f311_ok k r'
      exact ⟨r2, by simp [h1, h2, e, e', e2], h2'⟩
theorem rangeK_in {R : Type} {i n : Int} (h0 : 0 ≤ i) (h1 : i < n) (K : Option R) : rangeK i n K = K := if_pos ⟨h0, h1⟩
theorem f234_ok (k : Nat) {a : Int} (ha : U64 a) : ∃ r, f234 k a = some r ∧ 0 ≤ r ∧ r ≤ 64 := by
  unfold f234
  have h : 0 ≤ a ∧ a ≤ 18446744073709551615 := ⟨ha.1, by have := ha.2; omega⟩
  rw [if_pos h]
  have := Lib.bitLen_le a.toNat 64 (Nat.le_refl _) (by have := ha.2; omega)
  exact ⟨_, rfl, by omega, by omega⟩
theorem f252_ok (k : Nat) {a : Num} (ha : NumOk a) : ∃ r, f252 k a = some r := by
  unfold f252
  obtain ⟨r1, e1, _⟩ := f234_ok k ha.1
  obtain ⟨r2, e2, _⟩ := f234_ok k ha.2
  cases decide (a.1 > 0) <;> simp [e1, e2]
theorem f242_ok (k : Nat) (a : Addr6) : ∃ r, f242 k a = some r ∧ 32 ≤ r ∧ r ≤ 128 := by
  unfold f242
  cases a.1 <;> exact ⟨_, rfl, by omega, by omega⟩
theorem f190_ok (k : Nat) {a : Addr6} (ha : NumOk a.2.1) : ∃ r, f190 k a = some r := by
  unfold f190
  obtain ⟨r1, e1⟩ := f252_ok k ha
  obtain ⟨r2, e2, _⟩ := f242_ok k a
  simp [e1, e2]
theorem f184_ok (k : Nat) {p : Pref} (hp : NumOk p.1.2.1) : ∃ r, f184 k p = some r ∧ (r = true → 0 ≤ p.2.1 ∧ p.2.1 ≤ 128) := by
  unfold f184
  obtain ⟨r1, e1⟩ := f190_ok k hp
  obtain ⟨r2, e2, h2, h3⟩ := f242_ok k p.1
  simp only [e1, Option.bind_some]
  cases r1 with
  | false => exact ⟨_, rfl, by simp⟩
  | true =>
    by_cases h0 : p.2.1 ≥ 0
    · by_cases h1 : p.2.1 ≤ r2
      · obtain ⟨r3, e3, h3'⟩ := f287_ok k (n := w64 (r2 - p.2.1)) (by rw [w64_in (by omega) (by omega)]; omega)
        obtain ⟨r4, e4, _⟩ := f243_ok k p.1.2.1 r3
        refine ⟨_, by simp [h0, e2, h1, f244, e3, e4]; rfl, fun _ => ⟨h0, by omega⟩⟩
      · exact ⟨false, by simp [h0, e2, h1], by simp⟩
    · exact ⟨false, by simp [h0], by simp⟩
/-! ## 3. Printing -/
theorem strB_size (l : List Int) : (strB l).size = l.length := by
  show ((l.map fun n => UInt8.ofNat n.toNat).toArray).size = l.length
  rw [List.size_toArray, List.length_map]
theorem bytesL_len (s : ByteArray) : (bytesL s).length = s.size := by unfold bytesL; rw [List.length_map]; exact bl_len s
theorem ba_size (l : List UInt8) : (⟨l.toArray⟩ : ByteArray).size = l.length := List.size_toArray
theorem dl_len (s : ByteArray) : s.data.toList.length = s.size := bl_len s
theorem f253_ok {k : Nat} (hk : 40 < k) {a : Addr6} (ha : NumOk a.2.1) : ∃ r, f253 k a = some r ∧ r.size ≤ 16 := by
  unfold f253
  obtain ⟨r1, e1⟩ := f190_ok k ha
  obtain ⟨r2, e2, h2, h3⟩ := f242_ok k a
  simp only [e1, e2, Option.bind_some]
  cases r1 with
  | false => exact ⟨_, rfl, by simp [sNil, ByteArray.size]⟩
  | true =>
    have ew : w64 (r2 - 8) = r2 - 8 := w64_in (by omega) (by omega)
    obtain ⟨b, hb, hq⟩ := iter_ok (step := f253_s10_u k) (fun v => -8 ≤ v.1 ∧ v.1 ≤ 120 ∧ NumOk v.2.1.2.1 ∧ (v.2.2.1.length : Int) * 8 + v.1 ≤ 120) (fun v => ((v.1 + 8) / 8).toNat) (fun b => b.1.length ≤ 16)
      (fun v hv => by
        obtain ⟨t4, h0, h1, u⟩ := v
        obtain ⟨g1, g2, g3, g4⟩ := hv
        simp only at g1 g2 g3 g4
        show (∃ v', f253_s10 k t4 h0 h1 = some (.inl v') ∧ _) ∨ ∃ b, f253_s10 k t4 h0 h1 = some (.inr b) ∧ _
        unfold f253_s10
        by_cases hc : t4 ≥ 0
        · obtain ⟨r5, e5, _⟩ := f254_ok k g3 hc (by omega)
          left
          refine ⟨(t4 - 8, h0, h1 ++ [IntKind.wrap .u8 r5.2.1], ()), ?_, ⟨?_, ?_, g3, ?_⟩, ?_⟩
          · simp [hc, e5, roomK_of (show h1.length + 1 ≤ most by unfold most; omega), w64_in (show -9223372036854775808 ≤ t4 - 8 by omega) (by omega)]
          · show -8 ≤ t4 - 8; omega
          · show t4 - 8 ≤ 120; omega
          · show ((h1 ++ [IntKind.wrap .u8 r5.2.1]).length : Int) * 8 + (t4 - 8) ≤ 120
            simp only [List.length_append, List.length_singleton]; push_cast; omega
          · show ((t4 - 8 + 8) / 8).toNat < ((t4 + 8) / 8).toNat; omega
        · right
          exact ⟨(h1, ()), by simp [hc], by show h1.length ≤ 16; omega⟩) k (r2 - 8, a, [], ()) ⟨by show -8 ≤ r2 - 8; omega, by show r2 - 8 ≤ 120; omega, ha, by show (([] : List Int).length : Int) * 8 + (r2 - 8) ≤ 120; simp; omega⟩ (by show ((r2 - 8 + 8) / 8).toNat < k; omega)
    have hb' : f253_l10 k (r2 - 8) a [] = some b := hb
    refine ⟨strB b.1, by simp [ew, hb'], by rw [strB_size]; exact hq⟩
theorem itoa_ok' (k : Nat) {n : Int} (h0 : -9223372036854775808 ≤ n) (h1 : n ≤ 9223372036854775807) : ∃ r, f183 k n = some r ∧ r.size ≤ 21 := by
  unfold f183 itoaRun
  rw [if_pos ⟨h0, h1⟩]
  exact ⟨_, rfl, by rw [ba_size]; exact Lib.itoa_length_le n h0 h1⟩
theorem w64_range (x : Int) : -9223372036854775808 ≤ w64 x ∧ w64 x ≤ 9223372036854775807 := by
  unfold w64; rw [IntKind.wrap_i64]; omega
theorem join_ok' (k : Nat) {xs : List ByteArray} {sep : ByteArray} (hl : xs.length ≤ 1000) (hs : ∀ p ∈ xs, p.size ≤ 100) (hsep : sep.size ≤ 10) : ∃ r, f199 k xs sep = some r ∧ r.size ≤ 200000 := by
  unfold f199 joinRun
  have hj : (Lib.join (xs.map (·.data.toList)) sep.data.toList).length ≤ xs.length * (100 + sep.size) := by
    have := join_len sep.data.toList 100 (xs.map (·.data.toList)) (fun p hp => by
      obtain ⟨q, hq, rfl⟩ := List.mem_map.1 hp
      rw [dl_len]; exact hs q hq)
    rw [List.length_map, dl_len] at this
    exact this
  have hj2 : xs.length * (100 + sep.size) ≤ 1000 * 110 := Nat.mul_le_mul hl (by omega)
  rw [if_pos ⟨by omega, by omega⟩]
  exact ⟨_, rfl, by rw [ba_size]; omega⟩
theorem f191_ok {k : Nat} (hk : 40 < k) {a : Addr6} (ha : NumOk a.2.1) : ∃ r, f191 k a = some r ∧ r.size ≤ 200000 := by
  unfold f191
  obtain ⟨r1, e1, h1⟩ := f253_ok hk ha
  simp only [e1, Option.bind_some]
  have hlen : (bytesL r1).length ≤ 16 := by rw [bytesL_len]; exact h1
  generalize bytesL r1 = bs at hlen ⊢
  obtain ⟨b, hb, hq1, hq2⟩ := iter_ok (step := f191_s6_u k) (fun v => v.1 = bs ∧ v.2.1 = lLen bs ∧ 0 ≤ v.2.2.1 ∧ v.2.2.1 ≤ lLen bs ∧ (v.2.2.2.1.length : Int) = v.2.2.1 ∧ ∀ p ∈ v.2.2.2.1, p.size ≤ 100) (fun v => (lLen bs - v.2.2.1).toNat) (fun b => b.1.length ≤ 1000 ∧ ∀ p ∈ b.1, p.size ≤ 100)
    (fun v hv => by
      obtain ⟨t8, t9, t10, h1, u⟩ := v
      simp only at hv
      obtain ⟨rfl, rfl, g1, g2, g3, g4⟩ := hv
      show (∃ v', f191_s6 k t8 (lLen t8) t10 h1 = some (.inl v') ∧ _) ∨ ∃ b, f191_s6 k t8 (lLen t8) t10 h1 = some (.inr b) ∧ _
      unfold f191_s6
      have hL : lLen t8 = (t8.length : Int) := rfl
      by_cases hc : t10 < lLen t8
      · obtain ⟨r4, e4, h4⟩ := itoa_ok' k (n := w64 (lAt (.int .u8) t8 t10)) (w64_range _).1 (w64_range _).2
        left
        refine ⟨(t8, lLen t8, t10 + 1, h1 ++ [r4], ()), ?_, ⟨rfl, rfl, ?_, ?_, ?_, ?_⟩, ?_⟩
        · simp [hc, rangeK_in g1 hc, e4, roomK_of (show h1.length + 1 ≤ most by unfold most; omega), w64_in (show -9223372036854775808 ≤ t10 + 1 by omega) (by omega)]
        · show 0 ≤ t10 + 1; omega
        · show t10 + 1 ≤ lLen t8; omega
        · show ((h1 ++ [r4]).length : Int) = t10 + 1; simp; omega
        · intro p hp
          rcases List.mem_append.1 hp with hp | hp
          · exact g4 p hp
          · simp at hp; subst hp; omega
        · show (lLen t8 - (t10 + 1)).toNat < (lLen t8 - t10).toNat; omega
      · right
        exact ⟨(h1, ()), by simp [hc], by show h1.length ≤ 1000; omega, g4⟩) k (bs, lLen bs, 0, [], ()) ⟨rfl, rfl, by show (0 : Int) ≤ 0; omega, by show 0 ≤ lLen bs; unfold lLen; omega, by show (([] : List ByteArray).length : Int) = 0; rfl, by simp⟩ (by show (lLen bs - 0).toNat < k; unfold lLen; omega)
  have hb' : f191_l6 k bs (lLen bs) 0 [] = some b := hb
  obtain ⟨r6, e6, h6⟩ := join_ok' k hq1 hq2 (sep := ⟨#[46]⟩) (by show 1 ≤ 10; omega)
  exact ⟨r6, by simp [hb', e6], h6⟩
/-! ## 4. Groups in base 16 -/
def digs : ByteArray := (⟨#[48, 49, 50, 51, 52, 53, 54, 55, 56, 57, 97, 98, 99, 100, 101, 102, 103, 104, 105, 106, 107, 108, 109, 110, 111, 112, 113, 114, 115, 116, 117, 118, 119, 120, 121, 122]⟩ : ByteArray)
theorem f310_16 (k : Nat) (n : Int) : f310 k [] n 16 false false = ((f310_l22 k [] n false false sNil 65 4 16 15 (List.replicate 65 0)).bind fun o7 => (rangeK o7.2.1 (sLen digs) (rangeK (w64 (o7.2.2.2.2.2.1 - 1)) ((65 : Nat) : Int) (roomK ((Int.toNat (w64 (o7.2.2.2.2.2.1 - 1))) + 1) 65 (bif o7.2.2.1 then (rangeK (w64 ((w64 (o7.2.2.2.2.2.1 - 1)) - 1)) ((65 : Nat) : Int) (roomK ((Int.toNat (w64 ((w64 (o7.2.2.2.2.2.1 - 1)) - 1))) + 1) 65 (bif o7.2.2.2.1 then (cutK (w64 ((w64 (o7.2.2.2.2.2.1 - 1)) - 1)) ((65 : Nat) : Int) ((65 : Nat) : Int) (none)) else (cutK (w64 ((w64 (o7.2.2.2.2.2.1 - 1)) - 1)) ((65 : Nat) : Int) ((65 : Nat) : Int) (some ([], (strB (lCut (List.set (List.set o7.2.2.2.2.2.2.1 (Int.toNat (w64 (o7.2.2.2.2.2.1 - 1))) (sAt digs o7.2.1)) (Int.toNat (w64 ((w64 (o7.2.2.2.2.2.1 - 1)) - 1))) 45) (w64 ((w64 (o7.2.2.2.2.2.1 - 1)) - 1)) ((65 : Nat) : Int))))))))) else (bif o7.2.2.2.1 then (cutK (w64 (o7.2.2.2.2.2.1 - 1)) ((65 : Nat) : Int) ((65 : Nat) : Int) (none)) else (cutK (w64 (o7.2.2.2.2.2.1 - 1)) ((65 : Nat) : Int) ((65 : Nat) : Int) (some ([], (strB (lCut (List.set o7.2.2.2.2.2.2.1 (Int.toNat (w64 (o7.2.2.2.2.2.1 - 1))) (sAt digs o7.2.1)) (w64 (o7.2.2.2.2.2.1 - 1)) ((65 : Nat) : Int)))))))))))) := by kernel_rfl
theorem and15 (u : Int) : 0 ≤ iAnd .u64 u 15 ∧ iAnd .u64 u 15 < 16 := by
  unfold iAnd
  have h : (BitVec.ofInt 64 u &&& BitVec.ofInt 64 15).toNat ≤ 15 := by
    rw [BitVec.toNat_and]
    exact Nat.and_le_right
  rw [IntKind.wrap_u64]
  have e : (IntKind.u64.bits) = 64 := rfl
  rw [e]
  omega
theorem shr4 {u : Int} (h : 0 ≤ u) : iShr .u64 u 4 = u / 16 := by
  unfold iShr
  have : (2 : Int) ^ min (4 : Int).toNat IntKind.u64.bits = 16 := by decide
  rw [this]
  exact Int.fdiv_eq_ediv_of_nonneg _ (by omega)
theorem roomK_lt {R : Type} {n m : Nat} (h : n ≤ m) (K : Option R) : roomK n m K = K := if_pos h
theorem f310_loop {k : Nat} (hk : 40 < k) {n : Int} (h0 : 0 ≤ n) (h1 : n < 65536) : ∃ o, f310_l22 k [] n false false sNil 65 4 16 15 (List.replicate 65 0) = some o ∧ 0 ≤ o.2.1 ∧ o.2.1 < 16 ∧ o.2.2.1 = false ∧ o.2.2.2.1 = false ∧ 62 ≤ o.2.2.2.2.2.1 ∧ o.2.2.2.2.2.1 ≤ 65 ∧ o.2.2.2.2.2.2.1.length = 65 := by
  obtain ⟨b, hb, hq⟩ := iter_ok (step := f310_s22_u k)
    (fun v => v.2.2.1 = false ∧ v.2.2.2.1 = false ∧ v.2.2.2.2.2.2.1 = 4 ∧ v.2.2.2.2.2.2.2.1 = 16 ∧ v.2.2.2.2.2.2.2.2.1 = 15 ∧ v.2.2.2.2.2.2.2.2.2.1.length = 65 ∧ 0 ≤ v.2.1 ∧ ((v.2.1 < 16 ∧ v.2.2.2.2.2.1 = 62) ∨ (v.2.1 < 256 ∧ v.2.2.2.2.2.1 = 63) ∨ (v.2.1 < 4096 ∧ v.2.2.2.2.2.1 = 64) ∨ (v.2.1 < 65536 ∧ v.2.2.2.2.2.1 = 65)))
    (fun v => v.2.2.2.2.2.1.toNat - 61) (fun o => 0 ≤ o.2.1 ∧ o.2.1 < 16 ∧ o.2.2.1 = false ∧ o.2.2.2.1 = false ∧ 62 ≤ o.2.2.2.2.2.1 ∧ o.2.2.2.2.2.1 ≤ 65 ∧ o.2.2.2.2.2.2.1.length = 65)
    (fun v hv => by
      obtain ⟨t0, t1, t3, t4, t11, t13, t14, t15, t16, h0, u⟩ := v
      simp only at hv
      obtain ⟨rfl, rfl, rfl, rfl, rfl, g1, g2, g3⟩ := hv
      show (∃ v', f310_s22 k t0 t1 false false t11 t13 4 16 15 h0 = some (.inl v') ∧ _) ∨ ∃ b, f310_s22 k t0 t1 false false t11 t13 4 16 15 h0 = some (.inr b) ∧ _
      have hd : sLen digs = 36 := rfl
      by_cases hc : t1 ≥ 16
      · left
        have ew : w64 (t13 - 1) = t13 - 1 := w64_in (by omega) (by omega)
        have ha := and15 t1
        refine ⟨(t0, t1 / 16, false, false, t11, t13 - 1, 4, 16, 15, List.set h0 (t13 - 1).toNat (sAt digs (iAnd .u64 t1 15)), ()), ?_, ?_, ?_⟩
        · have : f310_s22 k t0 t1 false false t11 t13 4 16 15 h0 = bif (decide (t1 ≥ 16)) then (rangeK (iAnd .u64 t1 15) (sLen digs) (rangeK (w64 (t13 - 1)) ((65 : Nat) : Int) (roomK ((Int.toNat (w64 (t13 - 1))) + 1) 65 (posK 4 (some (.inl (t0, (iShr .u64 t1 4), false, false, t11, (w64 (t13 - 1)), 4, 16, 15, (List.set h0 (Int.toNat (w64 (t13 - 1))) (sAt digs (iAnd .u64 t1 15))), ()))))))) else (some (.inr (t0, t1, false, false, t11, t13, h0, ()))) := rfl
          rw [this, hd, ew, shr4 g2, decide_eq_true hc, cond_true, rangeK_in ha.1 (by omega), rangeK_in (by omega) (by omega), roomK_lt (by omega), posK_of (by omega)]
        · refine ⟨rfl, rfl, rfl, rfl, rfl, by simpa using g1, ?_, ?_⟩
          · show 0 ≤ t1 / 16; omega
          · show (t1 / 16 < 16 ∧ t13 - 1 = 62) ∨ (t1 / 16 < 256 ∧ t13 - 1 = 63) ∨ (t1 / 16 < 4096 ∧ t13 - 1 = 64) ∨ (t1 / 16 < 65536 ∧ t13 - 1 = 65)
            omega
        · show (t13 - 1).toNat - 61 < t13.toNat - 61; omega
      · right
        refine ⟨(t0, t1, false, false, t11, t13, h0, ()), ?_, g2, ?_, rfl, rfl, ?_, ?_, g1⟩
        · unfold f310_s22
          rw [decide_eq_false hc]
          rfl
        · show t1 < 16; omega
        · show 62 ≤ t13; omega
        · show t13 ≤ 65; omega) k ([], n, false, false, sNil, 65, 4, 16, 15, List.replicate 65 0, ()) ⟨rfl, rfl, rfl, rfl, rfl, by simp, h0, .inr (.inr (.inr ⟨h1, rfl⟩))⟩ (by show (65 : Int).toNat - 61 < k; omega)
  exact ⟨b, hb, hq⟩
theorem lCut_len {α : Type} (l : List α) (a b : Int) : (lCut l a b).length ≤ l.length := by
  unfold lCut
  rw [List.length_drop, List.length_take]
  omega
theorem f255_ok {k : Nat} (hk : 40 < k) {n : Int} (h0 : 0 ≤ n) (h1 : n < 65536) : ∃ r, f255 k n 16 = some r ∧ r.size ≤ 100 := by
  obtain ⟨o, ho, g1, g2, g3, g4, g5, g6, g7⟩ := f310_loop hk h0 h1
  have hd : sLen digs = 36 := rfl
  have ew : w64 (o.2.2.2.2.2.1 - 1) = o.2.2.2.2.2.1 - 1 := w64_in (by omega) (by omega)
  have e : ∃ r, f310 k [] n 16 false false = some ([], r) ∧ r.size ≤ 100 := by
    rw [f310_16, ho]
    simp only [Option.bind_some, hd, ew, g3, g4, cond_false]
    rw [rangeK_in g1 (by omega), rangeK_in (by omega) (by omega), roomK_lt (by omega)]
    rw [show cutK (o.2.2.2.2.2.1 - 1) ((65 : Nat) : Int) ((65 : Nat) : Int) _ = _ from if_pos ⟨by omega, by omega, by omega⟩]
    refine ⟨_, rfl, ?_⟩
    rw [strB_size]
    have := lCut_len (List.set o.2.2.2.2.2.2.1 (Int.toNat (o.2.2.2.2.2.1 - 1)) (sAt digs o.2.1)) (o.2.2.2.2.2.1 - 1) ((65 : Nat) : Int)
    rw [List.length_set] at this
    omega
  obtain ⟨r, e1, e2⟩ := e
  refine ⟨r, ?_, e2⟩
  unfold f255 f289
  rw [show ((16 : Int) == 10) = false from rfl, cond_false, e1]
  rfl
end Go.Proofs.YtpffibjemegioaaGreatDoor.Keeps
set_option linter.unusedSimpArgs false
namespace Go.Proofs.YtpffibjemegioaaGreatDoor.Keeps
open Go Go.PB
def U16 (n : Int) : Prop := 0 ≤ n ∧ n < 65536
theorem u16_wrap (n : Int) : U16 (IntKind.u16.wrap n) := by unfold U16; rw [IntKind.wrap_u16]; omega
theorem u64_u16 {n : Int} (h : U16 n) : IntKind.u64.wrap n = n := by have := h.1; have := h.2; rw [IntKind.wrap_u64]; omega
theorem set_all {P : Int → Prop} {l : List Int} (h : ∀ x ∈ l, P x) (i : Nat) {y : Int} (hy : P y) : ∀ x ∈ l.set i y, P x := by
  intro x hx
  rcases List.mem_or_eq_of_mem_set hx with h1 | h1
  · exact h x h1
  · rw [h1]; exact hy
theorem f192_ok {k : Nat} (hk : 40 < k) {a : Addr6} (ha : NumOk a.2.1) : ∃ r, f192 k a = some r ∧ r.length = 8 ∧ ∀ x ∈ r, U16 x := by
  unfold f192
  obtain ⟨b, hb, hq⟩ := iter_ok (step := f192_s6_u k) (fun v => 0 ≤ v.1 ∧ v.1 ≤ 8 ∧ NumOk v.2.1.2.1 ∧ v.2.2.2.1.length = 8 ∧ ∀ x ∈ v.2.2.2.1, U16 x) (fun v => (8 - v.1).toNat) (fun b => b.2.1.length = 8 ∧ ∀ x ∈ b.2.1, U16 x)
    (fun v hv => by
      obtain ⟨t5, h0, h1, h2, u⟩ := v
      simp only at hv
      obtain ⟨g1, g2, g3, g4, g5⟩ := hv
      show (∃ v', f192_s6 k t5 h0 h1 h2 = some (.inl v') ∧ _) ∨ ∃ b, f192_s6 k t5 h0 h1 h2 = some (.inr b) ∧ _
      unfold f192_s6
      by_cases hc : t5 < 8
      · left
        have e1 : w64 (t5 + 1) = t5 + 1 := w64_in (by omega) (by omega)
        have e2 : w64 (16 * (t5 + 1)) = 16 * (t5 + 1) := w64_in (by omega) (by omega)
        have e3 : w64 (128 - 16 * (t5 + 1)) = 128 - 16 * (t5 + 1) := w64_in (by omega) (by omega)
        obtain ⟨r2, e4, _⟩ := f254_ok k g3 (n := 128 - 16 * (t5 + 1)) (by omega) (by omega)
        refine ⟨(t5 + 1, h0, h1, List.set h2 (Int.toNat t5) (IntKind.wrap .u16 r2.2.1), ()), ?_, ⟨?_, ?_, g3, ?_, ?_⟩, ?_⟩
        · rw [decide_eq_true hc, cond_true, e1, e2, e3, e4, Option.bind_some, rangeK_in g1 (by omega), roomK_lt (by omega)]
        · show 0 ≤ t5 + 1; omega
        · show t5 + 1 ≤ 8; omega
        · show (List.set h2 (Int.toNat t5) (IntKind.wrap .u16 r2.2.1)).length = 8; rw [List.length_set]; exact g4
        · exact set_all g5 _ (u16_wrap _)
        · show (8 - (t5 + 1)).toNat < (8 - t5).toNat; omega
      · right
        exact ⟨(h1, h2, ()), by rw [decide_eq_false hc]; rfl, g4, g5⟩) k (0, a, List.replicate 8 0, List.replicate 8 0, ()) ⟨by show (0 : Int) ≤ 0; omega, by show (0 : Int) ≤ 8; omega, ha, by simp, fun x hx => by
        have := List.eq_of_mem_replicate hx
        subst this; exact ⟨by omega, by omega⟩⟩ (by show (8 - (0 : Int)).toNat < k; omega)
  have hb' : f192_l6 k 0 a (List.replicate 8 0) (List.replicate 8 0) = some b := hb
  exact ⟨b.2.1, by rw [hb']; rfl, hq⟩
theorem f193_in {k : Nat} (hk : 40 < k) (t4 t5 t6 : Int) (l : List Int) (h0 : 0 ≤ t6) (h1 : t6 ≤ 8) : ∃ r, f193_l12 k t4 t5 t6 t6 l = some r ∧ r.1 = t4 ∧ r.2.1 = t5 ∧ r.2.2.1 = t6 ∧ t6 ≤ r.2.2.2.1 ∧ r.2.2.2.1 ≤ 8 ∧ r.2.2.2.2.1 = l := by
  obtain ⟨b, hb, hq⟩ := iter_ok (step := f193_s12_u k) (fun v => v.1 = t4 ∧ v.2.1 = t5 ∧ v.2.2.1 = t6 ∧ t6 ≤ v.2.2.2.1 ∧ v.2.2.2.1 ≤ 8 ∧ v.2.2.2.2.1 = l) (fun v => (8 - v.2.2.2.1).toNat) (fun r => r.1 = t4 ∧ r.2.1 = t5 ∧ r.2.2.1 = t6 ∧ t6 ≤ r.2.2.2.1 ∧ r.2.2.2.1 ≤ 8 ∧ r.2.2.2.2.1 = l)
    (fun v hv => by
      obtain ⟨a4, a5, a6, a7, h, u⟩ := v
      simp only at hv
      obtain ⟨rfl, rfl, rfl, g1, g2, rfl⟩ := hv
      show (∃ v', f193_s12 k a4 a5 a6 a7 h = some (.inl v') ∧ _) ∨ ∃ b, f193_s12 k a4 a5 a6 a7 h = some (.inr b) ∧ _
      unfold f193_s12
      by_cases hc : a7 < 8
      · rw [decide_eq_true hc, cond_true, rangeK_in (by omega) (by omega), roomK_lt (by omega)]
        cases hz : (List.getD h (Int.toNat a7) (Ty.zero (.int .u16))) == 0 with
        | true =>
          left
          refine ⟨(a4, a5, a6, a7 + 1, h, ()), by rw [cond_true, w64_in (by omega) (by omega)], ⟨rfl, rfl, rfl, ?_, ?_, rfl⟩, ?_⟩
          · show a6 ≤ a7 + 1; omega
          · show a7 + 1 ≤ 8; omega
          · show (8 - (a7 + 1)).toNat < (8 - a7).toNat; omega
        | false => right; exact ⟨(a4, a5, a6, a7, h, ()), rfl, rfl, rfl, rfl, g1, g2, rfl⟩
      · right
        exact ⟨(a4, a5, a6, a7, h, ()), by rw [decide_eq_false hc]; rfl, rfl, rfl, rfl, g1, g2, rfl⟩) k (t4, t5, t6, t6, l, ()) ⟨rfl, rfl, rfl, by show t6 ≤ t6; omega, h1, rfl⟩ (by show (8 - t6).toNat < k; omega)
  exact ⟨b, hb, hq⟩
theorem f193_ok {k : Nat} (hk : 40 < k) (l : List Int) : ∃ r, f193 k l = some r ∧ 0 ≤ r.1 ∧ r.1 ≤ r.2 ∧ r.2 ≤ 8 := by
  unfold f193
  obtain ⟨b, hb, hq⟩ := iter_ok (step := f193_s6_u k) (fun v => 0 ≤ v.1 ∧ v.1 ≤ v.2.1 ∧ v.2.1 ≤ 8 ∧ 0 ≤ v.2.2.1 ∧ v.2.2.1 ≤ 8 ∧ v.2.2.2.1 = l) (fun v => (8 - v.2.2.1).toNat) (fun b => 0 ≤ b.1 ∧ b.1 ≤ b.2.1 ∧ b.2.1 ≤ 8)
    (fun v hv => by
      obtain ⟨t4, t5, t6, h, u⟩ := v
      simp only at hv
      obtain ⟨g1, g2, g3, g4, g5, rfl⟩ := hv
      show (∃ v', f193_s6 k t4 t5 t6 h = some (.inl v') ∧ _) ∨ ∃ b, f193_s6 k t4 t5 t6 h = some (.inr b) ∧ _
      unfold f193_s6
      by_cases hc : t6 < 8
      · left
        obtain ⟨⟨a4, a5, a6, a7, l', u'⟩, e, q1, q2, q3, q4, q5, q6⟩ := f193_in hk t4 t5 t6 h g4 g5
        simp only at q1 q2 q3 q4 q5 q6
        subst q1 q2 q3 q6
        rw [decide_eq_true hc, cond_true, e]
        simp only [Option.bind_some]
        have e1 : w64 (a6 + 1) = a6 + 1 := w64_in (by omega) (by omega)
        rw [e1]
        cases decide (w64 (a7 - a6) > w64 (a5 - a4)) with
        | false =>
          refine ⟨(a4, a5, a6 + 1, l', ()), rfl, ⟨g1, g2, g3, ?_, ?_, rfl⟩, ?_⟩
          · show 0 ≤ a6 + 1; omega
          · show a6 + 1 ≤ 8; omega
          · show (8 - (a6 + 1)).toNat < (8 - a6).toNat; omega
        | true =>
          cases decide (w64 (a7 - a6) > 1) with
          | false =>
            refine ⟨(a4, a5, a6 + 1, l', ()), rfl, ⟨g1, g2, g3, ?_, ?_, rfl⟩, ?_⟩
            · show 0 ≤ a6 + 1; omega
            · show a6 + 1 ≤ 8; omega
            · show (8 - (a6 + 1)).toNat < (8 - a6).toNat; omega
          | true =>
            refine ⟨(a6, a7, a6 + 1, l', ()), rfl, ⟨g4, q4, q5, ?_, ?_, rfl⟩, ?_⟩
            · show 0 ≤ a6 + 1; omega
            · show a6 + 1 ≤ 8; omega
            · show (8 - (a6 + 1)).toNat < (8 - a6).toNat; omega
      · right
        exact ⟨(t4, t5, ()), by rw [decide_eq_false hc]; rfl, g1, g2, g3⟩) k (0, 0, 0, l, ()) ⟨by show (0 : Int) ≤ 0; omega, by show (0 : Int) ≤ 0; omega, by show (0 : Int) ≤ 8; omega, by show (0 : Int) ≤ 0; omega, by show (0 : Int) ≤ 8; omega, rfl⟩ (by show (8 - (0 : Int)).toNat < k; omega)
  have hb' : f193_l6 k 0 0 0 l = some b := hb
  exact ⟨(b.1, b.2.1), by rw [hb']; rfl, hq⟩
theorem lAt_u16 {l : List Int} (h : ∀ x ∈ l, U16 x) {i : Int} (h0 : 0 ≤ i) (h1 : i < lLen l) : U16 (lAt (.int .u16) l i) := by
  have hi : i.toNat < l.length := by unfold lLen at h1; omega
  exact h _ (getD_mem hi _)
theorem f194_ok {k : Nat} (hk : 40 < k) {l : List Int} (hl : l.length ≤ 8) (hu : ∀ x ∈ l, U16 x) : ∃ r, f194 k l = some r ∧ r.size ≤ 200000 := by
  unfold f194
  obtain ⟨b, hb, hq1, hq2⟩ := iter_ok (step := f194_s6_u k) (fun v => v.1 = l ∧ v.2.1 = lLen l ∧ 0 ≤ v.2.2.1 ∧ v.2.2.1 ≤ lLen l ∧ (v.2.2.2.1.length : Int) = v.2.2.1 ∧ ∀ p ∈ v.2.2.2.1, p.size ≤ 100) (fun v => (lLen l - v.2.2.1).toNat) (fun b => b.1.length ≤ 1000 ∧ ∀ p ∈ b.1, p.size ≤ 100)
    (fun v hv => by
      obtain ⟨t6, t7, t8, h0, u⟩ := v
      simp only at hv
      obtain ⟨rfl, rfl, g1, g2, g3, g4⟩ := hv
      show (∃ v', f194_s6 k t6 (lLen t6) t8 h0 = some (.inl v') ∧ _) ∨ ∃ b, f194_s6 k t6 (lLen t6) t8 h0 = some (.inr b) ∧ _
      unfold f194_s6
      have hL : lLen t6 = (t6.length : Int) := rfl
      by_cases hc : t8 < lLen t6
      · left
        have hx := lAt_u16 hu g1 hc
        obtain ⟨r3, e3, h3⟩ := f255_ok hk hx.1 hx.2
        refine ⟨(t6, lLen t6, t8 + 1, h0 ++ [r3], ()), ?_, ⟨rfl, rfl, ?_, ?_, ?_, ?_⟩, ?_⟩
        · rw [decide_eq_true hc, cond_true, rangeK_in g1 hc, u64_u16 hx, e3, Option.bind_some, roomK_lt (by unfold most; simp; omega), w64_in (by omega) (by omega)]
        · show 0 ≤ t8 + 1; omega
        · show t8 + 1 ≤ lLen t6; omega
        · show ((h0 ++ [r3]).length : Int) = t8 + 1; simp; omega
        · intro p hp
          rcases List.mem_append.1 hp with hp | hp
          · exact g4 p hp
          · simp at hp; subst hp; exact h3
        · show (lLen t6 - (t8 + 1)).toNat < (lLen t6 - t8).toNat; omega
      · right
        exact ⟨(h0, ()), by rw [decide_eq_false hc]; rfl, by show h0.length ≤ 1000; omega, g4⟩) k (l, lLen l, 0, [], ()) ⟨rfl, rfl, by show (0 : Int) ≤ 0; omega, by show 0 ≤ lLen l; unfold lLen; omega, by show (([] : List ByteArray).length : Int) = 0; rfl, by simp⟩ (by show (lLen l - 0).toNat < k; unfold lLen; omega)
  have hb' : f194_l6 k l (lLen l) 0 [] = some b := hb
  obtain ⟨r6, e6, h6⟩ := join_ok' k hq1 hq2 (sep := ⟨#[58]⟩) (by show 1 ≤ 10; omega)
  exact ⟨r6, by simp [hb', e6], h6⟩
theorem lCut_sub {α : Type} {l : List α} {a b : Int} {x : α} (h : x ∈ lCut l a b) : x ∈ l := List.mem_of_mem_take (List.mem_of_mem_drop h)
theorem cutK_in {R : Type} {l h n : Int} (h1 : 0 ≤ l) (h2 : l ≤ h) (h3 : h ≤ n) (K : Option R) : cutK l h n K = K := if_pos ⟨h1, h2, h3⟩
theorem append_size (a b : ByteArray) : (a ++ b).size = a.size + b.size := by
  rw [← bl_len, bl_append, List.length_append, bl_len, bl_len]
theorem f142_ok {k : Nat} (hk : 40 < k) {a : Addr6} (ha : NumOk a.2.1) : ∃ r, f142 k a = some r ∧ r.size ≤ 1000000 := by
  unfold f142
  obtain ⟨r1, e1⟩ := f190_ok k ha
  rw [e1]
  simp only [Option.bind_some]
  cases r1 with
  | false => exact ⟨sNil, rfl, by show 0 ≤ 1000000; omega⟩
  | true =>
    cases h6 : a.1 with
    | false =>
      obtain ⟨r2, e2, h2⟩ := f191_ok hk ha
      exact ⟨r2, by simp [e2], by omega⟩
    | true =>
      obtain ⟨r3, e3, h3, u3⟩ := f192_ok hk ha
      obtain ⟨r4, e4, g1, g2, g3⟩ := f193_ok hk r3
      simp only [Bool.not_true, cond_false, e3, e4, Option.bind_some]
      have part : ∀ a b, ∃ r, f194 k (lCut r3 a b) = some r ∧ r.size ≤ 200000 := fun a b => f194_ok hk (by have := lCut_len r3 a b; omega) (fun x hx => u3 x (lCut_sub hx))
      cases hq : r4.1 == r4.2 with
      | true =>
        obtain ⟨r5, e5, h5⟩ := part 0 ((8 : Nat) : Int)
        exact ⟨r5, by rw [cond_true, cutK_in (by omega) (by omega) (by omega), e5]; rfl, by omega⟩
      | false =>
        obtain ⟨r6, e6, h6'⟩ := part 0 r4.1
        obtain ⟨r7, e7, h7⟩ := part r4.2 ((8 : Nat) : Int)
        have hs : (⟨#[58, 58]⟩ : ByteArray).size = 2 := rfl
        refine ⟨(r6 ++ (⟨#[58, 58]⟩ : ByteArray)) ++ r7, ?_, by rw [append_size, append_size, hs]; omega⟩
        rw [cond_false, cutK_in (by omega) (by omega) (by omega), e6, Option.bind_some, roomK_lt (by rw [hs]; omega), cutK_in (by omega) (by omega) (by omega), e7, Option.bind_some, roomK_lt (by rw [append_size, hs]; omega)]
theorem f139_ok {k : Nat} (hk : 40 < k) {p : Pref} (hp : NumOk p.1.2.1) : ∃ r, f139 k p = some r := by
  unfold f139
  obtain ⟨r1, e1, h1⟩ := f184_ok k hp
  rw [e1]
  simp only [Option.bind_some]
  cases r1 with
  | false => exact ⟨sNil, rfl⟩
  | true =>
    obtain ⟨q1, q2⟩ := h1 rfl
    obtain ⟨r2, e2, h2⟩ := f142_ok hk hp
    obtain ⟨r3, e3, h3⟩ := itoa_ok' k (n := p.2.1) (by omega) (by omega)
    have hs : (⟨#[47]⟩ : ByteArray).size = 1 := rfl
    refine ⟨(r2 ++ (⟨#[47]⟩ : ByteArray)) ++ r3, ?_⟩
    rw [show (!true) = false from rfl, cond_false, e2, Option.bind_some, roomK_lt (by rw [hs]; omega), e3, Option.bind_some, roomK_lt (by rw [append_size, hs]; omega)]
end Go.Proofs.YtpffibjemegioaaGreatDoor.Keeps
set_option linter.unusedSimpArgs false
namespace Go.Proofs.YtpffibjemegioaaGreatDoor.Keeps
open Go Go.PB
def Runs {A : Type} (o : Option A) (Q : A → Prop) : Prop := ∃ r, o = some r ∧ Q r
theorem Runs.ret {A : Type} {r : A} {Q : A → Prop} (h : Q r) : Runs (some r) Q := ⟨r, rfl, h⟩
theorem Runs.bind {A B : Type} {o : Option A} {f : A → Option B} {P : A → Prop} {Q : B → Prop} (h : Runs o P) (hf : ∀ r, P r → Runs (f r) Q) : Runs (o.bind f) Q := by
  obtain ⟨r, e, hr⟩ := h
  obtain ⟨r', e', hr'⟩ := hf r hr
  exact ⟨r', by rw [e]; exact e', hr'⟩
theorem Runs.mono {A : Type} {o : Option A} {P Q : A → Prop} (h : Runs o P) (hf : ∀ r, P r → Q r) : Runs o Q := by
  obtain ⟨r, e, hr⟩ := h; exact ⟨r, e, hf r hr⟩
theorem Runs.cond {A : Type} {b : Bool} {x y : Option A} {Q : A → Prop} (h1 : b = true → Runs x Q) (h2 : b = false → Runs y Q) : Runs (bif b then x else y) Q := by
  cases b
  · exact h2 rfl
  · exact h1 rfl
theorem Runs.range {A : Type} {i n : Int} {K : Option A} {Q : A → Prop} (h0 : 0 ≤ i) (h1 : i < n) (h : Runs K Q) : Runs (rangeK i n K) Q := by
  rw [rangeK_in h0 h1]; exact h
theorem Runs.cut {A : Type} {l h n : Int} {K : Option A} {Q : A → Prop} (h1 : 0 ≤ l) (h2 : l ≤ h) (h3 : h ≤ n) (hk : Runs K Q) : Runs (cutK l h n K) Q := by
  rw [cutK_in h1 h2 h3]; exact hk
theorem Runs.room {A : Type} {n m : Nat} {K : Option A} {Q : A → Prop} (h : n ≤ m) (hk : Runs K Q) : Runs (roomK n m K) Q := by
  rw [roomK_lt h]; exact hk
theorem Runs.pos {A : Type} {y : Int} {K : Option A} {Q : A → Prop} (h : 0 ≤ y) (hk : Runs K Q) : Runs (posK y K) Q := by
  rw [posK_of h]; exact hk
@[reducible] def OnOut {A B : Type} (f : A → Prop) (g : B → Prop) : A ⊕ B → Prop
  | .inl a => f a
  | .inr b => g b
theorem Runs.iter {A B : Type} {step : A → Option (A ⊕ B)} (I : A → Prop) (μ : A → Nat) {Q : B → Prop}
    (h : ∀ v, I v → Runs (step v) (OnOut (fun v' => I v' ∧ μ v' < μ v) Q)) {k : Nat} {v : A} (hi : I v) (hk : μ v < k) : Runs (iter step k v) Q := by
  obtain ⟨b, hb, hq⟩ := iter_ok I μ Q (fun v hv => by
    obtain ⟨s, e, hs⟩ := h v hv
    cases s with
    | inl v' => exact .inl ⟨v', e, hs.1, hs.2⟩
    | inr b => exact .inr ⟨b, e, hs⟩) k v hi hk
  exact ⟨b, hb, hq⟩
theorem wrap_u8' (n : Int) : IntKind.u8.wrap n = n % 256 := by rw [IntKind.wrap_u8]
theorem lLen_eq {α : Type} (l : List α) : lLen l = (l.length : Int) := rfl
theorem sLen_eq (s : ByteArray) : sLen s = (s.size : Int) := rfl
theorem w64_def (x : Int) : w64 x = IntKind.i64.wrap x := rfl
theorem Runs.of {A : Type} {o : Option A} {Q : A → Prop} (h : ∃ r, o = some r ∧ Q r) : Runs o Q := h
theorem Runs.of' {A : Type} {o : Option A} (h : ∃ r, o = some r) : Runs o (fun _ => True) := by obtain ⟨r, e⟩ := h; exact ⟨r, e, trivial⟩
end Go.Proofs.YtpffibjemegioaaGreatDoor.Keeps
set_option linter.unusedSimpArgs false
namespace Go.Proofs.YtpffibjemegioaaGreatDoor.Keeps
open Go Go.PB
theorem split_ok' (k : Nat) (c : UInt8) {s : ByteArray} (hs : s.size ≤ 100000) : Runs (f143 k s ⟨#[c]⟩) (fun l => l.length ≤ s.size + 1 ∧ ∀ p ∈ l, p.size ≤ s.size) := by
  unfold f143 splitRun
  rw [if_pos ⟨by omega, by show 1 ≤ 1; omega⟩]
  have h := splitB_cut c s
  refine Runs.ret ⟨?_, fun p hp => ?_⟩
  · have := cutAt_len c (bl s)
    rw [← h, List.length_map, bl_len] at this
    exact this
  · have := cutAt_part c (bl s) (bl p) (by rw [← h]; exact List.mem_map_of_mem hp)
    rw [bl_len, bl_len] at this
    exact this
theorem cut_ok' (k : Nat) {s sep : ByteArray} (hs : s.size ≤ 100000) : Runs (f181 k s sep) (fun r => r.1.size ≤ s.size ∧ r.2.1.size ≤ s.size) := by
  unfold f181 cutRun
  rw [if_pos (by omega)]
  refine Runs.ret ?_
  have hl := dl_len s
  unfold Lib.cut
  split
  · refine ⟨?_, ?_⟩
    · rw [ba_size]
      simp only [List.length_take]; omega
    · rw [ba_size]
      simp only [List.length_drop]; omega
  · refine ⟨?_, ?_⟩
    · rw [ba_size]
      show s.data.toList.length ≤ s.size; omega
    · rw [ba_size]
      show 0 ≤ s.size; omega
theorem contains_ok' (k : Nat) {s sep : ByteArray} (hs : s.size ≤ 100000) : Runs (f185 k s sep) (fun _ => True) := by
  unfold f185 containsRun
  rw [if_pos (by omega)]
  exact Runs.ret trivial
theorem f246_10 (k : Nat) {s : ByteArray} (hs : s.size ≤ 100000) : Runs (f246 k s 10 8) (fun r => 0 ≤ r.1 ∧ r.1 ≤ 255) := by
  unfold f246 uint8Run
  rw [if_pos rfl, if_pos ⟨rfl, rfl, by omega⟩]
  refine Runs.ret ?_
  cases h : Lib.parseUintB 8 s.data.toList with
  | ok v =>
    have := Lib.parseUintB_le h
    refine ⟨?_, ?_⟩
    · show (0 : Int) ≤ (v : Int); omega
    · show (v : Int) ≤ 255; omega
  | range => exact ⟨by show (0 : Int) ≤ 255; omega, by show (255 : Int) ≤ 255; omega⟩
  | _ => exact ⟨by show (0 : Int) ≤ 0; omega, by show (0 : Int) ≤ 255; omega⟩
theorem u32_or (a b : Int) : 0 ≤ iOr .u32 a b ∧ iOr .u32 a b < 4294967296 := by
  unfold iOr; rw [IntKind.wrap_u32]; omega
theorem lAt_mem {l : List ByteArray} {i : Int} (h0 : 0 ≤ i) (h1 : i < lLen l) : lAt .str l i ∈ l := by
  have hi : i.toNat < l.length := by unfold lLen at h1; omega
  exact getD_mem hi _
theorem f186_ok {k : Nat} {s : ByteArray} (hk : s.size + 40 < k) (hs : s.size ≤ 100000) : Runs (f186 k s) (fun r => 0 ≤ r.1 ∧ r.1 < 4294967296) := by
  unfold f186
  refine Runs.bind (split_ok' k 46 hs) fun l hl => ?_
  refine Runs.cond (fun h => Runs.ret ⟨by show (0 : Int) ≤ 0; omega, by show (0 : Int) < _; omega⟩) fun h => ?_
  refine Runs.bind (P := fun o => match o with | .inl o => 0 ≤ o.1 ∧ o.1 < 4294967296 | .inr o => 0 ≤ o.1 ∧ o.1 < 4294967296) ?_ fun o ho => ?_
  · refine Runs.iter (fun v => 0 ≤ v.1 ∧ v.1 < 4294967296 ∧ v.2.1 = l ∧ v.2.2.1 = lLen l ∧ 0 ≤ v.2.2.2.1 ∧ v.2.2.2.1 ≤ lLen l) (fun v => (lLen l - v.2.2.2.1).toNat) ?_ ⟨by show (0 : Int) ≤ 0; omega, by show (0 : Int) < _; omega, rfl, rfl, by show (0 : Int) ≤ 0; omega, by show 0 ≤ lLen l; unfold lLen; omega⟩ (by show (lLen l - 0).toNat < k; unfold lLen; omega)
    rintro ⟨t5, t15, t16, t17, u⟩ hv
    simp only at hv
    obtain ⟨g0, g0', rfl, rfl, g1, g2⟩ := hv
    show Runs (f186_s12 k t5 t15 (lLen t15) t17) _
    unfold f186_s12
    refine Runs.cond (fun hd => Runs.range g1 (of_decide_eq_true hd) ?_) fun _ => ?_
    · have hd := of_decide_eq_true hd
      have hp := hl.2 _ (lAt_mem (l := t15) g1 hd)
      refine Runs.bind (f246_10 k (s := lAt .str t15 t17) (by omega)) fun r hr => ?_
      simp only [Bool.or_true, Bool.and_true, cond_true]
      refine Runs.cond (fun _ => Runs.ret ⟨by show (0 : Int) ≤ 0; omega, by show (0 : Int) < _; omega⟩) fun _ => ?_
      refine Runs.bind (Runs.of (itoa_ok' k (w64_range _).1 (w64_range _).2)) fun r6 h6 => ?_
      refine Runs.cond (fun _ => Runs.ret ⟨by show (0 : Int) ≤ 0; omega, by show (0 : Int) < _; omega⟩) fun _ => ?_
      have := u32_or (iShl .u32 t5 8) (IntKind.wrap .u32 r.1)
      have hw : w64 (t17 + 1) = t17 + 1 := w64_in (by omega) (by unfold lLen at *; omega)
      refine Runs.ret ⟨⟨this.1, this.2, rfl, rfl, ?_, ?_⟩, ?_⟩
      · show 0 ≤ w64 (t17 + 1); omega
      · show w64 (t17 + 1) ≤ _; omega
      · show (lLen t15 - w64 (t17 + 1)).toNat < (lLen t15 - t17).toNat; omega
    · exact Runs.ret ⟨g0, g0'⟩
  · cases o with
    | inl o => exact Runs.ret ho
    | inr o => exact Runs.ret ho
def Hex (c : Int) : Prop := (48 ≤ c ∧ c ≤ 57) ∨ (97 ≤ c ∧ c ≤ 102) ∨ (65 ≤ c ∧ c ≤ 70)
theorem f248_ok (k : Nat) (c : Int) : Runs (f248 k c) (fun r => r = true → Hex c) := by
  have y : Runs (bif (decide (c ≥ 65)) then (some (decide (c ≤ 70))) else (some false)) (fun r => r = true → Hex c) :=
    Runs.cond (fun h => Runs.ret fun h' => .inr (.inr ⟨of_decide_eq_true h, of_decide_eq_true h'⟩)) fun _ => Runs.ret (by simp)
  have x : Runs (bif (decide (c ≥ 97)) then (bif (decide (c ≤ 102)) then (some true) else (bif (decide (c ≥ 65)) then (some (decide (c ≤ 70))) else (some false))) else (bif (decide (c ≥ 65)) then (some (decide (c ≤ 70))) else (some false))) (fun r => r = true → Hex c) :=
    Runs.cond (fun h => Runs.cond (fun h' => Runs.ret fun _ => .inr (.inl ⟨of_decide_eq_true h, of_decide_eq_true h'⟩)) fun _ => y) fun _ => y
  exact Runs.cond (fun h => Runs.cond (fun h' => Runs.ret fun _ => .inl ⟨of_decide_eq_true h, of_decide_eq_true h'⟩) fun _ => x) fun _ => x
theorem lower_hex : ∀ c : Fin 256, ((97 ≤ c.val ∧ c.val ≤ 102) ∨ (65 ≤ c.val ∧ c.val ≤ 70)) → 97 ≤ iOr .u8 (c.val : Int) 32 ∧ iOr .u8 (c.val : Int) 32 ≤ 102 := by decide +kernel
theorem f312_hex (k : Nat) {c : Int} (h : Hex c) (h1 : 57 < c) : Runs (f312 k c) (fun r => 97 ≤ r ∧ r ≤ 102) := by
  unfold f312
  refine Runs.ret ?_
  have := lower_hex ⟨c.toNat, by unfold Hex at h; omega⟩ (by unfold Hex at h; show (97 ≤ c.toNat ∧ c.toNat ≤ 102) ∨ (65 ≤ c.toNat ∧ c.toNat ≤ 70); omega)
  have e : ((c.toNat : Nat) : Int) = c := by unfold Hex at h; omega
  simp only [e] at this
  exact this
theorem f288_step {k : Nat} {t9 : ByteArray} {n : Int} {l : List Int} {i : Int} (h0 : 0 ≤ i) (h1 : i < lLen l) (hh : Hex (lAt (.int .u8) l i)) (hn : 0 ≤ n) (hn' : n < 4096) : Runs (f288_s72 k 16 false t9 1152921504606846976 65535 false n l (lLen l) i) (fun s => ∃ m, s = .inl (16, false, t9, 1152921504606846976, 65535, false, m, l, lLen l, w64 (i + 1), ()) ∧ 0 ≤ m ∧ m < n * 16 + 16) := by
  unfold f288_s72
  obtain ⟨c, hc⟩ : ∃ c : Int, c = lAt (.int .u8) l i := ⟨_, rfl⟩
  rw [← hc] at hh ⊢
  rw [show decide (i < lLen l) = true from decide_eq_true h1, cond_true, rangeK_in h0 h1]
  have h95 : (c == 95) = false := by unfold Hex at hh; simp; omega
  rw [h95, cond_false]
  by_cases hd : c ≤ 57
  · have h48 : 48 ≤ c := by unfold Hex at hh; omega
    have e1 : IntKind.u8.wrap (c - 48) = c - 48 := by rw [IntKind.wrap_u8]; omega
    have e2 : IntKind.u8.wrap 16 = 16 := by rw [IntKind.wrap_u8]; rfl
    have e3 : IntKind.u64.wrap 16 = 16 := by rw [IntKind.wrap_u64]; rfl
    have e4 : IntKind.u64.wrap (n * 16) = n * 16 := by rw [IntKind.wrap_u64]; omega
    have e5 : IntKind.u64.wrap (c - 48) = c - 48 := by rw [IntKind.wrap_u64]; omega
    have e6 : IntKind.u64.wrap (n * 16 + (c - 48)) = n * 16 + (c - 48) := by rw [IntKind.wrap_u64]; omega
    rw [decide_eq_true h48, decide_eq_true hd, e1, e2, e3, e4, e5, e6]
    simp only [cond_true]
    rw [decide_eq_false (show ¬ c - 48 ≥ 16 by omega), decide_eq_false (show ¬ n ≥ 1152921504606846976 by omega), decide_eq_false (show ¬ n * 16 + (c - 48) < n * 16 by omega), decide_eq_false (show ¬ n * 16 + (c - 48) > 65535 by omega)]
    simp only [cond_false]
    exact Runs.ret ⟨_, rfl, by omega, by omega⟩
  · rw [decide_eq_true (show 48 ≤ c by unfold Hex at hh; omega), decide_eq_false hd]
    simp only [cond_true, cond_false]
    obtain ⟨r, er, hr1, hr2⟩ := f312_hex k hh (by omega)
    rw [er]
    simp only [Option.bind_some]
    have e1 : IntKind.u8.wrap (r - 97) = r - 97 := by rw [IntKind.wrap_u8]; omega
    have e1' : IntKind.u8.wrap (r - 97 + 10) = r - 97 + 10 := by rw [IntKind.wrap_u8]; omega
    have e2 : IntKind.u8.wrap 16 = 16 := by rw [IntKind.wrap_u8]; rfl
    have e3 : IntKind.u64.wrap 16 = 16 := by rw [IntKind.wrap_u64]; rfl
    have e4 : IntKind.u64.wrap (n * 16) = n * 16 := by rw [IntKind.wrap_u64]; omega
    have e5 : IntKind.u64.wrap (r - 97 + 10) = r - 97 + 10 := by rw [IntKind.wrap_u64]; omega
    have e6 : IntKind.u64.wrap (n * 16 + (r - 97 + 10)) = n * 16 + (r - 97 + 10) := by rw [IntKind.wrap_u64]; omega
    rw [e1, e1', e2, e3, e4, e5, e6, decide_eq_true (show 97 ≤ r by omega), decide_eq_true (show r ≤ 122 by omega), decide_eq_false (show ¬ r - 97 + 10 ≥ 16 by omega), decide_eq_false (show ¬ n ≥ 1152921504606846976 by omega), decide_eq_false (show ¬ n * 16 + (r - 97 + 10) < n * 16 by omega), decide_eq_false (show ¬ n * 16 + (r - 97 + 10) > 65535 by omega)]
    simp only [cond_true, cond_false]
    exact Runs.ret ⟨_, rfl, by omega, by omega⟩
theorem f288_16 (k : Nat) (s : ByteArray) : f288 k s 16 16 = bif (sEq s sNil) then (some (0, false)) else ((f288_l72 k 16 false s 1152921504606846976 65535 false 0 (bytesL s) (lLen (bytesL s)) 0).bind fun o27 => (match o27 with | .inl o27' => (some (o27'.1, o27'.2.1)) | .inr o27' => (bif o27'.2.1 then (none) else (some (o27'.2.2.1, true))))) := by
  unfold f288
  rw [if_pos ⟨rfl, rfl⟩]
  rfl
theorem sNil_size {s : ByteArray} (h : 1 ≤ s.size) : sEq s sNil = false := by
  cases e : sEq s sNil with
  | false => rfl
  | true =>
    have := sEq_iff.1 e
    subst this
    have : (sNil : ByteArray).size = 0 := rfl
    omega
theorem bytesL_get (s : ByteArray) (i : Int) (h0 : 0 ≤ i) (h1 : i < sLen s) : lAt (.int .u8) (bytesL s) i = sAt s i := by
  obtain ⟨n, rfl⟩ : ∃ n : Nat, i = (n : Int) := ⟨i.toNat, by omega⟩
  have hn : n < s.size := by unfold sLen at h1; omega
  rw [sAt_nat, byteAt_bl, lAt_nat]
  unfold bytesL
  have hl : n < (bl s).length := by rw [bl_len]; exact hn
  rw [List.getD_eq_getElem?_getD, List.getElem?_map, List.getD_eq_getElem?_getD]
  show ((s.data.toList)[n]?.map _).getD _ = _
  rw [show s.data.toList = bl s from rfl, List.getElem?_eq_getElem hl]
  rfl
theorem f246_16 {k : Nat} (hk : 40 < k) {s : ByteArray} (h1 : 1 ≤ s.size) (h4 : s.size ≤ 4) (hh : ∀ i : Int, 0 ≤ i → i < sLen s → Hex (sAt s i)) : Runs (f246 k s 16 16) (fun _ => True) := by
  unfold f246
  rw [if_neg (by omega)]
  unfold f246p
  have hL : lLen (bytesL s) = (s.size : Int) := by unfold lLen; rw [bytesL_len]
  have main : Runs (f288 k s 16 16) (fun r => r.2 = true) := by
    rw [f288_16, sNil_size h1, cond_false]
    refine Runs.bind (P := fun o => ∃ n, o = .inr (s, false, n, ())) ?_ fun o ho => ?_
    · refine Runs.iter (fun v => ∃ (n i : Int), v = (16, false, s, 1152921504606846976, 65535, false, n, bytesL s, lLen (bytesL s), i, ()) ∧ 0 ≤ i ∧ i ≤ lLen (bytesL s) ∧ 0 ≤ n ∧ ((i = 0 ∧ n < 1) ∨ (i = 1 ∧ n < 16) ∨ (i = 2 ∧ n < 256) ∨ (i = 3 ∧ n < 4096) ∨ i = 4)) (fun v => (lLen (bytesL s) - v.2.2.2.2.2.2.2.2.2.1).toNat) ?_ ⟨0, 0, rfl, by omega, by omega, by omega, by omega⟩ (by show (lLen (bytesL s) - 0).toNat < k; omega)
      rintro v ⟨n, i, rfl, g1, g2, g3, g4⟩
      show Runs (f288_s72 k 16 false s 1152921504606846976 65535 false n (bytesL s) (lLen (bytesL s)) i) _
      by_cases hi : i < lLen (bytesL s)
      · refine Runs.mono (f288_step g1 hi (by rw [bytesL_get s i g1 (by unfold sLen; omega)]; exact hh i g1 (by unfold sLen; omega)) g3 (by omega)) ?_
        rintro r ⟨m, rfl, hm0, hm1⟩
        have hw : w64 (i + 1) = i + 1 := w64_in (by omega) (by omega)
        rw [hw]
        refine ⟨⟨m, i + 1, rfl, by omega, by omega, hm0, by omega⟩, ?_⟩
        show (lLen (bytesL s) - (i + 1)).toNat < (lLen (bytesL s) - i).toNat; omega
      · unfold f288_s72
        rw [decide_eq_false hi, cond_false]
        exact Runs.ret ⟨n, rfl⟩
    · obtain ⟨n, rfl⟩ := ho
      exact Runs.ret rfl
  refine Runs.bind main fun r hr => ?_
  simp only [Bool.or_true, Bool.and_true, cond_true, hr, Bool.not_true, cond_false]
  exact Runs.ret trivial
end Go.Proofs.YtpffibjemegioaaGreatDoor.Keeps
set_option linter.unusedSimpArgs false
namespace Go.Proofs.YtpffibjemegioaaGreatDoor.Keeps
open Go Go.PB
theorem f188_l28_ok {k : Nat} (hk : 40 < k) (t1 : Bool) (t7 t19 : List ByteArray) (t20 t21 : Int) (h0 : List Int) {w : ByteArray} (hw : w.size ≤ 4) :
    Runs (f188_l28 k t1 t7 w t19 t20 t21 (sLen w) 0 h0) (fun o => match o with | .inl o => o = ([], false, ()) | .inr o => o = (t1, t7, w, t19, t20, t21, h0, ()) ∧ ∀ i : Int, 0 ≤ i → i < sLen w → Hex (sAt w i)) := by
  refine Runs.iter (fun v => ∃ i : Int, v = (t1, t7, w, t19, t20, t21, sLen w, i, h0, ()) ∧ 0 ≤ i ∧ i ≤ sLen w ∧ ∀ j : Int, 0 ≤ j → j < i → Hex (sAt w j)) (fun v => (sLen w - v.2.2.2.2.2.2.2.1).toNat) ?_ ⟨0, rfl, by omega, by unfold sLen; omega, fun j h1 h2 => by omega⟩ (by show (sLen w - 0).toNat < k; unfold sLen; omega)
  rintro v ⟨i, rfl, g1, g2, g3⟩
  show Runs (f188_s28 k t1 t7 w t19 t20 t21 (sLen w) i h0) _
  unfold f188_s28
  by_cases hi : i < sLen w
  · rw [decide_eq_true hi, cond_true]
    refine Runs.range g1 hi ?_
    refine Runs.bind (f248_ok k _) fun r hr => ?_
    refine Runs.cond (fun _ => Runs.ret rfl) fun h => ?_
    have hr' : Hex (sAt w i) := hr (by simpa using h)
    have hwi : w64 (i + 1) = i + 1 := w64_in (by omega) (by unfold sLen at hi; omega)
    rw [hwi]
    refine Runs.ret ⟨⟨i + 1, rfl, by omega, by omega, fun j h1 h2 => ?_⟩, ?_⟩
    · by_cases e : j = i
      · subst e; exact hr'
      · exact g3 j h1 (by omega)
    · show (sLen w - (i + 1)).toNat < (sLen w - i).toNat; omega
  · rw [decide_eq_false hi, cond_false]
    exact Runs.ret ⟨rfl, fun j h1 h2 => g3 j h1 (by omega)⟩
theorem f188_ok {k : Nat} {s : ByteArray} (hk : s.size + 42 < k) (hs : s.size ≤ 100000) (last : Bool) : Runs (f188 k s last) (fun r => r.1.length ≤ 100003 ∧ ∀ x ∈ r.1, U16 x) := by
  unfold f188
  refine Runs.cond (fun _ => Runs.ret ⟨by show 0 ≤ 100003; omega, fun x hx => by cases hx⟩) fun _ => ?_
  refine Runs.bind (split_ok' k 58 hs) fun l hl => ?_
  refine Runs.bind (P := fun o => match o with | .inl o => o.1.length ≤ 100003 ∧ ∀ x ∈ o.1, U16 x | .inr o => o.1.length ≤ 100003 ∧ ∀ x ∈ o.1, U16 x) ?_ fun o ho => ?_
  · refine Runs.iter (fun v => v.1 = last ∧ v.2.1 = l ∧ v.2.2.1 = l ∧ v.2.2.2.1 = lLen l ∧ 0 ≤ v.2.2.2.2.1 ∧ v.2.2.2.2.1 ≤ lLen l ∧ (v.2.2.2.2.2.1.length : Int) = v.2.2.2.2.1 ∧ ∀ x ∈ v.2.2.2.2.2.1, U16 x) (fun v => (lLen l - v.2.2.2.2.1).toNat) ?_ ⟨rfl, rfl, rfl, rfl, by show (0 : Int) ≤ 0; omega, by show 0 ≤ lLen l; unfold lLen; omega, rfl, fun x hx => by cases hx⟩ (by show (lLen l - 0).toNat < k; unfold lLen; omega)
    rintro ⟨t1, t7, t19, t20, t21, h0, u⟩ hv
    simp only at hv
    obtain ⟨rfl, rfl, rfl, rfl, g1, g2, g3, g4⟩ := hv
    show Runs (f188_s12 k t1 t19 t19 (lLen t19) t21 h0) _
    unfold f188_s12
    have hL : lLen t19 = (t19.length : Int) := rfl
    have nil : ([] : List Int).length ≤ 100003 ∧ ∀ x ∈ ([] : List Int), U16 x := ⟨by show 0 ≤ 100003; omega, fun x hx => by cases hx⟩
    by_cases hc : t21 < lLen t19
    · rw [decide_eq_true hc, cond_true]
      refine Runs.range g1 hc ?_
      have hp := hl.2 _ (lAt_mem (l := t19) g1 hc)
      have hwi : w64 (t21 + 1) = t21 + 1 := w64_in (by omega) (by omega)
      have small : ∀ {K : Option ((Bool × (List ByteArray) × (List ByteArray) × Int × Int × (List Int) × Unit) ⊕ (((List Int) × Bool × Unit) ⊕ ((List Int) × Unit)))} {Q : ((Bool × (List ByteArray) × (List ByteArray) × Int × Int × (List Int) × Unit) ⊕ (((List Int) × Bool × Unit) ⊕ ((List Int) × Unit))) → Prop}, Q (.inr (.inl ([], false, ()))) → (¬ sLen (lAt .str t19 t21) < 1 → ¬ sLen (lAt .str t19 t21) > 4 → Runs K Q) → Runs (bif (decide ((sLen (lAt .str t19 t21)) < 1)) then (some (.inr (.inl ([], false, ())))) else (bif (decide ((sLen (lAt .str t19 t21)) > 4)) then (some (.inr (.inl ([], false, ())))) else K)) Q := by
        intro K Q q h
        refine Runs.cond (fun _ => Runs.ret q) fun e1 => Runs.cond (fun _ => Runs.ret q) fun e2 => h (by simpa using e1) (by simpa using e2)
      refine Runs.cond (fun _ => Runs.cond (fun _ => Runs.bind (contains_ok' k (by omega)) fun r21 _ => Runs.cond (fun _ => ?_) fun _ => ?_) fun _ => ?_) fun _ => ?_
      · refine Runs.bind (f186_ok (s := lAt .str t19 t21) (by omega) (by omega)) fun r22 h22 => ?_
        refine Runs.room (by show h0.length + 2 ≤ most; unfold most; omega) (Runs.ret ?_)
        refine ⟨?_, ?_⟩
        · show (h0 ++ [_, _]).length ≤ _
          rw [List.length_append]; show h0.length + 2 ≤ 100003; omega
        · intro x hx
          rcases List.mem_append.1 hx with hx | hx
          · exact g4 x hx
          · simp only [List.mem_cons, List.not_mem_nil, or_false] at hx
            rcases hx with rfl | rfl <;> exact u16_wrap _
      all_goals refine small ?_ ?_
      all_goals first
        | exact nil
        | skip
      all_goals
        intro e1 e2
        have hz : sLen (lAt .str t19 t21) = ((lAt .str t19 t21 : ByteArray).size : Int) := rfl
        refine Runs.bind (f188_l28_ok (by omega) t1 t19 t19 (lLen t19) t21 h0 (w := lAt .str t19 t21) (by omega)) fun o ho => ?_
        cases o with
        | inl o =>
          obtain rfl := ho
          exact Runs.ret nil
        | inr o =>
          obtain ⟨rfl, hh⟩ := ho
          refine Runs.bind (f246_16 (by omega) (s := lAt .str t19 t21) (by omega) (by omega) hh) fun r _ => ?_
          refine Runs.room (by show h0.length + 1 ≤ most; unfold most; omega) ?_
          dsimp only
          rw [hwi]
          refine Runs.ret ⟨⟨rfl, rfl, rfl, rfl, ?_, ?_, ?_, ?_⟩, ?_⟩
          · show 0 ≤ t21 + 1; omega
          · show t21 + 1 ≤ _; omega
          · show ((h0 ++ [IntKind.wrap .u16 r.1]).length : Int) = t21 + 1
            rw [List.length_append, List.length_singleton]; omega
          · intro x hx
            rcases List.mem_append.1 hx with hx | hx
            · exact g4 x hx
            · rw [List.mem_singleton.1 hx]; exact u16_wrap _
          · show (lLen t19 - (t21 + 1)).toNat < _; omega
    · rw [decide_eq_false hc, cond_false]
      exact Runs.ret ⟨by show h0.length ≤ 100003; omega, g4⟩
  · cases o with
    | inl o => exact Runs.ret ho
    | inr o => exact Runs.ret ho
theorem f249_ok (k : Nat) (n : Int) {a : Addr6} (ha : NumOk a.2.1) : Runs (f249 k n a) (fun r => NumOk r.2.1) := by
  unfold f249
  refine Runs.bind (Runs.of (f251_ok k (by omega) (by omega))) fun r1 h1 => ?_
  refine Runs.bind (P := fun _ => True) ⟨_, rfl, trivial⟩ fun r2 _ => ?_
  exact Runs.bind (Runs.of (f250_ok k r1 r2)) fun r3 h3 => Runs.ret h3
theorem f189_ok {k : Nat} {a b : List Int} (hk : a.length + b.length + 40 < k) (ha : a.length ≤ 100003) (hb : b.length ≤ 100003) : Runs (f189 k a b) (fun r => NumOk r.2.1) := by
  unfold f189
  refine Runs.bind (P := fun o => o.1 = a ∧ o.2.1 = b ∧ NumOk o.2.2.2.1.2.1) ?_ fun o ho => ?_
  · refine Runs.iter (fun v => v.1 = a ∧ v.2.1 = b ∧ v.2.2.1 = a ∧ v.2.2.2.1 = lLen a ∧ 0 ≤ v.2.2.2.2.1 ∧ v.2.2.2.2.1 ≤ lLen a ∧ NumOk v.2.2.2.2.2.2.1.2.1) (fun v => (lLen a - v.2.2.2.2.1).toNat) ?_ ⟨rfl, rfl, rfl, rfl, by show (0 : Int) ≤ 0; omega, by show 0 ≤ lLen a; unfold lLen; omega, num_zero⟩ (by show (lLen a - 0).toNat < k; unfold lLen; omega)
    rintro ⟨t0, t1, t13, t14, t15, h0, h1, u⟩ hv
    simp only at hv
    obtain ⟨rfl, rfl, rfl, rfl, g1, g2, g3⟩ := hv
    show Runs (f189_s8 k t13 t1 t13 (lLen t13) t15 h0 h1) _
    unfold f189_s8
    have hL : lLen t13 = (t13.length : Int) := rfl
    by_cases hc : t15 < lLen t13
    · rw [decide_eq_true hc, cond_true]
      refine Runs.range g1 hc (Runs.bind (f249_ok k _ g3) fun r hr => ?_)
      rw [show w64 (t15 + 1) = t15 + 1 from w64_in (by omega) (by omega)]
      refine Runs.ret ⟨⟨rfl, rfl, rfl, rfl, ?_, ?_, hr⟩, ?_⟩
      · show 0 ≤ t15 + 1; omega
      · show t15 + 1 ≤ _; omega
      · show (lLen t13 - (t15 + 1)).toNat < (lLen t13 - t15).toNat; omega
    · rw [decide_eq_false hc, cond_false]
      exact Runs.ret ⟨rfl, rfl, g3⟩
  obtain ⟨e1, e2, g⟩ := ho
  generalize hn : w64 (w64 (8 - lLen o.1) - lLen o.2.1) = n
  have hL1 : lLen o.1 = (a.length : Int) := by rw [e1]; rfl
  have hL2 : lLen o.2.1 = (b.length : Int) := by rw [e2]; rfl
  have hn8 : n ≤ 8 := by
    rw [← hn, hL1, hL2, w64_in (x := 8 - (a.length : Int)) (by omega) (by omega), w64_in (by omega) (by omega)]
    omega
  have hnl : -1000000 ≤ n := by
    rw [← hn, hL1, hL2, w64_in (x := 8 - (a.length : Int)) (by omega) (by omega), w64_in (by omega) (by omega)]
    omega
  refine Runs.bind (P := fun p => p.1 = b ∧ NumOk p.2.2.1.2.1) ?_ fun p hp => ?_
  · refine Runs.iter (fun v => v.1 = b ∧ v.2.1 = n ∧ 0 ≤ v.2.2.1 ∧ NumOk v.2.2.2.2.1.2.1) (fun v => (n - v.2.2.1).toNat) ?_ ⟨e2, rfl, by show (0 : Int) ≤ 0; omega, g⟩ (by show (n - 0).toNat < k; omega)
    rintro ⟨t1, t28, t29, h0, h1, u⟩ hv
    simp only at hv
    obtain ⟨rfl, rfl, g1, g2⟩ := hv
    show Runs (f189_s18 k t1 t28 t29 h0 h1) _
    unfold f189_s18
    by_cases hc : t29 < t28
    · rw [decide_eq_true hc, cond_true]
      refine Runs.bind (f249_ok k _ g2) fun r hr => ?_
      rw [show w64 (t29 + 1) = t29 + 1 from w64_in (by omega) (by omega)]
      refine Runs.ret ⟨⟨rfl, rfl, ?_, hr⟩, ?_⟩
      · show 0 ≤ t29 + 1; omega
      · show (t28 - (t29 + 1)).toNat < (t28 - t29).toNat; omega
    · rw [decide_eq_false hc, cond_false]
      exact Runs.ret ⟨rfl, g2⟩
  obtain ⟨e3, g'⟩ := hp
  refine Runs.bind (P := fun p => NumOk p.2.1.2.1) ?_ fun q hq => Runs.ret hq
  refine Runs.iter (fun v => v.1 = b ∧ v.2.1 = lLen b ∧ 0 ≤ v.2.2.1 ∧ NumOk v.2.2.2.2.1.2.1) (fun v => (lLen b - v.2.2.1).toNat) ?_ ⟨e3, by show lLen p.1 = lLen b; rw [e3], by show (0 : Int) ≤ 0; omega, g'⟩ (by show (lLen b - 0).toNat < k; unfold lLen; omega)
  rintro ⟨t34, t35, t36, h0, h1, u⟩ hv
  simp only at hv
  obtain ⟨rfl, rfl, g1, g2⟩ := hv
  show Runs (f189_s26 k t34 (lLen t34) t36 h0 h1) _
  unfold f189_s26
  have hL : lLen t34 = (t34.length : Int) := rfl
  by_cases hc : t36 < lLen t34
  · rw [decide_eq_true hc, cond_true]
    refine Runs.range g1 hc (Runs.bind (f249_ok k _ g2) fun r hr => ?_)
    rw [show w64 (t36 + 1) = t36 + 1 from w64_in (by omega) (by omega)]
    refine Runs.ret ⟨⟨rfl, rfl, ?_, hr⟩, ?_⟩
    · show 0 ≤ t36 + 1; omega
    · show (lLen t34 - (t36 + 1)).toNat < (lLen t34 - t36).toNat; omega
  · rw [decide_eq_false hc, cond_false]
    exact Runs.ret g2
theorem f187_ok (k : Nat) {n : Int} (h0 : 0 ≤ n) (h1 : n < 4294967296) : Runs (f187 k n) (fun r => NumOk r.2.1) := by
  refine Runs.ret ⟨u64_zero, u64_wrap _⟩
theorem f141_ok {k : Nat} {s : ByteArray} (hk : 200100 < k) (hs : s.size ≤ 100000) : Runs (f141 k s) (fun r => NumOk r.1.2.1) := by
  unfold f141
  refine Runs.bind (contains_ok' k hs) fun r1 _ => ?_
  refine Runs.cond (fun _ => ?_) fun _ => ?_
  · refine Runs.bind (f186_ok (by omega) hs) fun r2 h2 => ?_
    refine Runs.cond (fun _ => Runs.ret num_zero) fun _ => ?_
    exact Runs.bind (f187_ok k h2.1 h2.2) fun r3 h3 => Runs.ret h3
  · refine Runs.bind (cut_ok' k hs) fun r4 h4 => ?_
    refine Runs.bind (f188_ok (by omega) (by omega) _) fun r5 h5 => ?_
    refine Runs.bind (f188_ok (by omega) (by omega) _) fun r6 h6 => ?_
    have long : Runs ((f189 k r5.1 r6.1).bind fun r7 => some (r7, (0 : Int))) (fun r => NumOk r.1.2.1) :=
      Runs.bind (f189_ok (by omega) h5.1 h6.1) fun r h => Runs.ret h
    have bad : Runs (some (((false, (0, 0, ()), ()) : Addr6), (4 : Int))) (fun r => NumOk r.1.2.1) := Runs.ret num_zero
    refine Runs.cond (fun _ => bad) fun _ => Runs.cond (fun _ => bad) fun _ => Runs.cond (fun _ => Runs.cond (fun _ => bad) fun _ => Runs.cond (fun _ => Runs.cond (fun _ => bad) fun _ => long) fun _ => long) fun _ => Runs.cond (fun _ => Runs.cond (fun _ => bad) fun _ => long) fun _ => long
end Go.Proofs.YtpffibjemegioaaGreatDoor.Keeps
set_option linter.unusedSimpArgs false
namespace Go.Proofs.YtpffibjemegioaaGreatDoor.Keeps
open Go Go.PB
def T {A : Type} : A → Prop := fun _ => True
theorem Runs.t {A : Type} {r : A} : Runs (some r) T := ⟨r, rfl, trivial⟩
theorem Runs.ite {A : Type} {p : Prop} [Decidable p] {x y : Option A} {Q : A → Prop} (h1 : p → Runs x Q) (h2 : ¬p → Runs y Q) : Runs (if p then x else y) Q := by
  by_cases h : p
  · rw [if_pos h]; exact h1 h
  · rw [if_neg h]; exact h2 h
theorem Runs.sum {A B C : Type} {o : Option (A ⊕ B)} {f : A ⊕ B → Option C} {Q : C → Prop} (h : Runs o T) (hf : ∀ r, Runs (f r) Q) : Runs (o.bind f) Q := Runs.bind h fun r _ => hf r
theorem runeTo_gt {s : ByteArray} {p : Nat} (h : p < s.size) : p < runeTo s p := by
  have := Lib.decode_width_pos s p h
  unfold runeTo; omega
theorem f97_t (k : Nat) (c : Int) : Runs (f97 k c) T := by
  unfold f97
  have x : Runs (bif (decide (c ≥ 48)) then (some (decide (c ≤ 57))) else (some false)) T := Runs.cond (fun _ => Runs.t) fun _ => Runs.t
  exact Runs.cond (fun _ => Runs.cond (fun _ => Runs.t) fun _ => x) fun _ => x
theorem f137_t (k : Nat) (c : Int) : Runs (f137 k c) T := by
  unfold f137
  exact Runs.bind (f97_t k c) fun r _ => Runs.cond (fun _ => Runs.t) fun _ => Runs.cond (fun _ => Runs.t) fun _ => Runs.t
theorem f136_t {k : Nat} {s : ByteArray} (hk : s.size < k) (c : Int) : Runs (f136 k s c) T := by
  unfold f136
  refine Runs.sum ?_ fun o => by cases o <;> exact Runs.t
  refine Runs.iter (fun v => v.2.1 = s) (fun v => s.size - v.2.2.1) ?_ rfl (by show s.size - 0 < k; omega)
  rintro ⟨t1, h0, p, u⟩ hv
  simp only at hv
  subst hv
  show Runs (f136_s4 k t1 h0 p) _
  unfold f136_s4
  refine Runs.ite (fun hp => Runs.cond (fun _ => Runs.ret trivial) fun _ => Runs.ret ⟨rfl, ?_⟩) fun _ => Runs.ret trivial
  have := runeTo_gt hp
  show h0.size - runeTo h0 p < h0.size - p; omega
theorem f96_t {k : Nat} {s m : ByteArray} (hk : 100 < k) (hm : m.size < 50) : Runs (f96 k s m) T := by
  unfold f96
  refine Runs.cond (fun _ => Runs.t) fun h => ?_
  have hs : s.size ≤ 63 := by
    have := of_decide_eq_false h
    unfold sLen at this; omega
  refine Runs.sum ?_ fun o => by cases o <;> exact Runs.t
  refine Runs.iter (fun v => v.2.1 = m ∧ v.2.2.1 = s) (fun v => s.size - v.2.2.2.1) ?_ ⟨rfl, rfl⟩ (by show s.size - 0 < k; omega)
  rintro ⟨t0, t2, h0, p, u⟩ hv
  simp only at hv
  obtain ⟨rfl, rfl⟩ := hv
  show Runs (f96_s8 k t0 t2 h0 p) _
  unfold f96_s8
  refine Runs.ite (fun hp => ?_) fun _ => Runs.ret trivial
  have hr := runeTo_gt hp
  have on : Runs (some (.inl (t0, t2, h0, runeTo h0 p, ()) : (ByteArray × ByteArray × ByteArray × Nat × Unit) ⊕ ((Bool × Unit) ⊕ Unit))) (OnOut (fun v' => (v'.2.1 = t2 ∧ v'.2.2.1 = h0) ∧ h0.size - v'.2.2.2.1 < h0.size - p) T) := Runs.ret ⟨⟨rfl, rfl⟩, by show h0.size - runeTo h0 p < h0.size - p; omega⟩
  refine Runs.cond (fun _ => Runs.bind (f97_t k _) fun r _ => Runs.cond (fun _ => Runs.ret trivial) fun _ => on) fun _ => Runs.bind (f97_t k _) fun r _ => Runs.cond (fun _ => Runs.cond (fun _ => Runs.ret trivial) fun _ => Runs.bind (f136_t (by omega) _) fun r _ => Runs.cond (fun _ => Runs.ret trivial) fun _ => on) fun _ => on
theorem f96a_t {k : Nat} {s m : ByteArray} (hk : 100 < k) (hm : m.size < 50) : Runs (f96a k s m) T := by
  unfold f96a
  refine Runs.cond (fun _ => Runs.t) fun h => ?_
  have hs : s.size ≤ 63 := by
    have := of_decide_eq_false h
    unfold sLen at this; omega
  refine Runs.sum ?_ fun o => by cases o <;> exact Runs.t
  refine Runs.iter (fun v => v.2.1 = m ∧ v.2.2.1 = s) (fun v => s.size - v.2.2.2.1) ?_ ⟨rfl, rfl⟩ (by show s.size - 0 < k; omega)
  rintro ⟨t0, t2, h0, p, u⟩ hv
  simp only at hv
  obtain ⟨rfl, rfl⟩ := hv
  show Runs (f96a_s8 k t0 t2 h0 p) _
  unfold f96a_s8
  refine Runs.ite (fun hp => ?_) fun _ => Runs.ret trivial
  have hr := runeTo_gt hp
  have on : Runs (some (.inl (t0, t2, h0, runeTo h0 p, ()) : (ByteArray × ByteArray × ByteArray × Nat × Unit) ⊕ ((Bool × Unit) ⊕ Unit))) (OnOut (fun v' => (v'.2.1 = t2 ∧ v'.2.2.1 = h0) ∧ h0.size - v'.2.2.2.1 < h0.size - p) T) := Runs.ret ⟨⟨rfl, rfl⟩, by show h0.size - runeTo h0 p < h0.size - p; omega⟩
  refine Runs.cond (fun _ => Runs.bind (f137_t k _) fun r _ => Runs.cond (fun _ => Runs.ret trivial) fun _ => on) fun _ => Runs.bind (f137_t k _) fun r _ => Runs.cond (fun _ => Runs.cond (fun _ => Runs.ret trivial) fun _ => Runs.bind (f136_t (by omega) _) fun r _ => Runs.cond (fun _ => Runs.ret trivial) fun _ => on) fun _ => on
theorem f46_t {k : Nat} (hk : 100 < k) (s : ByteArray) : Runs (f46 k s) T := by
  unfold f46
  exact Runs.cond (fun _ => Runs.bind (f96_t hk (by show 1 < 50; omega)) fun r _ => Runs.t) fun _ => Runs.t
theorem f98_t {k : Nat} (hk : 100 < k) (s : ByteArray) : Runs (f98 k s) (fun r => r = true → s.size ≤ 63) := by
  unfold f98
  refine Runs.cond (fun _ => ?_) fun _ => Runs.ret (by simp)
  by_cases h : s.size ≤ 63
  · exact Runs.bind (f96a_t hk (by show 4 < 50; omega)) fun r _ => Runs.ret fun _ => h
  · have : f96a k s (⟨#[45, 95, 46, 47]⟩ : ByteArray) = some false := by
      unfold f96a
      rw [decide_eq_true (by unfold sLen; omega)]
      rfl
    rw [this]
    exact Runs.ret (by simp)
theorem f99_t {k : Nat} (hk : 100 < k) (s : ByteArray) : Runs (f99 k s) (fun r => r = true → s.size ≤ 63) := by
  unfold f99
  by_cases h : s.size ≤ 63
  · exact Runs.bind (f96a_t hk (by show 3 < 50; omega)) fun r _ => Runs.ret fun _ => h
  · have : f96a k s (⟨#[45, 95, 46]⟩ : ByteArray) = some false := by
      unfold f96a
      rw [decide_eq_true (by unfold sLen; omega)]
      rfl
    rw [this]
    exact Runs.ret (by simp)
theorem f47_t {k : Nat} (hk : 100 < k) {l : List (ByteArray × ByteArray × Unit)} (hl : l.length < k) (hm : l.length ≤ 1000000) : Runs (f47 k l) T := by
  unfold f47
  refine Runs.sum ?_ fun o => by cases o <;> exact Runs.t
  refine Runs.iter (fun v => v.1 = l ∧ v.2.1 = l ∧ v.2.2.1 = lLen l ∧ 0 ≤ v.2.2.2.1 ∧ v.2.2.2.1 ≤ lLen l) (fun v => (lLen l - v.2.2.2.1).toNat) ?_ ⟨rfl, rfl, rfl, by show (0 : Int) ≤ 0; omega, by show 0 ≤ lLen l; unfold lLen; omega⟩ (by show (lLen l - 0).toNat < k; unfold lLen; omega)
  rintro ⟨t0, t5, t6, t7, u⟩ hv
  simp only at hv
  obtain ⟨rfl, rfl, rfl, g1, g2⟩ := hv
  show Runs (f47_s4 k t5 t5 (lLen t5) t7) _
  unfold f47_s4
  have hL : lLen t5 = (t5.length : Int) := rfl
  refine Runs.cond (fun h => ?_) fun _ => Runs.ret trivial
  have hc := of_decide_eq_true h
  have e1 : w64 (t7 + 1) = t7 + 1 := w64_in (by omega) (by omega)
  have e2 : w64 (t7 - 1) = t7 - 1 := w64_in (by omega) (by omega)
  rw [e1, e2]
  refine Runs.range g1 hc (Runs.bind (f98_t hk _) fun r4 _ => Runs.cond (fun _ => Runs.ret trivial) fun _ => Runs.bind (f99_t hk _) fun r5 _ => Runs.cond (fun _ => Runs.ret trivial) fun _ => ?_)
  have on : Runs (some (.inl (t5, t5, lLen t5, t7 + 1, ()) : ((List (ByteArray × ByteArray × Unit)) × (List (ByteArray × ByteArray × Unit)) × Int × Int × Unit) ⊕ ((Bool × Unit) ⊕ ((List (ByteArray × ByteArray × Unit)) × Unit)))) (OnOut (fun v' => (v'.1 = t5 ∧ v'.2.1 = t5 ∧ v'.2.2.1 = lLen t5 ∧ 0 ≤ v'.2.2.2.1 ∧ v'.2.2.2.1 ≤ lLen t5) ∧ (lLen t5 - v'.2.2.2.1).toNat < (lLen t5 - t7).toNat) T) := by
    refine Runs.ret ⟨⟨rfl, rfl, rfl, ?_, ?_⟩, ?_⟩
    · show 0 ≤ t7 + 1; omega
    · show t7 + 1 ≤ lLen t5; omega
    · show (lLen t5 - (t7 + 1)).toNat < (lLen t5 - t7).toNat; omega
  refine Runs.cond (fun h => ?_) fun _ => on
  have h0 := of_decide_eq_true h
  exact Runs.range (by omega) (by omega) (Runs.cond (fun _ => Runs.ret trivial) fun _ => on)
theorem f48_t {k : Nat} (hk : 100 < k) {l : List ByteArray} (hl : l.length < k) (hm : l.length ≤ 1000000) : Runs (f48 k l) T := by
  unfold f48
  refine Runs.sum ?_ fun o => by cases o <;> exact Runs.t
  refine Runs.iter (fun v => v.1 = l ∧ v.2.1 = l ∧ v.2.2.1 = lLen l ∧ 0 ≤ v.2.2.2.1 ∧ v.2.2.2.1 ≤ lLen l) (fun v => (lLen l - v.2.2.2.1).toNat) ?_ ⟨rfl, rfl, rfl, by show (0 : Int) ≤ 0; omega, by show 0 ≤ lLen l; unfold lLen; omega⟩ (by show (lLen l - 0).toNat < k; unfold lLen; omega)
  rintro ⟨t0, t5, t6, t7, u⟩ hv
  simp only at hv
  obtain ⟨rfl, rfl, rfl, g1, g2⟩ := hv
  show Runs (f48_s4 k t5 t5 (lLen t5) t7) _
  unfold f48_s4
  have hL : lLen t5 = (t5.length : Int) := rfl
  refine Runs.cond (fun h => ?_) fun _ => Runs.ret trivial
  have hc := of_decide_eq_true h
  have e1 : w64 (t7 + 1) = t7 + 1 := w64_in (by omega) (by omega)
  have e2 : w64 (t7 - 1) = t7 - 1 := w64_in (by omega) (by omega)
  rw [e1, e2]
  refine Runs.range g1 hc (Runs.bind (f46_t hk _) fun r4 _ => Runs.cond (fun _ => Runs.ret trivial) fun _ => ?_)
  refine Runs.cond (fun h => ?_) fun _ => ?_
  · have h0 := of_decide_eq_true h
    refine Runs.range (by omega) (by omega) (Runs.cond (fun _ => Runs.ret trivial) fun _ => Runs.ret ⟨⟨rfl, rfl, rfl, ?_, ?_⟩, ?_⟩)
    · show 0 ≤ t7 + 1; omega
    · show t7 + 1 ≤ lLen t5; omega
    · show (lLen t5 - (t7 + 1)).toNat < (lLen t5 - t7).toNat; omega
  · refine Runs.ret ⟨⟨rfl, rfl, rfl, ?_, ?_⟩, ?_⟩
    · show 0 ≤ t7 + 1; omega
    · show t7 + 1 ≤ lLen t5; omega
    · show (lLen t5 - (t7 + 1)).toNat < (lLen t5 - t7).toNat; omega
theorem f237_t {k : Nat} (hk : 100 < k) {l : List ByteArray} (hl : l.length < k) (hm : l.length ≤ 1000000) : Runs (f237 k l) (fun r => r = true → l.length ≤ 8 ∧ ∀ p ∈ l, p.size ≤ 63) := by
  unfold f237
  refine Runs.bind (P := fun o => match o with | .inl o => o.1 = false | .inr o => o.1 = l ∧ ∀ p ∈ l, p.size ≤ 63) ?_ fun o ho => ?_
  · refine Runs.iter (fun v => v.1 = l ∧ v.2.1 = l ∧ v.2.2.1 = lLen l ∧ 0 ≤ v.2.2.2.1 ∧ v.2.2.2.1 ≤ lLen l ∧ ∀ j : Nat, (j : Int) < v.2.2.2.1 → (l.getD j sNil).size ≤ 63) (fun v => (lLen l - v.2.2.2.1).toNat) ?_ ⟨rfl, rfl, rfl, by show (0 : Int) ≤ 0; omega, by show 0 ≤ lLen l; unfold lLen; omega, fun j hj => by have : (j : Int) < 0 := hj; omega⟩ (by show (lLen l - 0).toNat < k; unfold lLen; omega)
    rintro ⟨t0, t5, t6, t7, u⟩ hv
    simp only at hv
    obtain ⟨rfl, rfl, rfl, g1, g2, g3⟩ := hv
    show Runs (f237_s4 k t5 t5 (lLen t5) t7) _
    unfold f237_s4
    have hL : lLen t5 = (t5.length : Int) := rfl
    refine Runs.cond (fun h => ?_) fun h => Runs.ret ⟨rfl, fun p hp => ?_⟩
    · have hc := of_decide_eq_true h
      have e1 : w64 (t7 + 1) = t7 + 1 := w64_in (by omega) (by omega)
      have e2 : w64 (t7 - 1) = t7 - 1 := w64_in (by omega) (by omega)
      rw [e1, e2]
      refine Runs.range g1 hc (Runs.bind (f99_t hk _) fun r4 h4 => Runs.cond (fun _ => Runs.ret rfl) fun h5 => ?_)
      have h6 : (lAt .str t5 t7 : ByteArray).size ≤ 63 := h4 (by simpa using h5)
      have nx : ∀ j : Nat, (j : Int) < t7 + 1 → (t5.getD j sNil).size ≤ 63 := fun j hj => by
        by_cases e : (j : Int) = t7
        · have : j = t7.toNat := by omega
          subst this
          exact h6
        · exact g3 j (by omega)
      refine Runs.cond (fun h => ?_) fun _ => ?_
      · have h0 := of_decide_eq_true h
        refine Runs.range (by omega) (by omega) (Runs.cond (fun _ => Runs.ret rfl) fun _ => Runs.ret ⟨⟨rfl, rfl, rfl, ?_, ?_, nx⟩, ?_⟩)
        · show 0 ≤ t7 + 1; omega
        · show t7 + 1 ≤ lLen t5; omega
        · show (lLen t5 - (t7 + 1)).toNat < (lLen t5 - t7).toNat; omega
      · refine Runs.ret ⟨⟨rfl, rfl, rfl, ?_, ?_, nx⟩, ?_⟩
        · show 0 ≤ t7 + 1; omega
        · show t7 + 1 ≤ lLen t5; omega
        · show (lLen t5 - (t7 + 1)).toNat < (lLen t5 - t7).toNat; omega
    · have hc := of_decide_eq_false h
      obtain ⟨j, hj, rfl⟩ := mem_getD hp sNil
      exact g3 j (by omega)
  · cases o with
    | inl o => exact Runs.ret (by rw [show o.1 = false from ho]; simp)
    | inr o =>
      obtain ⟨e, hp⟩ := ho
      refine Runs.cond (fun _ => Runs.ret fun h => ⟨?_, hp⟩) fun _ => Runs.ret (by simp)
      have := of_decide_eq_true h
      rw [e] at this
      unfold lLen at this; omega
end Go.Proofs.YtpffibjemegioaaGreatDoor.Keeps
set_option linter.unusedSimpArgs false
namespace Go.Proofs.YtpffibjemegioaaGreatDoor.Keeps
open Go Go.PB
abbrev Nd := ByteArray × Int × List ByteArray × Unit
abbrev tN : Ty := .agg (.pair .str (.pair (.int .i64) (.pair (.list .str) .unit)))
theorem dropWhile_len {α : Type} (p : α → Bool) : ∀ l : List α, (l.dropWhile p).length ≤ l.length
  | [] => by simp
  | x :: l => by
    have := dropWhile_len p l
    rw [List.dropWhile_cons]
    split
    · simp only [List.length_cons]; omega
    · simp
theorem f197_t (k : Nat) {s : ByteArray} (hs : s.size ≤ 100000) : Runs (f197 k s (⟨#[40, 41]⟩ : ByteArray)) (fun r => r.size ≤ s.size) := by
  unfold f197 trimRun
  rw [if_pos ⟨by omega, by decide, by decide⟩]
  refine Runs.ret ?_
  unfold Lib.trimS Lib.trimLeftS Lib.trimRightS
  rw [ba_size]
  have h1 := dropWhile_len (fun x => (⟨#[40, 41]⟩ : ByteArray).data.toList.contains x) ((s.data.toList).reverse)
  have h2 := dropWhile_len (fun x => (⟨#[40, 41]⟩ : ByteArray).data.toList.contains x) ((s.data.toList).reverse.dropWhile (fun x => (⟨#[40, 41]⟩ : ByteArray).data.toList.contains x)).reverse
  simp only [List.length_reverse] at h1 h2
  rw [dl_len] at h1
  first
    | omega
    | (simp only [List.length_reverse] at *; omega)
theorem f196_t (k : Nat) (s : ByteArray) : Runs (f196 k s (⟨#[33]⟩ : ByteArray)) T := by
  unfold f196 f258 f293
  have e1 : sLen (⟨#[33]⟩ : ByteArray) = 1 := rfl
  have hs : sLen s = (s.size : Int) := rfl
  rw [e1]
  refine Runs.bind (P := T) ?_ fun r _ => Runs.t
  by_cases h : sLen s ≥ 1
  · rw [decide_eq_true h, cond_true, cutK_in (by omega) (by omega) (by omega), Option.bind_some]
    refine Runs.cond (fun _ => Runs.t) fun _ => ?_
    exact Runs.cut (by omega) (by omega) (by omega) Runs.t
  · rw [decide_eq_false h, cond_false, Option.bind_some]
    exact Runs.t
theorem f144_t (k : Nat) {s : ByteArray} (hs : s.size ≤ 100000) : Runs (f144 k s) (fun r => r.2.2.1.length ≤ 100001) := by
  unfold f144
  have z : ∀ (a : ByteArray) (b : Int), Runs (some ((a, b, [], ()) : Nd)) (fun r => r.2.2.1.length ≤ 100001) := fun a b => Runs.ret (by show 0 ≤ 100001; omega)
  refine Runs.bind (f196_t k s) fun r1 _ => Runs.cond (fun _ => z _ _) fun _ => ?_
  refine Runs.bind (cut_ok' k hs) fun r2 h2 => Runs.cond (fun _ => z _ _) fun _ => ?_
  refine Runs.bind (cut_ok' k (by omega)) fun r3 h3 => ?_
  refine Runs.bind (f197_t k (by omega)) fun r4 h4 => ?_
  refine Runs.bind (split_ok' k 44 (by omega)) fun r5 h5 => ?_
  exact Runs.cond (fun _ => Runs.ret (by show r5.length ≤ 100001; omega)) fun _ => Runs.ret (by show r5.length ≤ 100001; omega)
def NeedP (n : Nd) : Prop := n.1.size ≤ 63 ∧ n.2.2.1.length ≤ 8 ∧ ∀ p ∈ n.2.2.1, p.size ≤ 63
theorem f179_t {k : Nat} (hk : 200000 < k) {n : Nd} (hn : n.2.2.1.length ≤ 100001) : Runs (f179 k n) (fun r => r = true → NeedP n) := by
  unfold f179
  refine Runs.bind (f98_t (by omega) _) fun r1 h1 => Runs.cond (fun _ => Runs.ret (by simp)) fun h1' => ?_
  have hkey := h1 (by simpa using h1')
  refine Runs.bind (P := T) ?_ fun r2 _ => Runs.cond (fun _ => ?_) fun _ => ?_
  · unfold f236
    exact Runs.cond (fun _ => Runs.t) fun _ => Runs.t
  · exact Runs.bind (f237_t (by omega) (by omega) (by omega)) fun r3 h3 => Runs.ret fun h => ⟨hkey, (h3 h).1, (h3 h).2⟩
  · have e : ∀ b : Bool, Runs (some ((lLen n.2.2.1) == 0)) (fun r => r = true → NeedP n) := fun b => Runs.ret fun h => by
      have h0 : n.2.2.1.length = 0 := by
        have := beq_iff_eq.1 h
        unfold lLen at this; omega
      refine ⟨hkey, by omega, fun p hp => ?_⟩
      rw [List.length_eq_zero_iff.1 h0] at hp
      cases hp
    exact Runs.cond (fun _ => e true) fun _ => Runs.cond (fun _ => e true) fun _ => Runs.ret (by simp)
theorem f235_t {k : Nat} (hk : 200000 < k) {l : List Nd} (hl : l.length ≤ 8) (hn : ∀ n ∈ l, n.2.2.1.length ≤ 100001) : Runs (f235 k l) (fun r => r < 0 → ∀ n ∈ l, NeedP n) := by
  unfold f235
  refine Runs.bind (P := fun o => match o with | .inl o => 0 ≤ o.1 | .inr o => ∀ n ∈ l, NeedP n) ?_ fun o ho => ?_
  · refine Runs.iter (fun v => v.1 = l ∧ v.2.1 = lLen l ∧ 0 ≤ v.2.2.1 ∧ v.2.2.1 ≤ lLen l ∧ ∀ j : Nat, (j : Int) < v.2.2.1 → NeedP (l.getD j (Ty.zero tN))) (fun v => (lLen l - v.2.2.1).toNat) ?_ ⟨rfl, rfl, by show (0 : Int) ≤ 0; omega, by show 0 ≤ lLen l; unfold lLen; omega, fun j hj => by have : (j : Int) < 0 := hj; omega⟩ (by show (lLen l - 0).toNat < k; unfold lLen; omega)
    rintro ⟨t0, t7, t8, u⟩ hv
    simp only at hv
    obtain ⟨rfl, rfl, g1, g2, g3⟩ := hv
    show Runs (f235_s4 k t0 (lLen t0) t8) _
    unfold f235_s4
    have hL : lLen t0 = (t0.length : Int) := rfl
    refine Runs.cond (fun h => ?_) fun h => Runs.ret fun n hn' => ?_
    · have hc := of_decide_eq_true h
      have e1 : w64 (t8 + 1) = t8 + 1 := w64_in (by omega) (by omega)
      rw [e1]
      have hm : (lAt tN t0 t8 : Nd) ∈ t0 := by
        have hi : t8.toNat < t0.length := by omega
        exact getD_mem hi _
      refine Runs.range g1 hc (Runs.bind (P := fun r => r = false → NeedP (lAt tN t0 t8)) ?_ fun r3 h3 => Runs.cond (fun _ => Runs.ret (by show 0 ≤ t8; exact g1)) fun h3' => ?_)
      · exact Runs.bind (f179_t hk (hn _ hm)) fun r hr => Runs.ret fun h => hr (by simpa using h)
      · refine Runs.ret ⟨⟨rfl, rfl, ?_, ?_, fun j hj => ?_⟩, ?_⟩
        · show 0 ≤ t8 + 1; omega
        · show t8 + 1 ≤ lLen t0; omega
        · have hj' : (j : Int) < t8 + 1 := hj
          by_cases e : (j : Int) = t8
          · have : j = t8.toNat := by omega
            subst this
            exact h3 h3'
          · exact g3 j (by omega)
        · show (lLen t0 - (t8 + 1)).toNat < (lLen t0 - t8).toNat; omega
    · have hc := of_decide_eq_false h
      obtain ⟨j, hj, rfl⟩ := mem_getD hn' (Ty.zero tN)
      exact g3 j (by omega)
  · cases o with
    | inl o => exact Runs.ret fun h => absurd h (by have : 0 ≤ o.1 := ho; omega)
    | inr o => exact Runs.ret fun _ => ho
theorem join_any (k : Nat) {xs : List ByteArray} {sep : ByteArray} (hl : xs.length ≤ 1000) (hs : ∀ p ∈ xs, p.size ≤ 1000000) (hsep : sep.size ≤ 10) : Runs (f199 k xs sep) T := by
  unfold f199 joinRun
  have hj : (Lib.join (xs.map (·.data.toList)) sep.data.toList).length ≤ xs.length * (1000000 + sep.size) := by
    have := join_len sep.data.toList 1000000 (xs.map (·.data.toList)) (fun p hp => by
      obtain ⟨q, hq, rfl⟩ := List.mem_map.1 hp
      rw [dl_len]; exact hs q hq)
    rw [List.length_map, dl_len] at this
    exact this
  have hj2 : xs.length * (1000000 + sep.size) ≤ 1000 * 1000010 := Nat.mul_le_mul hl (by omega)
  rw [if_pos ⟨by omega, by omega⟩]
  exact Runs.t
theorem room63 {R : Type} {n : Nat} (h : n ≤ 10000000) (K : Option R) : roomK n 9223372036854775807 K = K := roomK_lt (by omega) K
theorem f198_t (k : Nat) {n : Nd} (hn : NeedP n) : Runs (f198 k n) (fun r => r.size ≤ 1000000) := by
  unfold f198
  obtain ⟨h1, h2, h3⟩ := hn
  refine Runs.bind (Runs.of (join_ok' k (by omega) (fun p hp => by have := h3 p hp; omega) (by show 1 ≤ 10; omega))) fun r hr => ?_
  have a1 : (⟨#[40]⟩ : ByteArray).size = 1 := rfl
  have a2 : (⟨#[41]⟩ : ByteArray).size = 1 := rfl
  have a3 : (⟨#[32, 105, 110, 32]⟩ : ByteArray).size = 4 := rfl
  have a4 : (⟨#[32, 110, 111, 116, 105, 110, 32]⟩ : ByteArray).size = 7 := rfl
  have a5 : (⟨#[33]⟩ : ByteArray).size = 1 := rfl
  simp only [append_size, a1, a2, a3, a4, a5]
  refine Runs.room (by omega) (Runs.room (by omega) ?_)
  refine Runs.cond (fun _ => Runs.room (by omega) (Runs.room (by omega) (Runs.ret ?_))) fun _ => Runs.cond (fun _ => Runs.room (by omega) (Runs.room (by omega) (Runs.ret ?_))) fun _ => Runs.cond (fun _ => Runs.room (by omega) (Runs.ret ?_)) fun _ => Runs.ret ?_
  · simp only [append_size, a1, a2, a3, a4, a5]; omega
  · simp only [append_size, a1, a2, a3, a4, a5]; omega
  · simp only [append_size, a1, a2, a3, a4, a5]; omega
  · omega
theorem f145_t {k : Nat} (hk : 200000 < k) {l : List Nd} (hl : l.length ≤ 8) (hn : ∀ n ∈ l, n.2.2.1.length ≤ 100001) : Runs (f145 k l) T := by
  unfold f145
  have h132 : Runs (f132 k l) (fun r => r = true → ∀ n ∈ l, NeedP n) := by
    unfold f132 f177
    refine Runs.cond (fun _ => ?_) fun _ => Runs.ret (by simp)
    refine Runs.bind (P := fun r => r = false → ∀ n ∈ l, NeedP n) (Runs.bind (f235_t hk hl hn) fun r hr => Runs.ret fun h => hr (by have := of_decide_eq_false h; omega)) fun r hr => Runs.ret fun h => hr (by simpa using h)
  refine Runs.bind h132 fun r1 h1 => Runs.cond (fun _ => Runs.t) fun h1' => ?_
  have hok := h1 (by simpa using h1')
  refine Runs.bind (P := fun o => o.1.length ≤ 1000 ∧ ∀ p ∈ o.1, p.size ≤ 1000000) ?_ fun o ho => Runs.bind (join_any k ho.1 ho.2 (by show 1 ≤ 10; omega)) fun r _ => Runs.t
  refine Runs.iter (fun v => v.1 = l ∧ v.2.1 = lLen l ∧ 0 ≤ v.2.2.1 ∧ v.2.2.1 ≤ lLen l ∧ (v.2.2.2.1.length : Int) = v.2.2.1 ∧ ∀ p ∈ v.2.2.2.1, p.size ≤ 1000000) (fun v => (lLen l - v.2.2.1).toNat) ?_ ⟨rfl, rfl, by show (0 : Int) ≤ 0; omega, by show 0 ≤ lLen l; unfold lLen; omega, rfl, fun p hp => by cases hp⟩ (by show (lLen l - 0).toNat < k; unfold lLen; omega)
  rintro ⟨t10, t11, t12, h0, u⟩ hv
  simp only at hv
  obtain ⟨rfl, rfl, g1, g2, g3, g4⟩ := hv
  show Runs (f145_s10 k t10 (lLen t10) t12 h0) _
  unfold f145_s10
  have hL : lLen t10 = (t10.length : Int) := rfl
  refine Runs.cond (fun h => ?_) fun h => Runs.ret ⟨by show h0.length ≤ 1000; omega, g4⟩
  have hc := of_decide_eq_true h
  have e1 : w64 (t12 + 1) = t12 + 1 := w64_in (by omega) (by omega)
  rw [e1]
  have hm : (lAt tN t10 t12 : Nd) ∈ t10 := by
    have hi : t12.toNat < t10.length := by omega
    exact getD_mem hi _
  refine Runs.range g1 hc (Runs.bind (f198_t k (hok _ hm)) fun r4 h4 => Runs.room (by show h0.length + 1 ≤ most; unfold most; omega) (Runs.ret ⟨⟨rfl, rfl, ?_, ?_, ?_, fun p hp => ?_⟩, ?_⟩))
  · show 0 ≤ t12 + 1; omega
  · show t12 + 1 ≤ lLen t10; omega
  · show ((h0 ++ [r4]).length : Int) = t12 + 1
    rw [List.length_append, List.length_singleton]; omega
  · rcases List.mem_append.1 hp with hp | hp
    · exact g4 p hp
    · rw [List.mem_singleton.1 hp]; exact h4
  · show (lLen t10 - (t12 + 1)).toNat < (lLen t10 - t12).toNat; omega
theorem f104_t {k : Nat} (hk : 200000 < k) {s : ByteArray} (hs : s.size ≤ 100000) : Runs (f104 k s) T := by
  unfold f104
  refine Runs.cond (fun _ => Runs.t) fun _ => ?_
  refine Runs.bind (split_ok' k 59 hs) fun l hl => ?_
  refine Runs.bind (P := fun o => match o with | .inl o => True | .inr o => o.2.1.length ≤ 8 ∧ ∀ n ∈ o.2.1, n.2.2.1.length ≤ 100001) ?_ fun o ho => ?_
  · refine Runs.iter (fun v => v.1 = s ∧ v.2.1 = l ∧ v.2.2.1 = lLen l ∧ 0 ≤ v.2.2.2.1 ∧ v.2.2.2.1 ≤ lLen l ∧ v.2.2.2.2.1.length ≤ 8 ∧ ∀ n ∈ v.2.2.2.2.1, n.2.2.1.length ≤ 100001) (fun v => (lLen l - v.2.2.2.1).toNat) ?_ ⟨rfl, rfl, rfl, by show (0 : Int) ≤ 0; omega, by show 0 ≤ lLen l; unfold lLen; omega, by show 0 ≤ 8; omega, fun p hp => by cases hp⟩ (by show (lLen l - 0).toNat < k; unfold lLen; omega)
    rintro ⟨t0, t12, t13, t14, h0, u⟩ hv
    simp only at hv
    obtain ⟨rfl, rfl, rfl, g1, g2, g3, g4⟩ := hv
    show Runs (f104_s10 k t0 t12 (lLen t12) t14 h0) _
    unfold f104_s10
    have hL : lLen t12 = (t12.length : Int) := rfl
    refine Runs.cond (fun h => ?_) fun h => Runs.ret ⟨g3, g4⟩
    have hc := of_decide_eq_true h
    have e1 : w64 (t14 + 1) = t14 + 1 := w64_in (by omega) (by omega)
    rw [e1]
    have hp := hl.2 _ (lAt_mem (l := t12) g1 hc)
    refine Runs.range g1 hc (Runs.cond (fun _ => Runs.ret trivial) fun h8 => ?_)
    have h8' := of_decide_eq_false h8
    have hz : lLen h0 = (h0.length : Int) := rfl
    refine Runs.bind (f144_t k (s := lAt .str t12 t14) (by omega)) fun r4 h4 => Runs.room (by show h0.length + 1 ≤ most; unfold most; omega) (Runs.ret ⟨⟨rfl, rfl, rfl, ?_, ?_, ?_, fun n hn => ?_⟩, ?_⟩)
    · show 0 ≤ t14 + 1; omega
    · show t14 + 1 ≤ lLen t12; omega
    · show (h0 ++ [r4]).length ≤ 8
      rw [List.length_append, List.length_singleton]; omega
    · rcases List.mem_append.1 hn with hn | hn
      · exact g4 n hn
      · rw [List.mem_singleton.1 hn]; exact h4
    · show (lLen t12 - (t14 + 1)).toNat < (lLen t12 - t14).toNat; omega
  · cases o with
    | inl o => exact Runs.t
    | inr o => exact Runs.bind (f145_t hk ho.1 ho.2) fun r _ => Runs.cond (fun _ => Runs.t) fun _ => Runs.cond (fun _ => Runs.t) fun _ => Runs.t
end Go.Proofs.YtpffibjemegioaaGreatDoor.Keeps
