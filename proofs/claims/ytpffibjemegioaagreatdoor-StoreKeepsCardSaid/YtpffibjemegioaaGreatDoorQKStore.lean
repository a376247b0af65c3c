/-
  StoreKeeps: the plain law.
-/
import Derived.Test.YtpffibjemegioaaGreatDoorQKLaw
import Derived.Test.YtpffibjemegioaaGreatDoorQKC
import Derived.Test.YtpffibjemegioaaGreatDoorQKPlain
import Derived.KernelRfl
set_option linter.unusedVariables false
set_option linter.unusedSimpArgs false
namespace Go.Proofs.YtpffibjemegioaaGreatDoor.Keeps
open Go Go.PB
abbrev Pr := ByteArray × ByteArray × Unit
abbrev tP : Ty := .agg (.pair .str (.pair .str .unit))
abbrev zO : cO := (0, sNil, 0, 0, false, [], [], [], sNil, 0, 0, [], [], sNil, sNil, 0, sNil, sNil, sNil, ())
abbrev oName (o : cO) := o.2.1
abbrev oUid (o : cO) := o.2.2.1
abbrev oVer (o : cO) := o.2.2.2.1
abbrev oDel (o : cO) := o.2.2.2.2.1
abbrev oFin (o : cO) := o.2.2.2.2.2.1
abbrev oLab (o : cO) := o.2.2.2.2.2.2.1
abbrev oCid (o : cO) := o.2.2.2.2.2.2.2.1
abbrev oSta (o : cO) := o.2.2.2.2.2.2.2.2.1
abbrev oTyp (o : cO) := o.2.2.2.2.2.2.2.2.2.1
abbrev oPol (o : cO) := o.2.2.2.2.2.2.2.2.2.2.1
abbrev oFam (o : cO) := o.2.2.2.2.2.2.2.2.2.2.2.1
abbrev oIps (o : cO) := o.2.2.2.2.2.2.2.2.2.2.2.2.1
abbrev oV4 (o : cO) := o.2.2.2.2.2.2.2.2.2.2.2.2.2.1
abbrev oV6 (o : cO) := o.2.2.2.2.2.2.2.2.2.2.2.2.2.2.1
abbrev oBit (o : cO) := o.2.2.2.2.2.2.2.2.2.2.2.2.2.2.2.1
abbrev oSel (o : cO) := o.2.2.2.2.2.2.2.2.2.2.2.2.2.2.2.2.1
abbrev oAbo (o : cO) := o.2.2.2.2.2.2.2.2.2.2.2.2.2.2.2.2.2.1
abbrev oRea (o : cO) := o.2.2.2.2.2.2.2.2.2.2.2.2.2.2.2.2.2.2.1
theorem f134_t {k : Nat} {l : List ByteArray} (hl : l.length < k) (hm : l.length ≤ 1000000) : Runs (f134 k l) (fun r => r < 0 ↔ ∀ s ∈ l, s.size ≤ 200) := by
  unfold f134
  refine Runs.bind (P := fun o => match o with | .inl o => 0 ≤ o.1 ∧ ¬ ∀ s ∈ l, s.size ≤ 200 | .inr o => ∀ s ∈ l, s.size ≤ 200) ?_ fun o ho => ?_
  · refine Runs.iter (fun v => v.1 = l ∧ v.2.1 = lLen l ∧ 0 ≤ v.2.2.1 ∧ v.2.2.1 ≤ lLen l ∧ ∀ j : Nat, (j : Int) < v.2.2.1 → (l.getD j sNil).size ≤ 200) (fun v => (lLen l - v.2.2.1).toNat) ?_ ⟨rfl, rfl, by show (0 : Int) ≤ 0; omega, by show 0 ≤ lLen l; unfold lLen; omega, fun j hj => by have : (j : Int) < 0 := hj; omega⟩ (by show (lLen l - 0).toNat < k; unfold lLen; omega)
    rintro ⟨t0, t7, t8, u⟩ hv
    simp only at hv
    obtain ⟨rfl, rfl, g1, g2, g3⟩ := hv
    show Runs (f134_s4 k t0 (lLen t0) t8) _
    unfold f134_s4 f93
    have hL : lLen t0 = (t0.length : Int) := rfl
    refine Runs.cond (fun h => ?_) fun h => Runs.ret fun n hn' => ?_
    · have hc := of_decide_eq_true h
      have e1 : w64 (t8 + 1) = t8 + 1 := w64_in (by omega) (by omega)
      rw [e1]
      have hm : (lAt .str t0 t8 : ByteArray) ∈ t0 := lAt_mem g1 hc
      have hz : sLen (lAt .str t0 t8) = ((lAt .str t0 t8 : ByteArray).size : Int) := rfl
      refine Runs.range g1 hc (Runs.bind (P := fun r => r = decide (sLen (lAt .str t0 t8) > 200)) (Runs.ret rfl) fun r3 h3 => Runs.cond (fun h4 => Runs.ret ⟨g1, fun hall => ?_⟩) fun h4 => ?_)
      · have := hall _ hm
        rw [h3] at h4
        have := of_decide_eq_true h4
        omega
      · rw [h3] at h4
        have h5 := of_decide_eq_false h4
        refine Runs.ret ⟨⟨rfl, rfl, ?_, ?_, fun j hj => ?_⟩, ?_⟩
        · show 0 ≤ t8 + 1; omega
        · show t8 + 1 ≤ lLen t0; omega
        · have hj' : (j : Int) < t8 + 1 := hj
          by_cases e : (j : Int) = t8
          · have : j = t8.toNat := by omega
            subst this
            have : (lAt .str t0 t8 : ByteArray).size ≤ 200 := by omega
            exact this
          · exact g3 j (by omega)
        · show (lLen t0 - (t8 + 1)).toNat < (lLen t0 - t8).toNat; omega
    · have hc := of_decide_eq_false h
      obtain ⟨j, hj, rfl⟩ := mem_getD hn' sNil
      exact g3 j (by omega)
  · cases o with
    | inl o => exact Runs.ret ⟨fun h => absurd h (by have : 0 ≤ o.1 := ho.1; omega), fun h => absurd h ho.2⟩
    | inr o => exact Runs.ret ⟨fun _ => ho, fun _ => by omega⟩
theorem f95_t (k : Nat) (p : Pr) : Runs (f95 k p) (fun r => r = false ↔ p.1.size ≤ 200 ∧ p.2.1.size ≤ 200) := by
  unfold f95
  have hz1 : sLen p.1 = (p.1.size : Int) := rfl
  have hz2 : sLen p.2.1 = (p.2.1.size : Int) := rfl
  refine Runs.cond (fun h => Runs.ret ⟨fun h => by simp at h, fun h' => ?_⟩) fun h => Runs.ret ?_
  · have := of_decide_eq_true h
    exact absurd h'.1 (by omega)
  · have := of_decide_eq_false h
    rw [decide_eq_false_iff_not]
    exact ⟨fun h' => ⟨by omega, by omega⟩, fun h' => by omega⟩
theorem f135_t {k : Nat} {l : List Pr} (hl : l.length < k) (hm : l.length ≤ 1000000) : Runs (f135 k l) (fun r => r < 0 ↔ ∀ s ∈ l, s.1.size ≤ 200 ∧ s.2.1.size ≤ 200) := by
  unfold f135
  refine Runs.bind (P := fun o => match o with | .inl o => 0 ≤ o.1 ∧ ¬ ∀ s ∈ l, s.1.size ≤ 200 ∧ s.2.1.size ≤ 200 | .inr o => ∀ s ∈ l, s.1.size ≤ 200 ∧ s.2.1.size ≤ 200) ?_ fun o ho => ?_
  · refine Runs.iter (fun v => v.1 = l ∧ v.2.1 = lLen l ∧ 0 ≤ v.2.2.1 ∧ v.2.2.1 ≤ lLen l ∧ ∀ j : Nat, (j : Int) < v.2.2.1 → (l.getD j (Ty.zero tP)).1.size ≤ 200 ∧ (l.getD j (Ty.zero tP)).2.1.size ≤ 200) (fun v => (lLen l - v.2.2.1).toNat) ?_ ⟨rfl, rfl, by show (0 : Int) ≤ 0; omega, by show 0 ≤ lLen l; unfold lLen; omega, fun j hj => by have : (j : Int) < 0 := hj; omega⟩ (by show (lLen l - 0).toNat < k; unfold lLen; omega)
    rintro ⟨t0, t7, t8, u⟩ hv
    simp only at hv
    obtain ⟨rfl, rfl, g1, g2, g3⟩ := hv
    show Runs (f135_s4 k t0 (lLen t0) t8) _
    unfold f135_s4
    have hL : lLen t0 = (t0.length : Int) := rfl
    refine Runs.cond (fun h => ?_) fun h => Runs.ret fun n hn' => ?_
    · have hc := of_decide_eq_true h
      have e1 : w64 (t8 + 1) = t8 + 1 := w64_in (by omega) (by omega)
      rw [e1]
      have hm : (lAt tP t0 t8 : Pr) ∈ t0 := by
        have hi : t8.toNat < t0.length := by omega
        exact getD_mem hi _
      refine Runs.range g1 hc (Runs.bind (P := fun r => r = false ↔ (lAt tP t0 t8 : Pr).1.size ≤ 200 ∧ (lAt tP t0 t8 : Pr).2.1.size ≤ 200) ?_ fun r3 h3 => Runs.cond (fun h4 => Runs.ret ⟨g1, fun hall => ?_⟩) fun h4 => ?_)
      · exact f95_t k _
      · have := hall _ hm
        rw [h3.2 this] at h4
        simp at h4
      · have h5 := h3.1 h4
        refine Runs.ret ⟨⟨rfl, rfl, ?_, ?_, fun j hj => ?_⟩, ?_⟩
        · show 0 ≤ t8 + 1; omega
        · show t8 + 1 ≤ lLen t0; omega
        · have hj' : (j : Int) < t8 + 1 := hj
          by_cases e : (j : Int) = t8
          · have : j = t8.toNat := by omega
            subst this
            exact h5
          · exact g3 j (by omega)
        · show (lLen t0 - (t8 + 1)).toNat < (lLen t0 - t8).toNat; omega
    · have hc := of_decide_eq_false h
      obtain ⟨j, hj, rfl⟩ := mem_getD hn' (Ty.zero tP)
      exact g3 j (by omega)
  · cases o with
    | inl o => exact Runs.ret ⟨fun h => absurd h (by have : 0 ≤ o.1 := ho.1; omega), fun h => absurd h ho.2⟩
    | inr o => exact Runs.ret ⟨fun _ => ho, fun _ => by omega⟩
def TextsP (n : Nat) (l : List ByteArray) : Prop := l.length ≤ n ∧ ∀ s ∈ l, s.size ≤ 200
def PairsP (l : List Pr) : Prop := l.length ≤ 16 ∧ ∀ s ∈ l, s.1.size ≤ 200 ∧ s.2.1.size ≤ 200
def InP (a b : Int) : Prop := 0 ≤ a ∧ a ≤ b
theorem f41_t {k : Nat} {l : List ByteArray} {n : Nat} (hn : n < k) (hm : n ≤ 1000000) : Runs (f41 k l (n : Int)) (fun r => r = true ↔ TextsP n l) := by
  unfold f41 f92 TextsP
  have hL : lLen l = (l.length : Int) := rfl
  refine Runs.cond (fun h => ?_) fun h => Runs.ret ⟨fun h => by simp at h, fun h' => ?_⟩
  · have h := of_decide_eq_true h
    refine Runs.bind (P := fun r => r = false ↔ ∀ s ∈ l, s.size ≤ 200) (Runs.bind (f134_t (l := l) (k := k) (by omega) (by omega)) fun r hr => Runs.ret ?_) fun r hr => Runs.ret ?_
    · rw [decide_eq_false_iff_not, ← hr]; omega
    · have hc : l.length ≤ n := by omega
      cases r with
      | true => exact ⟨fun h => by simp at h, fun h' => absurd (hr.2 h'.2) (by simp)⟩
      | false => exact ⟨fun _ => ⟨hc, hr.1 rfl⟩, fun _ => rfl⟩
  · have := of_decide_eq_false h
    exact absurd h'.1 (by omega)
theorem f42_t {k : Nat} {l : List Pr} (hk : 100 < k) : Runs (f42 k l) (fun r => r = true ↔ PairsP l) := by
  unfold f42 f94 PairsP
  have hL : lLen l = (l.length : Int) := rfl
  refine Runs.cond (fun h => ?_) fun h => Runs.ret ⟨fun h => by simp at h, fun h' => ?_⟩
  · have h := of_decide_eq_true h
    refine Runs.bind (P := fun r => r = false ↔ ∀ s ∈ l, s.1.size ≤ 200 ∧ s.2.1.size ≤ 200) (Runs.bind (f135_t (l := l) (k := k) (by omega) (by omega)) fun r hr => Runs.ret ?_) fun r hr => Runs.ret ?_
    · rw [decide_eq_false_iff_not, ← hr]; omega
    · have hc : l.length ≤ 16 := by omega
      cases r with
      | true => exact ⟨fun h => by simp at h, fun h' => absurd (hr.2 h'.2) (by simp)⟩
      | false => exact ⟨fun _ => ⟨hc, hr.1 rfl⟩, fun _ => rfl⟩
  · have := of_decide_eq_false h
    exact absurd h'.1 (by omega)
theorem f40_t (k : Nat) (a b : Int) : Runs (f40 k a b) (fun r => r = true ↔ InP a b) := by
  unfold f40 InP
  refine Runs.cond (fun h => Runs.ret ?_) fun h => Runs.ret ⟨fun h => by simp at h, fun h' => ?_⟩
  · have := of_decide_eq_true h
    rw [decide_eq_true_iff]
    exact ⟨fun h => ⟨by omega, h⟩, fun h => h.2⟩
  · have := of_decide_eq_false h
    exact absurd h'.1 (by omega)
/-! Lists held against each other -/
theorem f59_t {k : Nat} {a b : List ByteArray} (h : a.length = b.length → a.length < k ∧ a.length ≤ 1000000) : Runs (f59 k a b) T := by
  unfold f59
  refine Runs.cond (fun _ => Runs.t) fun hc => ?_
  have hc : lLen a = lLen b := by simpa using hc
  have hL : lLen a = (a.length : Int) := rfl
  obtain ⟨h1, h2⟩ := h (by unfold lLen at hc; omega)
  refine Runs.sum ?_ fun o => by cases o <;> exact Runs.t
  refine Runs.iter (fun v => v.1 = a ∧ v.2.1 = b ∧ v.2.2.1 = lLen a ∧ 0 ≤ v.2.2.2.1 ∧ v.2.2.2.1 ≤ lLen a) (fun v => (lLen a - v.2.2.2.1).toNat) ?_ ⟨rfl, rfl, rfl, by show (0 : Int) ≤ 0; omega, by show 0 ≤ lLen a; omega⟩ (by show (lLen a - 0).toNat < k; omega)
  rintro ⟨t0, t1, t12, t13, u⟩ hv
  simp only at hv
  obtain ⟨rfl, rfl, rfl, g1, g2⟩ := hv
  show Runs (f59_s8 k t0 t1 (lLen t0) t13) _
  unfold f59_s8
  refine Runs.cond (fun h => ?_) fun _ => Runs.ret trivial
  have hd := of_decide_eq_true h
  have e1 : w64 (t13 + 1) = t13 + 1 := w64_in (by omega) (by omega)
  rw [e1]
  refine Runs.range g1 hd (Runs.range g1 (by omega) (Runs.cond (fun _ => Runs.ret trivial) fun _ => Runs.ret ⟨⟨rfl, rfl, rfl, ?_, ?_⟩, ?_⟩))
  · show 0 ≤ t13 + 1; omega
  · show t13 + 1 ≤ lLen t0; omega
  · show (lLen t0 - (t13 + 1)).toNat < (lLen t0 - t13).toNat; omega
theorem f60_t {k : Nat} {a b : List Pr} (h : a.length = b.length → a.length < k ∧ a.length ≤ 1000000) : Runs (f60 k a b) T := by
  unfold f60
  refine Runs.cond (fun _ => Runs.t) fun hc => ?_
  have hc : lLen a = lLen b := by simpa using hc
  have hL : lLen a = (a.length : Int) := rfl
  obtain ⟨h1, h2⟩ := h (by unfold lLen at hc; omega)
  refine Runs.sum ?_ fun o => by cases o <;> exact Runs.t
  refine Runs.iter (fun v => v.1 = a ∧ v.2.1 = b ∧ v.2.2.1 = lLen a ∧ 0 ≤ v.2.2.2.1 ∧ v.2.2.2.1 ≤ lLen a) (fun v => (lLen a - v.2.2.2.1).toNat) ?_ ⟨rfl, rfl, rfl, by show (0 : Int) ≤ 0; omega, by show 0 ≤ lLen a; omega⟩ (by show (lLen a - 0).toNat < k; omega)
  rintro ⟨t0, t1, t12, t13, u⟩ hv
  simp only at hv
  obtain ⟨rfl, rfl, rfl, g1, g2⟩ := hv
  show Runs (f60_s8 k t0 t1 (lLen t0) t13) _
  unfold f60_s8
  refine Runs.cond (fun h => ?_) fun _ => Runs.ret trivial
  have hd := of_decide_eq_true h
  have e1 : w64 (t13 + 1) = t13 + 1 := w64_in (by omega) (by omega)
  rw [e1]
  refine Runs.range g1 hd (Runs.range g1 (by omega) (Runs.cond (fun _ => Runs.ret trivial) fun _ => Runs.ret ⟨⟨rfl, rfl, rfl, ?_, ?_⟩, ?_⟩))
  · show 0 ≤ t13 + 1; omega
  · show t13 + 1 ≤ lLen t0; omega
  · show (lLen t0 - (t13 + 1)).toNat < (lLen t0 - t13).toNat; omega
theorem f61_t {k : Nat} {a b : List Int} (h : a.length = b.length → a.length < k ∧ a.length ≤ 1000000) : Runs (f61 k a b) T := by
  unfold f61
  refine Runs.cond (fun _ => Runs.t) fun hc => ?_
  have hc : lLen a = lLen b := by simpa using hc
  have hL : lLen a = (a.length : Int) := rfl
  obtain ⟨h1, h2⟩ := h (by unfold lLen at hc; omega)
  refine Runs.sum ?_ fun o => by cases o <;> exact Runs.t
  refine Runs.iter (fun v => v.1 = a ∧ v.2.1 = b ∧ v.2.2.1 = lLen a ∧ 0 ≤ v.2.2.2.1 ∧ v.2.2.2.1 ≤ lLen a) (fun v => (lLen a - v.2.2.2.1).toNat) ?_ ⟨rfl, rfl, rfl, by show (0 : Int) ≤ 0; omega, by show 0 ≤ lLen a; omega⟩ (by show (lLen a - 0).toNat < k; omega)
  rintro ⟨t0, t1, t12, t13, u⟩ hv
  simp only at hv
  obtain ⟨rfl, rfl, rfl, g1, g2⟩ := hv
  show Runs (f61_s8 k t0 t1 (lLen t0) t13) _
  unfold f61_s8
  refine Runs.cond (fun h => ?_) fun _ => Runs.ret trivial
  have hd := of_decide_eq_true h
  have e1 : w64 (t13 + 1) = t13 + 1 := w64_in (by omega) (by omega)
  rw [e1]
  refine Runs.range g1 hd (Runs.range g1 (by omega) (Runs.cond (fun _ => Runs.ret trivial) fun _ => Runs.ret ⟨⟨rfl, rfl, rfl, ?_, ?_⟩, ?_⟩))
  · show 0 ≤ t13 + 1; omega
  · show t13 + 1 ≤ lLen t0; omega
  · show (lLen t0 - (t13 + 1)).toNat < (lLen t0 - t13).toNat; omega
def Eqs (k : Nat) (a b : cO) : Prop :=
  ((oFin a).length = (oFin b).length → (oFin a).length < k ∧ (oFin a).length ≤ 1000000) ∧ ((oLab a).length = (oLab b).length → (oLab a).length < k ∧ (oLab a).length ≤ 1000000) ∧ ((oCid a).length = (oCid b).length → (oCid a).length < k ∧ (oCid a).length ≤ 1000000) ∧ ((oFam a).length = (oFam b).length → (oFam a).length < k ∧ (oFam a).length ≤ 1000000) ∧ ((oIps a).length = (oIps b).length → (oIps a).length < k ∧ (oIps a).length ≤ 1000000)
theorem f15_t {k : Nat} {a b : cO} (h : Eqs k a b) : Runs (f15 k a b) T := by
  unfold f15 f58
  refine Runs.bind (P := T) Runs.t fun r1 _ => Runs.bind (P := T) Runs.t fun r2 _ => ?_
  exact Runs.cond (fun _ => Runs.bind (f59_t h.1) fun r3 _ => Runs.cond (fun _ => Runs.bind (f60_t h.2.1) fun r4 _ => Runs.cond (fun _ => Runs.bind (f59_t h.2.2.1) fun r5 _ => Runs.cond (fun _ => Runs.bind (f61_t h.2.2.2.1) fun r6 _ => Runs.cond (fun _ => Runs.bind (f59_t h.2.2.2.2) fun r7 _ => Runs.t) fun _ => Runs.t) fun _ => Runs.t) fun _ => Runs.t) fun _ => Runs.t) fun _ => Runs.t
end Go.Proofs.YtpffibjemegioaaGreatDoor.Keeps
set_option linter.unusedSimpArgs false
namespace Go.Proofs.YtpffibjemegioaaGreatDoor.Keeps
open Go Go.PB
def maxN : Int := 1099511627776
structure ShapeP (k : Nat) (o : cO) : Prop where
  lo : 1 ≤ o.1
  hi : o.1 ≤ 4
  bare : ((f39 k o).bind fun r => f15 k r zO) = some true
  nums : ∀ n ∈ [oTyp o, oPol o, oBit o] ++ oFam o, InP n 255
  uid : InP (oUid o) maxN
  ver : InP (oVer o) maxN
  one : TextsP 7 [oName o, oSta o, oV4 o, oV6 o, oSel o, oAbo o, oRea o]
  fin : TextsP 4 (oFin o)
  cid : TextsP 8 (oCid o)
  ips : TextsP 8 (oIps o)
  fam : (oFam o).length ≤ 8
  lab : PairsP (oLab o)
theorem f11_loop {k : Nat} {o : cO} {l : List Int} (hl : l.length < k) (hm : l.length ≤ 1000000) : Runs (f11_l8 k (lLen l) 0 o l) (fun r => match r with | .inl r => r.1 = false ∧ ¬ ∀ n ∈ l, InP n 255 | .inr r => r.1 = o ∧ ∀ n ∈ l, InP n 255) := by
  refine Runs.iter (fun v => v.1 = lLen l ∧ v.2.2.1 = o ∧ v.2.2.2.1 = l ∧ 0 ≤ v.2.1 ∧ v.2.1 ≤ lLen l ∧ ∀ j : Nat, (j : Int) < v.2.1 → InP (l.getD j 0) 255) (fun v => (lLen l - v.2.1).toNat) ?_ ⟨rfl, rfl, rfl, by show (0 : Int) ≤ 0; omega, by show 0 ≤ lLen l; unfold lLen; omega, fun j hj => by have : (j : Int) < 0 := hj; omega⟩ (by show (lLen l - 0).toNat < k; unfold lLen; omega)
  rintro ⟨t31, t32, h0, h1, u⟩ hv
  simp only at hv
  obtain ⟨rfl, rfl, rfl, g1, g2, g3⟩ := hv
  show Runs (f11_s8 k (lLen h1) t32 h0 h1) _
  unfold f11_s8
  have hL : lLen h1 = (h1.length : Int) := rfl
  refine Runs.cond (fun h => ?_) fun h => Runs.ret ⟨rfl, fun n hn => ?_⟩
  · have hc := of_decide_eq_true h
    have e1 : w64 (t32 + 1) = t32 + 1 := w64_in (by omega) (by omega)
    rw [e1]
    have hm : List.getD h1 (Int.toNat t32) (Ty.zero (.int .i64)) ∈ h1 := getD_mem (by omega) _
    refine Runs.range g1 hc (Runs.bind (f40_t k _ _) fun r5 h5 => Runs.cond (fun h6 => Runs.ret ⟨rfl, fun hall => ?_⟩) fun h6 => ?_)
    · rw [h5.2 (hall _ hm)] at h6
      simp at h6
    · have h7 := h5.1 (by simpa using h6)
      refine Runs.ret ⟨⟨rfl, rfl, rfl, ?_, ?_, fun j hj => ?_⟩, ?_⟩
      · show 0 ≤ t32 + 1; omega
      · show t32 + 1 ≤ lLen h1; omega
      · have hj' : (j : Int) < t32 + 1 := hj
        by_cases e : (j : Int) = t32
        · have : j = t32.toNat := by omega
          subst this
          exact h7
        · exact g3 j (by omega)
      · show (lLen h1 - (t32 + 1)).toNat < (lLen h1 - t32).toNat; omega
  · have hc := of_decide_eq_false h
    obtain ⟨j, hj, rfl⟩ := mem_getD hn 0
    exact g3 j (by omega)
theorem f39_lists (k : Nat) (o : cO) : Runs (f39 k o) (fun r => ((oFin r).length = 0 ∧ (oLab r).length = 0) ∧ ((oCid r).length = 0 ∨ oCid r = oCid o) ∧ ((oFam r).length = 0 ∨ oFam r = oFam o) ∧ ((oIps r).length = 0 ∨ oIps r = oIps o)) := by
  unfold f39
  refine Runs.cond (fun _ => Runs.ret ?_) fun _ => Runs.cond (fun _ => Runs.ret ?_) fun _ => Runs.cond (fun _ => Runs.ret ?_) fun _ => Runs.cond (fun _ => Runs.ret ?_) fun _ => Runs.ret ?_
  · exact ⟨⟨rfl, rfl⟩, .inl rfl, .inr rfl, .inr rfl⟩
  · exact ⟨⟨rfl, rfl⟩, .inr rfl, .inl rfl, .inl rfl⟩
  · exact ⟨⟨rfl, rfl⟩, .inr rfl, .inr rfl, .inr rfl⟩
  · exact ⟨⟨rfl, rfl⟩, .inr rfl, .inr rfl, .inr rfl⟩
  · exact ⟨⟨rfl, rfl⟩, .inr rfl, .inr rfl, .inr rfl⟩
theorem bare_t {k : Nat} (hk : 0 < k) (o : cO) : Runs ((f39 k o).bind fun r => f15 k r zO) T := by
  refine Runs.bind (f39_lists k o) fun r hr => f15_t ⟨fun h => ?_, fun h => ?_, fun h => ?_, fun h => ?_, fun h => ?_⟩
  all_goals
    have h' : _ = 0 := h
    omega
theorem eq_true_of {b : Bool} (h : ¬ b = false) : b = true := by cases b <;> simp_all
theorem f11_t {k : Nat} (hk : 200000 < k) {o : cO} (hf : (oFam o).length ≤ 1000) : Runs (f11 k o) (fun r => r = true ↔ ShapeP k o) := by
  have no : ¬ ShapeP k o → Runs (some false) (fun r => r = true ↔ ShapeP k o) := fun h => Runs.ret ⟨fun h => by simp at h, fun h' => absurd h' h⟩
  unfold f11
  refine Runs.cond (fun h => no fun s => ?_) fun h1 => Runs.cond (fun h => no fun s => ?_) fun h2 => ?_
  · have := of_decide_eq_true h; have := s.lo; omega
  · have := of_decide_eq_true h; have := s.hi; omega
  have hlo : 1 ≤ o.1 := by have := of_decide_eq_false h1; omega
  have hhi : o.1 ≤ 4 := by have := of_decide_eq_false h2; omega
  obtain ⟨r2, e12, -⟩ := bare_t (k := k) (by omega) o
  obtain ⟨r1, e1, -⟩ := f39_lists k o
  have e2 : f15 k r1 zO = some r2 := by rw [e1] at e12; exact e12
  rw [e1, Option.bind_some]
  show Runs ((f15 k r1 zO).bind _) _
  rw [e2, Option.bind_some]
  refine Runs.cond (fun h => no fun s => ?_) fun h3 => ?_
  · have := s.bare
    rw [e12] at this
    simp at this
    rw [this] at h
    simp at h
  have hbare : ((f39 k o).bind fun r => f15 k r zO) = some true := by rw [e12, eq_true_of (b := r2) (by simpa using h3)]
  refine Runs.room (by show 3 + (oFam o).length ≤ most; unfold most; omega) ?_
  refine Runs.bind (f11_loop (o := o) (l := [oTyp o, oPol o, oBit o] ++ oFam o) (by rw [List.length_append]; show 3 + (oFam o).length < k; omega) (by rw [List.length_append]; show 3 + (oFam o).length ≤ _; omega)) fun r6 h6 => ?_
  cases r6 with
  | inl r6 =>
    obtain ⟨x, u⟩ := r6
    obtain ⟨hx, h⟩ : x = false ∧ ¬ ∀ n ∈ [oTyp o, oPol o, oBit o] ++ oFam o, InP n 255 := h6
    subst hx
    exact no fun s => h s.nums
  | inr r6 =>
    obtain ⟨e6, hnums⟩ := h6
    simp only [e6]
    refine Runs.bind (f40_t k _ _) fun r7 h7 => Runs.cond (fun h => ?_) fun h => no fun s => ?_
    rotate_left
    · rw [h7.2 s.uid] at h; simp at h
    have huid := h7.1 h
    refine Runs.bind (f40_t k _ _) fun r8 h8 => Runs.cond (fun h => ?_) fun h => no fun s => ?_
    rotate_left
    · rw [h8.2 s.ver] at h; simp at h
    have hver := h8.1 h
    refine Runs.bind (f41_t (n := 7) (by omega) (by omega)) fun r9 h9 => Runs.cond (fun h => ?_) fun h => no fun s => ?_
    rotate_left
    · rw [h9.2 s.one] at h; simp at h
    have hone := h9.1 h
    refine Runs.bind (f41_t (n := 4) (by omega) (by omega)) fun r10 h10 => Runs.cond (fun h => ?_) fun h => no fun s => ?_
    rotate_left
    · rw [h10.2 s.fin] at h; simp at h
    have hfin := h10.1 h
    refine Runs.bind (f41_t (n := 8) (by omega) (by omega)) fun r11 h11 => Runs.cond (fun h => ?_) fun h => no fun s => ?_
    rotate_left
    · rw [h11.2 s.cid] at h; simp at h
    have hcid := h11.1 h
    refine Runs.bind (f41_t (n := 8) (by omega) (by omega)) fun r12 h12 => Runs.cond (fun h => ?_) fun h => no fun s => ?_
    rotate_left
    · rw [h12.2 s.ips] at h; simp at h
    have hips := h12.1 h
    refine Runs.cond (fun h => ?_) fun h => no fun s => ?_
    rotate_left
    · have h' : ¬ lLen (oFam o) ≤ 8 := of_decide_eq_false h
      have := s.fam
      have e : lLen (oFam o) = ((oFam o).length : Int) := rfl
      omega
    have hfam : (oFam o).length ≤ 8 := by
      have h' : lLen (oFam o) ≤ 8 := of_decide_eq_true h
      have e : lLen (oFam o) = ((oFam o).length : Int) := rfl
      omega
    refine Runs.bind (f42_t (by omega)) fun r13 h13 => Runs.ret ⟨fun h => ?_, fun s => h13.2 s.lab⟩
    exact ⟨hlo, hhi, hbare, hnums, huid, hver, hone, hfin, hcid, hips, hfam, h13.1 h⟩
/-! ## Kinds -/
theorem f138_t {k : Nat} {s : ByteArray} (hk : 200100 < k) (hs : s.size ≤ 100000) : Runs (f138 k s) (fun r => NumOk r.1.1.2.1) := by
  unfold f138
  refine Runs.bind (cut_ok' k hs) fun r1 h1 => Runs.bind (f141_ok hk (by omega)) fun r2 h2 => ?_
  have ha : Runs (f182 k r1.2.1) (fun r => r.2 = true → -9223372036854775808 ≤ r.1 ∧ r.1 ≤ 9223372036854775807) := by
    unfold f182 atoiRun
    rw [if_pos (by omega)]
    refine Runs.ret ?_
    cases h : Lib.atoiAll r1.2.1.data.toList with
    | ok v => exact fun _ => Lib.atoiAll_bounds h
    | range => exact fun h => by simp at h
    | _ => exact fun h => by simp at h
  refine Runs.bind ha fun r3 h3 => ?_
  have bad : Runs (some (((false, (0, 0, ()), ()), 0, ()), (4 : Int))) (fun r : Pref × Int => NumOk r.1.1.2.1) := Runs.ret num_zero
  simp only [Bool.or_true, Bool.and_true, cond_true]
  refine Runs.cond (fun _ => bad) fun _ => Runs.cond (fun _ => bad) fun h4 => ?_
  have hb := h3 (eq_true_of (by simpa using h4))
  refine Runs.bind (Runs.of (itoa_ok' k hb.1 hb.2)) fun r4 _ => Runs.cond (fun _ => bad) fun _ => ?_
  refine Runs.bind (Runs.of (f184_ok k (p := (r2.1, r3.1, ())) h2)) fun r5 _ => Runs.cond (fun _ => bad) fun _ => Runs.ret h2
theorem f100_t {k : Nat} {s : ByteArray} (hk : 200100 < k) (hs : s.size ≤ 100000) : Runs (f100 k s) (fun r => NumOk r.1.1.2.1) := by
  unfold f100
  exact Runs.bind (f138_t hk hs) fun r1 h1 => Runs.cond (fun _ => Runs.bind (Runs.of' (f139_ok (by omega) h1)) fun r2 _ => Runs.ret h1) fun _ => Runs.ret h1
theorem f103_t {k : Nat} {s : ByteArray} (hk : 200100 < k) (hs : s.size ≤ 100000) : Runs (f103 k s) (fun r => NumOk r.1.2.1) := by
  unfold f103
  exact Runs.bind (f141_ok hk hs) fun r1 h1 => Runs.cond (fun _ => Runs.bind (Runs.of (f142_ok (by omega) h1)) fun r2 _ => Runs.ret h1) fun _ => Runs.ret h1
theorem f101_t (k : Nat) (a : Addr6) : Runs (f101 k a) (fun r => r = 4 ∨ r = 6) := by
  unfold f101
  exact Runs.cond (fun _ => Runs.ret (.inr rfl)) fun _ => Runs.ret (.inl rfl)
theorem f140_t {k : Nat} {l : List Int} (hl : l.length < k) (hm : l.length ≤ 1000000) (x : Int) : Runs (f140 k l x) T := by
  unfold f140
  refine Runs.sum ?_ fun o => by cases o <;> exact Runs.t
  refine Runs.iter (fun v => v.1 = l ∧ v.2.2.1 = lLen l ∧ 0 ≤ v.2.2.2.1 ∧ v.2.2.2.1 ≤ lLen l) (fun v => (lLen l - v.2.2.2.1).toNat) ?_ ⟨rfl, rfl, by show (0 : Int) ≤ 0; omega, by show 0 ≤ lLen l; unfold lLen; omega⟩ (by show (lLen l - 0).toNat < k; unfold lLen; omega)
  rintro ⟨t0, t1, t7, t8, u⟩ hv
  simp only at hv
  obtain ⟨rfl, rfl, g1, g2⟩ := hv
  show Runs (f140_s4 k t0 t1 (lLen t0) t8) _
  unfold f140_s4
  have hL : lLen t0 = (t0.length : Int) := rfl
  refine Runs.cond (fun h => ?_) fun _ => Runs.ret trivial
  have hd := of_decide_eq_true h
  have e1 : w64 (t8 + 1) = t8 + 1 := w64_in (by omega) (by omega)
  rw [e1]
  refine Runs.range g1 hd (Runs.cond (fun _ => Runs.ret trivial) fun _ => Runs.ret ⟨⟨rfl, rfl, ?_, ?_⟩, ?_⟩)
  · show 0 ≤ t8 + 1; omega
  · show t8 + 1 ≤ lLen t0; omega
  · show (lLen t0 - (t8 + 1)).toNat < (lLen t0 - t8).toNat; omega
theorem f102_t {k : Nat} {l : List Int} (hl : l.length < k) (hm : l.length ≤ 1000000) (x : Int) : Runs (f102 k l x) T := by
  unfold f102
  exact Runs.bind (f140_t hl hm x) fun r _ => Runs.t
theorem f49_t {k : Nat} (hk : 200100 < k) {o : cO} (s : ShapeP k o) : Runs (f49 k o) T := by
  unfold f49
  have hc := s.cid
  have hL : lLen (oCid o) = ((oCid o).length : Int) := rfl
  refine Runs.bind (P := fun r => match r with | .inl r => True | .inr r => r.2.1.length = 2) ?_ fun r hr => ?_
  · refine Runs.iter (fun v => v.1 = oCid o ∧ v.2.1 = lLen (oCid o) ∧ 0 ≤ v.2.2.1 ∧ v.2.2.1 ≤ lLen (oCid o) ∧ v.2.2.2.2.1.length = 2) (fun v => (lLen (oCid o) - v.2.2.1).toNat) ?_ ⟨rfl, rfl, by show (0 : Int) ≤ 0; omega, by show 0 ≤ lLen (oCid o); omega, by simp⟩ (by show (lLen (oCid o) - 0).toNat < k; have := hc.1; omega)
    rintro ⟨t9, t10, t11, h0, h1, u⟩ hv
    simp only at hv
    obtain ⟨rfl, rfl, g1, g2, g3⟩ := hv
    show Runs (f49_s6 k (oCid o) (lLen (oCid o)) t11 h0 h1) _
    unfold f49_s6
    refine Runs.cond (fun h => ?_) fun _ => Runs.ret g3
    have hd := of_decide_eq_true h
    have e1 : w64 (t11 + 1) = t11 + 1 := w64_in (by omega) (by have := hc.1; omega)
    rw [e1]
    have hsz := hc.2 _ (lAt_mem (l := oCid o) g1 hd)
    refine Runs.range g1 hd (Runs.bind (f100_t hk (by omega)) fun r4 h4 => Runs.cond (fun _ => Runs.ret trivial) fun _ => Runs.bind (f101_t k _) fun r5 h5 => ?_)
    have hq : w64 (Int.tdiv r5 5) = 0 ∨ w64 (Int.tdiv r5 5) = 1 := by
      rcases h5 with rfl | rfl
      · left; rfl
      · right; rfl
    refine Runs.range (by omega) (by omega) (Runs.room (by omega) (Runs.range (by omega) (by omega) (Runs.room (by omega) (Runs.ret ⟨⟨rfl, rfl, ?_, ?_, ?_⟩, ?_⟩))))
    · show 0 ≤ t11 + 1; omega
    · show t11 + 1 ≤ lLen (oCid o); omega
    · show (List.set h1 _ _).length = 2; rw [List.length_set]; exact g3
    · show (lLen (oCid o) - (t11 + 1)).toNat < (lLen (oCid o) - t11).toNat; omega
  · cases r with
    | inl r => exact Runs.t
    | inr r =>
      refine Runs.range (by omega) (by omega) (Runs.room (by decide) (Runs.cond (fun _ => Runs.range (by omega) (by omega) (Runs.room (by decide) (Runs.cond (fun _ => Runs.cond (fun _ => Runs.t) fun _ => Runs.t) fun _ => Runs.t))) fun _ => Runs.t))
theorem f50_l14_t {k : Nat} (hk : 200100 < k) {o : cO} (hf : (oFam o).length ≤ 8) : Runs (f50_l14 k (oFam o) (lLen (oFam o)) 0 o) (fun r => match r with | .inl r => True | .inr r => r.1 = o) := by
  have hL : lLen (oFam o) = ((oFam o).length : Int) := rfl
  refine Runs.iter (fun v => v.1 = oFam o ∧ v.2.1 = lLen (oFam o) ∧ 0 ≤ v.2.2.1 ∧ v.2.2.1 ≤ lLen (oFam o) ∧ v.2.2.2.1 = o) (fun v => (lLen (oFam o) - v.2.2.1).toNat) ?_ ⟨rfl, rfl, by show (0 : Int) ≤ 0; omega, by show 0 ≤ lLen (oFam o); omega, rfl⟩ (by show (lLen (oFam o) - 0).toNat < k; omega)
  rintro ⟨t51, t52, t53, h0, u⟩ hv
  simp only at hv
  obtain ⟨rfl, rfl, g1, g2, rfl⟩ := hv
  show Runs (f50_s14 k (oFam h0) (lLen (oFam h0)) t53 h0) _
  unfold f50_s14
  refine Runs.cond (fun h => ?_) fun _ => Runs.ret rfl
  have hd := of_decide_eq_true h
  have e1 : w64 (t53 + 1) = t53 + 1 := w64_in (by omega) (by omega)
  rw [e1]
  have hcut : (lCut (oFam h0) 0 t53).length ≤ (oFam h0).length := lCut_len _ _ _
  have fin : Runs (some (.inl (oFam h0, lLen (oFam h0), t53 + 1, h0, ()) : ((List Int) × Int × Int × cO × Unit) ⊕ ((Bool × Unit) ⊕ (cO × Unit)))) (OnOut (fun v => (v.1 = oFam h0 ∧ v.2.1 = lLen (oFam h0) ∧ 0 ≤ v.2.2.1 ∧ v.2.2.1 ≤ lLen (oFam h0) ∧ v.2.2.2.1 = h0) ∧ (lLen (oFam h0) - v.2.2.1).toNat < (lLen (oFam h0) - t53).toNat) (fun r => match r with | .inl r => True | .inr r => r.1 = h0)) := by
    refine Runs.ret ⟨⟨rfl, rfl, ?_, ?_, rfl⟩, ?_⟩
    · show 0 ≤ t53 + 1; omega
    · show t53 + 1 ≤ lLen (oFam h0); omega
    · show (lLen (oFam h0) - (t53 + 1)).toNat < (lLen (oFam h0) - t53).toNat; omega
  refine Runs.range g1 hd (Runs.cond (fun _ => Runs.cond (fun _ => Runs.ret trivial) fun _ => ?_) fun _ => ?_)
  · exact Runs.cut (by omega) (by omega) (by omega) (Runs.bind (f102_t (Nat.lt_of_le_of_lt hcut (by omega)) (Nat.le_trans hcut (by omega)) _) fun r _ => Runs.cond (fun _ => Runs.ret trivial) fun _ => fin)
  · exact Runs.cut (by omega) (by omega) (by omega) (Runs.bind (f102_t (Nat.lt_of_le_of_lt hcut (by omega)) (Nat.le_trans hcut (by omega)) _) fun r _ => Runs.cond (fun _ => Runs.ret trivial) fun _ => fin)
theorem f50_l26_t {k : Nat} (hk : 200100 < k) {o : cO} (hi : TextsP 8 (oIps o)) (hl : (oIps o).length ≤ (oFam o).length) : Runs (f50_l26 k (oIps o) (lLen (oIps o)) 0 o) T := by
  have hL : lLen (oIps o) = ((oIps o).length : Int) := rfl
  have hF : lLen (oFam o) = ((oFam o).length : Int) := rfl
  have h8 := hi.1
  refine Runs.iter (fun v => v.1 = oIps o ∧ v.2.1 = lLen (oIps o) ∧ 0 ≤ v.2.2.1 ∧ v.2.2.1 ≤ lLen (oIps o) ∧ v.2.2.2.1 = o) (fun v => (lLen (oIps o) - v.2.2.1).toNat) ?_ ⟨rfl, rfl, by show (0 : Int) ≤ 0; omega, by show 0 ≤ lLen (oIps o); omega, rfl⟩ (by show (lLen (oIps o) - 0).toNat < k; omega)
  rintro ⟨t74, t75, t76, h0, u⟩ hv
  simp only at hv
  obtain ⟨rfl, rfl, g1, g2, rfl⟩ := hv
  show Runs (f50_s26 k (oIps h0) (lLen (oIps h0)) t76 h0) _
  unfold f50_s26
  refine Runs.cond (fun h => ?_) fun _ => Runs.ret trivial
  have hd := of_decide_eq_true h
  have e1 : w64 (t76 + 1) = t76 + 1 := w64_in (by omega) (by omega)
  rw [e1]
  have hsz := hi.2 _ (lAt_mem (l := oIps h0) g1 hd)
  refine Runs.range g1 hd (Runs.bind (f103_t hk (by omega)) fun r11 h11 => Runs.cond (fun _ => Runs.ret trivial) fun _ => Runs.bind (f101_t k _) fun r12 h12 => Runs.range g1 (show t76 < lLen (oFam h0) by omega) (Runs.cond (fun _ => Runs.ret trivial) fun _ => Runs.ret ⟨⟨rfl, rfl, ?_, ?_, rfl⟩, ?_⟩))
  · show 0 ≤ t76 + 1; omega
  · show t76 + 1 ≤ lLen (oIps h0); omega
  · show (lLen (oIps h0) - (t76 + 1)).toNat < (lLen (oIps h0) - t76).toNat; omega
theorem f50_t {k : Nat} (hk : 200100 < k) {o : cO} (s : ShapeP k o) : Runs (f50 k o) T := by
  have hL : lLen (oIps o) = ((oIps o).length : Int) := rfl
  have hF : lLen (oFam o) = ((oFam o).length : Int) := rfl
  have two : (oIps o).length ≤ (oFam o).length → Runs ((f50_l14 k (oFam o) (lLen (oFam o)) 0 o).bind fun o7 => (match o7 with | .inl o7' => (some (o7'.1)) | .inr o7' => ((f50_l26 k (oIps o7'.1) (lLen (oIps o7'.1)) 0 (o7'.1)).bind fun o13 => (match o13 with | .inl o13' => (some (o13'.1)) | .inr o13' => (some true))))) T := by
    intro hl
    refine Runs.bind (f50_l14_t hk s.fam) fun r hr => ?_
    cases r with
    | inl r => exact Runs.t
    | inr r =>
      obtain rfl : r.1 = o := hr
      exact Runs.sum (f50_l26_t hk s.ips hl) fun x => by cases x <;> exact Runs.t
  unfold f50
  have tail : Runs (bif (decide ((lLen (oIps o)) > 0)) then (bif (oTyp o != 0) then (some false) else (bif ((lLen (oIps o)) != (lLen (oFam o))) then (some false) else ((f50_l14 k (oFam o) (lLen (oFam o)) 0 o).bind fun o7 => (match o7 with | .inl o7' => (some (o7'.1)) | .inr o7' => ((f50_l26 k (oIps o7'.1) (lLen (oIps o7'.1)) 0 (o7'.1)).bind fun o13 => (match o13 with | .inl o13' => (some (o13'.1)) | .inr o13' => (some true))))))) else ((f50_l14 k (oFam o) (lLen (oFam o)) 0 o).bind fun o7 => (match o7 with | .inl o7' => (some (o7'.1)) | .inr o7' => ((f50_l26 k (oIps o7'.1) (lLen (oIps o7'.1)) 0 (o7'.1)).bind fun o13 => (match o13 with | .inl o13' => (some (o13'.1)) | .inr o13' => (some true)))))) T := by
    refine Runs.cond (fun _ => Runs.cond (fun _ => Runs.t) fun _ => Runs.cond (fun _ => Runs.t) fun h => two ?_) fun h => two ?_
    · have : lLen (oIps o) = lLen (oFam o) := by simpa using h
      omega
    · have := of_decide_eq_false h
      omega
  refine Runs.cond (fun _ => ?_) fun _ => ?_
  · exact Runs.bind (f40_t k _ _) fun r1 _ => Runs.cond (fun _ => Runs.t) fun _ => Runs.bind (f40_t k _ _) fun r2 _ => Runs.cond (fun _ => Runs.t) fun _ => Runs.cond (fun _ => Runs.t) fun _ => tail
  · exact Runs.bind (f40_t k _ _) fun r1 _ => Runs.cond (fun _ => Runs.t) fun _ => Runs.bind (f40_t k _ _) fun r2 _ => Runs.cond (fun _ => Runs.t) fun _ => Runs.cond (fun _ => Runs.t) fun _ => tail
theorem f105_t {k : Nat} (hk : 200100 < k) {s : ByteArray} (hs : s.size ≤ 100000) (v6 : Bool) {bits : Int} (hb : -1000 ≤ bits) (hb' : bits ≤ 1000) : Runs (f105 k s v6 bits) T := by
  unfold f105
  refine Runs.bind (f100_t hk hs) fun r1 h1 => Runs.cond (fun _ => Runs.t) fun _ => Runs.cond (fun _ => Runs.t) fun _ => ?_
  have h200 : Runs (f200 k r1.1 bits) (fun r => r = true → r1.1.2.1 ≤ bits ∧ 0 ≤ r1.1.2.1) := by
    unfold f200
    refine Runs.bind (Runs.of (f184_ok k h1)) fun r h => Runs.cond (fun hr => ?_) fun _ => Runs.ret (by simp)
    have := h hr
    refine Runs.cond (fun hd => ?_) fun _ => Runs.ret (by simp)
    have := of_decide_eq_true hd
    exact Runs.bind (P := T) (by obtain ⟨r, e, _⟩ := f242_ok k r1.1.1; exact ⟨r, e, trivial⟩) fun r2 _ => Runs.ret fun _ => ⟨by omega, by omega⟩
  have h146 : Runs (f146 k r1.1 bits) T := by
    unfold f146
    refine Runs.bind h200 fun r hr => Runs.cond (fun _ => Runs.t) fun h => ?_
    have := hr (eq_true_of (by simpa using h))
    have hw : w64 (bits - r1.1.2.1) = bits - r1.1.2.1 := w64_in (by omega) (by omega)
    rw [hw]
    refine Runs.bind (P := T) ?_ fun r _ => Runs.t
    unfold f201
    refine Runs.cond (fun _ => Runs.t) fun h => ?_
    have hd := of_decide_eq_false h
    exact Runs.bind (P := T) Runs.t fun r _ => Runs.bind (Runs.of (f251_ok k (by omega) (by omega))) fun r _ => Runs.t
  refine Runs.bind h146 fun r2 _ => ?_
  refine Runs.bind (P := T) ?_ fun r3 _ => Runs.cond (fun _ => Runs.cond (fun _ => Runs.cond (fun _ => Runs.t) fun _ => Runs.t) fun _ => Runs.t) fun _ => Runs.t
  unfold f147
  exact Runs.cond (fun _ => Runs.t) fun _ => Runs.t
theorem f51_t {k : Nat} (hk : 200100 < k) {o : cO} (s : ShapeP k o) : Runs (f51 k o) T := by
  unfold f51
  have sz : ∀ x ∈ [oName o, oSta o, oV4 o, oV6 o, oSel o, oAbo o, oRea o], x.size ≤ 200 := s.one.2
  have h4 := sz (oV4 o) (by simp)
  have h6 := sz (oV6 o) (by simp)
  have hs := sz (oSel o) (by simp)
  refine Runs.bind (f104_t (by omega) (show (oSel o).size ≤ 100000 by omega)) fun r1 _ => Runs.cond (fun _ => ?_) fun _ => Runs.t
  refine Runs.cond (fun hb1 => Runs.cond (fun hb2 => ?_) fun _ => Runs.t) fun _ => Runs.t
  have hb1 : oBit o ≥ 1 := of_decide_eq_true hb1
  have hb2 : oBit o ≤ 16 := of_decide_eq_true hb2
  have w1 : w64 (32 - oBit o) = 32 - oBit o := w64_in (by omega) (by omega)
  have w2 : w64 (128 - oBit o) = 128 - oBit o := w64_in (by omega) (by omega)
  have c4 : Runs (f105 k (oV4 o) false (w64 (32 - oBit o))) T := f105_t hk (by omega) _ (by rw [w1]; omega) (by rw [w1]; omega)
  have c6 : Runs (f105 k (oV6 o) true (w64 (128 - oBit o))) T := f105_t hk (by omega) _ (by rw [w2]; omega) (by rw [w2]; omega)
  have z : Runs (bif (sEq (oV6 o) sNil) then (some true) else ((f105 k (oV6 o) true (w64 (128 - oBit o))).bind fun r2 => (some r2))) T := Runs.cond (fun _ => Runs.t) fun _ => Runs.bind c6 fun r _ => Runs.t
  have y : Runs (bif (sEq (oV4 o) sNil) then (bif (sEq (oV6 o) sNil) then (some true) else ((f105 k (oV6 o) true (w64 (128 - oBit o))).bind fun r2 => (some r2))) else ((f105 k (oV4 o) false (w64 (32 - oBit o))).bind fun r3 => (bif r3 then (bif (sEq (oV6 o) sNil) then (some true) else ((f105 k (oV6 o) true (w64 (128 - oBit o))).bind fun r4 => (some r4))) else (some false)))) T := Runs.cond (fun _ => z) fun _ => Runs.bind c4 fun r _ => Runs.cond (fun _ => z) fun _ => Runs.t
  exact Runs.cond (fun _ => y) fun _ => Runs.cond (fun _ => y) fun _ => Runs.t
end Go.Proofs.YtpffibjemegioaaGreatDoor.Keeps
set_option linter.unusedSimpArgs false
namespace Go.Proofs.YtpffibjemegioaaGreatDoor.Keeps
open Go Go.PB
/-! ## Words under a map -/
theorem map_cond {A B : Type} (b : Bool) (x y : Option A) (f : A → B) : (bif b then x else y).map f = bif b then x.map f else y.map f := by cases b <;> rfl
theorem map_range {A B : Type} (i n : Int) (x : Option A) (f : A → B) : (rangeK i n x).map f = rangeK i n (x.map f) := by unfold rangeK; split <;> rfl
theorem map_cut {A B : Type} (l h n : Int) (x : Option A) (f : A → B) : (cutK l h n x).map f = cutK l h n (x.map f) := by unfold cutK; split <;> rfl
theorem map_room {A B : Type} (n m : Nat) (x : Option A) (f : A → B) : (roomK n m x).map f = roomK n m (x.map f) := by unfold roomK; split <;> rfl
theorem map_bind {A B C : Type} (x : Option A) (g : A → Option B) (f : B → C) : (x.bind g).map f = x.bind fun a => (g a).map f := by cases x <;> rfl
theorem map_bind' {A B C : Type} (x : Option A) (g : B → Option C) (f : A → B) : (x.map f).bind g = x.bind fun a => g (f a) := by cases x <;> rfl
theorem iter_sim {A B A' B' : Type} {step : A → Option (A ⊕ B)} {step' : A' → Option (A' ⊕ B')} (φ : A → A') (ψ : B → B') (h : ∀ a, step' (φ a) = (step a).map (Sum.map φ ψ)) : ∀ (k : Nat) (a : A), iter step' k (φ a) = (iter step k a).map ψ
  | 0, _ => rfl
  | k + 1, a => by
    rw [iter_succ, iter_succ, h a]
    cases step a with
    | none => rfl
    | some s =>
      cases s with
      | inl a' => exact iter_sim φ ψ h k a'
      | inr b => rfl
@[reducible] def upd (o : cO) (u v : Int) (d : Bool) : cO := (o.1, o.2.1, u, v, d, o.2.2.2.2.2)
theorem f49_upd (k : Nat) (o : cO) (u v : Int) (d : Bool) : f49 k (upd o u v d) = f49 k o := by
  have h : ∀ (l : List ByteArray) (n : Int) (h1 : List Int), f49_l6 k l n 0 (upd o u v d) h1 = (f49_l6 k l n 0 o h1).map (Sum.map id (fun b => (upd b.1 u v d, b.2))) := by
    intro l n h1
    refine iter_sim (step := f49_s6_u k) (step' := f49_s6_u k) (fun a => (a.1, a.2.1, a.2.2.1, upd a.2.2.2.1 u v d, a.2.2.2.2)) _ ?_ k (l, n, 0, o, h1, ())
    rintro ⟨t9, t10, t11, h0, h1, x⟩
    show f49_s6 k t9 t10 t11 (upd h0 u v d) h1 = (f49_s6 k t9 t10 t11 h0 h1).map _
    unfold f49_s6
    simp only [map_cond, map_range, map_room, map_bind, Option.map_some, Sum.map_inl, Sum.map_inr, id]
  unfold f49
  show (f49_l6 k (oCid o) (lLen (oCid o)) 0 (upd o u v d) (List.replicate 2 0)).bind _ = _
  rw [h, map_bind']
  congr 1
  funext x
  cases x <;> rfl
theorem f50_upd (k : Nat) (o : cO) (u v : Int) (d : Bool) : f50 k (upd o u v d) = f50 k o := by
  have h14 : ∀ (l : List Int) (n : Int) (o : cO), f50_l14 k l n 0 (upd o u v d) = (f50_l14 k l n 0 o).map (Sum.map id (fun b => (upd b.1 u v d, b.2))) := by
    intro l n o
    refine iter_sim (step := f50_s14_u k) (step' := f50_s14_u k) (fun a => (a.1, a.2.1, a.2.2.1, upd a.2.2.2.1 u v d, a.2.2.2.2)) _ ?_ k (l, n, 0, o, ())
    rintro ⟨t9, t10, t11, h0, x⟩
    show f50_s14 k t9 t10 t11 (upd h0 u v d) = (f50_s14 k t9 t10 t11 h0).map _
    unfold f50_s14
    simp only [map_cond, map_range, map_room, map_cut, map_bind, Option.map_some, Sum.map_inl, Sum.map_inr, id]
  have h26 : ∀ (l : List ByteArray) (n : Int) (o : cO), f50_l26 k l n 0 (upd o u v d) = (f50_l26 k l n 0 o).map (Sum.map id id) := by
    intro l n o
    refine iter_sim (step := f50_s26_u k) (step' := f50_s26_u k) (fun a => (a.1, a.2.1, a.2.2.1, upd a.2.2.2.1 u v d, a.2.2.2.2)) _ ?_ k (l, n, 0, o, ())
    rintro ⟨t9, t10, t11, h0, x⟩
    show f50_s26 k t9 t10 t11 (upd h0 u v d) = (f50_s26 k t9 t10 t11 h0).map _
    unfold f50_s26
    simp only [map_cond, map_range, map_room, map_cut, map_bind, Option.map_some, Sum.map_inl, Sum.map_inr, id]
  have tail : ((f50_l14 k (oFam o) (lLen (oFam o)) 0 (upd o u v d)).bind fun o7 => (match o7 with | .inl o7' => (some (o7'.1)) | .inr o7' => ((f50_l26 k (oIps o7'.1) (lLen (oIps o7'.1)) 0 (o7'.1)).bind fun o13 => (match o13 with | .inl o13' => (some (o13'.1)) | .inr o13' => (some true)))))
      = ((f50_l14 k (oFam o) (lLen (oFam o)) 0 o).bind fun o7 => (match o7 with | .inl o7' => (some (o7'.1)) | .inr o7' => ((f50_l26 k (oIps o7'.1) (lLen (oIps o7'.1)) 0 (o7'.1)).bind fun o13 => (match o13 with | .inl o13' => (some (o13'.1)) | .inr o13' => (some true))))) := by
    rw [h14, map_bind']
    congr 1
    funext x
    cases x with
    | inl x => rfl
    | inr x =>
      show (f50_l26 k (oIps x.1) (lLen (oIps x.1)) 0 (upd x.1 u v d)).bind _ = _
      rw [h26, map_bind']
      congr 1
      funext y
      cases y <;> rfl
  unfold f50
  show (bif (oPol o == 0) then _ else _) = (bif (oPol o == 0) then _ else _)
  congr 1
  · congr 1
    funext r1
    congr 1
    congr 1
    funext r2
    congr 1
    congr 1
    congr 1
    · congr 1
      congr 1
  · congr 1
    funext r1
    congr 1
    congr 1
    funext r2
    congr 1
    congr 1
    congr 1
    · congr 1
      congr 1
theorem f51_upd (k : Nat) (o : cO) (u v : Int) (d : Bool) : f51 k (upd o u v d) = f51 k o := rfl
theorem f39_upd (k : Nat) (o : cO) (u v : Int) (d : Bool) : f39 k (upd o u v d) = f39 k o := rfl
theorem shape_upd {k : Nat} {o : cO} (s : ShapeP k o) {u v : Int} (hu : InP u maxN) (hv : InP v maxN) (d : Bool) : ShapeP k (upd o u v d) :=
  ⟨s.lo, s.hi, s.bare, s.nums, hu, hv, s.one, s.fin, s.cid, s.ips, s.fam, s.lab⟩
/-! ## Right -/
def kindF (k : Nat) (o : cO) : Option Bool := bif (o.1 == 1) then ((f49 k o).bind fun r5 => (some r5)) else (bif (o.1 == 2) then ((f50 k o).bind fun r6 => (some r6)) else (bif (o.1 == 3) then ((f51 k o).bind fun r7 => (some r7)) else (bif (!(sEq (oAbo o) sNil)) then (some (!(sEq (oRea o) sNil))) else (some false))))
theorem kindF_upd (k : Nat) (o : cO) (u v : Int) (d : Bool) : kindF k (upd o u v d) = kindF k o := by
  unfold kindF
  rw [f49_upd, f50_upd, f51_upd]
structure RightP (k : Nat) (o : cO) : Prop where
  shape : ShapeP k o
  name : f46 k (oName o) = some true
  labs : f47 k (oLab o) = some true
  fins : f48 k (oFin o) = some true
  kind : kindF k o = some true
theorem right_upd {k : Nat} {o : cO} (s : RightP k o) {u v : Int} (hu : InP u maxN) (hv : InP v maxN) (d : Bool) : RightP k (upd o u v d) :=
  ⟨shape_upd s.shape hu hv d, s.name, s.labs, s.fins, by rw [kindF_upd]; exact s.kind⟩
theorem Runs.eq {A : Type} {o : Option A} (h : Runs o T) : Runs o (fun r => o = some r) := by
  obtain ⟨r, e, _⟩ := h; exact ⟨r, e, e⟩
theorem f13_t {k : Nat} (hk : 200100 < k) {o : cO} (hf : (oFam o).length ≤ 1000) : Runs (f13 k o) (fun r => r = true ↔ RightP k o) := by
  have no : ¬ RightP k o → Runs (some false) (fun r => r = true ↔ RightP k o) := fun h => Runs.ret ⟨fun h => by simp at h, fun h' => absurd h' h⟩
  unfold f13
  refine Runs.bind (f11_t (by omega) hf) fun r1 h1 => Runs.cond (fun h => no fun s => ?_) fun h => ?_
  · rw [h1.2 s.shape] at h; simp at h
  have hs := h1.1 (eq_true_of (by simpa using h))
  refine Runs.bind (Runs.eq (f46_t (by omega) _)) fun r2 h2 => Runs.cond (fun h => no fun s => ?_) fun h => ?_
  · have := h2.symm.trans s.name
    have : r2 = true := Option.some.inj this
    rw [this] at h; simp at h
  have hn : f46 k (oName o) = some true := by rw [show f46 k (oName o) = some r2 from h2, eq_true_of (b := r2) (by simpa using h)]
  refine Runs.bind (Runs.eq (f47_t (by omega) (show (oLab o).length < k by have := hs.lab.1; omega) (show (oLab o).length ≤ 1000000 by have := hs.lab.1; omega))) fun r3 h3 => Runs.cond (fun h => no fun s => ?_) fun h => ?_
  · have := h3.symm.trans s.labs
    have : r3 = true := Option.some.inj this
    rw [this] at h; simp at h
  have hl : f47 k (oLab o) = some true := by rw [show f47 k (oLab o) = some r3 from h3, eq_true_of (b := r3) (by simpa using h)]
  refine Runs.bind (Runs.eq (f48_t (by omega) (show (oFin o).length < k by have := hs.fin.1; omega) (show (oFin o).length ≤ 1000000 by have := hs.fin.1; omega))) fun r4 h4 => Runs.cond (fun h => no fun s => ?_) fun h => ?_
  · have := h4.symm.trans s.fins
    have : r4 = true := Option.some.inj this
    rw [this] at h; simp at h
  have hf : f48 k (oFin o) = some true := by rw [show f48 k (oFin o) = some r4 from h4, eq_true_of (b := r4) (by simpa using h)]
  have hkind : Runs (kindF k o) T := by
    unfold kindF
    exact Runs.cond (fun _ => Runs.bind (f49_t hk hs) fun r _ => Runs.t) fun _ => Runs.cond (fun _ => Runs.bind (f50_t hk hs) fun r _ => Runs.t) fun _ => Runs.cond (fun _ => Runs.bind (f51_t hk hs) fun r _ => Runs.t) fun _ => Runs.cond (fun _ => Runs.t) fun _ => Runs.t
  show Runs (kindF k o) _
  refine Runs.mono (Runs.eq hkind) fun r hr => ⟨fun h => ⟨hs, hn, hl, hf, by rw [hr, h]⟩, fun s => ?_⟩
  exact Option.some.inj (hr.symm.trans s.kind)
end Go.Proofs.YtpffibjemegioaaGreatDoor.Keeps
set_option linter.unusedSimpArgs false
namespace Go.Proofs.YtpffibjemegioaaGreatDoor.Keeps
open Go Go.PB
abbrev Key := Int × ByteArray × Unit
/-! ## Maps -/
theorem eqK_refl (y : Key) : Ty.eqD tK y y = true := by
  obtain ⟨a, b, u⟩ := y
  simp [tK, Ty.eqD]
theorem mget_mem {y : Key} {z : cO} : ∀ {l : List (Key × cO)}, mget tK tO l y = some z → (y, z) ∈ l
  | [], h => by cases h
  | x :: l, h => by
    unfold mget at h
    cases e : Ty.eqD tK y x.1 with
    | true =>
      rw [e] at h
      have hz : x.2 = z := Option.some.inj h
      have hy : y = x.1 := eqD_eq (t := tK) e
      rw [hy, ← hz]
      exact List.mem_cons_self
    | false =>
      rw [e] at h
      exact List.mem_cons_of_mem _ (mget_mem h)
theorem mget_put (y : Key) (z : cO) : ∀ l : List (Key × cO), mget tK tO (mput tK tO l y z) y = some z
  | [] => by
    show cond (Ty.eqD tK y y) (some z) _ = _
    rw [eqK_refl]; rfl
  | x :: l => by
    unfold mput
    cases e : Ty.eqD tK y x.1 with
    | true =>
      show cond (Ty.eqD tK y y) (some z) _ = _
      rw [eqK_refl]; rfl
    | false =>
      show cond (Ty.eqD tK y x.1) _ (mget tK tO (mput tK tO l y z) y) = _
      rw [e]; exact mget_put y z l
theorem mput_mem {y : Key} {z : cO} {p : Key × cO} : ∀ {l : List (Key × cO)}, p ∈ mput tK tO l y z → p ∈ l ∨ p = (y, z)
  | [], h => .inr (List.mem_singleton.1 h)
  | x :: l, h => by
    unfold mput at h
    cases e : Ty.eqD tK y x.1 with
    | true =>
      rw [e] at h
      rcases List.mem_cons.1 h with h | h
      · exact .inr h
      · exact .inl (List.mem_cons_of_mem _ h)
    | false =>
      rw [e] at h
      rcases List.mem_cons.1 h with h | h
      · exact .inl (by rw [h]; exact List.mem_cons_self)
      · rcases mput_mem h with h | h
        · exact .inl (List.mem_cons_of_mem _ h)
        · exact .inr h
theorem mdel_mem {y : Key} {p : Key × cO} : ∀ {l : List (Key × cO)}, p ∈ mdel tK tO l y → p ∈ l
  | [], h => h
  | x :: l, h => by
    unfold mdel at h
    cases e : Ty.eqD tK y x.1 with
    | true => rw [e] at h; exact List.mem_cons_of_mem _ h
    | false =>
      rw [e] at h
      rcases List.mem_cons.1 h with h | h
      · rw [h]; exact List.mem_cons_self
      · exact List.mem_cons_of_mem _ (mdel_mem h)
abbrev Uniq (l : List (Key × cO)) : Prop := l.Pairwise (fun a b => a.1 ≠ b.1)
theorem mput_uniq {y : Key} {z : cO} : ∀ {l : List (Key × cO)}, Uniq l → Uniq (mput tK tO l y z)
  | [], _ => List.pairwise_singleton _ _
  | x :: l, h => by
    unfold mput
    rw [Uniq, List.pairwise_cons] at h
    cases e : Ty.eqD tK y x.1 with
    | true =>
      have hy : y = x.1 := eqD_eq (t := tK) e
      exact List.pairwise_cons.2 ⟨fun p hp => by rw [hy]; exact h.1 p hp, h.2⟩
    | false =>
      refine List.pairwise_cons.2 ⟨fun p hp => ?_, mput_uniq h.2⟩
      rcases mput_mem hp with hp | hp
      · exact h.1 p hp
      · intro he
        rw [hp] at he
        have he : x.1 = y := he
        rw [he, eqK_refl] at e
        cases e
theorem mdel_uniq {y : Key} : ∀ {l : List (Key × cO)}, Uniq l → Uniq (mdel tK tO l y)
  | [], h => h
  | x :: l, h => by
    unfold mdel
    rw [Uniq, List.pairwise_cons] at h
    cases Ty.eqD tK y x.1 with
    | true => exact h.2
    | false => exact List.pairwise_cons.2 ⟨fun p hp => h.1 p (mdel_mem hp), mdel_uniq h.2⟩
theorem mget_none {y : Key} : ∀ {l : List (Key × cO)}, (∀ p ∈ l, p.1 ≠ y) → mget tK tO l y = none
  | [], _ => rfl
  | x :: l, h => by
    unfold mget
    cases e : Ty.eqD tK y x.1 with
    | true => exact absurd (eqD_eq (t := tK) e).symm (h x List.mem_cons_self)
    | false => exact mget_none fun p hp => h p (List.mem_cons_of_mem _ hp)
theorem mget_del {y : Key} : ∀ {l : List (Key × cO)}, Uniq l → mget tK tO (mdel tK tO l y) y = none
  | [], _ => rfl
  | x :: l, h => by
    unfold mdel
    rw [Uniq, List.pairwise_cons] at h
    cases e : Ty.eqD tK y x.1 with
    | true =>
      have hy : y = x.1 := eqD_eq (t := tK) e
      exact mget_none fun p hp he => h.1 p hp (by rw [he, hy])
    | false =>
      show cond (Ty.eqD tK y x.1) _ (mget tK tO (mdel tK tO l y) y) = _
      rw [e]; exact mget_del h.2
/-! ## What the store holds -/
structure Inv (k : Nat) (n : Int) (s : cS) : Prop where
  ver0 : 0 ≤ s.1
  vern : s.1 ≤ n
  uid0 : 0 ≤ s.2.1
  uidn : s.2.1 ≤ n
  obj : ∀ p ∈ s.2.2.1, RightP k p.2 ∧ p.1 = (p.2.1, oName p.2, ())
  uniq : Uniq s.2.2.1
  hist : s.2.2.2.1.length ≤ 64
theorem Inv.more {k : Nat} {n : Int} {s : cS} (h : Inv k n s) : Inv k (n + 1) s :=
  ⟨h.ver0, by have := h.vern; omega, h.uid0, by have := h.uidn; omega, h.obj, h.uniq, h.hist⟩
theorem Inv.get {k : Nat} {n : Int} {s : cS} (h : Inv k n s) {y : Key} {o : cO} (e : mget tK tO s.2.2.1 y = some o) : RightP k o ∧ y = (o.1, oName o, ()) := h.obj _ (mget_mem e)
structure Stay (was now : cO) : Prop where
  uid : oUid now = oUid was
  v4 : oV4 now = oV4 was
  v6 : oV6 now = oV6 was
  bit : oBit now = oBit was
  sel : oSel now = oSel was
  del : oDel was = true → oDel now = true
  cid : (oCid now).take (oCid was).length = oCid was
  fin : oDel was = true → ∀ f ∈ oFin now, f ∈ oFin was
theorem Stay.rfl' (o : cO) : Stay o o := ⟨rfl, rfl, rfl, rfl, rfl, id, List.take_length, fun _ _ h => h⟩
theorem cloneK {α : Type} {l : List α} (h : l.length ≤ 1000000) : cloneRun l = some l := by unfold cloneRun; rw [if_pos h]
theorem f17_t (k : Nat) {o : cO} (s : ShapeP k o) : f17 k o = some o := by
  unfold f17 f64 f65 f66
  have h1 : cloneRun (oFin o) = some (oFin o) := cloneK (by have := s.fin.1; omega)
  have h2 : cloneRun (oLab o) = some (oLab o) := cloneK (by have := s.lab.1; omega)
  have h3 : cloneRun (oCid o) = some (oCid o) := cloneK (by have := s.cid.1; omega)
  have h4 : cloneRun (oFam o) = some (oFam o) := cloneK (by have := s.fam; omega)
  have h5 : cloneRun (oIps o) = some (oIps o) := cloneK (by have := s.ips.1; omega)
  show (cloneRun (oFin o)).bind _ = _
  rw [h1, Option.bind_some, h2, Option.bind_some, h3, Option.bind_some, h4, Option.bind_some, h5, Option.bind_some]
theorem upd_right {k : Nat} {n : Int} {s : cS} (h : Inv k n s) (hn : n ≤ 100) {o : cO} (r : RightP k o) (d : Bool) : RightP k (upd o (oUid o) (w64 (s.1 + 1)) d) := by
  have e : w64 (s.1 + 1) = s.1 + 1 := w64_in (by have := h.ver0; omega) (by have := h.vern; omega)
  rw [e]
  exact right_upd r r.shape.uid ⟨by have := h.ver0; omega, by have := h.vern; unfold maxN; omega⟩ d
theorem f113_t {k : Nat} {n : Int} {s : cS} (h : Inv k n s) (hn : n ≤ 100) (t : Int) {o : cO} (r : ShapeP k o) : f113 k s t o = some ((t, upd o (oUid o) (w64 (s.1 + 1)) (oDel o), ()), 0, s) := by
  unfold f113
  rw [decide_eq_false (by have := h.vern; omega), cond_false, f17_t k r]
  rfl
structure PlanP (k : Nat) (s : cS) (y : Key) (c : cH) : Prop where
  right : RightP k c.2.1
  key : (c.2.1.1, oName c.2.1, ()) = y
  stay : c.1 = 2 → ∀ was, mget tK tO s.2.2.1 y = some was → Stay was c.2.1
def PlanQ (k : Nat) (s : cS) (y : Key) (r : cH × Int × cS) : Prop := r.2.2 = s ∧ (r.2.1 = 0 → PlanP k s y r.1)
theorem planQ_bad {k : Nat} {s : cS} {y : Key} (c : cH) {e : Int} (he : e ≠ 0) : Runs (some (c, e, s)) (PlanQ k s y) := Runs.ret ⟨rfl, fun h => absurd h he⟩
theorem f67_t {k : Nat} (hk : 200100 < k) {n : Int} {s : cS} (h : Inv k n s) (hn : n ≤ 100) {o : cO} (hf : (oFam o).length ≤ 1000) : Runs (f67 k s o) (PlanQ k s (o.1, oName o, ())) := by
  unfold f67 f79
  simp only [Option.bind_some]
  refine Runs.bind (f13_t hk hf) fun r3 h3 => Runs.cond (fun _ => planQ_bad _ (by decide)) fun hr => Runs.cond (fun _ => planQ_bad _ (by decide)) fun hs => Runs.cond (fun _ => planQ_bad _ (by decide)) fun _ => ?_
  have hR := h3.1 (eq_true_of (by simpa using hr))
  have e : w64 (s.2.1 + 1) = s.2.1 + 1 := w64_in (by have := h.uid0; omega) (by have := h.uidn; omega)
  have hR2 : RightP k (upd o (w64 (s.2.1 + 1)) (oVer o) false) := by
    rw [e]
    exact right_upd hR ⟨by have := h.uid0; omega, by have := h.uidn; unfold maxN; omega⟩ hR.shape.ver false
  have e113 := f113_t h hn 1 hR2.shape
  refine Runs.bind (P := fun r => r = ((1, upd (upd o (w64 (s.2.1 + 1)) (oVer o) false) (w64 (s.2.1 + 1)) (w64 (s.1 + 1)) false, ()), 0, s)) ⟨_, e113, rfl⟩ fun r4 h4 => ?_
  subst h4
  refine Runs.ret ⟨rfl, fun _ => ⟨upd_right h hn hR2 false, rfl, fun h => ?_⟩⟩
  exact absurd (show (1 : Int) = 2 from h) (by decide)
theorem nothing_t (k : Nat) {o : cO} (s : ShapeP k o) : f117 k o = some ((0, o, ()), 0) := by
  unfold f117
  rw [f17_t k s]
  rfl
theorem f210_t {k : Nat} {l : List ByteArray} (hl : l.length < k) (hm : l.length ≤ 1000000) (x : ByteArray) : Runs (f210 k l x) (fun r => 0 ≤ r → x ∈ l) := by
  unfold f210
  refine Runs.bind (P := fun o => match o with | .inl o => x ∈ l | .inr o => True) ?_ fun o ho => ?_
  · refine Runs.iter (fun v => v.1 = l ∧ v.2.1 = x ∧ v.2.2.1 = lLen l ∧ 0 ≤ v.2.2.2.1 ∧ v.2.2.2.1 ≤ lLen l) (fun v => (lLen l - v.2.2.2.1).toNat) ?_ ⟨rfl, rfl, rfl, by show (0 : Int) ≤ 0; omega, by show 0 ≤ lLen l; unfold lLen; omega⟩ (by show (lLen l - 0).toNat < k; unfold lLen; omega)
    rintro ⟨t0, t1, t7, t8, u⟩ hv
    simp only at hv
    obtain ⟨rfl, rfl, rfl, g1, g2⟩ := hv
    show Runs (f210_s4 k t0 t1 (lLen t0) t8) _
    unfold f210_s4
    have hL : lLen t0 = (t0.length : Int) := rfl
    refine Runs.cond (fun h => ?_) fun _ => Runs.ret trivial
    have hd := of_decide_eq_true h
    have e1 : w64 (t8 + 1) = t8 + 1 := w64_in (by omega) (by omega)
    rw [e1]
    refine Runs.range g1 hd (Runs.cond (fun he => Runs.ret ?_) fun _ => Runs.ret ⟨⟨rfl, rfl, rfl, ?_, ?_⟩, ?_⟩)
    · show t1 ∈ t0
      rw [sEq_iff.1 he]
      exact lAt_mem g1 hd
    · show 0 ≤ t8 + 1; omega
    · show t8 + 1 ≤ lLen t0; omega
    · show (lLen t0 - (t8 + 1)).toNat < (lLen t0 - t8).toNat; omega
  · cases o with
    | inl o => exact Runs.ret fun _ => ho
    | inr o => exact Runs.ret fun h => absurd h (by decide)
theorem f156_t {k : Nat} {l : List ByteArray} (hl : l.length < k) (hm : l.length ≤ 1000000) (x : ByteArray) : Runs (f156 k l x) (fun r => r = true → x ∈ l) := by
  unfold f156
  exact Runs.bind (f210_t hl hm x) fun r hr => Runs.ret fun h => hr (of_decide_eq_true h)
theorem f59_eq {k : Nat} {a b : List ByteArray} (hl : a.length < k) (hm : a.length ≤ 1000000) : Runs (f59 k a b) (fun r => r = true → a = b) := by
  unfold f59
  refine Runs.cond (fun _ => Runs.ret (by simp)) fun hc => ?_
  have hc : lLen a = lLen b := by simpa using hc
  have hL : lLen a = (a.length : Int) := rfl
  have hLb : lLen b = (b.length : Int) := rfl
  refine Runs.bind (P := fun o => match o with | .inl o => o.1 = false | .inr o => a = b) ?_ fun o ho => ?_
  · refine Runs.iter (fun v => v.1 = a ∧ v.2.1 = b ∧ v.2.2.1 = lLen a ∧ 0 ≤ v.2.2.2.1 ∧ v.2.2.2.1 ≤ lLen a ∧ ∀ j : Nat, (j : Int) < v.2.2.2.1 → a.getD j sNil = b.getD j sNil) (fun v => (lLen a - v.2.2.2.1).toNat) ?_ ⟨rfl, rfl, rfl, by show (0 : Int) ≤ 0; omega, by show 0 ≤ lLen a; omega, fun j hj => by have : (j : Int) < 0 := hj; omega⟩ (by show (lLen a - 0).toNat < k; omega)
    rintro ⟨t0, t1, t12, t13, u⟩ hv
    simp only at hv
    obtain ⟨rfl, rfl, rfl, g1, g2, g3⟩ := hv
    show Runs (f59_s8 k t0 t1 (lLen t0) t13) _
    unfold f59_s8
    refine Runs.cond (fun h => ?_) fun h => Runs.ret ?_
    · have hd := of_decide_eq_true h
      have e1 : w64 (t13 + 1) = t13 + 1 := w64_in (by omega) (by omega)
      rw [e1]
      refine Runs.range g1 hd (Runs.range g1 (by omega) (Runs.cond (fun _ => Runs.ret rfl) fun he => Runs.ret ⟨⟨rfl, rfl, rfl, ?_, ?_, fun j hj => ?_⟩, ?_⟩))
      · show 0 ≤ t13 + 1; omega
      · show t13 + 1 ≤ lLen t0; omega
      · have hj' : (j : Int) < t13 + 1 := hj
        by_cases e : (j : Int) = t13
        · have : j = t13.toNat := by omega
          subst this
          exact sEq_iff.1 (eq_true_of (b := sEq (lAt .str t0 t13) (lAt .str t1 t13)) (by simpa using he))
        · exact g3 j (by omega)
      · show (lLen t0 - (t13 + 1)).toNat < (lLen t0 - t13).toNat; omega
    · have hd := of_decide_eq_false h
      refine List.ext_getElem (by omega) fun i h1 h2 => ?_
      have := g3 i (by omega)
      rw [List.getD_eq_getElem?_getD, List.getD_eq_getElem?_getD, List.getElem?_eq_getElem h1, List.getElem?_eq_getElem h2] at this
      exact this
  · cases o with
    | inl o => exact Runs.ret fun h => absurd (show o.1 = true from h) (by rw [show o.1 = false from ho]; simp)
    | inr o => exact Runs.ret fun _ => ho
theorem f115_t {k : Nat} (hk : 200100 < k) {was o : cO} (hw : RightP k was) (ho : RightP k o) : Runs (f115 k was o) (fun r => r = true → oV4 o = oV4 was ∧ oV6 o = oV6 was ∧ oBit o = oBit was ∧ oSel o = oSel was ∧ (oCid o).take (oCid was).length = oCid was ∧ (oDel was = true → ∀ f ∈ oFin o, f ∈ oFin was)) := by
  unfold f115
  have hf := ho.shape.fin.1
  have hfw := hw.shape.fin.1
  have hc := ho.shape.cid.1
  have hcw := hw.shape.cid.1
  have hL : lLen (oFin o) = ((oFin o).length : Int) := rfl
  refine Runs.bind (P := fun r => match r with | .inl r => r.1 = false | .inr r => r.1 = was ∧ r.2.1 = o ∧ (oDel was = true → ∀ f ∈ oFin o, f ∈ oFin was)) ?_ fun r hr => ?_
  · refine Runs.iter (fun v => v.1 = oFin o ∧ v.2.1 = lLen (oFin o) ∧ 0 ≤ v.2.2.1 ∧ v.2.2.1 ≤ lLen (oFin o) ∧ v.2.2.2.1 = was ∧ v.2.2.2.2.1 = o ∧ ∀ j : Nat, (j : Int) < v.2.2.1 → oDel was = true → (oFin o).getD j sNil ∈ oFin was) (fun v => (lLen (oFin o) - v.2.2.1).toNat) ?_ ⟨rfl, rfl, by show (0 : Int) ≤ 0; omega, by show 0 ≤ lLen (oFin o); omega, rfl, rfl, fun j hj => by have : (j : Int) < 0 := hj; omega⟩ (by show (lLen (oFin o) - 0).toNat < k; omega)
    rintro ⟨t8, t9, t10, h0, h1, u⟩ hv
    simp only at hv
    obtain ⟨rfl, rfl, g1, g2, rfl, rfl, g3⟩ := hv
    show Runs (f115_s4 k (oFin h1) (lLen (oFin h1)) t10 h0 h1) _
    unfold f115_s4
    refine Runs.cond (fun h => ?_) fun h => Runs.ret ⟨rfl, rfl, fun hd f hf' => ?_⟩
    · have hd := of_decide_eq_true h
      have e1 : w64 (t10 + 1) = t10 + 1 := w64_in (by omega) (by omega)
      rw [e1]
      refine Runs.range g1 hd (Runs.cond (fun hdel => Runs.bind (f156_t (show (oFin h0).length < k by omega) (show (oFin h0).length ≤ 1000000 by omega) _) fun r3 h3 => Runs.cond (fun _ => Runs.ret rfl) fun hb => Runs.ret ⟨⟨rfl, rfl, ?_, ?_, rfl, rfl, fun j hj hdl => ?_⟩, ?_⟩) fun hdel => Runs.ret ⟨⟨rfl, rfl, ?_, ?_, rfl, rfl, fun j hj hdl => ?_⟩, ?_⟩)
      · show 0 ≤ t10 + 1; omega
      · show t10 + 1 ≤ lLen (oFin h1); omega
      · have hj' : (j : Int) < t10 + 1 := hj
        by_cases e : (j : Int) = t10
        · have : j = t10.toNat := by omega
          subst this
          exact h3 (eq_true_of (by simpa using hb))
        · exact g3 j (by omega) hdl
      · show (lLen (oFin h1) - (t10 + 1)).toNat < (lLen (oFin h1) - t10).toNat; omega
      · show 0 ≤ t10 + 1; omega
      · show t10 + 1 ≤ lLen (oFin h1); omega
      · have hdl' : oDel h0 = true := hdl
        rw [show oDel h0 = false from hdel] at hdl'
        cases hdl'
      · show (lLen (oFin h1) - (t10 + 1)).toNat < (lLen (oFin h1) - t10).toNat; omega
    · have hd' := of_decide_eq_false h
      obtain ⟨j, hj, rfl⟩ := mem_getD hf' sNil
      exact g3 j (by omega) hd
  · cases r with
    | inl r => exact Runs.ret fun h => absurd (show r.1 = true from h) (by rw [show r.1 = false from hr]; simp)
    | inr r =>
      obtain ⟨a, b, u⟩ := r
      obtain ⟨rfl, rfl, hfin⟩ := hr
      have hc : (oCid b).length ≤ 8 := hc
      have hLa : lLen (oCid a) = ((oCid a).length : Int) := rfl
      have hLb : lLen (oCid b) = ((oCid b).length : Int) := rfl
      refine Runs.cond (fun _ => Runs.ret (by simp)) fun hlen => ?_
      have hlen : ¬ lLen (oCid b) < lLen (oCid a) := of_decide_eq_false hlen
      refine Runs.cut (by omega) (show 0 ≤ lLen (oCid a) by omega) (show lLen (oCid a) ≤ lLen (oCid b) by omega) ?_
      have hcl : (lCut (oCid b) 0 (lLen (oCid a))).length ≤ (oCid b).length := lCut_len _ _ _
      refine Runs.bind (f59_eq (Nat.lt_of_le_of_lt hcl (by omega)) (Nat.le_trans hcl (by omega))) fun r5 h5 => Runs.cond (fun _ => Runs.ret (by simp)) fun hb => ?_
      have hcid := h5 (eq_true_of (by simpa using hb))
      refine Runs.cond (fun e4 => Runs.cond (fun e6 => Runs.cond (fun eb => Runs.ret fun es => ?_) fun _ => Runs.ret (by simp)) fun _ => Runs.ret (by simp)) fun _ => Runs.ret (by simp)
      exact ⟨sEq_iff.1 e4, sEq_iff.1 e6, by simpa using eb, sEq_iff.1 es, by simpa [lCut, lLen] using hcid, hfin⟩
end Go.Proofs.YtpffibjemegioaaGreatDoor.Keeps
set_option linter.unusedSimpArgs false
namespace Go.Proofs.YtpffibjemegioaaGreatDoor.Keeps
open Go Go.PB
theorem f114_t (k : Nat) (a b : Int) : Runs (f114 k a b) T := by
  unfold f114
  exact Runs.cond (fun _ => Runs.t) fun _ => Runs.t
theorem eqs_of {k : Nat} (hk : 200100 < k) {a b : cO} (s : ShapeP k a) : Eqs k a b :=
  ⟨fun _ => ⟨by have := s.fin.1; omega, by have := s.fin.1; omega⟩, fun _ => ⟨by have := s.lab.1; omega, by have := s.lab.1; omega⟩, fun _ => ⟨by have := s.cid.1; omega, by have := s.cid.1; omega⟩, fun _ => ⟨by have := s.fam; omega, by have := s.fam; omega⟩, fun _ => ⟨by have := s.ips.1; omega, by have := s.ips.1; omega⟩⟩
theorem f68_t {k : Nat} (hk : 200100 < k) {n : Int} {s : cS} (h : Inv k n s) (hn : n ≤ 100) {o : cO} (hf : (oFam o).length ≤ 1000) : Runs (f68 k s o) (PlanQ k s (o.1, oName o, ())) := by
  unfold f68 f79
  simp only [Option.bind_some]
  cases hm : mget tK tO s.2.2.1 (o.1, oName o, ()) with
  | none => exact planQ_bad _ (by decide)
  | some was =>
    have hw := (h.get hm).1
    simp only [Option.isSome_some, Bool.not_true, cond_false, Option.getD_some]
    refine Runs.bind (f114_t k _ _) fun r3 _ => Runs.cond (fun _ => planQ_bad _ (by decide)) fun _ => ?_
    refine Runs.bind (f114_t k _ _) fun r4 _ => Runs.cond (fun _ => planQ_bad _ (by decide)) fun _ => ?_
    refine Runs.bind (f13_t hk hf) fun r5 h5 => Runs.cond (fun _ => planQ_bad _ (by decide)) fun hr => ?_
    have hR := h5.1 (eq_true_of (by simpa using hr))
    refine Runs.bind (f115_t hk hw hR) fun r6 h6 => Runs.cond (fun _ => planQ_bad _ (by decide)) fun hr6 => ?_
    obtain ⟨s4, s6, sb, ss, sc, sf⟩ := h6 (eq_true_of (by simpa using hr6))
    have hR2 : RightP k (upd o (oUid was) (oVer o) (oDel was)) := right_upd hR hw.shape.uid hR.shape.ver _
    have h116 : Runs (f116 k (upd o (oUid was) (oVer o) (oDel was)) was) T := by
      unfold f116
      refine Runs.bind (f15_t (eqs_of hk (a := upd o (oUid was) (oVer was) (oDel was)) (shape_upd hR.shape hw.shape.uid hw.shape.ver _))) fun r _ => Runs.t
    refine Runs.bind h116 fun r7 _ => Runs.cond (fun _ => ?_) fun _ => ?_
    · refine Runs.bind (P := fun r => r = ((0, was, ()), 0)) ⟨_, nothing_t k hw.shape, rfl⟩ fun r8 h8 => ?_
      subst h8
      exact Runs.ret ⟨rfl, fun _ => ⟨hw, ((h.get hm).2).symm, fun h => absurd (show (0 : Int) = 2 from h) (by decide)⟩⟩
    · have fin : ∀ t : Int, Runs ((f113 k s t (upd o (oUid was) (oVer o) (oDel was))).bind fun r9 => some (r9.1, r9.2.1, r9.2.2)) (PlanQ k s (o.1, oName o, ())) := by
        intro t
        refine Runs.bind (P := fun r => r = ((t, upd (upd o (oUid was) (oVer o) (oDel was)) (oUid was) (w64 (s.1 + 1)) (oDel was), ()), 0, s)) ⟨_, f113_t h hn t hR2.shape, rfl⟩ fun r9 h9 => ?_
        subst h9
        refine Runs.ret ⟨rfl, fun _ => ⟨upd_right h hn hR2 _, rfl, fun _ was' hm' => ?_⟩⟩
        have e : was = was' := Option.some.inj (hm.symm.trans hm')
        subst e
        exact ⟨rfl, s4, s6, sb, ss, id, sc, sf⟩
      exact Runs.cond (fun _ => Runs.cond (fun _ => fin 3) fun _ => fin 2) fun _ => fin 2
theorem f72_t {k : Nat} (hk : 200100 < k) {n : Int} {s : cS} (h : Inv k n s) (hn : n ≤ 100) (kind : Int) (name : ByteArray) (ver : Int) : Runs (f72 k s kind name ver) (PlanQ k s (kind, name, ())) := by
  unfold f72
  simp only [Option.bind_some]
  cases hm : mget tK tO s.2.2.1 (kind, name, ()) with
  | none => exact planQ_bad _ (by decide)
  | some was =>
    have hw := (h.get hm).1
    have hk' := (h.get hm).2
    simp only [Option.isSome_some, Bool.not_true, cond_false, Option.getD_some]
    refine Runs.bind (f114_t k _ _) fun r3 _ => Runs.cond (fun _ => planQ_bad _ (by decide)) fun _ => ?_
    refine Runs.cond (fun _ => ?_) fun hd => Runs.cond (fun _ => ?_) fun _ => ?_
    · refine Runs.bind (P := fun r => r = ((0, was, ()), 0)) ⟨_, nothing_t k hw.shape, rfl⟩ fun r8 h8 => ?_
      subst h8
      exact Runs.ret ⟨rfl, fun _ => ⟨hw, hk'.symm, fun h => absurd (show (0 : Int) = 2 from h) (by decide)⟩⟩
    · refine Runs.bind (P := fun r => r = ((3, upd was (oUid was) (w64 (s.1 + 1)) (oDel was), ()), 0, s)) ⟨_, f113_t h hn 3 hw.shape, rfl⟩ fun r9 h9 => ?_
      subst h9
      exact Runs.ret ⟨rfl, fun _ => ⟨upd_right h hn hw _, hk'.symm, fun h => absurd (show (3 : Int) = 2 from h) (by decide)⟩⟩
    · have hw2 : RightP k (upd was (oUid was) (oVer was) true) := right_upd hw hw.shape.uid hw.shape.ver true
      refine Runs.bind (P := fun r => r = ((2, upd (upd was (oUid was) (oVer was) true) (oUid was) (w64 (s.1 + 1)) true, ()), 0, s)) ⟨_, f113_t h hn 2 hw2.shape, rfl⟩ fun r9 h9 => ?_
      subst h9
      refine Runs.ret ⟨rfl, fun _ => ⟨upd_right h hn hw2 true, hk'.symm, fun _ was' hm' => ?_⟩⟩
      have e : was = was' := Option.some.inj (hm.symm.trans hm')
      subst e
      exact ⟨rfl, rfl, rfl, rfl, rfl, fun _ => rfl, List.take_length, fun _ _ h => h⟩
theorem f77_t {k : Nat} (hk : 200100 < k) {s : cS} {c : cH} (hc : RightP k c.2.1) : Runs (f77 k s c) (fun r => r.2 = s ∧ (r.1 = true → (c.1 = 1 ∧ mget tK tO s.2.2.1 (c.2.1.1, oName c.2.1, ()) = none) ∨ c.1 = 2 ∨ c.1 = 3)) := by
  unfold f77 f79
  simp only [Option.bind_some]
  have no : Runs (some (false, s)) (fun r => r.2 = s ∧ (r.1 = true → (c.1 = 1 ∧ mget tK tO s.2.2.1 (c.2.1.1, oName c.2.1, ()) = none) ∨ c.1 = 2 ∨ c.1 = 3)) := Runs.ret ⟨rfl, fun h => by simp at h⟩
  refine Runs.bind (f11_t (by omega) (show (oFam c.2.1).length ≤ 1000 by have := hc.shape.fam; omega)) fun r3 _ => Runs.cond (fun _ => no) fun _ => Runs.cond (fun _ => no) fun _ => ?_
  refine Runs.cond (fun h1 => ?_) fun _ => Runs.cond (fun h2 => ?_) fun _ => Runs.cond (fun h3 => ?_) fun _ => no
  · refine Runs.cond (fun hn => Runs.cond (fun _ => Runs.ret ⟨rfl, fun _ => .inl ⟨by simpa using h1, ?_⟩⟩) fun _ => no) fun _ => no
    cases e : mget tK tO s.2.2.1 (c.2.1.1, oName c.2.1, ()) with
    | none => rfl
    | some x =>
      have hn' : (!(Option.isSome (mget tK tO s.2.2.1 (c.2.1.1, oName c.2.1, ())))) = true := hn
      rw [e] at hn'
      simp at hn'
  · exact Runs.cond (fun _ => Runs.cond (fun _ => Runs.ret ⟨rfl, fun _ => .inr (.inl (by simpa using h2))⟩) fun _ => no) fun _ => no
  · exact Runs.cond (fun _ => Runs.ret ⟨rfl, fun _ => .inr (.inr (by simpa using h3))⟩) fun _ => no
/-! ## Applied -/
theorem Runs.head {R : Type} {l : Int} {n : Nat} {K : Option R} {Q : R → Prop} (h : l = 0 ∨ l < n) (hk : Runs K Q) : Runs (headK l n K) Q := by
  unfold headK; rw [if_pos h]; exact hk
def cutAtH (h : List cH) : Int := if (decide ((w64 ((lLen h) - 64)) > 0)) = true then (w64 ((lLen h) - 64)) else 0
theorem cutAtH_ok {h : List cH} (hl : h.length ≤ 65) : 0 ≤ cutAtH h ∧ cutAtH h ≤ lLen h ∧ (cutAtH h = 0 ∨ cutAtH h < (h.length : Int)) ∧ (lCut h (cutAtH h) (lLen h)).length ≤ 64 := by
  have hL : lLen h = (h.length : Int) := rfl
  have e : w64 (lLen h - 64) = lLen h - 64 := w64_in (by omega) (by omega)
  unfold cutAtH
  rw [e]
  by_cases hc : lLen h - 64 > 0
  · rw [if_pos (decide_eq_true hc)]
    refine ⟨by omega, by omega, .inr (by omega), ?_⟩
    unfold lCut
    rw [List.length_drop, List.length_take]
    omega
  · rw [if_neg (by simpa using hc)]
    refine ⟨by omega, by omega, .inl rfl, ?_⟩
    have := lCut_len h 0 (lLen h)
    omega
theorem hist_run {R : Type} {h : List cH} {c : cH} (hl : h.length ≤ 64) {K : Option R} {Q : R → Prop} (hk : Runs K Q) : Runs (roomK (h.length + [c].length) most (cutK (cutAtH (h ++ [c])) (lLen (h ++ [c])) (lLen (h ++ [c])) (headK (cutAtH (h ++ [c])) (List.length (h ++ [c])) K))) Q := by
  have h65 : (h ++ [c]).length ≤ 65 := by rw [List.length_append, List.length_singleton]; omega
  obtain ⟨a1, a2, a3, a4⟩ := cutAtH_ok h65
  exact Runs.room (by show h.length + 1 ≤ most; unfold most; omega) (Runs.cut a1 a2 (by omega) (Runs.head a3 hk))
def After (s : cS) (y : Key) (c : cH) (s' : cS) : Prop :=
  mget tK tO s'.2.2.1 y = mget tK tO s.2.2.1 y ∨ mget tK tO s'.2.2.1 y = none ∨ mget tK tO s.2.2.1 y = none ∨ (c.1 = 2 ∧ mget tK tO s'.2.2.1 y = some c.2.1)
theorem f23_t {k : Nat} (hk : 200100 < k) {n : Int} {s : cS} (h : Inv k n s) (hn : n < 100) {y : Key} {c : cH} (hc : PlanP k s y c) : Runs (f23 k s c) (fun r => Inv k (n + 1) r.2 ∧ After s y c r.2) := by
  unfold f23
  refine Runs.bind (f77_t hk hc.right) fun r1 h1 => ?_
  obtain ⟨hs, hmay⟩ := h1
  obtain ⟨b, s'⟩ := r1
  simp only at hs hmay
  subst hs
  refine Runs.cond (fun _ => Runs.ret ⟨h.more, .inl rfl⟩) fun hb => ?_
  have hcase := hmay (eq_true_of (by simpa using hb))
  have e78 : f78 k c = some c := by
    unfold f78
    rw [f17_t k hc.right.shape]
    rfl
  refine Runs.bind (P := fun r => r = c) ⟨_, e78, rfl⟩ fun r2 h2 => ?_
  subst h2
  have hkey : (r2.2.1.1, r2.2.1.2.1, ()) = y := hc.key
  have ew : w64 (s'.1 + 1) = s'.1 + 1 := w64_in (by have := h.ver0; omega) (by have := h.vern; omega)
  have eu : w64 (s'.2.1 + 1) = s'.2.1 + 1 := w64_in (by have := h.uid0; omega) (by have := h.uidn; omega)
  have h65 : (s'.2.2.2.1 ++ [r2]).length ≤ 65 := by rw [List.length_append, List.length_singleton]; have := h.hist; omega
  have hh := (cutAtH_ok h65).2.2.2
  have del : ∀ u : Int, 0 ≤ u → u ≤ n + 1 → r2.1 = 3 → (fun r : Int × cS => Inv k (n + 1) r.2 ∧ After s' y r2 r.2) (0, (w64 (s'.1 + 1), u, mdel tK tO s'.2.2.1 y, lCut (s'.2.2.2.1 ++ [r2]) (cutAtH (s'.2.2.2.1 ++ [r2])) (lLen (s'.2.2.2.1 ++ [r2])), ())) := by
    intro u hu0 hu1 _
    refine ⟨⟨?_, ?_, hu0, hu1, fun p hp => h.obj p (mdel_mem hp), mdel_uniq h.uniq, hh⟩, .inr (.inl (mget_del h.uniq))⟩
    · show 0 ≤ w64 (s'.1 + 1); rw [ew]; have := h.ver0; omega
    · show w64 (s'.1 + 1) ≤ n + 1; rw [ew]; have := h.vern; omega
  have put : ∀ u : Int, 0 ≤ u → u ≤ n + 1 → r2.1 ≠ 3 → (fun r : Int × cS => Inv k (n + 1) r.2 ∧ After s' y r2 r.2) (0, (w64 (s'.1 + 1), u, mput tK tO s'.2.2.1 y r2.2.1, lCut (s'.2.2.2.1 ++ [r2]) (cutAtH (s'.2.2.2.1 ++ [r2])) (lLen (s'.2.2.2.1 ++ [r2])), ())) := by
    intro u hu0 hu1 h3
    refine ⟨⟨?_, ?_, hu0, hu1, fun p hp => ?_, mput_uniq h.uniq, hh⟩, ?_⟩
    · show 0 ≤ w64 (s'.1 + 1); rw [ew]; have := h.ver0; omega
    · show w64 (s'.1 + 1) ≤ n + 1; rw [ew]; have := h.vern; omega
    · rcases mput_mem hp with hp | hp
      · exact h.obj p hp
      · rw [hp]; exact ⟨hc.right, hc.key.symm⟩
    · rcases hcase with ⟨_, hnone⟩ | h2 | h3'
      · have : mget tK tO s'.2.2.1 y = none := by rw [← hc.key]; exact hnone
        exact .inr (.inr (.inl this))
      · exact .inr (.inr (.inr ⟨h2, mget_put _ _ _⟩))
      · exact absurd h3' h3
  refine Runs.cond (fun h3 => ?_) fun h3 => ?_
  · have h3' : r2.1 = 3 := by simpa using h3
    refine Runs.bind (P := fun r => r = y) ⟨_, rfl, hkey⟩ fun r3 hr3 => ?_
    subst hr3
    refine Runs.cond (fun h1 => ?_) fun _ => hist_run h.hist (Runs.ret (del _ h.uid0 (show s'.2.1 ≤ n + 1 by have := h.uidn; omega) h3'))
    have h1' : r2.1 = 1 := by simpa using h1
    exact absurd (h1'.symm.trans h3') (by decide)
  · have h3' : r2.1 ≠ 3 := by simpa using h3
    refine Runs.bind (P := fun r => r = y) ⟨_, rfl, hkey⟩ fun r4 hr4 => ?_
    subst hr4
    refine Runs.cond (fun h1 => hist_run h.hist (Runs.ret (put _ (by rw [eu]; have := h.uid0; omega) (by rw [eu]; have := h.uidn; omega) h3'))) fun _ => hist_run h.hist (Runs.ret (put _ h.uid0 (show s'.2.1 ≤ n + 1 by have := h.uidn; omega) h3'))
theorem f25_t {k : Nat} {n : Int} {s : cS} (h : Inv k n s) (kind : Int) (name : ByteArray) : Runs (f25 k s kind name) (fun r => r.2.2 = s ∧ (r.2.1 = 0 → mget tK tO s.2.2.1 (kind, name, ()) = some r.1) ∧ (r.2.1 ≠ 0 → mget tK tO s.2.2.1 (kind, name, ()) = none)) := by
  unfold f25
  simp only [Option.bind_some]
  cases hm : mget tK tO s.2.2.1 (kind, name, ()) with
  | none => exact Runs.ret ⟨rfl, fun h => absurd (show (7 : Int) = 0 from h) (by decide), fun _ => rfl⟩
  | some o =>
    simp only [Option.isSome_some, Bool.not_true, cond_false, Option.getD_some]
    refine Runs.bind (P := fun r => r = o) ⟨_, f17_t k (h.get hm).1.shape, rfl⟩ fun r hr => ?_
    subst hr
    exact Runs.ret ⟨rfl, fun _ => rfl, fun h => absurd rfl h⟩
end Go.Proofs.YtpffibjemegioaaGreatDoor.Keeps
namespace Go.Proofs.YtpffibjemegioaaGreatDoor
open Go Go.PB
theorem awake_true : f18 300000 = some true := by kernel_rfl
end Go.Proofs.YtpffibjemegioaaGreatDoor
set_option linter.unusedSimpArgs false
namespace Go.Proofs.YtpffibjemegioaaGreatDoor.Keeps
open Go Go.PB
abbrev Act := Int × cO × ByteArray × List ByteArray × Int × Bool × Bool × Unit
abbrev tA : Ty := .agg (.pair (.int .i64) (.pair tO (.pair .str (.pair (.list .str) (.pair (.int .i64) (.pair .bool (.pair .bool .unit)))))))
theorem f37_t {k : Nat} (hk : 100 < k) (l : List Pr) : Runs (f37 k l) T := by
  unfold f37
  refine Runs.cond (fun _ => Runs.t) fun h => ?_
  have hL : lLen l = (l.length : Int) := rfl
  have h40 := of_decide_eq_false h
  refine Runs.sum ?_ fun o => by cases o <;> exact Runs.t
  refine Runs.iter (fun v => v.1 = l ∧ 0 ≤ v.2.1 ∧ v.2.1 ≤ lLen l) (fun v => (lLen l - v.2.1).toNat) ?_ ⟨rfl, by show (0 : Int) ≤ 0; omega, by show 0 ≤ lLen l; omega⟩ (by show (lLen l - 0).toNat < k; omega)
  rintro ⟨t0, t3, u⟩ hv
  simp only at hv
  obtain ⟨rfl, g1, g2⟩ := hv
  show Runs (f37_s8 k t0 t3) _
  unfold f37_s8
  refine Runs.cond (fun h => ?_) fun _ => Runs.ret trivial
  have hd := of_decide_eq_true h
  have e1 : w64 (t3 + 1) = t3 + 1 := w64_in (by omega) (by omega)
  rw [e1]
  refine Runs.range g1 hd (Runs.cond (fun _ => Runs.ret trivial) fun _ => Runs.range g1 hd (Runs.cond (fun _ => Runs.ret trivial) fun _ => Runs.ret ⟨⟨rfl, ?_, ?_⟩, ?_⟩))
  · show 0 ≤ t3 + 1; omega
  · show t3 + 1 ≤ lLen t0; omega
  · show (lLen t0 - (t3 + 1)).toNat < (lLen t0 - t3).toNat; omega
theorem f38_t {k : Nat} (hk : 100 < k) (l : List ByteArray) : Runs (f38 k l) T := by
  unfold f38
  refine Runs.cond (fun _ => Runs.t) fun h => ?_
  have hL : lLen l = (l.length : Int) := rfl
  have h40 := of_decide_eq_false h
  refine Runs.sum ?_ fun o => by cases o <;> exact Runs.t
  refine Runs.iter (fun v => v.1 = l ∧ 0 ≤ v.2.1 ∧ v.2.1 ≤ lLen l) (fun v => (lLen l - v.2.1).toNat) ?_ ⟨rfl, by show (0 : Int) ≤ 0; omega, by show 0 ≤ lLen l; omega⟩ (by show (lLen l - 0).toNat < k; omega)
  rintro ⟨t0, t3, u⟩ hv
  simp only at hv
  obtain ⟨rfl, g1, g2⟩ := hv
  show Runs (f38_s8 k t0 t3) _
  unfold f38_s8
  refine Runs.cond (fun h => ?_) fun _ => Runs.ret trivial
  have hd := of_decide_eq_true h
  have e1 : w64 (t3 + 1) = t3 + 1 := w64_in (by omega) (by omega)
  rw [e1]
  refine Runs.range g1 hd (Runs.cond (fun _ => Runs.ret trivial) fun _ => Runs.ret ⟨⟨rfl, ?_, ?_⟩, ?_⟩)
  · show 0 ≤ t3 + 1; omega
  · show t3 + 1 ≤ lLen t0; omega
  · show (lLen t0 - (t3 + 1)).toNat < (lLen t0 - t3).toNat; omega
theorem f10_t {k : Nat} (hk : 100 < k) (o : cO) : Runs (f10 k o) (fun r => r = false → (oFam o).length ≤ 1000) := by
  unfold f10
  refine Runs.cond (fun _ => Runs.ret (by simp)) fun _ => Runs.cond (fun _ => Runs.ret (by simp)) fun h => ?_
  have hf : (oFam o).length ≤ 1000 := by
    have h' : ¬ lLen (oFam o) > 40 := of_decide_eq_false h
    have e : lLen (oFam o) = ((oFam o).length : Int) := rfl
    omega
  exact Runs.bind (f37_t hk _) fun _ _ => Runs.cond (fun _ => Runs.ret (by simp)) fun _ => Runs.bind (f38_t hk _) fun _ _ => Runs.cond (fun _ => Runs.ret (by simp)) fun _ => Runs.bind (f38_t hk _) fun _ _ => Runs.cond (fun _ => Runs.ret (by simp)) fun _ => Runs.bind (f38_t hk _) fun _ _ => Runs.ret fun _ => hf
theorem f20_t {k : Nat} (hk : 100 < k) (x : Act) : Runs (f20 k x) (fun r => r = false → (oFam x.2.1).length ≤ 1000) := by
  unfold f20
  exact Runs.bind (f10_t hk _) fun r1 h1 => Runs.cond (fun _ => Runs.ret (by simp)) fun h => Runs.cond (fun _ => Runs.ret (by simp)) fun _ => Runs.bind (f38_t hk _) fun r2 _ => Runs.ret fun _ => h1 h
theorem f22_t {k : Nat} (hk : 200100 < k) {n : Int} {s : cS} (h : Inv k n s) (hn : n ≤ 100) {x : Act} (h1 : 1 ≤ x.1) (h3 : x.1 ≤ 3) (hf : (oFam x.2.1).length ≤ 1000) : Runs (f22 k s x) (PlanQ k s (x.2.1.1, oName x.2.1, ())) := by
  unfold f22
  refine Runs.cond (fun _ => Runs.bind (f67_t hk h hn hf) fun r hr => Runs.ret hr) fun e1 => Runs.cond (fun _ => Runs.bind (f68_t hk h hn hf) fun r hr => Runs.ret hr) fun e2 => Runs.cond (fun _ => Runs.bind (f72_t hk h hn _ _ _) fun r hr => Runs.ret hr) fun e3 => ?_
  have e1 : ¬ x.1 = 1 := by simpa using e1
  have e2 : ¬ x.1 = 2 := by simpa using e2
  have e3 : ¬ x.1 = 3 := by simpa using e3
  omega
theorem f26_t {k : Nat} {l : List ByteArray} (hl : l.length < k) (hm : l.length ≤ 1000000) {x : ByteArray} (hx : x ∈ l) : Runs (f26 k l x) (fun r => r = true) := by
  unfold f26
  have hL : lLen l = (l.length : Int) := rfl
  refine Runs.bind (P := fun o => match o with | .inl o => o.1 = true | .inr o => False) ?_ fun o ho => ?_
  · refine Runs.iter (fun v => v.1 = l ∧ v.2.1 = x ∧ 0 ≤ v.2.2.1 ∧ v.2.2.1 ≤ lLen l ∧ ∀ j : Nat, (j : Int) < v.2.2.1 → l.getD j sNil ≠ x) (fun v => (lLen l - v.2.2.1).toNat) ?_ ⟨rfl, rfl, by show (0 : Int) ≤ 0; omega, by show 0 ≤ lLen l; omega, fun j hj => by have : (j : Int) < 0 := hj; omega⟩ (by show (lLen l - 0).toNat < k; omega)
    rintro ⟨t0, t1, t5, u⟩ hv
    simp only at hv
    obtain ⟨rfl, rfl, g1, g2, g3⟩ := hv
    show Runs (f26_s4 k t0 t1 t5) _
    unfold f26_s4
    refine Runs.cond (fun h => ?_) fun h => ?_
    · have hd := of_decide_eq_true h
      have e1 : w64 (t5 + 1) = t5 + 1 := w64_in (by omega) (by omega)
      rw [e1]
      refine Runs.range g1 hd (Runs.cond (fun _ => Runs.ret rfl) fun he => Runs.ret ⟨⟨rfl, rfl, ?_, ?_, fun j hj => ?_⟩, ?_⟩)
      · show 0 ≤ t5 + 1; omega
      · show t5 + 1 ≤ lLen t0; omega
      · have hj' : (j : Int) < t5 + 1 := hj
        by_cases e : (j : Int) = t5
        · have : j = t5.toNat := by omega
          subst this
          intro hE
          have : sEq (lAt .str t0 t5) t1 = true := sEq_iff.2 hE
          rw [this] at he
          cases he
        · exact g3 j (by omega)
      · show (lLen t0 - (t5 + 1)).toNat < (lLen t0 - t5).toNat; omega
    · have hd := of_decide_eq_false h
      obtain ⟨j, hj, e⟩ := mem_getD hx sNil
      exact absurd e (g3 j (by omega))
  · cases o with
    | inl o => exact Runs.ret ho
    | inr o => exact absurd ho id
theorem f6_l40_t {k : Nat} (hk : 200100 < k) (l : List Act) (i : Int) (s : cS) {was now : cO} (hlen : (oCid now).length ≤ 1000) (hst : (oCid now).take (oCid was).length = oCid was) : Runs (f6_l40 k l i 0 s was now) (fun o => o = .inr (l, i, s, was, now, ())) := by
  have hL : lLen (oCid was) = ((oCid was).length : Int) := rfl
  have hL' : lLen (oCid now) = ((oCid now).length : Int) := rfl
  have hle : (oCid was).length ≤ (oCid now).length := by
    have := congrArg List.length hst
    rw [List.length_take] at this
    omega
  refine Runs.iter (fun v => ∃ j : Int, v = (l, i, j, s, was, now, ()) ∧ 0 ≤ j ∧ j ≤ lLen (oCid was)) (fun v => (lLen (oCid was) - v.2.2.1).toNat) ?_ ⟨0, rfl, by omega, by omega⟩ (by show (lLen (oCid was) - 0).toNat < k; omega)
  rintro v ⟨j, rfl, g1, g2⟩
  show Runs (f6_s40 k l i j s was now) _
  unfold f6_s40
  refine Runs.cond (fun h => ?_) fun _ => Runs.ret rfl
  have hd : j < lLen (oCid was) := of_decide_eq_true h
  have e1 : w64 (j + 1) = j + 1 := w64_in (by omega) (by omega)
  rw [e1]
  refine Runs.range g1 (show j < lLen (oCid now) by omega) (Runs.range g1 hd (Runs.cond (fun he => ?_) fun _ => Runs.ret ⟨⟨j + 1, rfl, by omega, by omega⟩, ?_⟩))
  · exfalso
    have : lAt .str (oCid now) j = lAt .str (oCid was) j := by
      show (oCid now).getD j.toNat sNil = (oCid was).getD j.toNat sNil
      rw [← hst, List.getD_eq_getElem?_getD, List.getD_eq_getElem?_getD, List.getElem?_take, if_pos (by omega)]
    have e : sEq (lAt .str (oCid now) j) (lAt .str (oCid was) j) = true := sEq_iff.2 this
    have he' : (!(sEq (lAt .str (oCid now) j) (lAt .str (oCid was) j))) = true := he
    rw [e] at he'
    cases he'
  · show (lLen (oCid was) - (j + 1)).toNat < (lLen (oCid was) - j).toNat; omega
theorem f6_l50_t {k : Nat} (hk : 200100 < k) (l : List Act) (i : Int) (s : cS) {was now : cO} (hlen : (oFin now).length ≤ 1000) (hlw : (oFin was).length ≤ 1000) (hst : oDel was = true → ∀ f ∈ oFin now, f ∈ oFin was) : Runs (f6_l50 k l i 0 s was now) (fun o => o = .inr (l, i, s, ())) := by
  have hL : lLen (oFin now) = ((oFin now).length : Int) := rfl
  refine Runs.iter (fun v => ∃ j : Int, v = (l, i, j, s, was, now, ()) ∧ 0 ≤ j ∧ j ≤ lLen (oFin now)) (fun v => (lLen (oFin now) - v.2.2.1).toNat) ?_ ⟨0, rfl, by omega, by omega⟩ (by show (lLen (oFin now) - 0).toNat < k; omega)
  rintro v ⟨j, rfl, g1, g2⟩
  show Runs (f6_s50 k l i j s was now) _
  unfold f6_s50
  refine Runs.cond (fun h => Runs.cond (fun hdel => ?_) fun _ => Runs.ret rfl) fun _ => Runs.ret rfl
  have hd : j < lLen (oFin now) := of_decide_eq_true h
  have e1 : w64 (j + 1) = j + 1 := w64_in (by omega) (by omega)
  rw [e1]
  refine Runs.range g1 hd (Runs.bind (f26_t (show (oFin was).length < k by omega) (show (oFin was).length ≤ 1000000 by omega) (hst hdel _ (lAt_mem g1 hd))) fun r hr => Runs.cond (fun h => ?_) fun _ => Runs.ret ⟨⟨j + 1, rfl, by omega, by omega⟩, ?_⟩)
  · rw [hr] at h; cases h
  · show (lLen (oFin now) - (j + 1)).toNat < (lLen (oFin now) - j).toNat; omega
theorem inv0 (k : Nat) : Inv k 0 (0, 0, [], [], ()) :=
  ⟨Int.le_refl 0, Int.le_refl 0, Int.le_refl 0, Int.le_refl 0, (fun p (hp : p ∈ []) => absurd hp List.not_mem_nil), List.Pairwise.nil, Nat.zero_le 64⟩
theorem f6_true {k : Nat} (hk : 200100 < k) (h18 : f18 k = some true) (l : List Act) : f6 k l = some true := by
  have main : Runs (f6 k l) (fun r => r = true) := by
    unfold f6
    rw [h18]
    refine Runs.bind (P := fun r => r = true) ⟨true, rfl, rfl⟩ fun r1 hr1 => ?_
    subst hr1
    simp only [Bool.not_true, cond_false]
    refine Runs.bind (P := fun r => r = (0, 0, [], [], ())) ⟨_, rfl, rfl⟩ fun r2 hr2 => ?_
    subst hr2
    refine Runs.bind (P := fun o => match o with | .inl o => o.1 = true | .inr o => True) ?_ fun o ho => ?_
    rotate_left
    · cases o with
      | inl o => exact Runs.ret ho
      | inr o => exact Runs.ret rfl
    have hL : lLen l = (l.length : Int) := rfl
    refine Runs.iter (fun v => v.1 = l ∧ 0 ≤ v.2.1 ∧ v.2.1 ≤ 100 ∧ v.2.1 ≤ lLen l ∧ Inv k v.2.1 v.2.2.1) (fun v => (100 - v.2.1).toNat) ?_ ⟨rfl, by show (0 : Int) ≤ 0; omega, by show (0 : Int) ≤ 100; omega, by show (0 : Int) ≤ lLen l; omega, inv0 k⟩ (by show (100 - (0 : Int)).toNat < k; omega)
    rintro ⟨t0, t4, s, u⟩ hv
    simp only at hv
    obtain ⟨rfl, g1, g2, g3, hI⟩ := hv
    show Runs (f6_s10 k t0 t4 s) _
    unfold f6_s10
    refine Runs.cond (fun h => Runs.cond (fun h' => ?_) fun _ => Runs.ret trivial) fun _ => Runs.ret trivial
    have hd : t4 < lLen t0 := of_decide_eq_true h
    have hd' : t4 < 100 := of_decide_eq_true h'
    have e1 : w64 (t4 + 1) = t4 + 1 := w64_in (by omega) (by omega)
    simp only [e1]
    have go : ∀ s' : cS, Inv k (t4 + 1) s' → Runs (some (.inl (t0, t4 + 1, s', ()) : (List Act × Int × cS × Unit) ⊕ ((Bool × Unit) ⊕ Unit))) (OnOut (fun v => (v.1 = t0 ∧ 0 ≤ v.2.1 ∧ v.2.1 ≤ 100 ∧ v.2.1 ≤ lLen t0 ∧ Inv k v.2.1 v.2.2.1) ∧ (100 - v.2.1).toNat < (100 - t4).toNat) (fun o => match o with | .inl o => o.1 = true | .inr o => True)) := by
      intro s' hs'
      refine Runs.ret ⟨⟨rfl, ?_, ?_, ?_, hs'⟩, ?_⟩
      · show 0 ≤ t4 + 1; omega
      · show t4 + 1 ≤ 100; omega
      · show t4 + 1 ≤ lLen t0; omega
      · show (100 - (t4 + 1)).toNat < (100 - t4).toNat; omega
    refine Runs.range g1 hd ?_
    obtain ⟨x, hx⟩ : ∃ x : Act, x = lAt (.agg (.pair (.int .i64) (.pair tO (.pair .str (.pair (.list .str) (.pair (.int .i64) (.pair .bool (.pair .bool .unit)))))))) t0 t4 := ⟨_, rfl⟩
    rw [← hx]
    refine Runs.bind (f20_t (by omega) x) fun r26 h26 => Runs.cond (fun _ => go s hI.more) fun hfar => ?_
    have hf := h26 hfar
    refine Runs.cond (fun _ => go s hI.more) fun hx1 => Runs.cond (fun _ => go s hI.more) fun hx3 => ?_
    have hx1 : ¬ x.1 < 1 := of_decide_eq_false hx1
    have hx3 : ¬ x.1 > 3 := of_decide_eq_false hx3
    refine Runs.bind (f25_t hI x.2.1.1 x.2.1.2.1) fun r27 h27 => ?_
    obtain ⟨was, e27, s27⟩ := r27
    obtain ⟨hs27, hwas, hnone⟩ := h27
    simp only at hs27 hwas hnone
    subst hs27
    refine Runs.bind (f22_t hk hI (by omega) (x := x) (by omega) (by omega) hf) fun r28 h28 => ?_
    obtain ⟨c, e28, s28⟩ := r28
    obtain ⟨hs28, hplan⟩ := h28
    simp only at hs28 hplan
    subst hs28
    refine Runs.cond (fun _ => go s28 hI.more) fun he28 => ?_
    have he28 : e28 = 0 := by simpa using he28
    have hP := hplan he28
    refine Runs.bind (f23_t hk hI (by omega) hP) fun r29 h29 => ?_
    obtain ⟨e29, s29⟩ := r29
    obtain ⟨hI29, hA⟩ := h29
    simp only at hI29 hA
    refine Runs.bind (f25_t hI29 x.2.1.1 x.2.1.2.1) fun r30 h30 => ?_
    obtain ⟨now, e30, s30⟩ := r30
    obtain ⟨hs30, hnow, hnone30⟩ := h30
    simp only at hs30 hnow hnone30
    subst hs30
    -- what the law asks once both are there
    have both : e27 = 0 → e30 = 0 → Stay was now ∧ RightP k now ∧ RightP k was := by
      intro h27 h30
      have hw := hwas h27
      have hn := hnow h30
      refine ⟨?_, (hI29.get hn).1, (hI.get hw).1⟩
      rcases hA with h | h | h | ⟨h2, h⟩
      · have e : now = was := Option.some.inj (hn.symm.trans (h.trans hw))
        rw [e]; exact Stay.rfl' was
      · have := hn.symm.trans h
        cases this
      · have := hw.symm.trans h
        cases this
      · have e : now = c.2.1 := Option.some.inj (hn.symm.trans h)
        rw [e]; exact hP.stay h2 was hw
    have rest : Runs (bif (e27 != 0) then (some (.inl (t0, t4 + 1, s30, ()))) else (bif (e30 != 0) then (some (.inl (t0, t4 + 1, s30, ()))) else (bif (oUid now != oUid was) then (some (.inr (.inl (false, ())))) else (bif (!(sEq (oV4 now) (oV4 was))) then (some (.inr (.inl (false, ())))) else (bif (!(sEq (oV6 now) (oV6 was))) then (some (.inr (.inl (false, ())))) else (bif (oBit now != oBit was) then (some (.inr (.inl (false, ())))) else (bif (!(sEq (oSel now) (oSel was))) then (some (.inr (.inl (false, ())))) else (bif oDel was then (bif (!oDel now) then (some (.inr (.inl (false, ())))) else (bif (decide ((lLen (oCid now)) < (lLen (oCid was)))) then (some (.inr (.inl (false, ())))) else ((f6_l40 k t0 t4 0 s30 was now).bind fun o32 => (match o32 with | .inl o32' => (some (.inr (.inl (o32'.1, ())))) | .inr o32' => ((f6_l50 k (o32'.1) (o32'.2.1) 0 (o32'.2.2.1) (o32'.2.2.2.1) (o32'.2.2.2.2.1)).bind fun o34 => (match o34 with | .inl o34' => (some (.inr (.inl (o34'.1, ())))) | .inr o34' => (some (.inl (o34'.1, (w64 ((o34'.2.1) + 1)), o34'.2.2.1, ()))))))))) else (bif (decide ((lLen (oCid now)) < (lLen (oCid was)))) then (some (.inr (.inl (false, ())))) else ((f6_l40 k t0 t4 0 s30 was now).bind fun o35 => (match o35 with | .inl o35' => (some (.inr (.inl (o35'.1, ())))) | .inr o35' => ((f6_l50 k (o35'.1) (o35'.2.1) 0 (o35'.2.2.1) (o35'.2.2.2.1) (o35'.2.2.2.2.1)).bind fun o36 => (match o36 with | .inl o36' => (some (.inr (.inl (o36'.1, ())))) | .inr o36' => (some (.inl (o36'.1, (w64 ((o36'.2.1) + 1)), o36'.2.2.1, ()))))))))))))))))
        (OnOut (fun v => (v.1 = t0 ∧ 0 ≤ v.2.1 ∧ v.2.1 ≤ 100 ∧ v.2.1 ≤ lLen t0 ∧ Inv k v.2.1 v.2.2.1) ∧ (100 - v.2.1).toNat < (100 - t4).toNat) (fun o : (Bool × Unit) ⊕ Unit => match o with | .inl o => o.1 = true | .inr o => True)) := by
      refine Runs.cond (fun _ => go s30 hI29) fun h27 => Runs.cond (fun _ => go s30 hI29) fun h30 => ?_
      obtain ⟨st, rn, rw'⟩ := both (by simpa using h27) (by simpa using h30)
      have hcn := rn.shape.cid.1
      have hfn := rn.shape.fin.1
      have hfw := rw'.shape.fin.1
      have hle : (oCid was).length ≤ (oCid now).length := by
        have := congrArg List.length st.cid
        rw [List.length_take] at this
        omega
      rw [st.uid, st.v4, st.v6, st.bit, st.sel]
      have sr : ∀ z : ByteArray, sEq z z = true := fun z => sEq_iff.2 rfl
      have ne : decide (lLen (oCid now) < lLen (oCid was)) = false := decide_eq_false (by unfold lLen; omega)
      simp only [bne_self_eq_false, sr, Bool.not_true, cond_false, ne]
      have tail : Runs ((f6_l40 k t0 t4 0 s30 was now).bind fun o32 => (match o32 with | .inl o32' => (some (.inr (.inl (o32'.1, ())))) | .inr o32' => ((f6_l50 k (o32'.1) (o32'.2.1) 0 (o32'.2.2.1) (o32'.2.2.2.1) (o32'.2.2.2.2.1)).bind fun o34 => (match o34 with | .inl o34' => (some (.inr (.inl (o34'.1, ())))) | .inr o34' => (some (.inl (o34'.1, (w64 ((o34'.2.1) + 1)), o34'.2.2.1, ())))))))
          (OnOut (fun v => (v.1 = t0 ∧ 0 ≤ v.2.1 ∧ v.2.1 ≤ 100 ∧ v.2.1 ≤ lLen t0 ∧ Inv k v.2.1 v.2.2.1) ∧ (100 - v.2.1).toNat < (100 - t4).toNat) (fun o : (Bool × Unit) ⊕ Unit => match o with | .inl o => o.1 = true | .inr o => True)) := by
        refine Runs.bind (f6_l40_t hk t0 t4 s30 (by omega) st.cid) fun o ho => ?_
        subst ho
        refine Runs.bind (f6_l50_t hk t0 t4 s30 (show (oFin now).length ≤ 1000 by omega) (show (oFin was).length ≤ 1000 by omega) st.fin) fun o ho => ?_
        subst ho
        show Runs (some (Sum.inl (t0, w64 (t4 + 1), s30, ()))) _
        rw [e1]
        exact go s30 hI29
      cases hdw : oDel was with
      | true =>
        rw [st.del hdw]
        exact tail
      | false => exact tail
    refine Runs.cond (fun h30 => ?_) fun _ => rest
    have h30' : e30 = 0 := by simpa using h30
    refine Runs.bind (f13_t hk (show (oFam now).length ≤ 1000 by have := (hI29.get (hnow h30')).1.shape.fam; omega)) fun r31 h31 => Runs.cond (fun h => ?_) fun _ => rest
    have := h31.2 (hI29.get (hnow h30')).1
    rw [this] at h
    cases h
  obtain ⟨r, e, hr⟩ := main
  rw [e, hr]
end Go.Proofs.YtpffibjemegioaaGreatDoor.Keeps
