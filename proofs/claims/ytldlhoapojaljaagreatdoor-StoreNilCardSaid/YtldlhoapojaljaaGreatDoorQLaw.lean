/-
  StoreNil: the plain law.
-/
import Derived.Test.YtldlhoapojaljaaGreatDoorQPlain
import Derived.Test.YtldlhoapojaljaaGreatDoorQD
import Derived.KernelRfl
set_option linter.unusedVariables false
namespace Go.Proofs.YtldlhoapojaljaaGreatDoor
open Go Go.PB

abbrev Pr := ByteArray × ByteArray × Unit
def zP : Pr := (sNil, sNil, ())
theorem lAtP (l : List Pr) (i : Nat) : lAt (.agg (.pair .str (.pair .str .unit))) l (i : Int) = l.getD i zP := rfl
theorem lAtS (l : List ByteArray) (i : Nat) : lAt .str l (i : Int) = l.getD i sNil := rfl

/-! ## What is long -/
def Tot (x : Option Bool) (p : Prop) : Prop := ∃ r, x = some r ∧ (r = false → p)

theorem Tot.ite {b : Bool} {x : Option Bool} {p q : Prop} (hb : b = false → q) (h : q → Tot x p) : Tot (bif b then some true else x) (q ∧ p) := by
  cases hc : b with
  | true => exact ⟨true, rfl, by simp⟩
  | false =>
    obtain ⟨r, h1, h2⟩ := h (hb hc)
    exact ⟨r, h1, fun h => ⟨hb hc, h2 h⟩⟩
theorem Tot.bind {x y : Option Bool} {p q : Prop} (h : Tot x p) (h' : p → Tot y q) : Tot (x.bind fun r => bif r then some true else y) (p ∧ q) := by
  obtain ⟨r, rfl, h2⟩ := h
  cases r with
  | true => exact ⟨true, rfl, by simp⟩
  | false =>
    obtain ⟨r', h3, h4⟩ := h' (h2 rfl)
    exact ⟨r', h3, fun h => ⟨h2 rfl, h4 h⟩⟩
theorem Tot.last {x : Option Bool} {p : Prop} (h : Tot x p) : Tot (x.bind fun r => some r) p := by
  obtain ⟨r, rfl, h2⟩ := h; exact ⟨r, rfl, h2⟩

theorem len_gt {α : Type} {l : List α} (h : decide (lLen l > 40) = false) : l.length ≤ 40 := by
  unfold lLen at h; simp at h; omega

theorem f18_tot {k : Nat} (hk : 40 < k) (l : List Pr) : Tot (f18 k l) (l.length ≤ 40) := by
  unfold f18
  cases hc : decide (lLen l > 40) with
  | true => exact ⟨true, rfl, by simp⟩
  | false =>
    have hl := len_gt hc
    have h := iter_all (step := f18_s8_u k) (k := k) (fun i => (l, (i : Int), ())) (good := .inr ()) (bad := .inl (true, ())) (fun i => !(decide (sLen (l.getD i zP).1 > 200)) && !(decide (sLen (l.getD i zP).2.1 > 200))) l.length (fun i hi => by
      show f18_s8 k l i = _
      unfold f18_s8
      rw [lt_l hi, cond_true, rangeK_l hi, rangeK_l hi, lAtP]
      cases decide (sLen (l.getD i zP).1 > 200) <;> cases decide (sLen (l.getD i zP).2.1 > 200) <;> simp [next_l i _ hi (by omega)]) (by
      show f18_s8 k l l.length = _
      unfold f18_s8
      simp [lLen]) (by omega)
    have h' : f18_l8 k l 0 = _ := h
    rw [h']
    cases allN (fun i => !(decide (sLen (l.getD i zP).1 > 200)) && !(decide (sLen (l.getD i zP).2.1 > 200))) l.length with
    | true => exact ⟨false, by simp, fun _ => hl⟩
    | false => exact ⟨true, by simp, fun _ => hl⟩

theorem f19_tot {k : Nat} (hk : 40 < k) (l : List ByteArray) : Tot (f19 k l) (l.length ≤ 40) := by
  unfold f19
  cases hc : decide (lLen l > 40) with
  | true => exact ⟨true, rfl, by simp⟩
  | false =>
    have hl := len_gt hc
    have h := iter_all (step := f19_s8_u k) (k := k) (fun i => (l, (i : Int), ())) (good := .inr ()) (bad := .inl (true, ())) (fun i => !(decide (sLen (l.getD i sNil) > 600))) l.length (fun i hi => by
      show f19_s8 k l i = _
      unfold f19_s8
      rw [lt_l hi, cond_true, rangeK_l hi, lAtS]
      cases decide (sLen (l.getD i sNil) > 600) <;> simp [next_l i _ hi (by omega)]) (by
      show f19_s8 k l l.length = _
      unfold f19_s8
      simp [lLen]) (by omega)
    have h' : f19_l8 k l 0 = _ := h
    rw [h']
    cases allN (fun i => !(decide (sLen (l.getD i sNil) > 600))) l.length with
    | true => exact ⟨false, by simp, fun _ => hl⟩
    | false => exact ⟨true, by simp, fun _ => hl⟩

theorem f5_tot {k : Nat} (hk : 40 < k) (a : cO) : ∃ r, f5 k a = some r := by
  unfold f5
  obtain ⟨r, h1, h2⟩ := Tot.ite (b := decide ((w64 ((w64 ((w64 ((w64 ((w64 ((w64 ((sLen a.2.1) + (sLen a.2.2.2.2.2.2.2.2.1))) + (sLen a.2.2.2.2.2.2.2.2.2.2.2.2.2.1))) + (sLen a.2.2.2.2.2.2.2.2.2.2.2.2.2.2.1))) + (sLen a.2.2.2.2.2.2.2.2.2.2.2.2.2.2.2.2.1))) + (sLen a.2.2.2.2.2.2.2.2.2.2.2.2.2.2.2.2.2.1))) + (sLen a.2.2.2.2.2.2.2.2.2.2.2.2.2.2.2.2.2.2.1))) > 5000)) (q := True) (fun _ => trivial) fun _ =>
    Tot.ite (b := decide (lLen a.2.2.2.2.2.2.2.2.2.2.2.1 > 40)) len_gt fun _ => Tot.bind (f18_tot hk a.2.2.2.2.2.2.1) fun _ => Tot.bind (f19_tot hk a.2.2.2.2.2.1) fun _ => Tot.bind (f19_tot hk a.2.2.2.2.2.2.2.1) fun _ => Tot.last (f19_tot hk a.2.2.2.2.2.2.2.2.2.2.2.2.1)
  exact ⟨r, h1⟩

/-- A store that is not there has nothing. -/
theorem f3_true {k : Nat} (hk : 40 < k) (hk' : k ≤ 1000000) (h4 : f4 k = some true) (a : cO) (n : Int) : f3 k a n = some true := by
  unfold f3
  rw [h4]
  obtain ⟨r, h1⟩ := f5_tot hk a
  simp only [Option.bind_some, Bool.not_true, cond_false, h1]
  cases r with
  | true => rfl
  | false =>
    clear h1 h4 hk hk'
    kernel_rfl

end Go.Proofs.YtldlhoapojaljaaGreatDoor

namespace Go.Proofs.YtldlhoapojaljaaGreatDoor
open Go Go.RowKit Go.PB
theorem awake_true : f4 60 = some true := by kernel_rfl
end Go.Proofs.YtldlhoapojaljaaGreatDoor
