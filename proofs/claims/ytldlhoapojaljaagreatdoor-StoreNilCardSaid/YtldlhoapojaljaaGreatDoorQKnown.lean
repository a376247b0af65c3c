/-
  Library functions at this program.
-/
import Derived.Test.YtldlhoapojaljaaGreatDoorQD
import Derived.Test.YtldlhoapojaljaaGreatDoorQShelf
import Derived.Shelf.RegionOpenPlain
import Derived.WalkKit
import Derived.Lib.Walk
import Derived.Lib.SliceRun
import Derived.Laws.Externs
import Derived.Shelf.SlicesE.Clone
set_option linter.unusedVariables false
namespace Go.Proofs.YtldlhoapojaljaaGreatDoor
open Go Go.RowKit Go.PB
structure Kz (w : World) : Prop where
  shape : w.ShapedOpen Tryz.prog
theorem kz_below {w w' : World} (hb : Below w.heap.size w w') (h : Kz w) : Kz w' := ⟨h.shape.keptBut (keptBut_of_below hb) (fun _ hp => hp.elim)⟩
end Go.Proofs.YtldlhoapojaljaaGreatDoor

set_option linter.unusedSimpArgs false
namespace Go.Proofs.YtldlhoapojaljaaGreatDoor
open Go Go.PB Go.RowKit Go.Lib

theorem clone_of {P : Program} {G : Gv} {f : FuncId} {t : Ty} {E k : Nat} (hk : t.width = k) (hv : t.isVal = true) (hr : t.refs = false) (hen : PB.Enters P f)
    (hnil : ∀ (c : Nat) (w : World), Calls P f #[.slice none 0 c] w fun e w' => e = .returned (.slice none 0 0) ∧ w' = w)
    (hzero : ∀ (a : Addr) (c : Nat) (w : World), Calls P f #[.slice (some a) 0 c] w fun e w' => ∃ v', e = .returned v' ∧ w'.ownsRow w.heap.size E k v' 0 [] ∧ v' ≠ .slice none 0 0 ∧ Below w.heap.size w w')
    (hrun : ∀ (b o c : Nat) (l : List t.C) (cc : List Value) (w : World) (ok : Nat → Prop), l.length ≤ 1000000 → RowC (Cells w ok t) l cc → (∀ j u, cc[j]? = some u → w.cell? ⟨b, o + j, none⟩ = some u) →
      Calls P f #[.slice (some ⟨b, o, none⟩) l.length c] w fun e w' => ∃ v', e = .returned v' ∧ w'.ownsRow w.heap.size E k v' l.length cc ∧ v' ≠ .slice none 0 0 ∧ Below w.heap.size w w') :
    EntOk P G { f := f, inp := [.data (.list t)], out := [.own t], run := fun v => cloneRun v.1 } := by
  refine ⟨hen, fun v r hr' => ?_⟩
  obtain ⟨l, u⟩ := v
  simp only [cloneRun] at hr'
  split at hr'
  · rename_i hbig
    obtain rfl := Option.some.inj hr'
    show PureCall P G f [.data (.list t) l] [.own t l]
    intro w ok vals hG hok ⟨v1, vs1, e1, h1, e2⟩
    have e2' : vs1 = [] := e2
    subst e2'
    have hv1 : vals = #[v1] := by rw [← Array.toArray_toList (xs := vals), e1]
    subst hv1
    obtain ⟨A, c, rfl, hc, hx⟩ := DVal.list_inv (t := t) h1
    have fin : ∀ (cc : List Value) (v' : Value) (w' : World), RowC (Cells w ok t) l cc → w'.ownsRow w.heap.size E k v' l.length cc → v' ≠ .slice none 0 0 → Below w.heap.size w w' →
        ∃ vs gs, Ending.returned v' = .returned (tupleOf vs) ∧ Below w.heap.size w w' ∧ ResList w' (fun b => (ok b ∨ (w.heap.size ≤ b ∧ b < w'.heap.size)) ∧ b ∉ gs) w.heap.size [.own t l] vs gs := by
      intro cc v' w' hrc ⟨hl, ho⟩ hne hb
      rcases ho with ⟨e, _⟩ | ⟨g, cap, cur, e, hg, hrow, hcap, _, hsz, htk⟩
      · exact absurd e hne
      · refine ⟨[v'], [g], rfl, hb, v', [], rfl, hv, .inr ⟨g, cap, cur, E, cc, cur.toList.drop (l.length * k), [], rfl, by simp, hg, e, hrow, by rw [hk]; exact hsz, hcap, by rw [← htk]; simp, RowC.mono (fun x cs hc => Cells.plain t x cs hr hc) l cc hrc, rfl, rfl⟩⟩
    rcases hx with hx | ⟨b, o, cc, hA, _, hrc, hcell⟩
    · subst hx
      cases A with
      | none =>
        refine (hnil c w).mono ?_
        rintro e w' ⟨rfl, rfl⟩
        exact ⟨[_], [], rfl, Below.refl _ _, _, [], rfl, hv, .inl ⟨rfl, rfl, rfl, rfl⟩⟩
      | some a =>
        refine (hzero a c w).mono ?_
        rintro e w' ⟨v', rfl, h1, h2, h3⟩
        exact fin [] v' w' rfl h1 h2 h3
    · subst hA
      refine (hrun b o c l cc w ok hbig hrc hcell).mono ?_
      rintro e w' ⟨v', rfl, h1, h2, h3⟩
      exact fin cc v' w' hrc h1 h2 h3
  · simp at hr'

/-! ## Texts -/
theorem rowC_strs_eq {w : World} {ok : Nat → Prop} : ∀ {l : List ByteArray} {cc : List Value}, RowC (Cells w ok .str) l cc → cc = l.map Value.string
  | [], cc, h => h
  | x :: l, _, ⟨c1, c2, e, h1, h2⟩ => by
    have h1' : c1 = [.string x] := h1
    subst e; subst h1'
    rw [rowC_strs_eq h2]; rfl

theorem rowC_ints_eq {w : World} {ok : Nat → Prop} : ∀ {l : List Int} {cc : List Value}, RowC (Cells w ok (.int .i64)) l cc → cc = l.map (Value.int .i64)
  | [], cc, h => h
  | x :: l, _, ⟨c1, c2, e, h1, h2⟩ => by
    have h1' : c1 = [.int .i64 x] := h1
    subst e; subst h1'
    rw [rowC_ints_eq h2]; rfl

theorem f49_cy : Tryz.f49.body.isSome = true := by kernel_rfl
theorem f49_cz : (Tryz.f49.name == "runtime.NumGoroutine") = false := by kernel_rfl
theorem f49_clone {G : Gv} : EntOk Tryz.prog G { f := 49, inp := [.data (.list .str)], out := [.own .str], run := fun v => cloneRun v.1 } :=
  clone_of (t := .str) (E := 9) (k := 1) rfl rfl rfl ⟨_, Tryz.func49, f49_cy, f49_cz⟩ (fun c w => Tryz.slices_Clone_string_nil 0 c w) (fun a c w => Tryz.slices_Clone_string_zero a c w)
    (fun b o c l cc w ok hbig hrc hcell => by
      have e := rowC_strs_eq hrc
      subst e
      have := Tryz.slices_Clone_string b o l.length c l w (Nat.le_refl _) (by omega) (fun j hj => hcell j _ (by rw [List.getElem?_map, List.getElem?_eq_getElem hj, List.getD_eq_getElem?_getD, List.getElem?_eq_getElem hj]; rfl))
      rw [List.take_length] at this
      exact this)

theorem f51_cy : Tryz.f51.body.isSome = true := by kernel_rfl
theorem f51_cz : (Tryz.f51.name == "runtime.NumGoroutine") = false := by kernel_rfl
theorem f51_clone {G : Gv} : EntOk Tryz.prog G { f := 51, inp := [.data (.list (.int .i64))], out := [.own (.int .i64)], run := fun v => cloneRun v.1 } :=
  clone_of (t := .int .i64) (E := 3) (k := 1) rfl rfl rfl ⟨_, Tryz.func51, f51_cy, f51_cz⟩ (fun c w => Tryz.slices_Clone_int_nil 0 c w) (fun a c w => Tryz.slices_Clone_int_zero a c w)
    (fun b o c l cc w ok hbig hrc hcell => by
      have e := rowC_ints_eq hrc
      subst e
      have := Tryz.slices_Clone_int b o l.length c l w (Nat.le_refl _) (by omega) (fun j hj => hcell j _ (by rw [List.getElem?_map, List.getElem?_eq_getElem hj, List.getD_eq_getElem?_getD, List.getElem?_eq_getElem hj]; rfl))
      rw [List.take_length] at this
      exact this)

/-! ## Pairs -/
abbrev tPr : Ty := .agg (.pair .str (.pair .str .unit))
theorem infoOk71 : InfoOk Tryz.prog 71 tPr := infoB_ok (by kernel_rfl)
def cloneRen : Go.Shelf.Ren := ⟨fun | 41 => 50 | n => n, fun | 4 => 4 | 22 => 23 | 23 => 71 | n => n, fun n => n⟩
theorem cloneLays : SlLaysE0.n41 Tryz.prog cloneRen := {
  mixed := by kernel_rfl
  f41 := ⟨Tryz.f50.name, by kernel_rfl, Tryz.func50.trans (congrArg some (by kernel_rfl))⟩
  t4 := Tryz.underlying4
  a4 := Tryz.isAgg4
  z4 := Tryz.sizeOf4
  v4 := Tryz.zeroValue4
  t22 := Tryz.underlying23
  a22 := Tryz.isAgg23
  z22 := Tryz.sizeOf23
  v22 := Tryz.zeroValue23 }

set_option maxHeartbeats 2000000 in
set_option maxRecDepth 100000 in
theorem clone_empty (a : Addr) (c : Nat) (w : World) : Calls Tryz.prog 50 #[.slice (some a) 0 c] w fun e w' => e = .returned (.slice (some ⟨w.heap.size, 0, none⟩) 0 0) ∧ w' = w.alloc (.cells #[] 71) := by
  obtain ⟨i0, z, hi, g1, _, g2, hz, g3, _⟩ := infoOk71
  have mixed : Tryz.prog.follows .mixedOrders = true := by kernel_rfl
  have q22 : ∀ (w : World) (a : Option Addr) (n c n' c' : Nat), (binOp .eql 23 (.slice a n c) (.slice none n' c')).run Tryz.prog w = .ok (.bool a.isNone) w := fun w a n c n' c' => Lib.run_eql_slice_nil w _ _ a n c n' c' Tryz.underlying23
  have hrun : ∀ (W : World) ty (N : Nat), (Builtin.append_ #[23, 23] ty #[.slice (some ⟨N, 0, none⟩) 0 0, .slice (some a) 0 c]).run Tryz.prog W = .ok (.slice (some ⟨N, 0, none⟩) 0 0) W := fun W ty N =>
    append_none (P := Tryz.prog) W 23 ty 71 i0 Tryz.underlying23 hi (some ⟨N, 0, none⟩) (by simp) 0 0 (Nat.le_refl _) (some a) c
  go_enter Tryz.func50, Tryz.ntmps50
  go_wp2_with (at_builtin; refine Lib.wpList_append_run _ rfl _ _ _ _ rfl _ _ rfl rfl _ _ (hrun _ _ _) ?_)
  go_ret
  exact ⟨rfl, rfl⟩

theorem f50_cy : Tryz.f50.body.isSome = true := by kernel_rfl
theorem f50_cz : (Tryz.f50.name == "runtime.NumGoroutine") = false := by kernel_rfl
theorem f50_clone {G : Gv} : EntOk Tryz.prog G { f := 50, inp := [.data (.list tPr)], out := [.own tPr], run := fun v => cloneRun v.1 } :=
  clone_of (t := tPr) (E := 71) (k := 2) rfl rfl rfl ⟨_, Tryz.func50, f50_cy, f50_cz⟩ (fun c w => AnyE.slices_Clone_nil cloneLays 0 c w)
    (fun a c w => (clone_empty a c w).mono fun e w' ⟨he, hw⟩ => ⟨_, he, by subst hw; exact ⟨rfl, .inr ⟨w.heap.size, 0, #[], rfl, Nat.le_refl _, Go.heap_alloc_new w _, Nat.le_refl _, by unfold maxLen; omega, rfl, rfl⟩⟩, by simp, by subst hw; exact below_alloc w _⟩)
    (fun b o c l cc w ok hbig hrc hcell => by
      obtain ⟨i0, z, hi, g1, _, g2, hz, g3, _⟩ := infoOk71
      have hzs : z.cells.size = 2 := by
        have := congrArg List.length g3
        simpa [Ty.zcells] using this
      exact AnyE.slices_Clone cloneLays i0 z 2 i0.bytes hi hz g1 rfl hzs (by omega) Tryz.sizeOf71 b o l.length c cc w (RowC.length (fun x cs hc => Cells.length tPr x cs hc) l cc hrc) (by unfold maxLen; omega) (by
        have : l.length * i0.bytes ≤ 1000000 * 4096 := Nat.mul_le_mul hbig g2
        omega) hcell (RowC.one l cc hrc))

end Go.Proofs.YtldlhoapojaljaaGreatDoor
