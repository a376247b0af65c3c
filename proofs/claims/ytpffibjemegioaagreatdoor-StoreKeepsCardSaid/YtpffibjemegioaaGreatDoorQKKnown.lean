/-
  What is known of the world; library functions at this program.
-/
import Derived.Test.YtpffibjemegioaaGreatDoorQKD
import Derived.Test.YtpffibjemegioaaGreatDoorQKShelf
import Derived.Shelf.RegionOpenPlain
import Derived.WalkKit
import Derived.Lib.Walk
import Derived.Lib.SliceRun
import Derived.Laws.Externs
import Derived.Shelf.SlicesE.Clone
import Derived.Test.YtpffibjemegioaaGreatDoorQKPlain
import Derived.Shelf.Strings.SlTrimAscii
import Derived.Shelf.Spec.TrailingZeros
import Derived.Lib.LaidTab
import Derived.LaidLaws
import Derived.Stop.LaidErr
import Derived.Test.YtpffibjemegioaaGreatDoorRows
set_option linter.unusedVariables false
set_option linter.unusedSimpArgs false
namespace Go.Proofs.YtpffibjemegioaaGreatDoor
open Go Go.PB Go.RowKit Go.Lib
theorem clone_of {P : Program} {G : Gv} {f : FuncId} {t : Ty} {E k : Nat} (hk : t.width = k) (hv : t.isVal = true) (hr : t.refs = false) (hen : PB.Enters P f)
    (hnil : ∀ (c : Nat) (w : World), Calls P f #[.slice none 0 c] w fun e w' => e = .returned (.slice none 0 0) ∧ w' = w)
    (hzero : ∀ (a : Addr) (c : Nat) (w : World), Calls P f #[.slice (some a) 0 c] w fun e w' => ∃ v', e = .returned v' ∧ w'.ownsRow w.heap.size E k v' 0 [] ∧ v' ≠ .slice none 0 0 ∧ Below w.heap.size w w')
    (hrun : ∀ (b o c : Nat) (l : List t.C) (cc : List Value) (w : World) (ok : Nat → Prop), l.length ≤ 1000000 → RowC (Cells w ok t) l cc → (∀ j u, cc[j]? = some u → w.cell? ⟨b, o + j, none⟩ = some u) →
      Calls P f #[.slice (some ⟨b, o, none⟩) l.length c] w fun e w' => ∃ v', e = .returned v' ∧ w'.ownsRow w.heap.size E k v' l.length cc ∧ v' ≠ .slice none 0 0 ∧ Below w.heap.size w w') :
    EntOk P G { f := f, inp := [.data (.list t)], out := [.own t], run := fun v => cloneRun v.1 } := by
  refine ⟨hen, fun v r hr' => ?_⟩
  obtain ⟨l, u⟩ := v
  simp only [cloneRun] at hr'
  split at hr'
  · rename_i hbig
    obtain rfl := Option.some.inj hr'
    show PureCall P G f [.data (.list t) l] [.own t l]
    intro w ok vals hG hok ⟨v1, vs1, e1, h1, e2⟩
    have e2' : vs1 = [] := e2
    subst e2'
    have hv1 : vals = #[v1] := by rw [← Array.toArray_toList (xs := vals), e1]
    subst hv1
    obtain ⟨A, c, rfl, hc, hx⟩ := DVal.list_inv (t := t) h1
    have fin : ∀ (cc : List Value) (v' : Value) (w' : World), RowC (Cells w ok t) l cc → w'.ownsRow w.heap.size E k v' l.length cc → v' ≠ .slice none 0 0 → Below w.heap.size w w' →
        ∃ vs gs, Ending.returned v' = .returned (tupleOf vs) ∧ Below w.heap.size w w' ∧ ResList w' (fun b => (ok b ∨ (w.heap.size ≤ b ∧ b < w'.heap.size)) ∧ b ∉ gs) w.heap.size [.own t l] vs gs := by
      intro cc v' w' hrc ⟨hl, ho⟩ hne hb
      rcases ho with ⟨e, _⟩ | ⟨g, cap, cur, e, hg, hrow, hcap, _, hsz, htk⟩
      · exact absurd e hne
      · refine ⟨[v'], [g], rfl, hb, v', [], rfl, hv, .inr ⟨g, cap, cur, E, cc, cur.toList.drop (l.length * k), [], rfl, by simp, hg, e, hrow, by rw [hk]; exact hsz, hcap, by rw [← htk]; simp, RowC.mono (fun x cs hc => Cells.plain t x cs hr hc) l cc hrc, rfl, rfl⟩⟩
    rcases hx with hx | ⟨b, o, cc, hA, _, hrc, hcell⟩
    · subst hx
      cases A with
      | none =>
        refine (hnil c w).mono ?_
        rintro e w' ⟨rfl, rfl⟩
        exact ⟨[_], [], rfl, Below.refl _ _, _, [], rfl, hv, .inl ⟨rfl, rfl, rfl, rfl⟩⟩
      | some a =>
        refine (hzero a c w).mono ?_
        rintro e w' ⟨v', rfl, h1, h2, h3⟩
        exact fin [] v' w' rfl h1 h2 h3
    · subst hA
      refine (hrun b o c l cc w ok hbig hrc hcell).mono ?_
      rintro e w' ⟨v', rfl, h1, h2, h3⟩
      exact fin cc v' w' hrc h1 h2 h3
  · simp at hr'
/-! ## Texts -/
theorem rowC_strs_eq {w : World} {ok : Nat → Prop} : ∀ {l : List ByteArray} {cc : List Value}, RowC (Cells w ok .str) l cc → cc = l.map Value.string
  | [], cc, h => h
  | x :: l, _, ⟨c1, c2, e, h1, h2⟩ => by
    have h1' : c1 = [.string x] := h1
    subst e; subst h1'
    rw [rowC_strs_eq h2]; rfl
theorem rowC_ints_eq {w : World} {ok : Nat → Prop} : ∀ {l : List Int} {cc : List Value}, RowC (Cells w ok (.int .i64)) l cc → cc = l.map (Value.int .i64)
  | [], cc, h => h
  | x :: l, _, ⟨c1, c2, e, h1, h2⟩ => by
    have h1' : c1 = [.int .i64 x] := h1
    subst e; subst h1'
    rw [rowC_ints_eq h2]; rfl
theorem f64_cy : Tryz.f64.body.isSome = true := by kernel_rfl
theorem f64_cz : (Tryz.f64.name == "runtime.NumGoroutine") = false := by kernel_rfl
theorem f64_clone {G : Gv} : EntOk Tryz.prog G { f := 64, inp := [.data (.list .str)], out := [.own .str], run := fun v => cloneRun v.1 } :=
  clone_of (t := .str) (E := 9) (k := 1) rfl rfl rfl ⟨_, Tryz.func64, f64_cy, f64_cz⟩ (fun c w => Tryz.slices_Clone_string_nil 0 c w) (fun a c w => Tryz.slices_Clone_string_zero a c w)
    (fun b o c l cc w ok hbig hrc hcell => by
      have e := rowC_strs_eq hrc
      subst e
      have := Tryz.slices_Clone_string b o l.length c l w (Nat.le_refl _) (by omega) (fun j hj => hcell j _ (by rw [List.getElem?_map, List.getElem?_eq_getElem hj, List.getD_eq_getElem?_getD, List.getElem?_eq_getElem hj]; rfl))
      rw [List.take_length] at this
      exact this)
theorem f66_cy : Tryz.f66.body.isSome = true := by kernel_rfl
theorem f66_cz : (Tryz.f66.name == "runtime.NumGoroutine") = false := by kernel_rfl
theorem f66_clone {G : Gv} : EntOk Tryz.prog G { f := 66, inp := [.data (.list (.int .i64))], out := [.own (.int .i64)], run := fun v => cloneRun v.1 } :=
  clone_of (t := .int .i64) (E := 3) (k := 1) rfl rfl rfl ⟨_, Tryz.func66, f66_cy, f66_cz⟩ (fun c w => Tryz.slices_Clone_int_nil 0 c w) (fun a c w => Tryz.slices_Clone_int_zero a c w)
    (fun b o c l cc w ok hbig hrc hcell => by
      have e := rowC_ints_eq hrc
      subst e
      have := Tryz.slices_Clone_int b o l.length c l w (Nat.le_refl _) (by omega) (fun j hj => hcell j _ (by rw [List.getElem?_map, List.getElem?_eq_getElem hj, List.getD_eq_getElem?_getD, List.getElem?_eq_getElem hj]; rfl))
      rw [List.take_length] at this
      exact this)
/-! ## Pairs -/
abbrev tPr : Ty := .agg (.pair .str (.pair .str .unit))
theorem infoOk32 : InfoOk Tryz.prog 32 tPr := infoB_ok (by kernel_rfl)
def cloneRen : Go.Shelf.Ren := ⟨fun | 41 => 65 | n => n, fun | 4 => 4 | 22 => 23 | 23 => 32 | n => n, fun n => n⟩
theorem cloneLays : SlLaysE0.n41 Tryz.prog cloneRen := {
  mixed := by kernel_rfl
  f41 := ⟨Tryz.f65.name, by kernel_rfl, Tryz.func65.trans (congrArg some (by kernel_rfl))⟩
  t4 := Tryz.underlying4
  a4 := Tryz.isAgg4
  z4 := Tryz.sizeOf4
  v4 := Tryz.zeroValue4
  t22 := Tryz.underlying23
  a22 := Tryz.isAgg23
  z22 := Tryz.sizeOf23
  v22 := Tryz.zeroValue23 }
set_option maxHeartbeats 2000000 in
set_option maxRecDepth 100000 in
theorem clone_empty (a : Addr) (c : Nat) (w : World) : Calls Tryz.prog 65 #[.slice (some a) 0 c] w fun e w' => e = .returned (.slice (some ⟨w.heap.size, 0, none⟩) 0 0) ∧ w' = w.alloc (.cells #[] 32) := by
  obtain ⟨i0, z, hi, g1, _, g2, hz, g3, _⟩ := infoOk32
  have mixed : Tryz.prog.follows .mixedOrders = true := by kernel_rfl
  have q22 : ∀ (w : World) (a : Option Addr) (n c n' c' : Nat), (binOp .eql 23 (.slice a n c) (.slice none n' c')).run Tryz.prog w = .ok (.bool a.isNone) w := fun w a n c n' c' => Lib.run_eql_slice_nil w _ _ a n c n' c' Tryz.underlying23
  have hrun : ∀ (W : World) ty (N : Nat), (Builtin.append_ #[23, 23] ty #[.slice (some ⟨N, 0, none⟩) 0 0, .slice (some a) 0 c]).run Tryz.prog W = .ok (.slice (some ⟨N, 0, none⟩) 0 0) W := fun W ty N =>
    append_none (P := Tryz.prog) W 23 ty 32 i0 Tryz.underlying23 hi (some ⟨N, 0, none⟩) (by simp) 0 0 (Nat.le_refl _) (some a) c
  go_enter Tryz.func65, Tryz.ntmps65
  go_wp2_with (at_builtin; refine Lib.wpList_append_run _ rfl _ _ _ _ rfl _ _ rfl rfl _ _ (hrun _ _ _) ?_)
  go_ret
  exact ⟨rfl, rfl⟩
theorem f65_cy : Tryz.f65.body.isSome = true := by kernel_rfl
theorem f65_cz : (Tryz.f65.name == "runtime.NumGoroutine") = false := by kernel_rfl
theorem f65_clone {G : Gv} : EntOk Tryz.prog G { f := 65, inp := [.data (.list tPr)], out := [.own tPr], run := fun v => cloneRun v.1 } :=
  clone_of (t := tPr) (E := 32) (k := 2) rfl rfl rfl ⟨_, Tryz.func65, f65_cy, f65_cz⟩ (fun c w => AnyE.slices_Clone_nil cloneLays 0 c w)
    (fun a c w => (clone_empty a c w).mono fun e w' ⟨he, hw⟩ => ⟨_, he, by subst hw; exact ⟨rfl, .inr ⟨w.heap.size, 0, #[], rfl, Nat.le_refl _, Go.heap_alloc_new w _, Nat.le_refl _, by unfold maxLen; omega, rfl, rfl⟩⟩, by simp, by subst hw; exact below_alloc w _⟩)
    (fun b o c l cc w ok hbig hrc hcell => by
      obtain ⟨i0, z, hi, g1, _, g2, hz, g3, _⟩ := infoOk32
      have hzs : z.cells.size = 2 := by
        have := congrArg List.length g3
        simpa [Ty.zcells] using this
      exact AnyE.slices_Clone cloneLays i0 z 2 i0.bytes hi hz g1 rfl hzs (by omega) Tryz.sizeOf32 b o l.length c cc w (RowC.length (fun x cs hc => Cells.length tPr x cs hc) l cc hrc) (by unfold maxLen; omega) (by
        have : l.length * i0.bytes ≤ 1000000 * 4096 := Nat.mul_le_mul hbig g2
        omega) hcell (RowC.one l cc hrc))
end Go.Proofs.YtpffibjemegioaaGreatDoor
namespace Go.Proofs.YtpffibjemegioaaGreatDoor
open Go Go.RowKit Go.PB
theorem var_below {P : Program} {w w' : World} (hb : Below w.heap.size w w') {n : String} {cs : Array Value} (h : w.var? P n = some cs) : w'.var? P n = some cs := by
  unfold World.var? at *
  cases hg : P.globalNamed n with
  | none => simp [hg] at h
  | some g =>
    simp only [hg, Option.bind_some] at h ⊢
    have hlt : g < w.heap.size := by
      rcases Nat.lt_or_ge g w.heap.size with h' | h'
      · exact h'
      · rw [Array.getElem?_eq_none h'] at h; simp at h
    rw [hb.block g hlt]
    exact h
def nameAt (P : Program) (g : Nat) : String := ((P.globals[g]?).map (·.name)).getD default
structure Kz (w : World) : Prop where
  shape : w.ShapedOpen Tryz.prog
  tab : Lib.TabIs Tryz.prog w (nameAt Tryz.prog 3) .u64 Lib.pow10Tab
  syn : ∃ tp p, w.var? Tryz.prog (nameAt Tryz.prog 1) = some #[.iface tp p]
  rng : ∃ tp p, w.var? Tryz.prog (nameAt Tryz.prog 2) = some #[.iface tp p]
  deb : Lib.TabIs Tryz.prog w (nameAt Tryz.prog 7) .u8 (Lib.deBruijn64tab.map fun n : Nat => (n : Int))
theorem kz_below {w w' : World} (hb : Below w.heap.size w w') (h : Kz w) : Kz w' :=
  ⟨h.shape.keptBut (keptBut_of_below hb) (fun _ hp => hp.elim), var_below hb h.tab, let ⟨tp, p, e⟩ := h.syn; ⟨tp, p, var_below hb e⟩, let ⟨tp, p, e⟩ := h.rng; ⟨tp, p, var_below hb e⟩, var_below hb h.deb⟩
theorem bel_grow (w : World) (k : Nat) (os : Array Obj) : Below w.heap.size w (Sort.grow (w.drewN k) os) :=
  ⟨rfl, rfl, rfl, by simp [Sort.grow], fun j hj => by simp [Sort.grow, Array.getElem?_append, hj]⟩
theorem f183_y : (Tryz.f183.body.isSome = true) := by kernel_rfl
theorem f183_z : (Tryz.f183.name == "runtime.NumGoroutine") = false := by kernel_rfl
theorem f183_base : EntOk Tryz.prog (gvOf Kz) { f := 183, inp := [.data (.int .i64)], out := [.data .str], run := fun v => itoaRun v.1 } :=
  itoa_ok ⟨_, Tryz.func183, f183_y, f183_z⟩ fun n h0 h1 w hG =>
    (Any.strconv_Itoa Tryz.laysM171 n h0 h1 w (Eq.mp (congrArg (fun s => Lib.TabIs Tryz.prog w s .u64 Lib.pow10Tab) (by kernel_rfl)) hG.1.tab)).mono fun e w' ⟨he, k, os, hw⟩ => ⟨he, by subst hw; exact bel_grow w k os⟩
theorem f185_y : (Tryz.f185.body.isSome = true) := by kernel_rfl
theorem f185_z : (Tryz.f185.name == "runtime.NumGoroutine") = false := by kernel_rfl
theorem f185_base : EntOk Tryz.prog (gvOf Kz) { f := 185, inp := [.data .str, .data .str], out := [.data .bool], run := fun v => containsRun v.1 v.2.1 } :=
  contains_ok ⟨_, Tryz.func185, f185_y, f185_z⟩ fun s sub w hG hs => Tryz.strings_Contains_shaped s sub w hG.1.shape hs
theorem bel_or {w w' : World} {T : TypeId} (h : w' = w ∨ ∃ t, w' = Lib.bytesWorld w T t) : Below w.heap.size w w' := by
  rcases h with rfl | ⟨t, rfl⟩
  · exact Below.refl _ _
  · exact Lib.bytesWorld_below _ _ _
theorem f182_y : (Tryz.f182.body.isSome = true) := by kernel_rfl
theorem f182_z : (Tryz.f182.name == "runtime.NumGoroutine") = false := by kernel_rfl
theorem f182_base : EntOk Tryz.prog (gvOf Kz) { f := 182, inp := [.data .str], out := [.data (.int .i64), .data .err], run := fun v => atoiRun v.1 } :=
  atoi_ok ⟨_, Tryz.func182, f182_y, f182_z⟩
    (fun s v w hG hs h => (Tryz.strconv_Atoi_ok s (by omega) v h w).mono fun e w' ⟨he, hw⟩ => ⟨he, bel_or hw⟩)
    (fun s w hG hs h => by
      obtain ⟨tp, p, hv⟩ := hG.1.rng
      exact (Any.strconv_Atoi_range_var Tryz.laysC172 s hs h tp p w (Eq.trans (congrArg (fun n => w.var? Tryz.prog n) (by kernel_rfl)) hv)).mono fun e w' ⟨N, he, _, _, hb⟩ => ⟨⟨_, _, he⟩, hb⟩)
    (fun s w hG hs h1 h2 => by
      obtain ⟨tp, p, hv⟩ := hG.1.syn
      cases hc : Lib.atoiAll s.data.toList with
      | ok v => exact absurd hc (h1 v)
      | range => exact absurd hc h2
      | _ => exact (Any.strconv_Atoi_syntax_var Tryz.laysC172 s hs hc tp p w (Eq.trans (congrArg (fun n => w.var? Tryz.prog n) (by kernel_rfl)) hv)).mono fun e w' ⟨N, he, _, _, hb⟩ => ⟨⟨_, _, he⟩, hb⟩)
theorem bel_or1 {w w' : World} {T : TypeId} {t : ByteArray} (h : w' = w ∨ w' = Lib.bytesWorld w T t) : Below w.heap.size w w' := bel_or (T := T) (h.imp id fun e => ⟨t, e⟩)
theorem f246_y : (Tryz.f246.body.isSome = true) := by kernel_rfl
theorem f246_z : (Tryz.f246.name == "runtime.NumGoroutine") = false := by kernel_rfl
theorem f246_byte : EntOk Tryz.prog (gvOf Kz) { f := 246, inp := [.data .str, .data (.int .i64), .data (.int .i64)], out := [.data (.int .u64), .data .err], run := fun v => uint8Run v.1 v.2.1 v.2.2.1 } :=
  uint8_ok ⟨_, Tryz.func246, f246_y, f246_z⟩
    (fun s v w hG hs h => (Tryz.strconv_ParseUint_10_at8_ok s (by omega) v h w).mono fun e w' ⟨he, hw⟩ => ⟨he, bel_or1 hw⟩)
    (fun s w hG hs h => by
      obtain ⟨tp, p, hv⟩ := hG.1.rng
      exact (Any.strconv_ParseUint_10_at8_range_var Tryz.laysPu14 s hs h tp p w (Eq.trans (congrArg (fun n => w.var? Tryz.prog n) (by kernel_rfl)) hv)).mono fun e w' ⟨N, he, _, _, hb⟩ => ⟨⟨_, _, he⟩, hb⟩)
    (fun s w hG hs h1 h2 => by
      obtain ⟨tp, p, hv⟩ := hG.1.syn
      cases hc : Lib.parseUintB 8 s.data.toList with
      | ok v => exact absurd hc (h1 v)
      | range => exact absurd hc h2
      | _ => exact (Any.strconv_ParseUint_10_at8_syntax_var Tryz.laysPu14 s hs hc tp p w (Eq.trans (congrArg (fun n => w.var? Tryz.prog n) (by kernel_rfl)) hv)).mono fun e w' ⟨N, he, _, _, hb⟩ => ⟨⟨_, _, he⟩, hb⟩)
/-! ## Numbers of bits -/
def Tryz.lays7n29_ren : Go.Shelf.Ren := ⟨fun | 29 => 327 | n => n, fun | 22 => 125 | 25 => 211 | 54 => 338 | n => n, fun | 1 => 7 | n => n⟩
theorem Tryz.lays7n29 : Go.Proofs.Lays7.n29 Tryz.prog Tryz.lays7n29_ren := {
  mixed := by kernel_rfl
  f29 := Tryz.func327.trans (congrArg some (by kernel_rfl))
  t0 := Tryz.underlying0
  a0 := Tryz.isAgg0
  z0 := Tryz.sizeOf0
  v0 := Tryz.zeroValue0
  i0 := by kernel_rfl
  t3 := Tryz.underlying3
  a3 := Tryz.isAgg3
  z3 := Tryz.sizeOf3
  v3 := Tryz.zeroValue3
  i3 := by kernel_rfl
  t4 := Tryz.underlying4
  a4 := Tryz.isAgg4
  z4 := Tryz.sizeOf4
  v4 := Tryz.zeroValue4
  i4 := by kernel_rfl
  t5 := Tryz.underlying5
  a5 := Tryz.isAgg5
  z5 := Tryz.sizeOf5
  v5 := Tryz.zeroValue5
  i5 := by kernel_rfl
  t22 := Tryz.underlying125
  a22 := Tryz.isAgg125
  z22 := Tryz.sizeOf125
  v22 := Tryz.zeroValue125
  i22 := by kernel_rfl
  t25 := Tryz.underlying211
  a25 := Tryz.isAgg211
  z25 := Tryz.sizeOf211
  v25 := Tryz.zeroValue211
  i25 := by kernel_rfl
  t54 := Tryz.underlying338
  a54 := Tryz.isAgg338
  z54 := Tryz.sizeOf338
  g1 := by kernel_rfl }
theorem int_entry {P : Program} {G : Gv} {f : FuncId} {a b : IntKind} {F : Int → Option Int} (hen : PB.Enters P f)
    (h : ∀ x r, F x = some r → ∀ w, G w → Calls P f #[.int a x] w fun e w' => e = .returned (.int b r) ∧ w' = w) :
    EntOk P G { f := f, inp := [.data (.int a)], out := [.data (.int b)], run := fun v => F v.1 } := by
  refine ⟨hen, fun v r hr => ?_⟩
  obtain ⟨n, u⟩ := v
  intro w ok vals hG hok ⟨v1, vs1, e1, h1, e2⟩
  subst e2
  have hv : vals = #[v1] := by rw [← Array.toArray_toList (xs := vals), e1]
  subst hv
  have h1' := DVal.int_inv h1
  subst h1'
  refine (h n r hr w hG).mono ?_
  rintro e w' ⟨rfl, rfl⟩
  exact ⟨[_], [], rfl, Below.refl _ _, _, _, rfl, dval_int _ _ _ _, rfl, rfl⟩
theorem f234_y : (Tryz.f234.body.isSome = true) := by kernel_rfl
theorem f234_z : (Tryz.f234.name == "runtime.NumGoroutine") = false := by kernel_rfl
theorem f234_base {G : Gv} (k : Nat) : EntOk Tryz.prog G (f234_e k) :=
  int_entry (F := f234 k) ⟨_, Tryz.func234, f234_y, f234_z⟩ fun x r hr w _ => by
    unfold f234 at hr
    split at hr
    · rename_i hx
      obtain rfl := Option.some.inj hr
      exact Tryz.bits_Len64 x w hx.1 hx.2
    · simp at hr
theorem f327_y : (Tryz.f327.body.isSome = true) := by kernel_rfl
theorem f327_z : (Tryz.f327.name == "runtime.NumGoroutine") = false := by kernel_rfl
theorem f327_base (k : Nat) : EntOk Tryz.prog (gvOf Kz) (f327_e k) :=
  int_entry (F := f327 k) ⟨_, Tryz.func327, f327_y, f327_z⟩ fun x r hr w hG => by
    unfold f327 at hr
    split at hr
    · rename_i hx
      obtain rfl := Option.some.inj hr
      subst hx
      have hT : TabAt (Tryz.lays7n29_ren.g 1) Lib.deBruijn64tab w := fun j hj => by
        have := Lib.TabIs.cell hG.1.deb (by kernel_rfl : Tryz.prog.globalNamed (nameAt Tryz.prog 7) = some 7) j (by rw [List.length_map]; exact hj)
        rw [show (Lib.deBruijn64tab.map fun n : Nat => (n : Int)).getD j 0 = ((Lib.deBruijn64tab.getD j 0 : Nat) : Int) from by
          rw [List.getD_eq_getElem?_getD, List.getD_eq_getElem?_getD, List.getElem?_map]
          cases Lib.deBruijn64tab[j]? <;> rfl] at this
        exact this
      have h := Any7.bits_TrailingZeros64 Tryz.lays7n29 16 (by omega) w (fun _ => hT)
      exact h.mono fun e w' ⟨he, hw⟩ => ⟨he, hw⟩
    · simp at hr
/-! ## All, at what is known -/
section
variable {G : Gv}
theorem f143_y : (Tryz.f143.body.isSome = true) := by kernel_rfl
theorem f143_z : (Tryz.f143.name == "runtime.NumGoroutine") = false := by kernel_rfl
theorem f143_all (hK : ∀ w, G w → Kz w) (hL : Lasting G) (k : Nat) : EntOk Tryz.prog G (f143_e k) := EntOk.weaken (G := gvOf fun w => w.ShapedOpen Tryz.prog) (fun w h => ⟨(hK w h).shape, Nat.zero_le _⟩) (split_ok ⟨_, Tryz.func143, f143_y, f143_z⟩ Tryz.strings_Split_shaped)
theorem f181_y : (Tryz.f181.body.isSome = true) := by kernel_rfl
theorem f181_z : (Tryz.f181.name == "runtime.NumGoroutine") = false := by kernel_rfl
theorem f181_all (hK : ∀ w, G w → Kz w) (hL : Lasting G) (k : Nat) : EntOk Tryz.prog G (f181_e k) := EntOk.weaken (G := gvOf fun w => w.ShapedOpen Tryz.prog) (fun w h => ⟨(hK w h).shape, Nat.zero_le _⟩) (cut_ok ⟨_, Tryz.func181, f181_y, f181_z⟩ Tryz.strings_Cut_shaped)
theorem f199_y : (Tryz.f199.body.isSome = true) := by kernel_rfl
theorem f199_z : (Tryz.f199.name == "runtime.NumGoroutine") = false := by kernel_rfl
theorem f199_all (hK : ∀ w, G w → Kz w) (hL : Lasting G) (k : Nat) : EntOk Tryz.prog G (f199_e k) := join_ok ⟨_, Tryz.func199, f199_y, f199_z⟩ Tryz.strings_Join_none Tryz.strings_Join
theorem f197_y : (Tryz.f197.body.isSome = true) := by kernel_rfl
theorem f197_z : (Tryz.f197.name == "runtime.NumGoroutine") = false := by kernel_rfl
theorem f197_all (hK : ∀ w, G w → Kz w) (hL : Lasting G) (k : Nat) : EntOk Tryz.prog G (f197_e k) := EntOk.weaken (G := gvOf fun w => w.ShapedOpen Tryz.prog) (fun w h => ⟨(hK w h).shape, Nat.zero_le _⟩) (trim_ok ⟨_, Tryz.func197, f197_y, f197_z⟩ (Any.strings_Trim_laid Tryz.lays160 (by kernel_rfl)))
theorem f183_all (hK : ∀ w, G w → Kz w) (hL : Lasting G) (k : Nat) : EntOk Tryz.prog G (f183_e k) := EntOk.weaken (G := gvOf Kz) (fun w h => ⟨hK w h, Nat.zero_le _⟩) f183_base
theorem f182_all (hK : ∀ w, G w → Kz w) (hL : Lasting G) (k : Nat) : EntOk Tryz.prog G (f182_e k) := EntOk.weaken (G := gvOf Kz) (fun w h => ⟨hK w h, Nat.zero_le _⟩) f182_base
theorem f185_all (hK : ∀ w, G w → Kz w) (hL : Lasting G) (k : Nat) : EntOk Tryz.prog G (f185_e k) := EntOk.weaken (G := gvOf Kz) (fun w h => ⟨hK w h, Nat.zero_le _⟩) f185_base
theorem f234_all (hK : ∀ w, G w → Kz w) (hL : Lasting G) (k : Nat) : EntOk Tryz.prog G (f234_e k) := f234_base k
theorem f327_all (hK : ∀ w, G w → Kz w) (hL : Lasting G) (k : Nat) : EntOk Tryz.prog G (f327_e k) := EntOk.weaken (G := gvOf Kz) (fun w h => ⟨hK w h, Nat.zero_le _⟩) (f327_base k)
theorem f64_all (hK : ∀ w, G w → Kz w) (hL : Lasting G) (k : Nat) : EntOk Tryz.prog G (f64_e k) := f64_clone
theorem f65_all (hK : ∀ w, G w → Kz w) (hL : Lasting G) (k : Nat) : EntOk Tryz.prog G (f65_e k) := f65_clone
theorem f66_all (hK : ∀ w, G w → Kz w) (hL : Lasting G) (k : Nat) : EntOk Tryz.prog G (f66_e k) := f66_clone
theorem f246_mix (hK : ∀ w, G w → Kz w) (k : Nat) (hp : EntOk Tryz.prog G (f246p_e k)) : EntOk Tryz.prog G (f246_e k) := by
  have hb := EntOk.weaken (G' := G) (fun w h => (⟨hK w h, Nat.zero_le _⟩ : gvOf Kz w)) f246_byte
  refine ⟨hp.1, fun v r hr => ?_⟩
  have hr' : (if v.2.1 = 10 then uint8Run v.1 v.2.1 v.2.2.1 else f246p k v.1 v.2.1 v.2.2.1) = some r := hr
  split at hr'
  · exact hb.2 v r hr'
  · exact hp.2 v r hr'
end
end Go.Proofs.YtpffibjemegioaaGreatDoor
namespace Go.Proofs.YtpffibjemegioaaGreatDoor
open Go Go.RowKit Go.PB
theorem trod_iface {H : Type} {enc : TypeId × Value → H} {P : Program} {w : World} {b : Nat} {sp : Nat → Bool} {held : Bool} {f : Nat} {t : TypeId} {cs : List Value} {ms : Array (String × TypeId)} {nm : String} {d : DataW H} {p : List MemPlace}
    (hu : P.underlying t = some (.interface ms)) (h : DataW.trod enc P w b sp held f t cs = some (.iface nm d, p)) : ∃ u v, cs = [.iface u v] := by
  cases f with
  | zero => simp [DataW.trod] at h
  | succ n =>
    unfold DataW.trod at h
    rw [hu] at h
    split at h <;> simp_all
theorem var_iface {P : Program} {n nm : String} {d : DataW Unit} {r : List (String × DataW Unit)} {W : World} (h : laidMet P ((n, .iface nm d) :: r) W)
    (hi : ∃ g t ms, P.globalNamed n = some g ∧ (P.globals[g]?).map (·.type) = some t ∧ P.underlying t = some (.interface ms)) : ∃ tp p, W.var? P n = some #[.iface tp p] := by
  obtain ⟨ps, ⟨g0, t0, cs0, f0, p0, q0, hg0, ht0, hv0, hd0, _, e0⟩, _, hrows⟩ := h
  obtain ⟨g, t, ms, hg, ht, hu⟩ := hi
  obtain rfl := Option.some.inj (hg.symm.trans hg0)
  obtain rfl := Option.some.inj (ht.symm.trans ht0)
  obtain ⟨u, v, e⟩ := trod_iface hu hd0
  refine ⟨u, v, ?_⟩
  rw [hv0]
  congr 1
  exact Array.toList_inj.1 (by simpa using e)
theorem var_tab {P : Program} {n : String} {d : DataW Unit} {r : List (String × DataW Unit)} {W : World} {k : IntKind} {zs : List Int} (h : laidMet P ((n, d) :: r) W) (hd : d = Lib.tabData k zs)
    (hi : ∃ g t e m, P.globalNamed n = some g ∧ (P.globals[g]?).map (·.type) = some t ∧ P.underlying t = some (.array m e) ∧ P.underlying e = some (.int k) ∧ P.cellsOf e = 1 ∧ P.cellsOf t = m) : Lib.TabIs P W n k zs := by
  obtain ⟨ps, ⟨g0, t0, cs0, f0, p0, q0, hg0, ht0, hv0, hd0, _, e0⟩, _, hrows⟩ := h
  obtain ⟨g, t, e, m, hg, ht, hu, he, hc1, hc2⟩ := hi
  obtain rfl := Option.some.inj (hg.symm.trans hg0)
  obtain rfl := Option.some.inj (ht.symm.trans ht0)
  subst hd
  have := Lib.cells_of_tab hu he hc1 hc2 hd0
  unfold Lib.TabIs
  rw [hv0]
  congr 1
  exact Array.toList_inj.1 (by simpa using this)
theorem kz_of_laid {W : World} (hs : W.ShapedOpen Tryz.prog) (hL : laidMet Tryz.prog Rows.storeKeepsRow.laid W) : Kz W := by
  have h1 := laidMet.tail hL
  have h2 := laidMet.tail h1
  have h4 := laidMet.tail (laidMet.tail h2)
  have h5 := laidMet.tail h4
  refine ⟨hs, ?_, ?_, ?_, ?_⟩
  · exact Eq.mp (congrArg (fun n => Lib.TabIs Tryz.prog W n .u64 Lib.pow10Tab) (by kernel_rfl)) (var_tab h2 (by kernel_rfl) ⟨3, 331, 125, 20, by kernel_rfl, by kernel_rfl, by kernel_rfl, by kernel_rfl, by kernel_rfl, by kernel_rfl⟩)
  · exact Eq.mp (congrArg (fun n => ∃ tp p, W.var? Tryz.prog n = some #[.iface tp p]) (by kernel_rfl)) (var_iface h5 ⟨1, 188, _, by kernel_rfl, by kernel_rfl, Tryz.underlying188⟩)
  · exact Eq.mp (congrArg (fun n => ∃ tp p, W.var? Tryz.prog n = some #[.iface tp p]) (by kernel_rfl)) (var_iface h4 ⟨2, 188, _, by kernel_rfl, by kernel_rfl, Tryz.underlying188⟩)
  · exact Eq.mp (congrArg (fun n => Lib.TabIs Tryz.prog W n .u8 (Lib.deBruijn64tab.map fun n : Nat => (n : Int))) (by kernel_rfl)) (var_tab h1 (by kernel_rfl) ⟨7, 338, 5, 64, by kernel_rfl, by kernel_rfl, by kernel_rfl, by kernel_rfl, by kernel_rfl, by kernel_rfl⟩)
end Go.Proofs.YtpffibjemegioaaGreatDoor
