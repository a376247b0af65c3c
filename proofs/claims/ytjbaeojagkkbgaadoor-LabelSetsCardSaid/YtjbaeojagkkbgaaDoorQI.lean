/-
  slices.Insert, slices.Clone and slices.Grow at the program's pairs: their walks, and what they are in the table.
-/
import Derived.Test.YtjbaeojagkkbgaaDoorQC
import Derived.Test.YtjbaeojagkkbgaaDoorProg
import Derived.Shelf.RegionOpenPlain
import Derived.WalkKit
import Derived.Lib.Walk
import Derived.Lib.SliceRun
import Derived.Lib.AppendZeros
import Derived.Lib.AppendZerosOnto
import Derived.Lib.Overlaps
import Derived.Laws.Externs
import Derived.Laws.IdiomCopy
import Derived.Laws.CopyRow
import Derived.Shelf.Spec.SlicesInsert
import Derived.Laws.Append
import Derived.Shelf.SlicesE.Clone
set_option linter.unusedVariables false
set_option linter.unusedSimpArgs false
namespace Go.Proofs.YtjbaeojagkkbgaaDoor
open Go Go.PB Go.RowKit Go.Lib

theorem run_copy_rowK {P : Program} (w : World) (dT sT ty elem : TypeId) (k : Nat) (g o dLen dCap : Nat) (a : Addr) (sLen sCap : Nat) (cur : Array Value) (t : TypeId) (cs : List Value)
    (hu : P.underlying dT = some (.slice elem)) (hs : (P.info? elem).map (·.size) = some k)
    (hg : w.heap[g]? = some (.cells cur t (0, 0))) (hn : cs.length = Nat.min sLen dLen * k)
    (hsrc : ∀ j v, cs[j]? = some v → w.cell? (a.add j) = some v) (hfit : o + cs.length ≤ cur.size) (h1 : ∀ v ∈ cs, v.oneCell' = true) :
    (Builtin.copy_ #[dT, sT] ty #[.slice (some ⟨g, o, none⟩) dLen dCap, .slice (some a) sLen sCap]).run P w =
      .ok (goInt (Nat.min sLen dLen)) (w.setRow g (cur.toList.take o ++ cs ++ cur.toList.drop (o + cs.length)).toArray) := by
  have hl := run_loadCells_list (P := P) w a cs hsrc
  have hst := run_storeCells_at P g o t cs 0 cur w hg (by simpa using hfit) h1
  cases hq : P.info? elem with
  | none => simp [hq] at hs
  | some i =>
    have hi : i.size = k := by simpa [hq] using hs
    simp only [hn] at hl hst
    simp [Builtin.copy_, run_underlying hu, Builtin.lenOf, Builtin.firstCells, sizeOf, typeInfo, hq, hi, hn, hl, hst]

theorem size58 : (Tryd.prog.info? 58).map (·.size) = some 2 := by kernel_rfl

set_option maxHeartbeats 4000000 in
set_option maxRecDepth 100000 in
theorem insert_shift (b n c i vb vo vc : Nat) (w : World) (hi : i < n) (hroom : n + 1 ≤ c) (hbig : n ≤ 1000000) (hvb : vb ≠ b) (cur vcur : Array Value) (T vT : TypeId) (x1 x2 : ByteArray)
    (hrow : w.heap[b]? = some (.cells cur T (0, 0))) (hsz : cur.size = c * 2) (hvrow : w.heap[vb]? = some (.cells vcur vT (0, 0)))
    (hvs : ∀ j u, ([.string x1, .string x2] : List Value)[j]? = some u → w.cell? ⟨vb, vo + j, none⟩ = some u) (hone : ∀ v ∈ cur.toList.take (n * 2), v.oneCell' = true) :
    Calls Tryd.prog 52 #[.slice (some ⟨b, 0, none⟩) n c, .int .i64 i, .slice (some ⟨vb, vo, none⟩) 1 vc] w fun e w' =>
      e = .returned (.slice (some ⟨b, 0, none⟩) (n + 1) c) ∧ ∃ cur2 : Array Value, (∀ k, k ≠ b → w'.heap[k]? = w.heap[k]?) ∧ w'.heap[b]? = some (.cells cur2 T (0, 0)) ∧ cur2.size = c * 2 ∧ w'.os = w.os ∧ w'.tape = w.tape ∧ w'.output = w.output ∧ w'.heap.size = w.heap.size ∧
        cur2.toList = cur.toList.take (i * 2) ++ [Value.string x1, Value.string x2] ++ (cur.toList.drop (i * 2)).take ((n - i) * 2) ++ cur.toList.drop ((n + 1) * 2) := by
  have hz2 : ¬ ((i : Int) = (n : Int)) := by omega
  have hw1 : IntKind.i64.wrap ((i : Int) + 1) = (i : Int) + 1 := by rw [IntKind.wrap_i64]; omega
  have hov : ∀ lb cb, (callFunc 72 #[.slice (some ⟨vb, vo, none⟩) 1 vc, .slice (some ⟨b, (i + 1) * 2, none⟩) lb cb]).run Tryd.prog w = .ok (.value (.bool false)) w := fun lb cb => by
    rw [run_callFunc_extern Tryd.func72 (by kernel_rfl) (by kernel_rfl) (by kernel_rfl) (e := Extern.SlicesOverlaps.overlaps #[25, 25] #[4]) (by kernel_rfl),
      Lib.run_overlaps_apart w 25 4 58 Tryd.underlying25 2 Tryd.sizeOf58 ⟨vb, vo, none⟩ ⟨b, (i + 1) * 2, none⟩ 1 vc lb cb hvb vT T vcur.size cur.size (by simp [World.shape?, hvrow]) (by simp [World.shape?, hrow]) (by omega) (frozen_of_row w vb vo vcur vT hvrow) (frozen_of_row w vb vcur.size vcur vT hvrow)]
    rfl
  have hlen : cur.toList.length = c * 2 := by simpa using hsz
  obtain ⟨cs1, hcs1⟩ : ∃ cs1, cs1 = (cur.toList.drop (i * 2)).take ((n - i) * 2) := ⟨_, rfl⟩
  have hl1 : cs1.length = (n - i) * 2 := by rw [hcs1, List.length_take, List.length_drop, hlen]; omega
  have hm1 : Nat.min (n + 1 - i) (n - i) = n - i := by show min _ _ = _; omega
  obtain ⟨cur1, hcur1⟩ : ∃ cur1 : Array Value, cur1 = (cur.toList.take ((i + 1) * 2) ++ cs1 ++ cur.toList.drop ((i + 1) * 2 + cs1.length)).toArray := ⟨_, rfl⟩
  have hcp1 : ∀ ty dc sc, (Builtin.copy_ #[25, 25] ty #[.slice (some ⟨b, (i + 1) * 2, none⟩) (n - i) dc, .slice (some ⟨b, i * 2, none⟩) (n + 1 - i) sc]).run Tryd.prog w.drew = .ok (goInt (((n - i : Nat)) : Int)) (w.drew.setRow b cur1) := fun ty dc sc => by
    rw [hcur1, show (((n - i : Nat)) : Int) = ((Nat.min (n + 1 - i) (n - i) : Nat) : Int) by rw [hm1]]
    exact run_copy_rowK w.drew 25 25 ty 58 2 b ((i + 1) * 2) (n - i) dc ⟨b, i * 2, none⟩ (n + 1 - i) sc cur T cs1 Tryd.underlying25 size58 hrow (by rw [hl1, hm1])
      (fun j v hj => by
        rw [Addr.add_lit, show w.drew.cell? ⟨b, i * 2 + j, none⟩ = w.cell? ⟨b, i * 2 + j, none⟩ from rfl, cell_of_row w b _ cur T _ hrow, ← Array.getElem?_toList]
        rw [hcs1] at hj
        have hlt : j < (n - i) * 2 := by
          have := (List.getElem?_eq_some_iff.1 hj).1
          rw [List.length_take] at this; omega
        rw [List.getElem?_take_of_lt hlt, List.getElem?_drop] at hj
        exact hj)
      (by rw [hl1, hsz]; omega) (fun v hv => by
        refine hone v ?_
        rw [hcs1] at hv
        have : (cur.toList.drop (i * 2)).take ((n - i) * 2) = (cur.toList.take (n * 2)).drop (i * 2) := by
          rw [List.drop_take]; congr 1; omega
        rw [this] at hv
        exact List.mem_of_mem_drop hv)
  obtain ⟨W1, hW1⟩ : ∃ W1, W1 = w.drew.setRow b cur1 := ⟨_, rfl⟩
  rw [← hW1] at hcp1
  have hrow1 : W1.heap[b]? = some (.cells cur1 T (0, 0)) := by rw [hW1]; exact setRow_heap w.drew b cur cur1 T _ hrow
  have hoth1 : ∀ k, k ≠ b → W1.heap[k]? = w.heap[k]? := fun k hk => by rw [hW1]; exact setRow_other w.drew b k cur1 hk
  have hsz1 : cur1.size = c * 2 := by
    rw [hcur1]
    simp only [List.size_toArray, List.length_append, List.length_take, List.length_drop, hlen, hl1]
    omega
  obtain ⟨cur2, hcur2⟩ : ∃ cur2 : Array Value, cur2 = (cur1.toList.take (i * 2) ++ [Value.string x1, Value.string x2] ++ cur1.toList.drop (i * 2 + 2)).toArray := ⟨_, rfl⟩
  obtain ⟨W2, hW2⟩ : ∃ W2, W2 = W1.setRow b cur2 := ⟨_, rfl⟩
  have hm2 : Nat.min 1 (n + 1 - i) = 1 := by show min _ _ = _; omega
  have hcp2 : ∀ ty dc, (Builtin.copy_ #[25, 25] ty #[.slice (some ⟨b, i * 2, none⟩) (n + 1 - i) dc, .slice (some ⟨vb, vo, none⟩) 1 vc]).run Tryd.prog W1 = .ok (goInt 1) W2 := fun ty dc => by
    rw [hW2, hcur2, show (1 : Int) = ((Nat.min 1 (n + 1 - i) : Nat) : Int) by rw [hm2]; rfl]
    exact run_copy_rowK W1 25 25 ty 58 2 b (i * 2) (n + 1 - i) dc ⟨vb, vo, none⟩ 1 vc cur1 T [.string x1, .string x2] Tryd.underlying25 size58 hrow1 (by rw [hm2]; rfl)
      (fun j v hj => by
        rw [Addr.add_lit, World.cell?_of_block (w := w) (hoth1 vb hvb)]
        exact hvs j v hj)
      (by rw [hsz1]; simp; omega) (fun v hv => by simp at hv; rcases hv with rfl | rfl <;> rfl)
  have fin : (∀ k, k ≠ b → W2.heap[k]? = w.heap[k]?) ∧ W2.heap[b]? = some (.cells cur2 T (0, 0)) ∧ cur2.size = c * 2 ∧ W2.os = w.os ∧ W2.tape = w.tape ∧ W2.output = w.output ∧ W2.heap.size = w.heap.size ∧
      cur2.toList = cur.toList.take (i * 2) ++ [Value.string x1, Value.string x2] ++ (cur.toList.drop (i * 2)).take ((n - i) * 2) ++ cur.toList.drop ((n + 1) * 2) := by
    refine ⟨fun k hk => by rw [hW2, setRow_other W1 b k cur2 hk]; exact hoth1 k hk, by rw [hW2]; exact setRow_heap W1 b cur1 cur2 T _ hrow1, ?_, by rw [hW2, hW1]; rfl, by rw [hW2, hW1]; rfl, by rw [hW2, hW1]; rfl, by rw [hW2, hW1]; simp, ?_⟩
    · rw [hcur2]
      have : cur1.toList.length = c * 2 := by simpa using hsz1
      simp only [List.size_toArray, List.length_append, List.length_take, List.length_drop, this, List.length_cons, List.length_nil]
      omega
    · have e1 : cur1.toList = cur.toList.take ((i + 1) * 2) ++ cs1 ++ cur.toList.drop ((i + 1) * 2 + cs1.length) := by rw [hcur1]
      have hA : (cur.toList.take ((i + 1) * 2)).length = (i + 1) * 2 := by rw [List.length_take, hlen]; omega
      have e2 : cur1.toList.take (i * 2) = cur.toList.take (i * 2) := by
        rw [e1, List.append_assoc, List.take_append_of_le_length (by rw [hA]; omega), List.take_take]
        congr 1; omega
      have e3 : cur1.toList.drop (i * 2 + 2) = cs1 ++ cur.toList.drop ((n + 1) * 2) := by
        rw [e1, List.append_assoc, show i * 2 + 2 = (cur.toList.take ((i + 1) * 2)).length by rw [hA]; omega, List.drop_left, hl1]
        congr 2; omega
      rw [hcur2]
      show _ ++ _ ++ _ = _
      rw [e2, e3, hcs1]
      simp [List.append_assoc]
  have hfin : Aside ((∀ k, k ≠ b → W2.heap[k]? = w.heap[k]?) ∧ W2.heap[b]? = some (.cells cur2 T (0, 0)) ∧ cur2.size = c * 2 ∧ W2.os = w.os ∧ W2.tape = w.tape ∧ W2.output = w.output ∧ W2.heap.size = w.heap.size ∧
      cur2.toList = cur.toList.take (i * 2) ++ [Value.string x1, Value.string x2] ++ (cur.toList.drop (i * 2)).take ((n - i) * 2) ++ cur.toList.drop ((n + 1) * 2)) := fin
  clear fin hW2 hW1 hcur2 hcur1 hrow1 hoth1 hsz1 hcs1 hl1 hlen hrow hvrow hone hvs hsz hm1 hm2
  have hb1 : (0 : Int) ≤ (i : Int) + 1 := by omega
  have hin : i ≤ n := by omega
  have htn : ((i : Int) + 1).toNat = i + 1 := by omega
  have hb2 : ¬ (c = i + 1) := by omega
  have hb3 : (i : Int) ≤ (n : Int) + 1 := by omega
  have hb4 : ¬ (c = i) := by omega
  have mixed : Tryd.prog.follows .mixedOrders = true := by kernel_rfl
  go_enter Tryd.func52, Tryd.ntmps52
  go_wp2_with (simp only [hov])
  go_region_law_o (refine step_copy_runI rfl _ _ 25 25 rfl _ _ (by simp [Act.eval, Act.put]) (by simp [Act.eval, Act.put]) (hcp1 _ _ _) ?_)
  go_wp2_with (at_builtin; refine wpList_copy_runI _ rfl _ _ 25 25 rfl _ _ rfl rfl (hcp2 _ _) ?_)
  go_ret
  exact ⟨rfl, _, hfin.out⟩
end Go.Proofs.YtjbaeojagkkbgaaDoor

set_option linter.unusedSimpArgs false
namespace Go.Proofs.YtjbaeojagkkbgaaDoor
open Go Go.PB Go.RowKit Go.Lib

theorem infoOk58 : InfoOk Tryd.prog 58 (.agg (.pair .str (.pair .str .unit))) := infoB_ok (by kernel_rfl)

/-- What the call comes to: the pair stands at i in the row of block b, or in a new one. -/
def InsPost (w : World) (b : Option Nat) (n i : Nat) (old : List Value) (x1 x2 : ByteArray) (e : Ending) (w' : World) : Prop :=
  ∃ (b' c' : Nat) (cs : Array Value) (T : TypeId) (rest : List Value), e = .returned (.slice (some ⟨b', 0, none⟩) (n + 1) c') ∧ (b = some b' ∨ w.heap.size ≤ b') ∧ w'.os = w.os ∧ w'.tape = w.tape ∧ w'.output = w.output ∧ w.heap.size ≤ w'.heap.size ∧
    (∀ k, k < w.heap.size → b ≠ some k → w'.heap[k]? = w.heap[k]?) ∧ w'.heap[b']? = some (.cells cs T (0, 0)) ∧ cs.size = c' * 2 ∧ n + 1 ≤ c' ∧
    cs.toList = old.take (i * 2) ++ [Value.string x1, Value.string x2] ++ old.drop (i * 2) ++ rest

set_option maxHeartbeats 4000000 in
set_option maxRecDepth 100000 in
theorem insert_nil (vb vo vc : Nat) (w : World) (x1 x2 : ByteArray)
    (hvs : ∀ j u, ([.string x1, .string x2] : List Value)[j]? = some u → w.cell? ⟨vb, vo + j, none⟩ = some u) :
    Calls Tryd.prog 52 #[.slice none 0 0, .int .i64 0, .slice (some ⟨vb, vo, none⟩) 1 vc] w (InsPost w none 0 0 [] x1 x2) := by
  obtain ⟨i0, z, hi, h1, _, h2, hz, h3, _⟩ := infoOk58
  have h1' : i0.size = 2 := h1
  have hrun : ∀ ty, (Builtin.append_ #[25, 25] ty #[.slice none 0 0, .slice (some ⟨vb, vo, none⟩) 1 vc]).run Tryd.prog w = _ := fun ty =>
    run_append_nil (P := Tryd.prog) w 25 ty 58 i0 z Tryd.underlying25 hi hz ⟨vb, vo, none⟩ 1 vc [.string x1, .string x2] (by rw [h1']; rfl) (fun j u hj => by rw [Addr.add_lit]; exact hvs j u hj) (by omega) (by omega) (by omega)
  obtain ⟨G, hG⟩ : ∃ G, G = grownCap w 1 0 58 := ⟨_, rfl⟩
  obtain ⟨ROW, hROW⟩ : ∃ ROW : Array Value, ROW = ([Value.string x1, Value.string x2] : List Value).toArray ++ Builtin.zeroCells z.cells (G - 1) := ⟨_, rfl⟩
  obtain ⟨W1, hW1⟩ : ∃ W1, W1 = w.drew.alloc (.cells ROW 58) := ⟨_, rfl⟩
  rw [← hG] at hrun
  rw [← hROW] at hrun
  rw [← hW1] at hrun
  have hzs : z.cells.size = 2 := by
    have := congrArg List.length h3
    simpa [Ty.zcells] using this
  have hfin : Aside (InsPost w none 0 0 [] x1 x2 (.returned (.slice (some ⟨w.heap.size, 0, none⟩) 1 G)) W1) := by
    have hge : 1 ≤ G := by rw [hG]; exact grownCap_ge w 1 0 58
    refine ⟨w.heap.size, G, ROW, 58, (Builtin.zeroCells z.cells (G - 1)).toList, rfl, .inr (Nat.le_refl _), by rw [hW1]; rfl, by rw [hW1]; rfl, by rw [hW1]; rfl, by rw [hW1]; simp, fun k hk _ => by rw [hW1]; exact Go.heap_alloc_old w.drew _ hk, by rw [hW1]; exact Go.heap_alloc_new w.drew _, ?_, by omega, ?_⟩
    · rw [hROW]
      simp only [Array.size_append, List.size_toArray, size_zeroCells, hzs, List.length_cons, List.length_nil]
      omega
    · rw [hROW]; simp
  clear hW1 hROW hG
  have mixed : Tryd.prog.follows .mixedOrders = true := by kernel_rfl
  go_enter Tryd.func52, Tryd.ntmps52
  go_wp2_with (at_builtin; refine Lib.wpList_append_run _ rfl _ _ _ _ rfl _ _ rfl rfl _ _ (hrun _) ?_)
  go_ret
  exact hfin.out

set_option maxHeartbeats 4000000 in
set_option maxRecDepth 100000 in
theorem insert_end_room (b n c vb vo vc : Nat) (w : World) (hroom : n + 1 ≤ c) (hbig : n ≤ 1000000) (cur : Array Value) (T : TypeId) (x1 x2 : ByteArray)
    (hrow : w.heap[b]? = some (.cells cur T (0, 0))) (hsz : cur.size = c * 2)
    (hvs : ∀ j u, ([.string x1, .string x2] : List Value)[j]? = some u → w.cell? ⟨vb, vo + j, none⟩ = some u) :
    Calls Tryd.prog 52 #[.slice (some ⟨b, 0, none⟩) n c, .int .i64 n, .slice (some ⟨vb, vo, none⟩) 1 vc] w (InsPost w (some b) n n (cur.toList.take (n * 2)) x1 x2) := by
  obtain ⟨i0, z, hi, h1, _, h2, hz, h3, _⟩ := infoOk58
  have h1' : i0.size = 2 := h1
  have hrun : ∀ ty, (Builtin.append_ #[25, 25] ty #[.slice (some ⟨b, 0, none⟩) n c, .slice (some ⟨vb, vo, none⟩) 1 vc]).run Tryd.prog w = _ := fun ty =>
    append_room (P := Tryd.prog) w 25 ty 58 i0 Tryd.underlying25 hi b n c cur T hrow ⟨vb, vo, none⟩ 1 vc [.string x1, .string x2] (by rw [h1']; rfl) (fun j u hj => by rw [Addr.add_lit]; exact hvs j u hj) (fun u hu => by simp at hu; rcases hu with rfl | rfl <;> rfl) hroom (by rw [h1', hsz]; simp; omega)
  rw [h1'] at hrun
  obtain ⟨cur1, hcur1⟩ : ∃ cur1 : Array Value, cur1 = (cur.toList.take (n * 2) ++ ([Value.string x1, Value.string x2] : List Value) ++ cur.toList.drop (n * 2 + ([Value.string x1, Value.string x2] : List Value).length)).toArray := ⟨_, rfl⟩
  obtain ⟨W1, hW1⟩ : ∃ W1, W1 = w.setRow b cur1 := ⟨_, rfl⟩
  rw [← hcur1] at hrun
  rw [← hW1] at hrun
  have hlen : cur.toList.length = c * 2 := by simpa using hsz
  have hfin : Aside (InsPost w (some b) n n (cur.toList.take (n * 2)) x1 x2 (.returned (.slice (some ⟨b, 0, none⟩) (n + 1) c)) W1) := by
    refine ⟨b, c, cur1, T, cur.toList.drop (n * 2 + 2), rfl, .inl rfl, by rw [hW1]; rfl, by rw [hW1]; rfl, by rw [hW1]; rfl, by rw [hW1]; simp, fun k hk hne => by rw [hW1]; exact setRow_other w b k cur1 (fun e => hne (by rw [e])), by rw [hW1]; exact setRow_heap w b cur cur1 T _ hrow, ?_, hroom, ?_⟩
    · rw [hcur1]
      simp only [List.size_toArray, List.length_append, List.length_take, List.length_drop, hlen, List.length_cons, List.length_nil]
      omega
    · rw [hcur1]
      have e1 : (cur.toList.take (n * 2)).take (n * 2) = cur.toList.take (n * 2) := by rw [List.take_take]; congr 1; omega
      have e2 : (cur.toList.take (n * 2)).drop (n * 2) = [] := List.drop_eq_nil_of_le (by rw [List.length_take]; omega)
      show _ ++ _ ++ _ = _
      rw [e1, e2, List.append_nil]
      rfl
  clear hW1 hcur1 hlen hsz hrow
  have mixed : Tryd.prog.follows .mixedOrders = true := by kernel_rfl
  go_enter Tryd.func52, Tryd.ntmps52
  go_wp2_with (at_builtin; refine Lib.wpList_append_run _ rfl _ _ _ _ rfl _ _ rfl rfl _ _ (hrun _) ?_)
  go_ret
  exact hfin.out

set_option maxHeartbeats 4000000 in
set_option maxRecDepth 100000 in
theorem insert_end_grow (b n c vb vo vc : Nat) (w : World) (hn : n ≤ c) (hroom : c < n + 1) (hbig : n ≤ 1000000) (cur : Array Value) (T : TypeId) (x1 x2 : ByteArray)
    (hrow : w.heap[b]? = some (.cells cur T (0, 0))) (hsz : cur.size = c * 2)
    (hvs : ∀ j u, ([.string x1, .string x2] : List Value)[j]? = some u → w.cell? ⟨vb, vo + j, none⟩ = some u) :
    Calls Tryd.prog 52 #[.slice (some ⟨b, 0, none⟩) n c, .int .i64 n, .slice (some ⟨vb, vo, none⟩) 1 vc] w (InsPost w (some b) n n (cur.toList.take (n * 2)) x1 x2) := by
  obtain ⟨i0, z, hi, h1, _, h2, hz, h3, _⟩ := infoOk58
  have h1' : i0.size = 2 := h1
  have hlen : cur.toList.length = c * 2 := by simpa using hsz
  have hol : (cur.toList.take (n * 2)).length = n * 2 := by rw [List.length_take]; omega
  have hrun : ∀ ty, (Builtin.append_ #[25, 25] ty #[.slice (some ⟨b, 0, none⟩) n c, .slice (some ⟨vb, vo, none⟩) 1 vc]).run Tryd.prog w = _ := fun ty =>
    run_append_grow (P := Tryd.prog) w 25 ty 58 i0 z Tryd.underlying25 hi hz ⟨b, 0, none⟩ n c (cur.toList.take (n * 2)) (by rw [h1']; exact hol)
      (fun j u hj => by
        rw [Addr.add_lit, Nat.zero_add, cell_of_row w b j cur T _ hrow, ← Array.getElem?_toList]
        have hlt : j < n * 2 := by have := (List.getElem?_eq_some_iff.1 hj).1; omega
        rw [List.getElem?_take_of_lt hlt] at hj; exact hj)
      ⟨vb, vo, none⟩ 1 vc [.string x1, .string x2] (by rw [h1']; rfl) (fun j u hj => by rw [Addr.add_lit]; exact hvs j u hj) (by omega) (by omega) (growslice_fits (by omega) (by
        have : (n + 1) * i0.bytes ≤ 1000001 * 4096 := Nat.mul_le_mul (by omega) h2
        omega))
  obtain ⟨G, hG⟩ : ∃ G, G = grownCap w (n + 1) c 58 := ⟨_, rfl⟩
  rw [← hG] at hrun
  obtain ⟨ROW, hROW⟩ : ∃ ROW : Array Value, ROW = (cur.toList.take (n * 2)).toArray ++ ([Value.string x1, Value.string x2] : List Value).toArray ++ Builtin.zeroCells z.cells (G - (n + 1)) := ⟨_, rfl⟩
  obtain ⟨W1, hW1⟩ : ∃ W1, W1 = w.drew.alloc (.cells ROW 58) := ⟨_, rfl⟩
  rw [← hROW] at hrun
  rw [← hW1] at hrun
  have hzs : z.cells.size = 2 := by
    have := congrArg List.length h3
    simpa [Ty.zcells] using this
  have hfin : Aside (InsPost w (some b) n n (cur.toList.take (n * 2)) x1 x2 (.returned (.slice (some ⟨w.heap.size, 0, none⟩) (n + 1) G)) W1) := by
    have hge : n + 1 ≤ G := by rw [hG]; exact grownCap_ge w (n + 1) c 58
    refine ⟨w.heap.size, G, ROW, 58, (Builtin.zeroCells z.cells (G - (n + 1))).toList, rfl, .inr (Nat.le_refl _), by rw [hW1]; rfl, by rw [hW1]; rfl, by rw [hW1]; rfl, by rw [hW1]; simp, fun k hk _ => by rw [hW1]; exact Go.heap_alloc_old w.drew _ hk, by rw [hW1]; exact Go.heap_alloc_new w.drew _, ?_, hge, ?_⟩
    · rw [hROW]
      simp only [Array.size_append, List.size_toArray, size_zeroCells, hzs, List.length_cons, List.length_nil, hol]
      omega
    · rw [hROW]
      have e1 : (cur.toList.take (n * 2)).take (n * 2) = cur.toList.take (n * 2) := by rw [List.take_take]; congr 1; omega
      have e2 : (cur.toList.take (n * 2)).drop (n * 2) = [] := List.drop_eq_nil_of_le (by rw [hol]; omega)
      rw [e1, e2]
      simp
  clear hW1 hROW hG hlen hsz hrow hol
  have mixed : Tryd.prog.follows .mixedOrders = true := by kernel_rfl
  go_enter Tryd.func52, Tryd.ntmps52
  go_wp2_with (at_builtin; refine Lib.wpList_append_run _ rfl _ _ _ _ rfl _ _ rfl rfl _ _ (hrun _) ?_)
  go_ret
  exact hfin.out

set_option maxHeartbeats 4000000 in
set_option maxRecDepth 100000 in
theorem insert_grow (b n c i vb vo vc : Nat) (w : World) (hi : i < n) (hn : n ≤ c) (hroom : c < n + 1) (hbig : n ≤ 1000000) (cur : Array Value) (T : TypeId) (x1 x2 : ByteArray)
    (hrow : w.heap[b]? = some (.cells cur T (0, 0))) (hsz : cur.size = c * 2) (hone : ∀ v ∈ cur.toList.take (n * 2), v.oneCell' = true)
    (hvs : ∀ j u, ([.string x1, .string x2] : List Value)[j]? = some u → w.cell? ⟨vb, vo + j, none⟩ = some u) :
    Calls Tryd.prog 52 #[.slice (some ⟨b, 0, none⟩) n c, .int .i64 i, .slice (some ⟨vb, vo, none⟩) 1 vc] w (InsPost w (some b) n i (cur.toList.take (n * 2)) x1 x2) := by
  obtain ⟨i0, z, hi0, h1, _, h2, hz, h3, _⟩ := infoOk58
  have h1' : i0.size = 2 := h1
  have hlen : cur.toList.length = c * 2 := by simpa using hsz
  have hbw : b < w.heap.size := lt_of_heap hrow
  have hvw : vb < w.heap.size := block_lt_of_cell (hvs 0 _ rfl)
  have hol : (cur.toList.take (i * 2)).length = i * 2 := by rw [List.length_take]; omega
  have hold : (Builtin.firstCells i0.size i (.slice (some ⟨b, 0, none⟩) i c)).run Tryd.prog w.drew = .ok (cur.toList.take (i * 2)).toArray w.drew := by
    rw [h1']
    exact run_firstCells_some w.drew 2 i ⟨b, 0, none⟩ i c (cur.toList.take (i * 2)) hol (fun j v hj => by
      rw [Addr.add_lit, Nat.zero_add, show w.drew.cell? ⟨b, j, none⟩ = w.cell? ⟨b, j, none⟩ from rfl, cell_of_row w b j cur T _ hrow, ← Array.getElem?_toList]
      have hlt : j < i * 2 := by have := (List.getElem?_eq_some_iff.1 hj).1; omega
      rw [List.getElem?_take_of_lt hlt] at hj; exact hj)
  have hik : i + (n + 1 - i) = n + 1 := by omega
  have hkk : (n : Int) + 1 - (i : Int) = ((n + 1 - i : Nat) : Int) := by omega
  have hrun : ∀ ty, (Builtin.append_ #[25, 3] ty #[.slice (some ⟨b, 0, none⟩) i c, .int .i64 ((n : Int) + 1 - (i : Int))]).run Tryd.prog w =
      .ok (.slice (some ⟨w.heap.size, 0, none⟩) (n + 1) (grownCap w (n + 1) c 58)) (w.drew.alloc (.cells ((cur.toList.take (i * 2)).toArray ++ Builtin.zeroCells z.cells (n + 1 - i) ++ Builtin.zeroCells z.cells (grownCap w (n + 1) c 58 - (n + 1))) 58)) := fun ty => by
    have h := run_append_grow_zeros (P := Tryd.prog) w 25 3 ty 58 i0 z .i64 .i64 Tryd.underlying25 Tryd.underlying3 hi0 hz (some ⟨b, 0, none⟩) i c (cur.toList.take (i * 2)) hold (n + 1 - i) (by omega) (by omega) (by omega) (by omega)
      (by
        have : (n + 1 - i) * i0.bytes ≤ 1000001 * 4096 := Nat.mul_le_mul (by omega) h2
        omega)
      (by
        rw [hik]
        exact growslice_fits (by omega) (by
          have : (n + 1) * i0.bytes ≤ 1000001 * 4096 := Nat.mul_le_mul (by omega) h2
          omega))
    rw [hik] at h
    rw [hkk]
    exact h
  obtain ⟨G, hG⟩ : ∃ G, G = grownCap w (n + 1) c 58 := ⟨_, rfl⟩
  rw [← hG] at hrun
  obtain ⟨ROW, hROW⟩ : ∃ ROW : Array Value, ROW = (cur.toList.take (i * 2)).toArray ++ Builtin.zeroCells z.cells (n + 1 - i) ++ Builtin.zeroCells z.cells (G - (n + 1)) := ⟨_, rfl⟩
  rw [← hROW] at hrun
  obtain ⟨N, hN⟩ : ∃ N, N = w.heap.size := ⟨_, rfl⟩
  obtain ⟨W1, hW1⟩ : ∃ W1, W1 = w.drew.alloc (.cells ROW 58) := ⟨_, rfl⟩
  rw [← hW1, ← hN] at hrun
  have hzs : z.cells.size = 2 := by
    have := congrArg List.length h3
    simpa [Ty.zcells] using this
  have hge : n + 1 ≤ G := by rw [hG]; exact grownCap_ge w (n + 1) c 58
  have hG63 : G ≤ 9223372036854775807 := by
    have := grownCap_le_maxLen w (n + 1) c 58 (by unfold maxLen; omega)
    rw [← hG] at this
    unfold maxLen at this
    omega
  have hRsz : ROW.size = G * 2 := by
    rw [hROW]
    simp only [Array.size_append, List.size_toArray, size_zeroCells, hzs, hol]
    omega
  have hRtake : ROW.toList.take (i * 2) = cur.toList.take (i * 2) := by
    rw [hROW]
    simp only [Array.toList_append, List.append_assoc]
    rw [List.take_append_of_le_length (by show i * 2 ≤ (cur.toList.take (i * 2)).length; omega)]
    exact List.take_of_length_le (by show (cur.toList.take (i * 2)).length ≤ i * 2; omega)
  have hrowN : W1.heap[N]? = some (.cells ROW 58 (0, 0)) := by rw [hW1, hN]; exact Go.heap_alloc_new w.drew _
  have hothN : ∀ k, k < w.heap.size → W1.heap[k]? = w.heap[k]? := fun k hk => by rw [hW1]; exact Go.heap_alloc_old w.drew _ hk
  -- the first copy: the pair
  have hm2 : Nat.min 1 (n + 1 - i) = 1 := by show min _ _ = _; omega
  obtain ⟨cur2, hcur2⟩ : ∃ cur2 : Array Value, cur2 = (ROW.toList.take (i * 2) ++ [Value.string x1, Value.string x2] ++ ROW.toList.drop (i * 2 + 2)).toArray := ⟨_, rfl⟩
  obtain ⟨W2, hW2⟩ : ∃ W2, W2 = W1.setRow N cur2 := ⟨_, rfl⟩
  have hcp1 : ∀ ty dc, (Builtin.copy_ #[25, 25] ty #[.slice (some ⟨N, i * 2, none⟩) (n + 1 - i) dc, .slice (some ⟨vb, vo, none⟩) 1 vc]).run Tryd.prog W1 = .ok (goInt 1) W2 := fun ty dc => by
    rw [hW2, hcur2, show (1 : Int) = ((Nat.min 1 (n + 1 - i) : Nat) : Int) by rw [hm2]; rfl]
    exact run_copy_rowK W1 25 25 ty 58 2 N (i * 2) (n + 1 - i) dc ⟨vb, vo, none⟩ 1 vc ROW 58 [.string x1, .string x2] Tryd.underlying25 size58 hrowN (by rw [hm2]; rfl)
      (fun j v hj => by
        rw [Addr.add_lit, World.cell?_of_block (w := w) (hothN vb hvw)]
        exact hvs j v hj)
      (by rw [hRsz]; simp; omega) (fun v hv => by simp at hv; rcases hv with rfl | rfl <;> rfl)
  have hrow2 : W2.heap[N]? = some (.cells cur2 58 (0, 0)) := by rw [hW2]; exact setRow_heap W1 N ROW cur2 58 _ hrowN
  have hoth2 : ∀ k, k < w.heap.size → W2.heap[k]? = w.heap[k]? := fun k hk => by rw [hW2, setRow_other W1 N k cur2 (by omega)]; exact hothN k hk
  have hRlen : ROW.toList.length = G * 2 := by simpa using hRsz
  have hsz2 : cur2.size = G * 2 := by
    rw [hcur2]
    simp only [List.size_toArray, List.length_append, List.length_take, List.length_drop, hRlen, List.length_cons, List.length_nil]
    omega
  -- the second copy: what stood from i on
  obtain ⟨cs1, hcs1⟩ : ∃ cs1, cs1 = (cur.toList.drop (i * 2)).take ((n - i) * 2) := ⟨_, rfl⟩
  have hl1 : cs1.length = (n - i) * 2 := by rw [hcs1, List.length_take, List.length_drop, hlen]; omega
  have hm1 : Nat.min (n - i) (n - i) = n - i := by show min _ _ = _; omega
  obtain ⟨cur3, hcur3⟩ : ∃ cur3 : Array Value, cur3 = (cur2.toList.take ((i + 1) * 2) ++ cs1 ++ cur2.toList.drop ((i + 1) * 2 + cs1.length)).toArray := ⟨_, rfl⟩
  obtain ⟨W3, hW3⟩ : ∃ W3, W3 = W2.drew.setRow N cur3 := ⟨_, rfl⟩
  have hcp2 : ∀ ty dc sc, (Builtin.copy_ #[25, 25] ty #[.slice (some ⟨N, (i + 1) * 2, none⟩) (n - i) dc, .slice (some ⟨b, i * 2, none⟩) (n - i) sc]).run Tryd.prog W2.drew = .ok (goInt (((n - i : Nat)) : Int)) W3 := fun ty dc sc => by
    rw [hW3, hcur3, show (((n - i : Nat)) : Int) = ((Nat.min (n - i) (n - i) : Nat) : Int) by rw [hm1]]
    exact run_copy_rowK W2.drew 25 25 ty 58 2 N ((i + 1) * 2) (n - i) dc ⟨b, i * 2, none⟩ (n - i) sc cur2 58 cs1 Tryd.underlying25 size58 hrow2 (by rw [hl1, hm1])
      (fun j v hj => by
        rw [Addr.add_lit, show W2.drew.cell? ⟨b, i * 2 + j, none⟩ = W2.cell? ⟨b, i * 2 + j, none⟩ from rfl, World.cell?_of_block (w := w) (hoth2 b hbw), cell_of_row w b _ cur T _ hrow, ← Array.getElem?_toList]
        rw [hcs1] at hj
        have hlt : j < (n - i) * 2 := by
          have := (List.getElem?_eq_some_iff.1 hj).1
          rw [List.length_take] at this; omega
        rw [List.getElem?_take_of_lt hlt, List.getElem?_drop] at hj
        exact hj)
      (by rw [hl1, hsz2]; omega) (fun v hv => by
        refine hone v ?_
        rw [hcs1] at hv
        have : (cur.toList.drop (i * 2)).take ((n - i) * 2) = (cur.toList.take (n * 2)).drop (i * 2) := by
          rw [List.drop_take]; congr 1; omega
        rw [this] at hv
        exact List.mem_of_mem_drop hv)
  have hfin : Aside (InsPost w (some b) n i (cur.toList.take (n * 2)) x1 x2 (.returned (.slice (some ⟨N, 0, none⟩) (n + 1) G)) W3) := by
    refine ⟨N, G, cur3, 58, cur2.toList.drop ((n + 1) * 2), rfl, .inr (by omega), by rw [hW3, hW2, hW1]; rfl, by rw [hW3, hW2, hW1]; rfl, by rw [hW3, hW2, hW1]; rfl, by rw [hW3, hW2, hW1]; simp, fun k hk hne => by rw [hW3, setRow_other W2.drew N k cur3 (by omega)]; exact hoth2 k hk, by rw [hW3]; exact setRow_heap W2.drew N cur2 cur3 58 _ hrow2, ?_, hge, ?_⟩
    · rw [hcur3]
      have : cur2.toList.length = G * 2 := by simpa using hsz2
      simp only [List.size_toArray, List.length_append, List.length_take, List.length_drop, this, hl1]
      omega
    · have e1 : cur2.toList = ROW.toList.take (i * 2) ++ [Value.string x1, Value.string x2] ++ ROW.toList.drop (i * 2 + 2) := by rw [hcur2]
      have hA : (ROW.toList.take (i * 2) ++ [Value.string x1, Value.string x2]).length = (i + 1) * 2 := by
        rw [List.length_append, List.length_take, hRlen]; simp; omega
      have e2 : cur2.toList.take ((i + 1) * 2) = ROW.toList.take (i * 2) ++ [Value.string x1, Value.string x2] := by
        rw [e1, ← hA, List.take_left]
      have e3 : cur2.toList.drop ((i + 1) * 2 + cs1.length) = cur2.toList.drop ((n + 1) * 2) := by rw [hl1]; congr 1; omega
      have e4 : (cur.toList.take (n * 2)).take (i * 2) = cur.toList.take (i * 2) := by rw [List.take_take]; congr 1; omega
      have e5 : (cur.toList.take (n * 2)).drop (i * 2) = cs1 := by rw [hcs1, List.drop_take]; congr 1; omega
      rw [hcur3]
      show _ ++ _ ++ _ = _
      rw [e2, e3, e4, e5, hRtake]
  have hcn : (c : Int) < (n : Int) + 1 := by omega
  have hz2 : ¬ ((i : Int) = (n : Int)) := by omega
  have hGi : ¬ (G = i) := by omega
  have hGim : ¬ (G = i + 1) := by omega
  have hci : ¬ (c = i) := by omega
  have hw1 : IntKind.i64.wrap ((i : Int) + 1) = (i : Int) + 1 := by rw [IntKind.wrap_i64]; omega
  have hb1 : (0 : Int) ≤ (i : Int) + 1 := by omega
  have hin : i ≤ n := by omega
  have htn : ((i : Int) + 1).toNat = i + 1 := by omega
  have hb3 : (i : Int) ≤ (n : Int) := by omega
  have mixed : Tryd.prog.follows .mixedOrders = true := by kernel_rfl
  clear hW3 hW2 hW1 hcur3 hcur2 hcs1 hROW hRsz hRtake hrowN hothN hrow2 hoth2 hRlen hsz2 hl1 hm1 hm2 hold hik hkk hol hlen hrow hsz hone hvs hG hN hzs hbw hvw
  go_enter Tryd.func52, Tryd.ntmps52
  go_wp2_with (first
    | (at_builtin; refine Lib.wpList_append_run _ rfl _ _ _ _ rfl _ _ rfl rfl _ _ (hrun _) ?_)
    | (at_builtin; refine wpList_copy_runI _ rfl _ _ 25 25 rfl _ _ rfl rfl (hcp1 _ _) ?_))
  go_region_law_o (refine step_copy_runI rfl _ _ 25 25 rfl (.slice (some ⟨N, (i + 1) * 2, none⟩) (n - i) (G - (i + 1))) (.slice (some ⟨b, i * 2, none⟩) (n - i) (c - i)) (by simp [Act.eval, Act.put]) (by simp [Act.eval, Act.put]) (hcp2 _ _ _) ?_)
  go_wp2
  go_ret
  exact hfin.out
end Go.Proofs.YtjbaeojagkkbgaaDoor

set_option linter.unusedSimpArgs false
namespace Go.Proofs.YtjbaeojagkkbgaaDoor
open Go Go.PB Go.RowKit Go.Lib

abbrev tPr : Ty := .agg (.pair .str (.pair .str .unit))

theorem rowC_take {α : Type} {R : α → List Value → Prop} {k : Nat} (h : ∀ x cs, R x cs → cs.length = k) : ∀ (l : List α) (cs : List Value) (i : Nat), RowC R l cs → RowC R (l.take i) (cs.take (i * k)) ∧ RowC R (l.drop i) (cs.drop (i * k))
  | l, cs, 0, hr => by simp; exact ⟨rfl, hr⟩
  | [], cs, i + 1, hr => by
    have : cs = [] := hr
    subst this
    simp; exact rfl
  | x :: l, _, i + 1, ⟨c1, c2, e, h1, h2⟩ => by
    subst e
    obtain ⟨g1, g2⟩ := rowC_take h l c2 i h2
    have hl := h _ _ h1
    have e1 : (i + 1) * k = c1.length + i * k := by rw [hl, Nat.succ_mul]; omega
    rw [e1, List.take_length_add_append, List.drop_length_add_append]
    exact ⟨⟨c1, _, rfl, h1, g1⟩, g2⟩

theorem cells_pair (w : World) (ok : Nat → Prop) (p : tPr.C) : Cells w ok tPr p [Value.string p.1, Value.string p.2.1] :=
  ⟨[Value.string p.1], [Value.string p.2.1], rfl, rfl, [Value.string p.2.1], [], rfl, rfl, rfl⟩
theorem cells_pair_inv {w : World} {ok : Nat → Prop} {p : tPr.C} {cs : List Value} (h : Cells w ok tPr p cs) : cs = [Value.string p.1, Value.string p.2.1] := by
  obtain ⟨c1, c2, e, h1, c3, c4, e2, h3, h4⟩ := h
  have h1' : c1 = [Value.string p.1] := h1
  have h3' : c3 = [Value.string p.2.1] := h3
  have h4' : c4 = [] := h4
  subst e; subst e2; subst h1'; subst h3'; subst h4'; rfl

theorem rowC_insert {w : World} {ok : Nat → Prop} {l : List tPr.C} {cc : List Value} (h : RowC (Cells w ok tPr) l cc) (w' : World) (i : Nat) (p : tPr.C) :
    RowC (Cells w' ok tPr) (l.take i ++ p :: l.drop i) (cc.take (i * 2) ++ [Value.string p.1, Value.string p.2.1] ++ cc.drop (i * 2)) := by
  obtain ⟨h1, h2⟩ := rowC_take (k := 2) (fun x cs hc => Cells.length tPr x cs hc) l cc i h
  have mv : ∀ (l : List tPr.C) (cs : List Value), RowC (Cells w ok tPr) l cs → RowC (Cells w' ok tPr) l cs := fun l cs hr => RowC.mono (fun x cs hc => Cells.plain tPr x cs rfl hc) l cs hr
  rw [List.append_assoc]
  exact RowC.append _ _ _ _ (mv _ _ h1) ⟨_, _, rfl, cells_pair w' ok p, mv _ _ h2⟩

theorem insert_row {G : World → Prop} (l : List tPr.C) (i : Nat) (p : tPr.C) (hi : i ≤ l.length) (hbig : l.length ≤ 1000000) :
    RowCall Tryd.prog G 52 tPr l [.data (.int .i64) (i : Int), .data (.list tPr) [p]] (l.take i ++ p :: l.drop i) := by
  intro w ok v vals hG hok ⟨v1, vs1, e1, h1, v2, vs2, e2, h2, e3⟩ hfirst
  subst e1; subst e2
  have e3' : vs2 = [] := e3
  subst e3'
  have h1' := DVal.int_inv h1
  subst h1'
  obtain ⟨A, vc, rfl, hvc, hx⟩ := DVal.list_inv (t := tPr) h2
  rcases hx with hx | ⟨vb, vo, cc2, rfl, hvok, hrc2, hcell⟩
  · simp at hx
  obtain ⟨vcur, vT, hvrow⟩ := hok vb hvok
  obtain ⟨d1, d2, ed, hd1, hd2⟩ := hrc2
  have hd2' : d2 = [] := hd2
  subst hd2'
  have hd1' := cells_pair_inv hd1
  subst hd1'
  rw [List.append_nil] at ed
  subst ed
  have hlen : (l.take i ++ p :: l.drop i).length = l.length + 1 := by
    rw [List.length_append, List.length_cons, List.length_take, List.length_drop]; omega
  have post : ∀ (b : Option Nat) (old : List Value) (e : Ending) (w' : World), (∀ k, b = some k → ∃ c, v = .slice (some ⟨k, 0, none⟩) l.length c) → (∀ k c, v = .slice (some ⟨k, 0, none⟩) l.length c → b = some k) → RowC (Cells w (fun _ => False) tPr) l old → InsPost w b l.length i old p.1 p.2.1 e w' →
      ∃ v', e = .returned v' ∧ w'.os = w.os ∧ w'.tape = w.tape ∧ w'.output = w.output ∧ w.heap.size ≤ w'.heap.size ∧
      (∀ k, k < w.heap.size → (∀ c, v ≠ .slice (some ⟨k, 0, none⟩) l.length c) → w'.heap[k]? = w.heap[k]?) ∧
      ((v' = .slice none 0 0 ∧ (l.take i ++ p :: l.drop i) = [] ∧ v = .slice none 0 0) ∨ ∃ b, OwnRow w' tPr (l.take i ++ p :: l.drop i) v' b ∧ (w.heap.size ≤ b ∨ ∃ c, v = .slice (some ⟨b, 0, none⟩) l.length c)) := by
    intro b old e w' hb hb' hrc ⟨b', c', cs, T, rest, he, hwh, hos, htape, hout, hsz, hkeep, hrow, hcs, hc', hl⟩
    refine ⟨_, he, hos, htape, hout, hsz, fun k hk hne => hkeep k hk fun e => ?_, .inr ⟨b', ?_, ?_⟩⟩
    · obtain ⟨c, hc⟩ := hb k e
      exact hne c hc
    · exact ⟨c', cs, T, _, rest, by rw [hlen], hrow, by rw [hcs]; rfl, by rw [hlen]; exact hc', hl, rowC_insert hrc w' i p⟩
    · rcases hwh with h | h
      · exact .inr (hb b' h)
      · exact .inl h
  rcases hfirst with ⟨rfl, rfl⟩ | ⟨b, hnb, c, cs, T, cc, rest, rfl, hrow, hsz, hlc, ecc, hrc⟩
  · have hi0 : i = 0 := by simpa using hi
    subst hi0
    exact (insert_nil vb vo vc w p.1 p.2.1 hcell).mono fun e w' h => post none [] e w' (fun k e => by cases e) (fun k c e => by simp at e) rfl h
  · have hvb : vb ≠ b := fun e => hnb (e ▸ hvok)
    have hccl : cc.length = l.length * 2 := RowC.length (fun x cs hc => Cells.length tPr x cs hc) l cc hrc
    have htk : cs.toList.take (l.length * 2) = cc := by rw [ecc, ← hccl, List.take_left]
    have hone : ∀ u ∈ cs.toList.take (l.length * 2), u.oneCell' = true := by rw [htk]; exact RowC.one l cc hrc
    have hsz' : cs.size = c * 2 := hsz
    have fin : ∀ (e : Ending) (w' : World), InsPost w (some b) l.length i (cs.toList.take (l.length * 2)) p.1 p.2.1 e w' → _ := fun e w' h => post (some b) _ e w' (fun k e => by cases e; exact ⟨c, rfl⟩) (fun k c' e => by
      simp only [Value.slice.injEq, Option.some.injEq, Addr.mk.injEq, and_true, true_and] at e; rw [e.1]) (by rw [htk]; exact hrc) h
    by_cases hin : i = l.length
    · subst hin
      by_cases hroom : l.length + 1 ≤ c
      · exact (insert_end_room b l.length c vb vo vc w hroom hbig cs T p.1 p.2.1 hrow hsz' hcell).mono fin
      · exact (insert_end_grow b l.length c vb vo vc w hlc (by omega) hbig cs T p.1 p.2.1 hrow hsz' hcell).mono fin
    · by_cases hroom : l.length + 1 ≤ c
      · refine (insert_shift b l.length c i vb vo vc w (by omega) hroom hbig hvb cs vcur T vT p.1 p.2.1 hrow hsz' hvrow hcell hone).mono ?_
        rintro e w' ⟨rfl, cur2, h3, h4, h5, h6, h7, h8, h9, h10⟩
        refine fin _ _ ⟨b, c, cur2, T, cs.toList.drop ((l.length + 1) * 2), rfl, .inl rfl, h6, h7, h8, by omega, fun k hk hne => h3 k fun e => hne (by rw [e]), h4, h5, hroom, ?_⟩
        rw [h10]
        have e4 : (cs.toList.take (l.length * 2)).take (i * 2) = cs.toList.take (i * 2) := by rw [List.take_take]; congr 1; omega
        have e5 : (cs.toList.take (l.length * 2)).drop (i * 2) = (cs.toList.drop (i * 2)).take ((l.length - i) * 2) := by rw [List.drop_take]; congr 1; omega
        rw [e4, e5]
      · exact (insert_grow b l.length c i vb vo vc w (by omega) hlc (by omega) hbig cs T p.1 p.2.1 hrow hsz' hone hcell).mono fin

/-! ## slices.Clone -/
def cloneRen : Go.Shelf.Ren := ⟨fun | 41 => 50 | n => n, fun | 4 => 4 | 22 => 25 | 23 => 58 | n => n, fun n => n⟩
theorem cloneLays : SlLaysE0.n41 Tryd.prog cloneRen := {
  mixed := by kernel_rfl
  f41 := ⟨Tryd.f50.name, by kernel_rfl, Tryd.func50.trans (congrArg some (by kernel_rfl))⟩
  t4 := Tryd.underlying4
  a4 := Tryd.isAgg4
  z4 := Tryd.sizeOf4
  v4 := Tryd.zeroValue4
  t22 := Tryd.underlying25
  a22 := Tryd.isAgg25
  z22 := Tryd.sizeOf25
  v22 := Tryd.zeroValue25 }

set_option maxHeartbeats 2000000 in
set_option maxRecDepth 100000 in
theorem clone_empty (a : Addr) (c : Nat) (w : World) : Calls Tryd.prog 50 #[.slice (some a) 0 c] w fun e w' => e = .returned (.slice (some ⟨w.heap.size, 0, none⟩) 0 0) ∧ w' = w.alloc (.cells #[] 58) := by
  obtain ⟨i0, z, hi, g1, _, g2, hz, g3, _⟩ := infoOk58
  have mixed : Tryd.prog.follows .mixedOrders = true := by kernel_rfl
  have q22 : ∀ (w : World) (a : Option Addr) (n c n' c' : Nat), (binOp .eql 25 (.slice a n c) (.slice none n' c')).run Tryd.prog w = .ok (.bool a.isNone) w := fun w a n c n' c' => Lib.run_eql_slice_nil w _ _ a n c n' c' Tryd.underlying25
  have hrun : ∀ (W : World) ty (N : Nat), (Builtin.append_ #[25, 25] ty #[.slice (some ⟨N, 0, none⟩) 0 0, .slice (some a) 0 c]).run Tryd.prog W = .ok (.slice (some ⟨N, 0, none⟩) 0 0) W := fun W ty N =>
    append_none (P := Tryd.prog) W 25 ty 58 i0 Tryd.underlying25 hi (some ⟨N, 0, none⟩) (by simp) 0 0 (Nat.le_refl _) (some a) c
  go_enter Tryd.func50, Tryd.ntmps50
  go_wp2_with (at_builtin; refine Lib.wpList_append_run _ rfl _ _ _ _ rfl _ _ rfl rfl _ _ (hrun _ _ _) ?_)
  go_ret
  exact ⟨rfl, rfl⟩

theorem clone_pure {G : World → Prop} (l : List tPr.C) (hbig : l.length ≤ 1000000) : PureCall Tryd.prog G 50 [.data (.list tPr) l] [.own tPr l] := by
  intro w ok vals hG hok ⟨v1, vs1, e1, h1, e2⟩
  have e2' : vs1 = [] := e2
  subst e2'
  have hv : vals = #[v1] := by rw [← Array.toArray_toList (xs := vals), e1]
  subst hv
  obtain ⟨A, c, rfl, hc, hx⟩ := DVal.list_inv (t := tPr) h1
  obtain ⟨i0, z, hi, g1, _, g2, hz, g3, _⟩ := infoOk58
  have hzs : z.cells.size = 2 := by
    have := congrArg List.length g3
    simpa [Ty.zcells] using this
  have run : ∀ (b o : Nat) (cc : List Value), A = some ⟨b, o, none⟩ → RowC (Cells w ok tPr) l cc → (∀ j u, cc[j]? = some u → w.cell? ⟨b, o + j, none⟩ = some u) → _ := fun b o cc hA hrc hcell =>
    AnyE.slices_Clone cloneLays i0 z 2 i0.bytes hi hz g1 rfl hzs (by omega) Tryd.sizeOf58 b o l.length c cc w (RowC.length (fun x cs hc => Cells.length tPr x cs hc) l cc hrc) (by unfold maxLen; omega) (by
      have : l.length * i0.bytes ≤ 1000000 * 4096 := Nat.mul_le_mul hbig g2
      omega) hcell (RowC.one l cc hrc)
  have fin : ∀ (cc : List Value) (v' : Value) (w' : World), RowC (Cells w ok tPr) l cc → w'.ownsRow w.heap.size 58 2 v' l.length cc → v' ≠ .slice none 0 0 → Below w.heap.size w w' →
      ∃ vs gs, Ending.returned v' = .returned (tupleOf vs) ∧ Below w.heap.size w w' ∧ ResList w' (fun b => (ok b ∨ (w.heap.size ≤ b ∧ b < w'.heap.size)) ∧ b ∉ gs) w.heap.size [.own tPr l] vs gs := by
    intro cc v' w' hrc ⟨hl, ho⟩ hne hb
    rcases ho with ⟨e, _⟩ | ⟨g, cap, cur, e, hg, hrow, hcap, _, hsz, htk⟩
    · exact absurd e hne
    · refine ⟨[v'], [g], rfl, hb, v', [], rfl, rfl, .inr ⟨g, cap, cur, 58, cc, cur.toList.drop (l.length * 2), [], rfl, by simp, hg, e, hrow, hsz, hcap, by rw [← htk]; simp, RowC.mono (fun x cs hc => Cells.plain tPr x cs rfl hc) l cc hrc, rfl, rfl⟩⟩
  rcases hx with hx | ⟨b, o, cc, hA, _, hrc, hcell⟩
  · subst hx
    cases A with
    | none =>
      refine (AnyE.slices_Clone_nil cloneLays 0 c w).mono ?_
      rintro e w' ⟨rfl, rfl⟩
      exact ⟨[_], [], rfl, Below.refl _ _, _, [], rfl, rfl, .inl ⟨rfl, rfl, rfl, rfl⟩⟩
    | some a =>
      refine (clone_empty a c w).mono ?_
      rintro e w' ⟨rfl, rfl⟩
      refine fin [] _ _ rfl ⟨rfl, .inr ⟨w.heap.size, 0, #[], rfl, Nat.le_refl _, Go.heap_alloc_new w _, Nat.le_refl _, by unfold maxLen; omega, rfl, rfl⟩⟩ (by simp) (below_alloc w _)
  · subst hA
    refine (run b o cc rfl hrc hcell).mono ?_
    rintro e w' ⟨v', rfl, h1, h2, h3⟩
    exact fin cc v' w' hrc h1 h2 h3

/-! ## As entries -/
theorem f50_ok {G : World → Prop} (hen : PB.Enters Tryd.prog 50) : EntOk Tryd.prog G { f := 50, inp := [.data (.list tPr)], out := [.own tPr], run := fun v => cloneRun v.1 } := by
  refine ⟨hen, fun v r hr => ?_⟩
  obtain ⟨l, u⟩ := v
  simp only [cloneRun] at hr
  split at hr
  · rename_i h
    obtain rfl := Option.some.inj hr
    exact clone_pure l h
  · simp at hr

theorem f52_ok {G : World → Prop} (hen : PB.Enters Tryd.prog 52) : EntOk Tryd.prog G { f := 52, inp := [.data (.list tPr), .data (.int .i64), .data (.list tPr)], out := [.upd tPr], run := fun v => insertRun v.1 v.2.1 v.2.2.1 } := by
  refine ⟨hen, fun v r hr => ?_⟩
  obtain ⟨l, i, vs, u⟩ := v
  simp only [insertRun] at hr
  split at hr
  · rename_i p
    split at hr
    · rename_i h
      obtain rfl := Option.some.inj hr
      refine ⟨rfl, fun l' rest e => ?_⟩
      simp only [mkArgs, ArgT.mk, List.cons.injEq, RVal.data.injEq] at e
      obtain ⟨⟨_, e1⟩, rfl⟩ := e
      obtain rfl := eq_of_heq e1
      have := insert_row (G := G) l i.toNat p (by omega) h.2.2
      rw [show ((i.toNat : Nat) : Int) = i by omega] at this
      exact this
    · simp at hr
  · simp at hr
end Go.Proofs.YtjbaeojagkkbgaaDoor

set_option linter.unusedSimpArgs false
namespace Go.Proofs.YtjbaeojagkkbgaaDoor
open Go Go.PB Go.RowKit Go.Lib

set_option maxHeartbeats 2000000 in
set_option maxRecDepth 100000 in
theorem grow_zero (w : World) : Calls Tryd.prog 74 #[.slice none 0 0, .int .i64 0] w fun e w' => e = .returned (.slice none 0 0) ∧ w' = w := by
  have mixed : Tryd.prog.follows .mixedOrders = true := by kernel_rfl
  go_enter Tryd.func74, Tryd.ntmps74
  go_wp2
  go_ret
  exact ⟨rfl, rfl⟩

set_option maxHeartbeats 2000000 in
set_option maxRecDepth 100000 in
theorem grow_nil (n : Nat) (h0 : 0 < n) (hbig : n ≤ 1000000) (w : World) : Calls Tryd.prog 74 #[.slice none 0 0, .int .i64 n] w fun e w' => ∃ (G : Nat) (ROW : Array Value), e = .returned (.slice (some ⟨w.heap.size, 0, none⟩) 0 G) ∧ ROW.size = G * 2 ∧ w' = w.drew.alloc (.cells ROW 58) := by
  obtain ⟨i0, z, hi, g1, _, g2, hz, g3, _⟩ := infoOk58
  have h1' : i0.size = 2 := g1
  have hzs : z.cells.size = 2 := by
    have := congrArg List.length g3
    simpa [Ty.zcells] using this
  have hrun : ∀ ty, (Builtin.append_ #[25, 3] ty #[.slice none 0 0, .int .i64 (n : Int)]).run Tryd.prog w = _ := fun ty =>
    run_append_nil_zeros (P := Tryd.prog) w 25 3 ty 58 i0 z .i64 .i64 Tryd.underlying25 Tryd.underlying3 hi hz n h0 (by omega) (by omega) (by
      have : n * i0.bytes ≤ 1000000 * 4096 := Nat.mul_le_mul hbig g2
      omega)
  obtain ⟨G, hG⟩ : ∃ G, G = grownCap w n 0 58 := ⟨_, rfl⟩
  rw [← hG] at hrun
  have hge : n ≤ G := by rw [hG]; exact grownCap_ge w n 0 58
  have hG63 : G ≤ 9223372036854775807 := by
    have := grownCap_le_maxLen w n 0 58 (by unfold maxLen; omega)
    rw [← hG] at this
    unfold maxLen at this
    omega
  have hn0 : ¬ ((n : Int) < 0) := by omega
  have hn1 : (0 : Int) < (n : Int) := by omega
  have mixed : Tryd.prog.follows .mixedOrders = true := by kernel_rfl
  obtain ⟨ROW, hROW⟩ : ∃ ROW : Array Value, ROW = Builtin.zeroCells z.cells n ++ Builtin.zeroCells z.cells (G - n) := ⟨_, rfl⟩
  rw [← hROW] at hrun
  have hRsz : ROW.size = G * 2 := by
    rw [hROW]
    simp only [Array.size_append, size_zeroCells, hzs]
    omega
  obtain ⟨W1, hW1⟩ : ∃ W1, W1 = w.drew.alloc (.cells ROW 58) := ⟨_, rfl⟩
  rw [← hW1] at hrun
  have hfin : Aside (∃ (G' : Nat) (ROW' : Array Value), Ending.returned (.slice (some ⟨w.heap.size, 0, none⟩) 0 G) = .returned (.slice (some ⟨w.heap.size, 0, none⟩) 0 G') ∧ ROW'.size = G' * 2 ∧ W1 = w.drew.alloc (.cells ROW' 58)) := ⟨G, ROW, rfl, hRsz, hW1⟩
  have hw1 : IntKind.i64.wrap (n : Int) = (n : Int) := by rw [IntKind.wrap_i64]; omega
  have hG0 : ¬ (G = 0) := by omega
  clear hW1 hROW hRsz hG
  go_enter Tryd.func74, Tryd.ntmps74
  go_wp2_with (at_builtin; refine Lib.wpList_append_run _ rfl _ _ _ _ rfl _ _ rfl rfl _ _ (hrun _) ?_)
  go_ret
  obtain ⟨G', ROW', q1, q2, q3⟩ := hfin.out
  exact ⟨G', q1, ROW', q2, q3⟩

theorem f74_ok {G : World → Prop} (hen : PB.Enters Tryd.prog 74) : EntOk Tryd.prog G { f := 74, inp := [.nils, .data (.int .i64)], out := [.own tPr], run := fun v => growRun v.2.1 } := by
  refine ⟨hen, fun v r hr => ?_⟩
  obtain ⟨x, n, u⟩ := v
  change Int at n
  simp only [growRun] at hr
  split at hr
  · rename_i h
    obtain rfl := Option.some.inj hr
    intro w ok vals hG hok ⟨v1, vs1, e1, h1, v2, vs2, e2, h2, e3⟩
    subst e2; subst e3
    have hv := toList2 e1
    subst hv
    have h2' := DVal.int_inv h2
    subst h2'
    have h1' : v1 = .slice none 0 0 := h1
    subst h1'
    by_cases h0 : n = 0
    · subst h0
      refine (grow_zero w).mono ?_
      rintro e w' ⟨rfl, rfl⟩
      exact ⟨[_], [], rfl, Below.refl _ _, _, [], rfl, rfl, .inl ⟨rfl, rfl, rfl, rfl⟩⟩
    · have hg := grow_nil n.toNat (by omega) (by omega) w
      rw [show ((n.toNat : Nat) : Int) = n by omega] at hg
      refine hg.mono ?_
      rintro e w' ⟨G, ROW, rfl, hsz, rfl⟩
      have hb : Below w.heap.size w (w.drew.alloc (.cells ROW 58)) := ⟨rfl, rfl, rfl, by simp, fun k hk => Go.heap_alloc_old w.drew _ hk⟩
      exact ⟨[_], [w.heap.size], rfl, hb, _, [], rfl, rfl, .inr ⟨w.heap.size, G, ROW, 58, [], ROW.toList, [], rfl, by simp, Nat.le_refl _, rfl, Go.heap_alloc_new w.drew _, hsz, Nat.zero_le _, rfl, rfl, rfl, rfl⟩⟩
  · simp at hr
end Go.Proofs.YtjbaeojagkkbgaaDoor
