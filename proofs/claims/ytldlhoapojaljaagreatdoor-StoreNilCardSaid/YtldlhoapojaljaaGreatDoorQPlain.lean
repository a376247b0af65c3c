/- Plain functions of the program, printed from its code. -/
import Derived.Test.YtldlhoapojaljaaGreatDoorQD
import Derived.Test.YtldlhoapojaljaaGreatDoorQTab
set_option linter.unusedVariables false
namespace Go.Proofs.YtldlhoapojaljaaGreatDoor
open Go Go.RowKit Go.PB
def f49 (k : Nat) (l : List ByteArray) : Option (List ByteArray) := cloneRun l
def f49_e (k : Nat) : Ent := { f := 49, inp := [.data (.list .str)], out := [.own .str], run := fun v => f49 k v.1 }
def f50 (k : Nat) (l : List (ByteArray × ByteArray × Unit)) : Option (List (ByteArray × ByteArray × Unit)) := cloneRun l
def f50_e (k : Nat) : Ent := { f := 50, inp := [.data (.list (.agg (.pair .str (.pair .str .unit))))], out := [.own (.agg (.pair .str (.pair .str .unit)))], run := fun v => f50 k v.1 }
def f51 (k : Nat) (l : List Int) : Option (List Int) := cloneRun l
def f51_e (k : Nat) : Ent := { f := 51, inp := [.data (.list (.int .i64))], out := [.own (.int .i64)], run := fun v => f51 k v.1 }
def f17 (k : Nat) : Option cS :=
  some (0, 0, [], [], ())
def f17_e (k : Nat) : Ent := { f := 17, inp := [], out := [.tree (.own tS)], run := fun v => f17 k  }

def f20 (k : Nat) (a0 : cO) : Option (Int × ByteArray × Unit) :=
  some (a0.1, a0.2.1, ())
def f20_e (k : Nat) : Ent := { f := 20, inp := [.data tO], out := [.data tK], run := fun v => f20 k v.1 }

def f45 (k : Nat) (a0 : cO) : Option cO :=
  bif (a0.1 == 1) then (some (0, sNil, 0, 0, false, [], [], [], sNil, a0.2.2.2.2.2.2.2.2.2.1, a0.2.2.2.2.2.2.2.2.2.2.1, a0.2.2.2.2.2.2.2.2.2.2.2.1, a0.2.2.2.2.2.2.2.2.2.2.2.2.1, a0.2.2.2.2.2.2.2.2.2.2.2.2.2.1, a0.2.2.2.2.2.2.2.2.2.2.2.2.2.2.1, a0.2.2.2.2.2.2.2.2.2.2.2.2.2.2.2.1, a0.2.2.2.2.2.2.2.2.2.2.2.2.2.2.2.2.1, a0.2.2.2.2.2.2.2.2.2.2.2.2.2.2.2.2.2.1, a0.2.2.2.2.2.2.2.2.2.2.2.2.2.2.2.2.2.2.1, ())) else (bif (a0.1 == 2) then (some (0, sNil, 0, 0, false, [], [], a0.2.2.2.2.2.2.2.1, a0.2.2.2.2.2.2.2.2.1, 0, 0, [], [], a0.2.2.2.2.2.2.2.2.2.2.2.2.2.1, a0.2.2.2.2.2.2.2.2.2.2.2.2.2.2.1, a0.2.2.2.2.2.2.2.2.2.2.2.2.2.2.2.1, a0.2.2.2.2.2.2.2.2.2.2.2.2.2.2.2.2.1, a0.2.2.2.2.2.2.2.2.2.2.2.2.2.2.2.2.2.1, a0.2.2.2.2.2.2.2.2.2.2.2.2.2.2.2.2.2.2.1, ())) else (bif (a0.1 == 3) then (some (0, sNil, 0, 0, false, [], [], a0.2.2.2.2.2.2.2.1, a0.2.2.2.2.2.2.2.2.1, a0.2.2.2.2.2.2.2.2.2.1, a0.2.2.2.2.2.2.2.2.2.2.1, a0.2.2.2.2.2.2.2.2.2.2.2.1, a0.2.2.2.2.2.2.2.2.2.2.2.2.1, sNil, sNil, 0, sNil, a0.2.2.2.2.2.2.2.2.2.2.2.2.2.2.2.2.2.1, a0.2.2.2.2.2.2.2.2.2.2.2.2.2.2.2.2.2.2.1, ())) else (bif (a0.1 == 4) then (some (0, sNil, 0, 0, false, [], [], a0.2.2.2.2.2.2.2.1, a0.2.2.2.2.2.2.2.2.1, a0.2.2.2.2.2.2.2.2.2.1, a0.2.2.2.2.2.2.2.2.2.2.1, a0.2.2.2.2.2.2.2.2.2.2.2.1, a0.2.2.2.2.2.2.2.2.2.2.2.2.1, a0.2.2.2.2.2.2.2.2.2.2.2.2.2.1, a0.2.2.2.2.2.2.2.2.2.2.2.2.2.2.1, a0.2.2.2.2.2.2.2.2.2.2.2.2.2.2.2.1, a0.2.2.2.2.2.2.2.2.2.2.2.2.2.2.2.2.1, sNil, sNil, ())) else (some (0, sNil, 0, 0, false, [], [], a0.2.2.2.2.2.2.2.1, a0.2.2.2.2.2.2.2.2.1, a0.2.2.2.2.2.2.2.2.2.1, a0.2.2.2.2.2.2.2.2.2.2.1, a0.2.2.2.2.2.2.2.2.2.2.2.1, a0.2.2.2.2.2.2.2.2.2.2.2.2.1, a0.2.2.2.2.2.2.2.2.2.2.2.2.2.1, a0.2.2.2.2.2.2.2.2.2.2.2.2.2.2.1, a0.2.2.2.2.2.2.2.2.2.2.2.2.2.2.2.1, a0.2.2.2.2.2.2.2.2.2.2.2.2.2.2.2.2.1, a0.2.2.2.2.2.2.2.2.2.2.2.2.2.2.2.2.2.1, a0.2.2.2.2.2.2.2.2.2.2.2.2.2.2.2.2.2.2.1, ())))))
def f45_e (k : Nat) : Ent := { f := 45, inp := [.data tO], out := [.data tO], run := fun v => f45 k v.1 }

def f73 (k : Nat) (a0 : cO) : Option (Int × Int × Int × Int × Int × Int × Bool × ByteArray × ByteArray × ByteArray × ByteArray × ByteArray × ByteArray × ByteArray × Unit) :=
  some (a0.1, a0.2.2.1, a0.2.2.2.1, a0.2.2.2.2.2.2.2.2.2.1, a0.2.2.2.2.2.2.2.2.2.2.1, a0.2.2.2.2.2.2.2.2.2.2.2.2.2.2.2.1, a0.2.2.2.2.1, a0.2.1, a0.2.2.2.2.2.2.2.2.1, a0.2.2.2.2.2.2.2.2.2.2.2.2.2.1, a0.2.2.2.2.2.2.2.2.2.2.2.2.2.2.1, a0.2.2.2.2.2.2.2.2.2.2.2.2.2.2.2.2.1, a0.2.2.2.2.2.2.2.2.2.2.2.2.2.2.2.2.2.1, a0.2.2.2.2.2.2.2.2.2.2.2.2.2.2.2.2.2.2.1, ())
def f73_e (k : Nat) : Ent := { f := 73, inp := [.data tO], out := [.data (.agg (.pair (.int .i64) (.pair (.int .i64) (.pair (.int .i64) (.pair (.int .i64) (.pair (.int .i64) (.pair (.int .i64) (.pair .bool (.pair .str (.pair .str (.pair .str (.pair .str (.pair .str (.pair .str (.pair .str .unit)))))))))))))))], run := fun v => f73 k v.1 }

def f43_s8 (k : Nat) (t0 : (List ByteArray)) (t1 : (List ByteArray)) (t12 : Int) (t13 : Int) : Option (((List ByteArray) × (List ByteArray) × Int × Int × Unit) ⊕ ((Bool × Unit) ⊕ (Unit))) :=
  bif (decide (t13 < t12)) then (rangeK t13 (lLen t0) (rangeK t13 (lLen t1) (bif (!(sEq (lAt .str t0 t13) (lAt .str t1 t13))) then (some (.inr (.inl (false, ())))) else (some (.inl (t0, t1, t12, (w64 (t13 + 1)), ())))))) else (some (.inr (.inr (()))))
def f43_s8_u (k : Nat) (v : ((List ByteArray) × (List ByteArray) × Int × Int × Unit)) : Option (((List ByteArray) × (List ByteArray) × Int × Int × Unit) ⊕ ((Bool × Unit) ⊕ (Unit))) := f43_s8 k v.1 v.2.1 v.2.2.1 v.2.2.2.1
def f43_l8 (k : Nat) (t0 : (List ByteArray)) (t1 : (List ByteArray)) (t12 : Int) (t13 : Int) : Option ((Bool × Unit) ⊕ (Unit)) := iter (f43_s8_u k) k (t0, t1, t12, t13, ())
def f43 (k : Nat) (a0 : (List ByteArray)) (a1 : (List ByteArray)) : Option Bool :=
  bif ((lLen a0) != (lLen a1)) then (some false) else ((f43_l8 k a0 a1 (lLen a0) 0).bind fun o1 => (match o1 with | .inl o1' => (some (o1'.1)) | .inr o1' => (some true)))
def f43_e (k : Nat) : Ent := { f := 43, inp := [.data (.list .str), .data (.list .str)], out := [.data .bool], run := fun v => f43 k v.1 v.2.1 }

def f74_s8 (k : Nat) (t0 : (List (ByteArray × ByteArray × Unit))) (t1 : (List (ByteArray × ByteArray × Unit))) (t12 : Int) (t13 : Int) : Option (((List (ByteArray × ByteArray × Unit)) × (List (ByteArray × ByteArray × Unit)) × Int × Int × Unit) ⊕ ((Bool × Unit) ⊕ (Unit))) :=
  bif (decide (t13 < t12)) then (rangeK t13 (lLen t0) (rangeK t13 (lLen t1) (bif (!(Ty.eqD (.agg (.pair .str (.pair .str .unit))) (lAt (.agg (.pair .str (.pair .str .unit))) t0 t13) (lAt (.agg (.pair .str (.pair .str .unit))) t1 t13))) then (some (.inr (.inl (false, ())))) else (some (.inl (t0, t1, t12, (w64 (t13 + 1)), ())))))) else (some (.inr (.inr (()))))
def f74_s8_u (k : Nat) (v : ((List (ByteArray × ByteArray × Unit)) × (List (ByteArray × ByteArray × Unit)) × Int × Int × Unit)) : Option (((List (ByteArray × ByteArray × Unit)) × (List (ByteArray × ByteArray × Unit)) × Int × Int × Unit) ⊕ ((Bool × Unit) ⊕ (Unit))) := f74_s8 k v.1 v.2.1 v.2.2.1 v.2.2.2.1
def f74_l8 (k : Nat) (t0 : (List (ByteArray × ByteArray × Unit))) (t1 : (List (ByteArray × ByteArray × Unit))) (t12 : Int) (t13 : Int) : Option ((Bool × Unit) ⊕ (Unit)) := iter (f74_s8_u k) k (t0, t1, t12, t13, ())
def f74 (k : Nat) (a0 : (List (ByteArray × ByteArray × Unit))) (a1 : (List (ByteArray × ByteArray × Unit))) : Option Bool :=
  bif ((lLen a0) != (lLen a1)) then (some false) else ((f74_l8 k a0 a1 (lLen a0) 0).bind fun o1 => (match o1 with | .inl o1' => (some (o1'.1)) | .inr o1' => (some true)))
def f74_e (k : Nat) : Ent := { f := 74, inp := [.data (.list (.agg (.pair .str (.pair .str .unit)))), .data (.list (.agg (.pair .str (.pair .str .unit))))], out := [.data .bool], run := fun v => f74 k v.1 v.2.1 }

def f75_s8 (k : Nat) (t0 : (List Int)) (t1 : (List Int)) (t12 : Int) (t13 : Int) : Option (((List Int) × (List Int) × Int × Int × Unit) ⊕ ((Bool × Unit) ⊕ (Unit))) :=
  bif (decide (t13 < t12)) then (rangeK t13 (lLen t0) (rangeK t13 (lLen t1) (bif ((lAt (.int .i64) t0 t13) != (lAt (.int .i64) t1 t13)) then (some (.inr (.inl (false, ())))) else (some (.inl (t0, t1, t12, (w64 (t13 + 1)), ())))))) else (some (.inr (.inr (()))))
def f75_s8_u (k : Nat) (v : ((List Int) × (List Int) × Int × Int × Unit)) : Option (((List Int) × (List Int) × Int × Int × Unit) ⊕ ((Bool × Unit) ⊕ (Unit))) := f75_s8 k v.1 v.2.1 v.2.2.1 v.2.2.2.1
def f75_l8 (k : Nat) (t0 : (List Int)) (t1 : (List Int)) (t12 : Int) (t13 : Int) : Option ((Bool × Unit) ⊕ (Unit)) := iter (f75_s8_u k) k (t0, t1, t12, t13, ())
def f75 (k : Nat) (a0 : (List Int)) (a1 : (List Int)) : Option Bool :=
  bif ((lLen a0) != (lLen a1)) then (some false) else ((f75_l8 k a0 a1 (lLen a0) 0).bind fun o1 => (match o1 with | .inl o1' => (some (o1'.1)) | .inr o1' => (some true)))
def f75_e (k : Nat) : Ent := { f := 75, inp := [.data (.list (.int .i64)), .data (.list (.int .i64))], out := [.data .bool], run := fun v => f75 k v.1 v.2.1 }

def f44 (k : Nat) (a0 : cO) (a1 : cO) : Option Bool :=
  (f73 k a0).bind fun r1 => ((f73 k a1).bind fun r2 => (bif (Ty.eqD (.agg (.pair (.int .i64) (.pair (.int .i64) (.pair (.int .i64) (.pair (.int .i64) (.pair (.int .i64) (.pair (.int .i64) (.pair .bool (.pair .str (.pair .str (.pair .str (.pair .str (.pair .str (.pair .str (.pair .str .unit))))))))))))))) r1 r2) then ((f43 k a0.2.2.2.2.2.1 a1.2.2.2.2.2.1).bind fun r3 => (bif r3 then ((f74 k a0.2.2.2.2.2.2.1 a1.2.2.2.2.2.2.1).bind fun r4 => (bif r4 then ((f43 k a0.2.2.2.2.2.2.2.1 a1.2.2.2.2.2.2.2.1).bind fun r5 => (bif r5 then ((f75 k a0.2.2.2.2.2.2.2.2.2.2.2.1 a1.2.2.2.2.2.2.2.2.2.2.2.1).bind fun r6 => (bif r6 then ((f43 k a0.2.2.2.2.2.2.2.2.2.2.2.2.1 a1.2.2.2.2.2.2.2.2.2.2.2.2.1).bind fun r7 => (some r7)) else (some false))) else (some false))) else (some false))) else (some false))) else (some false)))
def f44_e (k : Nat) : Ent := { f := 44, inp := [.data tO, .data tO], out := [.data .bool], run := fun v => f44 k v.1 v.2.1 }

def f46 (k : Nat) (a0 : Int) (a1 : Int) : Option Bool :=
  bif (decide (a0 ≥ 0)) then (some (decide (a0 ≤ a1))) else (some false)
def f46_e (k : Nat) : Ent := { f := 46, inp := [.data (.int .i64), .data (.int .i64)], out := [.data .bool], run := fun v => f46 k v.1 v.2.1 }

def f77 (k : Nat) (a0 : ByteArray) : Option Bool :=
  some (decide ((sLen a0) > 200))
def f77_e (k : Nat) : Ent := { f := 77, inp := [.data .str], out := [.data .bool], run := fun v => f77 k v.1 }

def f99_s4 (k : Nat) (t0 : (List ByteArray)) (t7 : Int) (t8 : Int) : Option (((List ByteArray) × Int × Int × Unit) ⊕ ((Int × Unit) ⊕ (Unit))) :=
  bif (decide (t8 < t7)) then (rangeK t8 (lLen t0) ((f77 k (lAt .str t0 t8)).bind fun r3 => (bif r3 then (some (.inr (.inl (t8, ())))) else (some (.inl (t0, t7, (w64 (t8 + 1)), ())))))) else (some (.inr (.inr (()))))
def f99_s4_u (k : Nat) (v : ((List ByteArray) × Int × Int × Unit)) : Option (((List ByteArray) × Int × Int × Unit) ⊕ ((Int × Unit) ⊕ (Unit))) := f99_s4 k v.1 v.2.1 v.2.2.1
def f99_l4 (k : Nat) (t0 : (List ByteArray)) (t7 : Int) (t8 : Int) : Option ((Int × Unit) ⊕ (Unit)) := iter (f99_s4_u k) k (t0, t7, t8, ())
def f99 (k : Nat) (a0 : (List ByteArray)) : Option Int :=
  (f99_l4 k a0 (lLen a0) 0).bind fun o4 => (match o4 with | .inl o4' => (some (o4'.1)) | .inr o4' => (some (-1)))
def f99_e (k : Nat) : Ent := { f := 99, inp := [.data (.list .str), .fn 77 []], out := [.data (.int .i64)], run := fun v => f99 k v.1 }

def f76 (k : Nat) (a0 : (List ByteArray)) : Option Bool :=
  (f99 k a0).bind fun r1 => (some (decide (r1 ≥ 0)))
def f76_e (k : Nat) : Ent := { f := 76, inp := [.data (.list .str), .fn 77 []], out := [.data .bool], run := fun v => f76 k v.1 }

def f47 (k : Nat) (a0 : (List ByteArray)) (a1 : Int) : Option Bool :=
  bif (decide ((lLen a0) ≤ a1)) then ((f76 k a0).bind fun r1 => (some (!r1))) else (some false)
def f47_e (k : Nat) : Ent := { f := 47, inp := [.data (.list .str), .data (.int .i64)], out := [.data .bool], run := fun v => f47 k v.1 v.2.1 }

def f79 (k : Nat) (a0 : (ByteArray × ByteArray × Unit)) : Option Bool :=
  bif (decide ((sLen a0.1) > 200)) then (some true) else (some (decide ((sLen a0.2.1) > 200)))
def f79_e (k : Nat) : Ent := { f := 79, inp := [.data (.agg (.pair .str (.pair .str .unit)))], out := [.data .bool], run := fun v => f79 k v.1 }

def f100_s4 (k : Nat) (t0 : (List (ByteArray × ByteArray × Unit))) (t7 : Int) (t8 : Int) : Option (((List (ByteArray × ByteArray × Unit)) × Int × Int × Unit) ⊕ ((Int × Unit) ⊕ (Unit))) :=
  bif (decide (t8 < t7)) then (rangeK t8 (lLen t0) ((f79 k (lAt (.agg (.pair .str (.pair .str .unit))) t0 t8)).bind fun r3 => (bif r3 then (some (.inr (.inl (t8, ())))) else (some (.inl (t0, t7, (w64 (t8 + 1)), ())))))) else (some (.inr (.inr (()))))
def f100_s4_u (k : Nat) (v : ((List (ByteArray × ByteArray × Unit)) × Int × Int × Unit)) : Option (((List (ByteArray × ByteArray × Unit)) × Int × Int × Unit) ⊕ ((Int × Unit) ⊕ (Unit))) := f100_s4 k v.1 v.2.1 v.2.2.1
def f100_l4 (k : Nat) (t0 : (List (ByteArray × ByteArray × Unit))) (t7 : Int) (t8 : Int) : Option ((Int × Unit) ⊕ (Unit)) := iter (f100_s4_u k) k (t0, t7, t8, ())
def f100 (k : Nat) (a0 : (List (ByteArray × ByteArray × Unit))) : Option Int :=
  (f100_l4 k a0 (lLen a0) 0).bind fun o4 => (match o4 with | .inl o4' => (some (o4'.1)) | .inr o4' => (some (-1)))
def f100_e (k : Nat) : Ent := { f := 100, inp := [.data (.list (.agg (.pair .str (.pair .str .unit)))), .fn 79 []], out := [.data (.int .i64)], run := fun v => f100 k v.1 }

def f78 (k : Nat) (a0 : (List (ByteArray × ByteArray × Unit))) : Option Bool :=
  (f100 k a0).bind fun r1 => (some (decide (r1 ≥ 0)))
def f78_e (k : Nat) : Ent := { f := 78, inp := [.data (.list (.agg (.pair .str (.pair .str .unit)))), .fn 79 []], out := [.data .bool], run := fun v => f78 k v.1 }

def f48 (k : Nat) (a0 : (List (ByteArray × ByteArray × Unit))) : Option Bool :=
  bif (decide ((lLen a0) ≤ 16)) then ((f78 k a0).bind fun r1 => (some (!r1))) else (some false)
def f48_e (k : Nat) : Ent := { f := 48, inp := [.data (.list (.agg (.pair .str (.pair .str .unit))))], out := [.data .bool], run := fun v => f48 k v.1 }

def f27_s8 (k : Nat) (t31 : Int) (t32 : Int) (h0 : cO) (h1 : (List Int)) : Option ((Int × Int × cO × (List Int) × Unit) ⊕ ((Bool × Unit) ⊕ (cO × Unit))) :=
  bif (decide (t32 < t31)) then (rangeK t32 (lLen h1) ((f46 k (List.getD h1 (Int.toNat t32) (Ty.zero (.int .i64))) 255).bind fun r5 => (bif (!r5) then (some (.inr (.inl (false, ())))) else (some (.inl (t31, (w64 (t32 + 1)), h0, h1, ())))))) else (some (.inr (.inr (h0, ()))))
def f27_s8_u (k : Nat) (v : (Int × Int × cO × (List Int) × Unit)) : Option ((Int × Int × cO × (List Int) × Unit) ⊕ ((Bool × Unit) ⊕ (cO × Unit))) := f27_s8 k v.1 v.2.1 v.2.2.1 v.2.2.2.1
def f27_l8 (k : Nat) (t31 : Int) (t32 : Int) (h0 : cO) (h1 : (List Int)) : Option ((Bool × Unit) ⊕ (cO × Unit)) := iter (f27_s8_u k) k (t31, t32, h0, h1, ())
def f27 (k : Nat) (a0 : cO) : Option Bool :=
  bif (decide (a0.1 < 1)) then (some false) else (bif (decide (a0.1 > 4)) then (some false) else ((f45 k a0).bind fun r1 => ((f44 k r1 (0, sNil, 0, 0, false, [], [], [], sNil, 0, 0, [], [], sNil, sNil, 0, sNil, sNil, sNil, ())).bind fun r2 => (bif (!r2) then (some false) else (roomK ([a0.2.2.2.2.2.2.2.2.2.1, a0.2.2.2.2.2.2.2.2.2.2.1, a0.2.2.2.2.2.2.2.2.2.2.2.2.2.2.2.1].length + a0.2.2.2.2.2.2.2.2.2.2.2.1.length) most ((f27_l8 k (lLen ([a0.2.2.2.2.2.2.2.2.2.1, a0.2.2.2.2.2.2.2.2.2.2.1, a0.2.2.2.2.2.2.2.2.2.2.2.2.2.2.2.1] ++ a0.2.2.2.2.2.2.2.2.2.2.2.1)) 0 a0 ([a0.2.2.2.2.2.2.2.2.2.1, a0.2.2.2.2.2.2.2.2.2.2.1, a0.2.2.2.2.2.2.2.2.2.2.2.2.2.2.2.1] ++ a0.2.2.2.2.2.2.2.2.2.2.2.1)).bind fun o6 => (match o6 with | .inl o6' => (some (o6'.1)) | .inr o6' => ((f46 k ((o6'.1).2.2.1) 1099511627776).bind fun r7 => (bif r7 then ((f46 k ((o6'.1).2.2.2.1) 1099511627776).bind fun r8 => (bif r8 then ((f47 k [(o6'.1).2.1, (o6'.1).2.2.2.2.2.2.2.2.1, (o6'.1).2.2.2.2.2.2.2.2.2.2.2.2.2.1, (o6'.1).2.2.2.2.2.2.2.2.2.2.2.2.2.2.1, (o6'.1).2.2.2.2.2.2.2.2.2.2.2.2.2.2.2.2.1, (o6'.1).2.2.2.2.2.2.2.2.2.2.2.2.2.2.2.2.2.1, (o6'.1).2.2.2.2.2.2.2.2.2.2.2.2.2.2.2.2.2.2.1] (lLen [(o6'.1).2.1, (o6'.1).2.2.2.2.2.2.2.2.1, (o6'.1).2.2.2.2.2.2.2.2.2.2.2.2.2.1, (o6'.1).2.2.2.2.2.2.2.2.2.2.2.2.2.2.1, (o6'.1).2.2.2.2.2.2.2.2.2.2.2.2.2.2.2.2.1, (o6'.1).2.2.2.2.2.2.2.2.2.2.2.2.2.2.2.2.2.1, (o6'.1).2.2.2.2.2.2.2.2.2.2.2.2.2.2.2.2.2.2.1])).bind fun r9 => (bif r9 then ((f47 k ((o6'.1).2.2.2.2.2.1) 4).bind fun r10 => (bif r10 then ((f47 k ((o6'.1).2.2.2.2.2.2.2.1) 8).bind fun r11 => (bif r11 then ((f47 k ((o6'.1).2.2.2.2.2.2.2.2.2.2.2.2.1) 8).bind fun r12 => (bif r12 then (bif (decide ((lLen ((o6'.1).2.2.2.2.2.2.2.2.2.2.2.1)) ≤ 8)) then ((f48 k ((o6'.1).2.2.2.2.2.2.1)).bind fun r13 => (some r13)) else (some false)) else (some false))) else (some false))) else (some false))) else (some false))) else (some false))) else (some false))))))))))
def f27_e (k : Nat) : Ent := { f := 27, inp := [.data tO], out := [.data .bool], run := fun v => f27 k v.1 }

def f63 (k : Nat) (a0 : Int) : Option Bool :=
  bif (decide (a0 ≥ 97)) then (bif (decide (a0 ≤ 122)) then (some true) else (bif (decide (a0 ≥ 48)) then (some (decide (a0 ≤ 57))) else (some false))) else (bif (decide (a0 ≥ 48)) then (some (decide (a0 ≤ 57))) else (some false))
def f63_e (k : Nat) : Ent := { f := 63, inp := [.data (.int .i32)], out := [.data .bool], run := fun v => f63 k v.1 }

def f87_s4 (k : Nat) (t1 : Int) (h0 : ByteArray) (p0 : Nat) : Option ((Int × ByteArray × Nat × Unit) ⊕ ((Bool × Unit) ⊕ (Unit))) :=
  if p0 < h0.size then (bif ((runeAt h0 p0) == t1) then (some (.inr (.inl (true, ())))) else (some (.inl (t1, h0, (runeTo h0 p0), ())))) else (some (.inr (.inr (()))))
def f87_s4_u (k : Nat) (v : (Int × ByteArray × Nat × Unit)) : Option ((Int × ByteArray × Nat × Unit) ⊕ ((Bool × Unit) ⊕ (Unit))) := f87_s4 k v.1 v.2.1 v.2.2.1
def f87_l4 (k : Nat) (t1 : Int) (h0 : ByteArray) (p0 : Nat) : Option ((Bool × Unit) ⊕ (Unit)) := iter (f87_s4_u k) k (t1, h0, p0, ())
def f87 (k : Nat) (a0 : ByteArray) (a1 : Int) : Option Bool :=
  (f87_l4 k a1 a0 0).bind fun o1 => (match o1 with | .inl o1' => (some (o1'.1)) | .inr o1' => (some false))
def f87_e (k : Nat) : Ent := { f := 87, inp := [.data .str, .data (.int .i32)], out := [.data .bool], run := fun v => f87 k v.1 v.2.1 }

def f62_s8 (k : Nat) (t0 : ByteArray) (t2 : ByteArray) (h0 : ByteArray) (p0 : Nat) : Option ((ByteArray × ByteArray × ByteArray × Nat × Unit) ⊕ ((Bool × Unit) ⊕ (Unit))) :=
  if p0 < h0.size then (bif (((p0 : Nat) : Int) == 0) then ((f63 k (runeAt h0 p0)).bind fun r5 => (bif (!r5) then (some (.inr (.inl (false, ())))) else (some (.inl (t0, t2, h0, (runeTo h0 p0), ()))))) else ((f63 k (runeAt h0 p0)).bind fun r6 => (bif (!r6) then (bif (((p0 : Nat) : Int) == (w64 ((sLen t0) - 1))) then (some (.inr (.inl (false, ())))) else ((f87 k t2 (runeAt h0 p0)).bind fun r7 => (bif (!r7) then (some (.inr (.inl (false, ())))) else (some (.inl (t0, t2, h0, (runeTo h0 p0), ())))))) else (some (.inl (t0, t2, h0, (runeTo h0 p0), ())))))) else (some (.inr (.inr (()))))
def f62_s8_u (k : Nat) (v : (ByteArray × ByteArray × ByteArray × Nat × Unit)) : Option ((ByteArray × ByteArray × ByteArray × Nat × Unit) ⊕ ((Bool × Unit) ⊕ (Unit))) := f62_s8 k v.1 v.2.1 v.2.2.1 v.2.2.2.1
def f62_l8 (k : Nat) (t0 : ByteArray) (t2 : ByteArray) (h0 : ByteArray) (p0 : Nat) : Option ((Bool × Unit) ⊕ (Unit)) := iter (f62_s8_u k) k (t0, t2, h0, p0, ())
def f62 (k : Nat) (a0 : ByteArray) (a2 : ByteArray) : Option Bool :=
  bif (decide ((sLen a0) > 63)) then (some false) else ((f62_l8 k a0 a2 a0 0).bind fun o8 => (match o8 with | .inl o8' => (some (o8'.1)) | .inr o8' => (some true)))
def f62_e (k : Nat) : Ent := { f := 62, inp := [.data .str, .fn 63 [], .data .str], out := [.data .bool], run := fun v => f62 k v.1 v.2.2.1 }

def f36 (k : Nat) (a0 : ByteArray) : Option Bool :=
  bif (!(sEq a0 sNil)) then ((f62 k a0 (⟨#[45]⟩ : ByteArray)).bind fun r1 => (some r1)) else (some false)
def f36_e (k : Nat) : Ent := { f := 36, inp := [.data .str], out := [.data .bool], run := fun v => f36 k v.1 }

def f88 (k : Nat) (a0 : Int) : Option Bool :=
  (f63 k a0).bind fun r1 => (bif r1 then (some true) else (bif (decide (a0 ≥ 65)) then (some (decide (a0 ≤ 90))) else (some false)))
def f88_e (k : Nat) : Ent := { f := 88, inp := [.data (.int .i32)], out := [.data .bool], run := fun v => f88 k v.1 }

def f62a_s8 (k : Nat) (t0 : ByteArray) (t2 : ByteArray) (h0 : ByteArray) (p0 : Nat) : Option ((ByteArray × ByteArray × ByteArray × Nat × Unit) ⊕ ((Bool × Unit) ⊕ (Unit))) :=
  if p0 < h0.size then (bif (((p0 : Nat) : Int) == 0) then ((f88 k (runeAt h0 p0)).bind fun r5 => (bif (!r5) then (some (.inr (.inl (false, ())))) else (some (.inl (t0, t2, h0, (runeTo h0 p0), ()))))) else ((f88 k (runeAt h0 p0)).bind fun r6 => (bif (!r6) then (bif (((p0 : Nat) : Int) == (w64 ((sLen t0) - 1))) then (some (.inr (.inl (false, ())))) else ((f87 k t2 (runeAt h0 p0)).bind fun r7 => (bif (!r7) then (some (.inr (.inl (false, ())))) else (some (.inl (t0, t2, h0, (runeTo h0 p0), ())))))) else (some (.inl (t0, t2, h0, (runeTo h0 p0), ())))))) else (some (.inr (.inr (()))))
def f62a_s8_u (k : Nat) (v : (ByteArray × ByteArray × ByteArray × Nat × Unit)) : Option ((ByteArray × ByteArray × ByteArray × Nat × Unit) ⊕ ((Bool × Unit) ⊕ (Unit))) := f62a_s8 k v.1 v.2.1 v.2.2.1 v.2.2.2.1
def f62a_l8 (k : Nat) (t0 : ByteArray) (t2 : ByteArray) (h0 : ByteArray) (p0 : Nat) : Option ((Bool × Unit) ⊕ (Unit)) := iter (f62a_s8_u k) k (t0, t2, h0, p0, ())
def f62a (k : Nat) (a0 : ByteArray) (a2 : ByteArray) : Option Bool :=
  bif (decide ((sLen a0) > 63)) then (some false) else ((f62a_l8 k a0 a2 a0 0).bind fun o8 => (match o8 with | .inl o8' => (some (o8'.1)) | .inr o8' => (some true)))
def f62a_e (k : Nat) : Ent := { f := 62, inp := [.data .str, .fn 88 [], .data .str], out := [.data .bool], run := fun v => f62a k v.1 v.2.2.1 }

def f64 (k : Nat) (a0 : ByteArray) : Option Bool :=
  bif (!(sEq a0 sNil)) then ((f62a k a0 (⟨#[45, 95, 46, 47]⟩ : ByteArray)).bind fun r1 => (some r1)) else (some false)
def f64_e (k : Nat) : Ent := { f := 64, inp := [.data .str], out := [.data .bool], run := fun v => f64 k v.1 }

def f65 (k : Nat) (a0 : ByteArray) : Option Bool :=
  (f62a k a0 (⟨#[45, 95, 46]⟩ : ByteArray)).bind fun r1 => (some r1)
def f65_e (k : Nat) : Ent := { f := 65, inp := [.data .str], out := [.data .bool], run := fun v => f65 k v.1 }

def f37_s4 (k : Nat) (t0 : (List (ByteArray × ByteArray × Unit))) (t5 : (List (ByteArray × ByteArray × Unit))) (t6 : Int) (t7 : Int) : Option (((List (ByteArray × ByteArray × Unit)) × (List (ByteArray × ByteArray × Unit)) × Int × Int × Unit) ⊕ ((Bool × Unit) ⊕ ((List (ByteArray × ByteArray × Unit)) × Unit))) :=
  bif (decide (t7 < t6)) then (rangeK t7 (lLen t5) ((f64 k ((lAt (.agg (.pair .str (.pair .str .unit))) t5 t7).1)).bind fun r4 => (bif (!r4) then (some (.inr (.inl (false, ())))) else ((f65 k ((lAt (.agg (.pair .str (.pair .str .unit))) t5 t7).2.1)).bind fun r5 => (bif (!r5) then (some (.inr (.inl (false, ())))) else (bif (decide (t7 > 0)) then (rangeK (w64 (t7 - 1)) (lLen t0) (bif (!(sLt ((lAt (.agg (.pair .str (.pair .str .unit))) t0 (w64 (t7 - 1))).1) ((lAt (.agg (.pair .str (.pair .str .unit))) t5 t7).1))) then (some (.inr (.inl (false, ())))) else (some (.inl (t0, t5, t6, (w64 (t7 + 1)), ()))))) else (some (.inl (t0, t5, t6, (w64 (t7 + 1)), ()))))))))) else (some (.inr (.inr (t0, ()))))
def f37_s4_u (k : Nat) (v : ((List (ByteArray × ByteArray × Unit)) × (List (ByteArray × ByteArray × Unit)) × Int × Int × Unit)) : Option (((List (ByteArray × ByteArray × Unit)) × (List (ByteArray × ByteArray × Unit)) × Int × Int × Unit) ⊕ ((Bool × Unit) ⊕ ((List (ByteArray × ByteArray × Unit)) × Unit))) := f37_s4 k v.1 v.2.1 v.2.2.1 v.2.2.2.1
def f37_l4 (k : Nat) (t0 : (List (ByteArray × ByteArray × Unit))) (t5 : (List (ByteArray × ByteArray × Unit))) (t6 : Int) (t7 : Int) : Option ((Bool × Unit) ⊕ ((List (ByteArray × ByteArray × Unit)) × Unit)) := iter (f37_s4_u k) k (t0, t5, t6, t7, ())
def f37 (k : Nat) (a0 : (List (ByteArray × ByteArray × Unit))) : Option Bool :=
  (f37_l4 k a0 a0 (lLen a0) 0).bind fun o6 => (match o6 with | .inl o6' => (some (o6'.1)) | .inr o6' => (some (decide ((lLen (o6'.1)) ≤ 16))))
def f37_e (k : Nat) : Ent := { f := 37, inp := [.data (.list (.agg (.pair .str (.pair .str .unit))))], out := [.data .bool], run := fun v => f37 k v.1 }

def f38_s4 (k : Nat) (t0 : (List ByteArray)) (t5 : (List ByteArray)) (t6 : Int) (t7 : Int) : Option (((List ByteArray) × (List ByteArray) × Int × Int × Unit) ⊕ ((Bool × Unit) ⊕ (Unit))) :=
  bif (decide (t7 < t6)) then (rangeK t7 (lLen t5) ((f36 k (lAt .str t5 t7)).bind fun r3 => (bif (!r3) then (some (.inr (.inl (false, ())))) else (bif (decide (t7 > 0)) then (rangeK (w64 (t7 - 1)) (lLen t0) (bif (!(sLt (lAt .str t0 (w64 (t7 - 1))) (lAt .str t5 t7))) then (some (.inr (.inl (false, ())))) else (some (.inl (t0, t5, t6, (w64 (t7 + 1)), ()))))) else (some (.inl (t0, t5, t6, (w64 (t7 + 1)), ()))))))) else (some (.inr (.inr (()))))
def f38_s4_u (k : Nat) (v : ((List ByteArray) × (List ByteArray) × Int × Int × Unit)) : Option (((List ByteArray) × (List ByteArray) × Int × Int × Unit) ⊕ ((Bool × Unit) ⊕ (Unit))) := f38_s4 k v.1 v.2.1 v.2.2.1 v.2.2.2.1
def f38_l4 (k : Nat) (t0 : (List ByteArray)) (t5 : (List ByteArray)) (t6 : Int) (t7 : Int) : Option ((Bool × Unit) ⊕ (Unit)) := iter (f38_s4_u k) k (t0, t5, t6, t7, ())
def f38 (k : Nat) (a0 : (List ByteArray)) : Option Bool :=
  (f38_l4 k a0 a0 (lLen a0) 0).bind fun o4 => (match o4 with | .inl o4' => (some (o4'.1)) | .inr o4' => (some true))
def f38_e (k : Nat) : Ent := { f := 38, inp := [.data (.list .str)], out := [.data .bool], run := fun v => f38 k v.1 }

def f39_s6 (k : Nat) (t9 : (List ByteArray)) (t10 : Int) (t11 : Int) (h0 : cO) (h1 : (List Int)) : Option (((List ByteArray) × Int × Int × cO × (List Int) × Unit) ⊕ (cO × (List Int) × Unit)) :=
  bif (decide (t11 < t10)) then (rangeK t11 (lLen t9) (none)) else (some (.inr (h0, h1, ())))
def f39_s6_u (k : Nat) (v : ((List ByteArray) × Int × Int × cO × (List Int) × Unit)) : Option (((List ByteArray) × Int × Int × cO × (List Int) × Unit) ⊕ (cO × (List Int) × Unit)) := f39_s6 k v.1 v.2.1 v.2.2.1 v.2.2.2.1 v.2.2.2.2.1
def f39_l6 (k : Nat) (t9 : (List ByteArray)) (t10 : Int) (t11 : Int) (h0 : cO) (h1 : (List Int)) : Option (cO × (List Int) × Unit) := iter (f39_s6_u k) k (t9, t10, t11, h0, h1, ())
def f39 (k : Nat) (a0 : cO) : Option Bool :=
  (f39_l6 k a0.2.2.2.2.2.2.2.1 (lLen a0.2.2.2.2.2.2.2.1) 0 a0 (List.replicate 2 0)).bind fun o1 => (rangeK 0 ((2 : Nat) : Int) (roomK ((Int.toNat 0) + 1) 2 (bif (decide ((List.getD o1.2.1 (Int.toNat 0) (Ty.zero (.int .i64))) ≤ 1)) then (rangeK 1 ((2 : Nat) : Int) (roomK ((Int.toNat 1) + 1) 2 (bif (decide ((List.getD o1.2.1 (Int.toNat 1) (Ty.zero (.int .i64))) ≤ 1)) then (bif (sEq o1.1.2.2.2.2.2.2.2.2.1 sNil) then (some true) else (some (sEq o1.1.2.2.2.2.2.2.2.2.1 (⟨#[67, 73, 68, 82, 78, 111, 116, 65, 118, 97, 105, 108, 97, 98, 108, 101]⟩ : ByteArray)))) else (some false)))) else (some false))))
def f39_e (k : Nat) : Ent := { f := 39, inp := [.data tO], out := [.data .bool], run := fun v => f39 k v.1 }

def f21 (k : Nat) (a0 : cO) : Option Bool :=
  (f27 k a0).bind fun r1 => (bif (!r1) then (some false) else ((f36 k a0.2.1).bind fun r2 => (bif (!r2) then (some false) else ((f37 k a0.2.2.2.2.2.2.1).bind fun r3 => (bif (!r3) then (some false) else ((f38 k a0.2.2.2.2.2.1).bind fun r4 => (bif (!r4) then (some false) else (bif (a0.1 == 1) then ((f39 k a0).bind fun r5 => (some r5)) else (bif (a0.1 == 2) then (none) else (bif (a0.1 == 3) then (none) else (bif (!(sEq a0.2.2.2.2.2.2.2.2.2.2.2.2.2.2.2.2.2.1 sNil)) then (some (!(sEq a0.2.2.2.2.2.2.2.2.2.2.2.2.2.2.2.2.2.2.1 sNil))) else (some false))))))))))))
def f21_e (k : Nat) : Ent := { f := 21, inp := [.data tO], out := [.data .bool], run := fun v => f21 k v.1 }

def f28 (k : Nat) (a0 : cO) : Option cO :=
  (f49 k a0.2.2.2.2.2.1).bind fun r1 => ((f50 k a0.2.2.2.2.2.2.1).bind fun r2 => ((f49 k a0.2.2.2.2.2.2.2.1).bind fun r3 => ((f51 k a0.2.2.2.2.2.2.2.2.2.2.2.1).bind fun r4 => ((f49 k a0.2.2.2.2.2.2.2.2.2.2.2.2.1).bind fun r5 => (some (a0.1, a0.2.1, a0.2.2.1, a0.2.2.2.1, a0.2.2.2.2.1, r1, r2, r3, a0.2.2.2.2.2.2.2.2.1, a0.2.2.2.2.2.2.2.2.2.1, a0.2.2.2.2.2.2.2.2.2.2.1, r4, r5, a0.2.2.2.2.2.2.2.2.2.2.2.2.2.1, a0.2.2.2.2.2.2.2.2.2.2.2.2.2.2.1, a0.2.2.2.2.2.2.2.2.2.2.2.2.2.2.2.1, a0.2.2.2.2.2.2.2.2.2.2.2.2.2.2.2.2.1, a0.2.2.2.2.2.2.2.2.2.2.2.2.2.2.2.2.2.1, a0.2.2.2.2.2.2.2.2.2.2.2.2.2.2.2.2.2.2.1, ()))))))
def f28_e (k : Nat) : Ent := { f := 28, inp := [.data tO], out := [.data tO], run := fun v => f28 k v.1 }

def f22 (k : Nat) (a0 : cS) (a1 : Int) (a2 : cO) : Option (cH × Int × cS) :=
  bif (decide (a0.1 ≥ 1099511627776)) then (some ((0, (0, sNil, 0, 0, false, [], [], [], sNil, 0, 0, [], [], sNil, sNil, 0, sNil, sNil, sNil, ()), ()), 11, a0)) else ((f28 k a2).bind fun r1 => (some ((a1, (r1.1, r1.2.1, r1.2.2.1, (w64 (a0.1 + 1)), r1.2.2.2.2.1, r1.2.2.2.2.2.1, r1.2.2.2.2.2.2.1, r1.2.2.2.2.2.2.2.1, r1.2.2.2.2.2.2.2.2.1, r1.2.2.2.2.2.2.2.2.2.1, r1.2.2.2.2.2.2.2.2.2.2.1, r1.2.2.2.2.2.2.2.2.2.2.2.1, r1.2.2.2.2.2.2.2.2.2.2.2.2.1, r1.2.2.2.2.2.2.2.2.2.2.2.2.2.1, r1.2.2.2.2.2.2.2.2.2.2.2.2.2.2.1, r1.2.2.2.2.2.2.2.2.2.2.2.2.2.2.2.1, r1.2.2.2.2.2.2.2.2.2.2.2.2.2.2.2.2.1, r1.2.2.2.2.2.2.2.2.2.2.2.2.2.2.2.2.2.1, r1.2.2.2.2.2.2.2.2.2.2.2.2.2.2.2.2.2.2.1, ()), ()), 0, a0)))
def f22_e (k : Nat) : Ent := { f := 22, inp := [.tree (.own tS), .data (.int .i64), .data tO], out := [.data tH, .data (.int .i64), .out 0 (.own tS)], run := fun v => f22 k v.1 v.2.1 v.2.2.1 }

def f6 (k : Nat) (a0 : cS) (a1 : cO) : Option (cH × Int × cS) :=
  (f20 k a1).bind fun r1 => ((some (mget tK tO a0.2.2.1 r1)).bind fun m2 => ((f21 k a1).bind fun r3 => (bif (!r3) then (some ((0, (0, sNil, 0, 0, false, [], [], [], sNil, 0, 0, [], [], sNil, sNil, 0, sNil, sNil, sNil, ()), ()), 13, a0)) else (bif (Option.isSome m2) then (some ((0, (0, sNil, 0, 0, false, [], [], [], sNil, 0, 0, [], [], sNil, sNil, 0, sNil, sNil, sNil, ()), ()), 8, a0)) else (bif (decide ((lLen a0.2.2.1) ≥ 200)) then (some ((0, (0, sNil, 0, 0, false, [], [], [], sNil, 0, 0, [], [], sNil, sNil, 0, sNil, sNil, sNil, ()), ()), 9, a0)) else ((f22 k a0 1 (a1.1, a1.2.1, (w64 (a0.2.1 + 1)), a1.2.2.2.1, false, a1.2.2.2.2.2.1, a1.2.2.2.2.2.2.1, a1.2.2.2.2.2.2.2.1, a1.2.2.2.2.2.2.2.2.1, a1.2.2.2.2.2.2.2.2.2.1, a1.2.2.2.2.2.2.2.2.2.2.1, a1.2.2.2.2.2.2.2.2.2.2.2.1, a1.2.2.2.2.2.2.2.2.2.2.2.2.1, a1.2.2.2.2.2.2.2.2.2.2.2.2.2.1, a1.2.2.2.2.2.2.2.2.2.2.2.2.2.2.1, a1.2.2.2.2.2.2.2.2.2.2.2.2.2.2.2.1, a1.2.2.2.2.2.2.2.2.2.2.2.2.2.2.2.2.1, a1.2.2.2.2.2.2.2.2.2.2.2.2.2.2.2.2.2.1, a1.2.2.2.2.2.2.2.2.2.2.2.2.2.2.2.2.2.2.1, ())).bind fun r4 => (some (r4.1, r4.2.1, r4.2.2))))))))
def f6_e (k : Nat) : Ent := { f := 6, inp := [.tree (.own tS), .data tO], out := [.data tH, .data (.int .i64), .out 0 (.own tS)], run := fun v => f6 k v.1 v.2.1 }

def f30 (k : Nat) (a0 : cS) (a1 : cH) : Option (Bool × cS) :=
  (f20 k a1.2.1).bind fun r1 => ((some (mget tK tO a0.2.2.1 r1)).bind fun m2 => ((f27 k a1.2.1).bind fun r3 => (bif (!r3) then (some (false, a0)) else (bif (a1.2.1.2.2.2.1 != (w64 (a0.1 + 1))) then (some (false, a0)) else (bif (a1.1 == 1) then (bif (!(Option.isSome m2)) then (bif (decide ((lLen a0.2.2.1) < 200)) then (some ((a1.2.1.2.2.1 == (w64 (a0.2.1 + 1))), a0)) else (some (false, a0))) else (some (false, a0))) else (bif (a1.1 == 2) then (bif (a1.1 == 2) then (bif (Option.isSome m2) then (some ((((Option.getD m2 (Ty.zero tO)).2.2.1) == a1.2.1.2.2.1), a0)) else (some (false, a0))) else (some (false, a0))) else (bif (a1.1 == 3) then (bif (Option.isSome m2) then (some ((((Option.getD m2 (Ty.zero tO)).2.2.1) == a1.2.1.2.2.1), a0)) else (some (false, a0))) else (some (false, a0)))))))))
def f30_e (k : Nat) : Ent := { f := 30, inp := [.tree (.own tS), .data tH], out := [.data .bool, .out 0 (.own tS)], run := fun v => f30 k v.1 v.2.1 }

def f29 (k : Nat) (a0 : cH) : Option cH :=
  (f28 k a0.2.1).bind fun r1 => (some (a0.1, r1, ()))
def f29_e (k : Nat) : Ent := { f := 29, inp := [.data tH], out := [.data tH], run := fun v => f29 k v.1 }

def f12 (k : Nat) (a0 : cS) (a1 : cH) : Option (Int × cS) :=
  (f30 k a0 a1).bind fun r1 => (bif (!r1.1) then (some (10, r1.2)) else ((f29 k a1).bind fun r2 => (bif (r2.1 == 3) then ((f20 k r2.2.1).bind fun r3 => (bif (r2.1 == 1) then (roomK (r1.2.2.2.2.1.length + [r2].length) most (cutK (if (decide ((w64 ((lLen (r1.2.2.2.2.1 ++ [r2])) - 64)) > 0)) = true then (w64 ((lLen (r1.2.2.2.2.1 ++ [r2])) - 64)) else 0) (lLen (r1.2.2.2.2.1 ++ [r2])) (lLen (r1.2.2.2.2.1 ++ [r2])) (headK (if (decide ((w64 ((lLen (r1.2.2.2.2.1 ++ [r2])) - 64)) > 0)) = true then (w64 ((lLen (r1.2.2.2.2.1 ++ [r2])) - 64)) else 0) (List.length (r1.2.2.2.2.1 ++ [r2])) (some (0, ((w64 (r1.2.1 + 1)), (w64 (r1.2.2.1 + 1)), (mdel tK tO r1.2.2.2.1 r3), (lCut (r1.2.2.2.2.1 ++ [r2]) (if (decide ((w64 ((lLen (r1.2.2.2.2.1 ++ [r2])) - 64)) > 0)) = true then (w64 ((lLen (r1.2.2.2.2.1 ++ [r2])) - 64)) else 0) (lLen (r1.2.2.2.2.1 ++ [r2]))), ())))))) else (roomK (r1.2.2.2.2.1.length + [r2].length) most (cutK (if (decide ((w64 ((lLen (r1.2.2.2.2.1 ++ [r2])) - 64)) > 0)) = true then (w64 ((lLen (r1.2.2.2.2.1 ++ [r2])) - 64)) else 0) (lLen (r1.2.2.2.2.1 ++ [r2])) (lLen (r1.2.2.2.2.1 ++ [r2])) (headK (if (decide ((w64 ((lLen (r1.2.2.2.2.1 ++ [r2])) - 64)) > 0)) = true then (w64 ((lLen (r1.2.2.2.2.1 ++ [r2])) - 64)) else 0) (List.length (r1.2.2.2.2.1 ++ [r2])) (some (0, ((w64 (r1.2.1 + 1)), r1.2.2.1, (mdel tK tO r1.2.2.2.1 r3), (lCut (r1.2.2.2.2.1 ++ [r2]) (if (decide ((w64 ((lLen (r1.2.2.2.2.1 ++ [r2])) - 64)) > 0)) = true then (w64 ((lLen (r1.2.2.2.2.1 ++ [r2])) - 64)) else 0) (lLen (r1.2.2.2.2.1 ++ [r2]))), ())))))))) else ((f20 k r2.2.1).bind fun r4 => (bif (r2.1 == 1) then (roomK (r1.2.2.2.2.1.length + [r2].length) most (cutK (if (decide ((w64 ((lLen (r1.2.2.2.2.1 ++ [r2])) - 64)) > 0)) = true then (w64 ((lLen (r1.2.2.2.2.1 ++ [r2])) - 64)) else 0) (lLen (r1.2.2.2.2.1 ++ [r2])) (lLen (r1.2.2.2.2.1 ++ [r2])) (headK (if (decide ((w64 ((lLen (r1.2.2.2.2.1 ++ [r2])) - 64)) > 0)) = true then (w64 ((lLen (r1.2.2.2.2.1 ++ [r2])) - 64)) else 0) (List.length (r1.2.2.2.2.1 ++ [r2])) (some (0, ((w64 (r1.2.1 + 1)), (w64 (r1.2.2.1 + 1)), (mput tK tO r1.2.2.2.1 r4 r2.2.1), (lCut (r1.2.2.2.2.1 ++ [r2]) (if (decide ((w64 ((lLen (r1.2.2.2.2.1 ++ [r2])) - 64)) > 0)) = true then (w64 ((lLen (r1.2.2.2.2.1 ++ [r2])) - 64)) else 0) (lLen (r1.2.2.2.2.1 ++ [r2]))), ())))))) else (roomK (r1.2.2.2.2.1.length + [r2].length) most (cutK (if (decide ((w64 ((lLen (r1.2.2.2.2.1 ++ [r2])) - 64)) > 0)) = true then (w64 ((lLen (r1.2.2.2.2.1 ++ [r2])) - 64)) else 0) (lLen (r1.2.2.2.2.1 ++ [r2])) (lLen (r1.2.2.2.2.1 ++ [r2])) (headK (if (decide ((w64 ((lLen (r1.2.2.2.2.1 ++ [r2])) - 64)) > 0)) = true then (w64 ((lLen (r1.2.2.2.2.1 ++ [r2])) - 64)) else 0) (List.length (r1.2.2.2.2.1 ++ [r2])) (some (0, ((w64 (r1.2.1 + 1)), r1.2.2.1, (mput tK tO r1.2.2.2.1 r4 r2.2.1), (lCut (r1.2.2.2.2.1 ++ [r2]) (if (decide ((w64 ((lLen (r1.2.2.2.2.1 ++ [r2])) - 64)) > 0)) = true then (w64 ((lLen (r1.2.2.2.2.1 ++ [r2])) - 64)) else 0) (lLen (r1.2.2.2.2.1 ++ [r2]))), ())))))))))))
def f12_e (k : Nat) : Ent := { f := 12, inp := [.tree (.own tS), .data tH], out := [.data (.int .i64), .out 0 (.own tS)], run := fun v => f12 k v.1 v.2.1 }

def f23 (k : Nat) (a0 : Int) (a1 : Int) : Option Bool :=
  bif (a0 != 0) then (some (a0 != a1)) else (some false)
def f23_e (k : Nat) : Ent := { f := 23, inp := [.data (.int .i64), .data (.int .i64)], out := [.data .bool], run := fun v => f23 k v.1 v.2.1 }

def f72_s4 (k : Nat) (t0 : (List ByteArray)) (t1 : ByteArray) (t7 : Int) (t8 : Int) : Option (((List ByteArray) × ByteArray × Int × Int × Unit) ⊕ ((Int × Unit) ⊕ (Unit))) :=
  bif (decide (t8 < t7)) then (rangeK t8 (lLen t0) (bif (sEq t1 (lAt .str t0 t8)) then (some (.inr (.inl (t8, ())))) else (some (.inl (t0, t1, t7, (w64 (t8 + 1)), ()))))) else (some (.inr (.inr (()))))
def f72_s4_u (k : Nat) (v : ((List ByteArray) × ByteArray × Int × Int × Unit)) : Option (((List ByteArray) × ByteArray × Int × Int × Unit) ⊕ ((Int × Unit) ⊕ (Unit))) := f72_s4 k v.1 v.2.1 v.2.2.1 v.2.2.2.1
def f72_l4 (k : Nat) (t0 : (List ByteArray)) (t1 : ByteArray) (t7 : Int) (t8 : Int) : Option ((Int × Unit) ⊕ (Unit)) := iter (f72_s4_u k) k (t0, t1, t7, t8, ())
def f72 (k : Nat) (a0 : (List ByteArray)) (a1 : ByteArray) : Option Int :=
  (f72_l4 k a0 a1 (lLen a0) 0).bind fun o1 => (match o1 with | .inl o1' => (some (o1'.1)) | .inr o1' => (some (-1)))
def f72_e (k : Nat) : Ent := { f := 72, inp := [.data (.list .str), .data .str], out := [.data (.int .i64)], run := fun v => f72 k v.1 v.2.1 }

def f42 (k : Nat) (a0 : (List ByteArray)) (a1 : ByteArray) : Option Bool :=
  (f72 k a0 a1).bind fun r1 => (some (decide (r1 ≥ 0)))
def f42_e (k : Nat) : Ent := { f := 42, inp := [.data (.list .str), .data .str], out := [.data .bool], run := fun v => f42 k v.1 v.2.1 }

def f24_s4 (k : Nat) (t8 : (List ByteArray)) (t9 : Int) (t10 : Int) (h0 : cO) (h1 : cO) : Option (((List ByteArray) × Int × Int × cO × cO × Unit) ⊕ ((Bool × Unit) ⊕ (cO × cO × Unit))) :=
  bif (decide (t10 < t9)) then (rangeK t10 (lLen t8) (bif h0.2.2.2.2.1 then ((f42 k h0.2.2.2.2.2.1 (lAt .str t8 t10)).bind fun r3 => (bif (!r3) then (some (.inr (.inl (false, ())))) else (some (.inl (t8, t9, (w64 (t10 + 1)), h0, h1, ()))))) else (some (.inl (t8, t9, (w64 (t10 + 1)), h0, h1, ()))))) else (some (.inr (.inr (h0, h1, ()))))
def f24_s4_u (k : Nat) (v : ((List ByteArray) × Int × Int × cO × cO × Unit)) : Option (((List ByteArray) × Int × Int × cO × cO × Unit) ⊕ ((Bool × Unit) ⊕ (cO × cO × Unit))) := f24_s4 k v.1 v.2.1 v.2.2.1 v.2.2.2.1 v.2.2.2.2.1
def f24_l4 (k : Nat) (t8 : (List ByteArray)) (t9 : Int) (t10 : Int) (h0 : cO) (h1 : cO) : Option ((Bool × Unit) ⊕ (cO × cO × Unit)) := iter (f24_s4_u k) k (t8, t9, t10, h0, h1, ())
def f24 (k : Nat) (a0 : cO) (a1 : cO) : Option Bool :=
  (f24_l4 k a1.2.2.2.2.2.1 (lLen a1.2.2.2.2.2.1) 0 a0 a1).bind fun o4 => (match o4 with | .inl o4' => (some (o4'.1)) | .inr o4' => (bif (decide ((lLen ((o4'.2.1).2.2.2.2.2.2.2.1)) < (lLen ((o4'.1).2.2.2.2.2.2.2.1)))) then (some false) else (cutK 0 (lLen ((o4'.1).2.2.2.2.2.2.2.1)) (lLen ((o4'.2.1).2.2.2.2.2.2.2.1)) ((f43 k (lCut ((o4'.2.1).2.2.2.2.2.2.2.1) 0 (lLen ((o4'.1).2.2.2.2.2.2.2.1))) ((o4'.1).2.2.2.2.2.2.2.1)).bind fun r5 => (bif (!r5) then (some false) else (bif (sEq ((o4'.2.1).2.2.2.2.2.2.2.2.2.2.2.2.2.1) ((o4'.1).2.2.2.2.2.2.2.2.2.2.2.2.2.1)) then (bif (sEq ((o4'.2.1).2.2.2.2.2.2.2.2.2.2.2.2.2.2.1) ((o4'.1).2.2.2.2.2.2.2.2.2.2.2.2.2.2.1)) then (bif (((o4'.2.1).2.2.2.2.2.2.2.2.2.2.2.2.2.2.2.1) == ((o4'.1).2.2.2.2.2.2.2.2.2.2.2.2.2.2.2.1)) then (some (sEq ((o4'.2.1).2.2.2.2.2.2.2.2.2.2.2.2.2.2.2.2.1) ((o4'.1).2.2.2.2.2.2.2.2.2.2.2.2.2.2.2.2.1))) else (some false)) else (some false)) else (some false)))))))
def f24_e (k : Nat) : Ent := { f := 24, inp := [.data tO, .data tO], out := [.data .bool], run := fun v => f24 k v.1 v.2.1 }

def f25 (k : Nat) (a0 : cO) (a1 : cO) : Option Bool :=
  (f44 k (a0.1, a0.2.1, a0.2.2.1, a1.2.2.2.1, a0.2.2.2.2.1, a0.2.2.2.2.2.1, a0.2.2.2.2.2.2.1, a0.2.2.2.2.2.2.2.1, a0.2.2.2.2.2.2.2.2.1, a0.2.2.2.2.2.2.2.2.2.1, a0.2.2.2.2.2.2.2.2.2.2.1, a0.2.2.2.2.2.2.2.2.2.2.2.1, a0.2.2.2.2.2.2.2.2.2.2.2.2.1, a0.2.2.2.2.2.2.2.2.2.2.2.2.2.1, a0.2.2.2.2.2.2.2.2.2.2.2.2.2.2.1, a0.2.2.2.2.2.2.2.2.2.2.2.2.2.2.2.1, a0.2.2.2.2.2.2.2.2.2.2.2.2.2.2.2.2.1, a0.2.2.2.2.2.2.2.2.2.2.2.2.2.2.2.2.2.1, a0.2.2.2.2.2.2.2.2.2.2.2.2.2.2.2.2.2.2.1, ()) a1).bind fun r1 => (some r1)
def f25_e (k : Nat) : Ent := { f := 25, inp := [.data tO, .data tO], out := [.data .bool], run := fun v => f25 k v.1 v.2.1 }

def f26 (k : Nat) (a0 : cO) : Option (cH × Int) :=
  (f28 k a0).bind fun r1 => (some ((0, r1, ()), 0))
def f26_e (k : Nat) : Ent := { f := 26, inp := [.data tO], out := [.data tH, .data (.int .i64)], run := fun v => f26 k v.1 }

def f7 (k : Nat) (a0 : cS) (a1 : cO) : Option (cH × Int × cS) :=
  (f20 k a1).bind fun r1 => ((some (mget tK tO a0.2.2.1 r1)).bind fun m2 => (bif (!(Option.isSome m2)) then (some ((0, (0, sNil, 0, 0, false, [], [], [], sNil, 0, 0, [], [], sNil, sNil, 0, sNil, sNil, sNil, ()), ()), 7, a0)) else ((f23 k a1.2.2.2.1 ((Option.getD m2 (Ty.zero tO)).2.2.2.1)).bind fun r3 => (bif r3 then (some ((0, (0, sNil, 0, 0, false, [], [], [], sNil, 0, 0, [], [], sNil, sNil, 0, sNil, sNil, sNil, ()), ()), 10, a0)) else ((f23 k a1.2.2.1 ((Option.getD m2 (Ty.zero tO)).2.2.1)).bind fun r4 => (bif r4 then (some ((0, (0, sNil, 0, 0, false, [], [], [], sNil, 0, 0, [], [], sNil, sNil, 0, sNil, sNil, sNil, ()), ()), 10, a0)) else ((f21 k a1).bind fun r5 => (bif (!r5) then (some ((0, (0, sNil, 0, 0, false, [], [], [], sNil, 0, 0, [], [], sNil, sNil, 0, sNil, sNil, sNil, ()), ()), 13, a0)) else ((f24 k (Option.getD m2 (Ty.zero tO)) a1).bind fun r6 => (bif (!r6) then (some ((0, (0, sNil, 0, 0, false, [], [], [], sNil, 0, 0, [], [], sNil, sNil, 0, sNil, sNil, sNil, ()), ()), 16, a0)) else ((f25 k (a1.1, a1.2.1, (Option.getD m2 (Ty.zero tO)).2.2.1, a1.2.2.2.1, (Option.getD m2 (Ty.zero tO)).2.2.2.2.1, a1.2.2.2.2.2.1, a1.2.2.2.2.2.2.1, a1.2.2.2.2.2.2.2.1, a1.2.2.2.2.2.2.2.2.1, a1.2.2.2.2.2.2.2.2.2.1, a1.2.2.2.2.2.2.2.2.2.2.1, a1.2.2.2.2.2.2.2.2.2.2.2.1, a1.2.2.2.2.2.2.2.2.2.2.2.2.1, a1.2.2.2.2.2.2.2.2.2.2.2.2.2.1, a1.2.2.2.2.2.2.2.2.2.2.2.2.2.2.1, a1.2.2.2.2.2.2.2.2.2.2.2.2.2.2.2.1, a1.2.2.2.2.2.2.2.2.2.2.2.2.2.2.2.2.1, a1.2.2.2.2.2.2.2.2.2.2.2.2.2.2.2.2.2.1, a1.2.2.2.2.2.2.2.2.2.2.2.2.2.2.2.2.2.2.1, ()) (Option.getD m2 (Ty.zero tO))).bind fun r7 => (bif r7 then ((f26 k (Option.getD m2 (Ty.zero tO))).bind fun r8 => (some (r8.1, r8.2, a0))) else (bif (Option.getD m2 (Ty.zero tO)).2.2.2.2.1 then (bif ((lLen a1.2.2.2.2.2.1) == 0) then ((f22 k a0 3 (a1.1, a1.2.1, (Option.getD m2 (Ty.zero tO)).2.2.1, a1.2.2.2.1, (Option.getD m2 (Ty.zero tO)).2.2.2.2.1, a1.2.2.2.2.2.1, a1.2.2.2.2.2.2.1, a1.2.2.2.2.2.2.2.1, a1.2.2.2.2.2.2.2.2.1, a1.2.2.2.2.2.2.2.2.2.1, a1.2.2.2.2.2.2.2.2.2.2.1, a1.2.2.2.2.2.2.2.2.2.2.2.1, a1.2.2.2.2.2.2.2.2.2.2.2.2.1, a1.2.2.2.2.2.2.2.2.2.2.2.2.2.1, a1.2.2.2.2.2.2.2.2.2.2.2.2.2.2.1, a1.2.2.2.2.2.2.2.2.2.2.2.2.2.2.2.1, a1.2.2.2.2.2.2.2.2.2.2.2.2.2.2.2.2.1, a1.2.2.2.2.2.2.2.2.2.2.2.2.2.2.2.2.2.1, a1.2.2.2.2.2.2.2.2.2.2.2.2.2.2.2.2.2.2.1, ())).bind fun r9 => (some (r9.1, r9.2.1, r9.2.2))) else ((f22 k a0 2 (a1.1, a1.2.1, (Option.getD m2 (Ty.zero tO)).2.2.1, a1.2.2.2.1, (Option.getD m2 (Ty.zero tO)).2.2.2.2.1, a1.2.2.2.2.2.1, a1.2.2.2.2.2.2.1, a1.2.2.2.2.2.2.2.1, a1.2.2.2.2.2.2.2.2.1, a1.2.2.2.2.2.2.2.2.2.1, a1.2.2.2.2.2.2.2.2.2.2.1, a1.2.2.2.2.2.2.2.2.2.2.2.1, a1.2.2.2.2.2.2.2.2.2.2.2.2.1, a1.2.2.2.2.2.2.2.2.2.2.2.2.2.1, a1.2.2.2.2.2.2.2.2.2.2.2.2.2.2.1, a1.2.2.2.2.2.2.2.2.2.2.2.2.2.2.2.1, a1.2.2.2.2.2.2.2.2.2.2.2.2.2.2.2.2.1, a1.2.2.2.2.2.2.2.2.2.2.2.2.2.2.2.2.2.1, a1.2.2.2.2.2.2.2.2.2.2.2.2.2.2.2.2.2.2.1, ())).bind fun r10 => (some (r10.1, r10.2.1, r10.2.2)))) else ((f22 k a0 2 (a1.1, a1.2.1, (Option.getD m2 (Ty.zero tO)).2.2.1, a1.2.2.2.1, (Option.getD m2 (Ty.zero tO)).2.2.2.2.1, a1.2.2.2.2.2.1, a1.2.2.2.2.2.2.1, a1.2.2.2.2.2.2.2.1, a1.2.2.2.2.2.2.2.2.1, a1.2.2.2.2.2.2.2.2.2.1, a1.2.2.2.2.2.2.2.2.2.2.1, a1.2.2.2.2.2.2.2.2.2.2.2.1, a1.2.2.2.2.2.2.2.2.2.2.2.2.1, a1.2.2.2.2.2.2.2.2.2.2.2.2.2.1, a1.2.2.2.2.2.2.2.2.2.2.2.2.2.2.1, a1.2.2.2.2.2.2.2.2.2.2.2.2.2.2.2.1, a1.2.2.2.2.2.2.2.2.2.2.2.2.2.2.2.2.1, a1.2.2.2.2.2.2.2.2.2.2.2.2.2.2.2.2.2.1, a1.2.2.2.2.2.2.2.2.2.2.2.2.2.2.2.2.2.2.1, ())).bind fun r11 => (some (r11.1, r11.2.1, r11.2.2))))))))))))))))
def f7_e (k : Nat) : Ent := { f := 7, inp := [.tree (.own tS), .data tO], out := [.data tH, .data (.int .i64), .out 0 (.own tS)], run := fun v => f7 k v.1 v.2.1 }

def f14 (k : Nat) (a0 : cS) : Option (Int × cS) :=
  some (a0.1, a0)
def f14_e (k : Nat) : Ent := { f := 14, inp := [.tree (.own tS)], out := [.data (.int .i64), .out 0 (.own tS)], run := fun v => f14 k v.1 }

def f4 (k : Nat) : Option Bool :=
  (f17 k).bind fun r1 => ((f6 k r1 (1, (⟨#[110]⟩ : ByteArray), 0, 0, false, [], [], [], sNil, 0, 0, [], [], sNil, sNil, 0, sNil, sNil, sNil, ())).bind fun r2 => ((f12 k r2.2.2 r2.1).bind fun r3 => ((f6 k r3.2 (1, (⟨#[110]⟩ : ByteArray), 0, 0, false, [], [], [], sNil, 0, 0, [], [], sNil, sNil, 0, sNil, sNil, sNil, ())).bind fun r4 => ((f7 k r4.2.2 (1, (⟨#[110]⟩ : ByteArray), 0, 5, false, [], [], [], sNil, 0, 0, [], [], sNil, sNil, 0, sNil, sNil, sNil, ())).bind fun r5 => (bif (r2.2.1 == 0) then (bif (r3.1 == 0) then ((f14 k r5.2.2).bind fun r6 => (bif (r6.1 == 1) then (bif (r2.1.2.1.2.2.1 == 1) then (bif (r4.2.1 == 8) then (some (r5.2.1 == 10)) else (some false)) else (some false)) else (some false))) else (some false)) else (some false))))))
def f4_e (k : Nat) : Ent := { f := 4, inp := [], out := [.data .bool], run := fun v => f4 k  }

def f18_s8 (k : Nat) (t0 : (List (ByteArray × ByteArray × Unit))) (t3 : Int) : Option (((List (ByteArray × ByteArray × Unit)) × Int × Unit) ⊕ ((Bool × Unit) ⊕ (Unit))) :=
  bif (decide (t3 < (lLen t0))) then (rangeK t3 (lLen t0) (bif (decide ((sLen ((lAt (.agg (.pair .str (.pair .str .unit))) t0 t3).1)) > 200)) then (some (.inr (.inl (true, ())))) else (rangeK t3 (lLen t0) (bif (decide ((sLen ((lAt (.agg (.pair .str (.pair .str .unit))) t0 t3).2.1)) > 200)) then (some (.inr (.inl (true, ())))) else (some (.inl (t0, (w64 (t3 + 1)), ()))))))) else (some (.inr (.inr (()))))
def f18_s8_u (k : Nat) (v : ((List (ByteArray × ByteArray × Unit)) × Int × Unit)) : Option (((List (ByteArray × ByteArray × Unit)) × Int × Unit) ⊕ ((Bool × Unit) ⊕ (Unit))) := f18_s8 k v.1 v.2.1
def f18_l8 (k : Nat) (t0 : (List (ByteArray × ByteArray × Unit))) (t3 : Int) : Option ((Bool × Unit) ⊕ (Unit)) := iter (f18_s8_u k) k (t0, t3, ())
def f18 (k : Nat) (a0 : (List (ByteArray × ByteArray × Unit))) : Option Bool :=
  bif (decide ((lLen a0) > 40)) then (some true) else ((f18_l8 k a0 0).bind fun o1 => (match o1 with | .inl o1' => (some (o1'.1)) | .inr o1' => (some false)))
def f18_e (k : Nat) : Ent := { f := 18, inp := [.data (.list (.agg (.pair .str (.pair .str .unit))))], out := [.data .bool], run := fun v => f18 k v.1 }

def f19_s8 (k : Nat) (t0 : (List ByteArray)) (t3 : Int) : Option (((List ByteArray) × Int × Unit) ⊕ ((Bool × Unit) ⊕ (Unit))) :=
  bif (decide (t3 < (lLen t0))) then (rangeK t3 (lLen t0) (bif (decide ((sLen (lAt .str t0 t3)) > 600)) then (some (.inr (.inl (true, ())))) else (some (.inl (t0, (w64 (t3 + 1)), ()))))) else (some (.inr (.inr (()))))
def f19_s8_u (k : Nat) (v : ((List ByteArray) × Int × Unit)) : Option (((List ByteArray) × Int × Unit) ⊕ ((Bool × Unit) ⊕ (Unit))) := f19_s8 k v.1 v.2.1
def f19_l8 (k : Nat) (t0 : (List ByteArray)) (t3 : Int) : Option ((Bool × Unit) ⊕ (Unit)) := iter (f19_s8_u k) k (t0, t3, ())
def f19 (k : Nat) (a0 : (List ByteArray)) : Option Bool :=
  bif (decide ((lLen a0) > 40)) then (some true) else ((f19_l8 k a0 0).bind fun o1 => (match o1 with | .inl o1' => (some (o1'.1)) | .inr o1' => (some false)))
def f19_e (k : Nat) : Ent := { f := 19, inp := [.data (.list .str)], out := [.data .bool], run := fun v => f19 k v.1 }

def f5 (k : Nat) (a0 : cO) : Option Bool :=
  bif (decide ((w64 ((w64 ((w64 ((w64 ((w64 ((w64 ((sLen a0.2.1) + (sLen a0.2.2.2.2.2.2.2.2.1))) + (sLen a0.2.2.2.2.2.2.2.2.2.2.2.2.2.1))) + (sLen a0.2.2.2.2.2.2.2.2.2.2.2.2.2.2.1))) + (sLen a0.2.2.2.2.2.2.2.2.2.2.2.2.2.2.2.2.1))) + (sLen a0.2.2.2.2.2.2.2.2.2.2.2.2.2.2.2.2.2.1))) + (sLen a0.2.2.2.2.2.2.2.2.2.2.2.2.2.2.2.2.2.2.1))) > 5000)) then (some true) else (bif (decide ((lLen a0.2.2.2.2.2.2.2.2.2.2.2.1) > 40)) then (some true) else ((f18 k a0.2.2.2.2.2.2.1).bind fun r1 => (bif r1 then (some true) else ((f19 k a0.2.2.2.2.2.1).bind fun r2 => (bif r2 then (some true) else ((f19 k a0.2.2.2.2.2.2.2.1).bind fun r3 => (bif r3 then (some true) else ((f19 k a0.2.2.2.2.2.2.2.2.2.2.2.2.1).bind fun r4 => (some r4)))))))))
def f5_e (k : Nat) : Ent := { f := 5, inp := [.data tO], out := [.data .bool], run := fun v => f5 k v.1 }

def f6a (k : Nat) (a1 : cO) : Option (cH × Int) :=
  some ((0, (0, sNil, 0, 0, false, [], [], [], sNil, 0, 0, [], [], sNil, sNil, 0, sNil, sNil, sNil, ()), ()), 2)
def f6a_e (k : Nat) : Ent := { f := 6, inp := [.nilp, .data tO], out := [.data tH, .data (.int .i64)], run := fun v => f6a k v.2.1 }

def f7a (k : Nat) (a1 : cO) : Option (cH × Int) :=
  some ((0, (0, sNil, 0, 0, false, [], [], [], sNil, 0, 0, [], [], sNil, sNil, 0, sNil, sNil, sNil, ()), ()), 2)
def f7a_e (k : Nat) : Ent := { f := 7, inp := [.nilp, .data tO], out := [.data tH, .data (.int .i64)], run := fun v => f7a k v.2.1 }

def f8 (k : Nat) (a1 : Int) (a2 : ByteArray) (a3 : Int) : Option (cH × Int) :=
  some ((0, (0, sNil, 0, 0, false, [], [], [], sNil, 0, 0, [], [], sNil, sNil, 0, sNil, sNil, sNil, ()), ()), 2)
def f8_e (k : Nat) : Ent := { f := 8, inp := [.nilp, .data (.int .i64), .data .str, .data (.int .i64)], out := [.data tH, .data (.int .i64)], run := fun v => f8 k v.2.1 v.2.2.1 v.2.2.2.1 }

def f9 (k : Nat) (a1 : ByteArray) (a2 : (List ByteArray)) : Option (cH × Int) :=
  some ((0, (0, sNil, 0, 0, false, [], [], [], sNil, 0, 0, [], [], sNil, sNil, 0, sNil, sNil, sNil, ()), ()), 2)
def f9_e (k : Nat) : Ent := { f := 9, inp := [.nilp, .data .str, .data (.list .str)], out := [.data tH, .data (.int .i64)], run := fun v => f9 k v.2.1 v.2.2.1 }

def f10 (k : Nat) (a1 : Int) (a2 : ByteArray) : Option (cO × Int) :=
  some ((0, sNil, 0, 0, false, [], [], [], sNil, 0, 0, [], [], sNil, sNil, 0, sNil, sNil, sNil, ()), 2)
def f10_e (k : Nat) : Ent := { f := 10, inp := [.nilp, .data (.int .i64), .data .str], out := [.data tO, .data (.int .i64)], run := fun v => f10 k v.2.1 v.2.2.1 }

def f11 (k : Nat) (a1 : Int) : Option ((List cH) × Int) :=
  some ([], 2)
def f11_e (k : Nat) : Ent := { f := 11, inp := [.nilp, .data (.int .i64)], out := [.data (.list tH), .data (.int .i64)], run := fun v => f11 k v.2.1 }

def f12a (k : Nat) (a1 : cH) : Option Int :=
  some 2
def f12a_e (k : Nat) : Ent := { f := 12, inp := [.nilp, .data tH], out := [.data (.int .i64)], run := fun v => f12a k v.2.1 }

def f13 (k : Nat) (a1 : Int) : Option (List cO) :=
  some []
def f13_e (k : Nat) : Ent := { f := 13, inp := [.nilp, .data (.int .i64)], out := [.data (.list tO)], run := fun v => f13 k v.2.1 }

def f14a (k : Nat) : Option Int :=
  some 0
def f14a_e (k : Nat) : Ent := { f := 14, inp := [.nilp], out := [.data (.int .i64)], run := fun v => f14a k  }

def f15 (k : Nat) : Option (Option cS) :=
  some none
def f15_e (k : Nat) : Ent := { f := 15, inp := [.nilp], out := [.tree (.opt tS)], run := fun v => f15 k  }

def f16 (k : Nat) : Option ByteArray :=
  some sNil
def f16_e (k : Nat) : Ent := { f := 16, inp := [.nilp], out := [.data .str], run := fun v => f16 k  }

def f3 (k : Nat) (a0 : cO) (a1 : Int) : Option Bool :=
  (f4 k).bind fun r1 => (bif (!r1) then (some false) else ((f5 k a0).bind fun r2 => (bif r2 then (some true) else ((f6a k a0).bind fun r3 => ((f7a k a0).bind fun r4 => ((f8 k a0.1 a0.2.1 a1).bind fun r5 => ((f9 k a0.2.1 []).bind fun r6 => ((f10 k a0.1 a0.2.1).bind fun r7 => ((f11 k a1).bind fun r8 => (bif (r3.2 == 2) then (bif (r4.2 == 2) then (bif (r5.2 == 2) then (bif (r6.2 == 2) then (bif (r7.2 == 2) then (bif ((lLen r8.1) == 0) then (bif (r8.2 == 2) then ((f12a k (0, (0, sNil, 0, 0, false, [], [], [], sNil, 0, 0, [], [], sNil, sNil, 0, sNil, sNil, sNil, ()), ())).bind fun r9 => (bif (r9 == 2) then ((f13 k a1).bind fun r10 => (bif ((lLen r10) == 0) then ((f14a k).bind fun r11 => (bif (r11 == 0) then ((f15 k).bind fun r12 => (match r12 with | some _ => (some false) | none => ((f16 k).bind fun r13 => (some (sEq r13 sNil))))) else (some false))) else (some false))) else (some false))) else (some false)) else (some false)) else (some false)) else (some false)) else (some false)) else (some false)) else (some false)))))))))))
def f3_e (k : Nat) : Ent := { f := 3, inp := [.data tO, .data (.int .i64)], out := [.data .bool], run := fun v => f3 k v.1 v.2.1 }

end Go.Proofs.YtldlhoapojaljaaGreatDoor
