/-
  The interpreter of the translation's code, and the proof that it is sound: part 1.
-/
import Derived.Orders
import Derived.Below
import Derived.Laws.StructEq
import Derived.Laws.Sem
import Derived.Laws.Cells
import Derived.Laws.World
import Derived.Laws.Rows
import Derived.Laws.AppendOwn
set_option linter.unusedVariables false
namespace Go.PB
open Go Go.RowKit
/-! ## 1. Codes of data -/
inductive Ty where
  | int (k : IntKind)
  | bool
  | err
  | str
  | list (t : Ty)
  | unit
  | pair (a b : Ty)
  | agg (t : Ty)
  | arr (n : Nat) (t : Ty)
abbrev Ty.C : Ty → Type
  | .int _ => Int
  | .bool => Bool
  | .err => Bool
  | .str => ByteArray
  | .list t => List t.C
  | .unit => Unit
  | .pair a b => a.C × b.C
  | .agg t => t.C
  | .arr _ t => List t.C
def Ty.zero : (t : Ty) → t.C
  | .int _ => (0 : Int)
  | .bool => false
  | .err => true
  | .str => (⟨#[]⟩ : ByteArray)
  | .list _ => []
  | .unit => ()
  | .pair a b => (a.zero, b.zero)
  | .agg t => t.zero
  | .arr n t => List.replicate n t.zero
def Ty.zcells : Ty → List Value
  | .int k => [.int k 0]
  | .bool => [.bool false]
  | .err => [.nilIface]
  | .str => [.string ⟨#[]⟩]
  | .list _ => [.slice none 0 0]
  | .unit => []
  | .pair a b => a.zcells ++ b.zcells
  | .agg t => t.zcells
  | .arr n t => (List.replicate n t.zcells).flatten
def Ty.width : Ty → Nat
  | .int _ | .bool | .err | .str | .list _ => 1
  | .unit => 0
  | .pair a b => a.width + b.width
  | .agg t => t.width
  | .arr n t => n * t.width
def Ty.refs : Ty → Bool
  | .int _ | .bool | .err | .str | .unit => false
  | .list _ => true
  | .pair a b => a.refs || b.refs
  | .agg t => t.refs
  | .arr _ t => t.refs
def Ty.isAgg : Ty → Bool
  | .agg _ | .arr _ _ => true
  | _ => false
def Ty.isVal : Ty → Bool
  | .unit | .pair _ _ => false
  | _ => true
def Ty.plainEq : Ty → Bool
  | .list _ | .err | .arr _ _ => false
  | .pair a b => a.plainEq && b.plainEq
  | .agg t => t.plainEq
  | _ => true
def Ty.deep : Ty → Nat
  | .pair a b => a.deep + b.deep
  | .agg t => t.deep + 1
  | _ => 0
def Ty.eqD : (t : Ty) → t.C → t.C → Bool
  | .int _, x, y => decide (x = y)
  | .bool, x, y => x == y
  | .err, _, _ => false
  | .str, x, y => x.toList == y.toList
  | .list _, _, _ => false
  | .arr _ _, _, _ => false
  | .unit, _, _ => true
  | .pair a b, x, y => a.eqD x.1 y.1 && b.eqD x.2 y.2
  | .agg t, x, y => t.eqD x y
def Ty.eq? : (a b : Ty) → Option (PLift (a = b))
  | .int k, .int k' => if h : k = k' then some ⟨by rw [h]⟩ else none
  | .bool, .bool => some ⟨rfl⟩
  | .err, .err => some ⟨rfl⟩
  | .str, .str => some ⟨rfl⟩
  | .unit, .unit => some ⟨rfl⟩
  | .list a, .list b => match Ty.eq? a b with | some ⟨h⟩ => some ⟨by rw [h]⟩ | none => none
  | .agg a, .agg b => match Ty.eq? a b with | some ⟨h⟩ => some ⟨by rw [h]⟩ | none => none
  | .arr n a, .arr m b => if h' : n = m then match Ty.eq? a b with | some ⟨h⟩ => some ⟨by rw [h, h']⟩ | none => none else none
  | .pair a b, .pair c d => match Ty.eq? a c, Ty.eq? b d with | some ⟨h⟩, some ⟨h'⟩ => some ⟨by rw [h, h']⟩ | _, _ => none
  | _, _ => none
def rangeK {R : Type} (i n : Int) (K : Option R) : Option R := if 0 ≤ i ∧ i < n then K else none
def cutK {R : Type} (l h n : Int) (K : Option R) : Option R := if 0 ≤ l ∧ l ≤ h ∧ h ≤ n then K else none
def roomK {R : Type} (n m : Nat) (K : Option R) : Option R := if n ≤ m then K else none
def nzK {R : Type} (y : Int) (K : Option R) : Option R := if y = 0 then none else K
def posK {R : Type} (y : Int) (K : Option R) : Option R := if y < 0 then none else K
def sameK {R : Type} (a b : Ty) (K : Option R) : Option R :=
  match Ty.eq? a b with
  | some _ => K
  | none => none
def castK {R : Type} (a b : Ty) (x : a.C) (K : b.C → Option R) : Option R :=
  match Ty.eq? a b with
  | some ⟨h⟩ => K (h ▸ x)
  | none => none
def Ty.compK {R : Type} : (t : Ty) → t.C → Nat → ((t' : Ty) → t'.C → Option R) → Option R
  | .pair a _, x, 0, K => K a x.1
  | .pair _ b, x, n + 1, K => Ty.compK b x.2 n K
  | _, _, _, _ => none
def Ty.compOff : Ty → Nat → Option (Nat × Ty)
  | .pair a _, 0 => some (0, a)
  | .pair a b, n + 1 => match Ty.compOff b n with | some (o, t) => some (a.width + o, t) | none => none
  | _, _ => none
def Ty.getK {R : Type} : (p : List Nat) → (t : Ty) → t.C → ((t' : Ty) → t'.C → Option R) → Option R
  | [], t, x, K => K t x
  | f :: p, .agg t, x, K => Ty.compK t x f fun t' x' => Ty.getK p t' x' K
  | f :: p, .arr n t, x, K => roomK (f + 1) n (Ty.getK p t (x.getD f t.zero) K)
  | _ :: _, _, _, _ => none
def Ty.pathOff : List Nat → Ty → Option (Nat × Ty)
  | [], t => some (0, t)
  | f :: p, .agg t => match Ty.compOff t f with
    | some (o, t') => match Ty.pathOff p t' with | some (o', t'') => some (o + o', t'') | none => none
    | none => none
  | f :: p, .arr n t => if f < n then match Ty.pathOff p t with | some (o', t'') => some (f * t.width + o', t'') | none => none else none
  | _ :: _, _ => none
def Ty.compSet {R : Type} : (t : Ty) → t.C → Nat → ((t' : Ty) → t'.C → (t'.C → Option R) → Option R) → (t.C → Option R) → Option R
  | .pair a _, x, 0, g, K => g a x.1 fun y => K (y, x.2)
  | .pair _ b, x, n + 1, g, K => Ty.compSet b x.2 n g fun y => K (x.1, y)
  | _, _, _, _, _ => none
def Ty.setK {R : Type} : (p : List Nat) → (t : Ty) → t.C → (t' : Ty) → t'.C → (t.C → Option R) → Option R
  | [], t, _, t', y, K => castK t' t y K
  | f :: p, .agg t, x, t', y, K => Ty.compSet t x f (fun u z k => Ty.setK p u z t' y k) K
  | f :: p, .arr n t, x, t', y, K => roomK (f + 1) n (Ty.setK p t (x.getD f t.zero) t' y fun z => K (x.set f z))
  | _ :: _, _, _, _, _, _ => none
/-! ## 1b. Codes of trees: what an object owns -/
inductive TT where
  | data (t : Ty)
  | vec (t : Ty)
  | map (k v : Ty)
  | own (τ : TT)
  | opt (τ : TT)
  | hole
  | unit
  | pair (a b : TT)
  | agg (τ : TT)
abbrev TT.C : TT → Type
  | .data t => t.C
  | .vec t => List t.C
  | .map k v => List (k.C × v.C)
  | .own τ => τ.C
  | .opt τ => Option τ.C
  | .hole => Unit
  | .unit => Unit
  | .pair a b => a.C × b.C
  | .agg τ => τ.C
def TT.width : TT → Nat
  | .data t => t.width
  | .vec _ | .map _ _ | .own _ | .opt _ | .hole => 1
  | .unit => 0
  | .pair a b => a.width + b.width
  | .agg τ => τ.width
def TT.isAgg : TT → Bool
  | .data t => t.isAgg
  | .agg _ => true
  | _ => false
def TT.fixed : TT → Bool := fun _ => true
def TT.zt : TT → TT
  | .map _ _ => .hole
  | .own _ => .hole
  | .pair a b => .pair a.zt b.zt
  | .agg τ => .agg τ.zt
  | τ => τ
def TT.zero : (τ : TT) → τ.C
  | .data t => t.zero
  | .vec _ => []
  | .map _ _ => []
  | .own τ => τ.zero
  | .opt _ => none
  | .hole => ()
  | .unit => ()
  | .pair a b => (a.zero, b.zero)
  | .agg τ => τ.zero
def TT.eq? : (a b : TT) → Option (PLift (a = b))
  | .data a, .data b => match Ty.eq? a b with | some ⟨h⟩ => some ⟨by rw [h]⟩ | none => none
  | .vec a, .vec b => match Ty.eq? a b with | some ⟨h⟩ => some ⟨by rw [h]⟩ | none => none
  | .map a b, .map c d => match Ty.eq? a c, Ty.eq? b d with | some ⟨h⟩, some ⟨h'⟩ => some ⟨by rw [h, h']⟩ | _, _ => none
  | .own a, .own b => match TT.eq? a b with | some ⟨h⟩ => some ⟨by rw [h]⟩ | none => none
  | .opt a, .opt b => match TT.eq? a b with | some ⟨h⟩ => some ⟨by rw [h]⟩ | none => none
  | .agg a, .agg b => match TT.eq? a b with | some ⟨h⟩ => some ⟨by rw [h]⟩ | none => none
  | .hole, .hole => some ⟨rfl⟩
  | .unit, .unit => some ⟨rfl⟩
  | .pair a b, .pair c d => match TT.eq? a c, TT.eq? b d with | some ⟨h⟩, some ⟨h'⟩ => some ⟨by rw [h, h']⟩ | _, _ => none
  | _, _ => none
def castT {R : Type} (a b : TT) (x : a.C) (K : b.C → Option R) : Option R :=
  match TT.eq? a b with
  | some ⟨h⟩ => K (h ▸ x)
  | none => none
def TT.compOff : TT → Nat → Option (Nat × TT)
  | .pair a _, 0 => some (0, a)
  | .pair a b, n + 1 => match TT.compOff b n with | some (o, t) => some (a.width + o, t) | none => none
  | _, _ => none
def TT.off (τ : TT) (f : Nat) : Option Nat :=
  match τ with
  | .agg τ => (τ.compOff f).map (·.1)
  | .data (.agg t) => (t.compOff f).map (·.1)
  | _ => none
def TT.compMod {R : Type} : (τ : TT) → τ.C → Nat → ((τ' : TT) → τ'.C → ((τ'' : TT) → τ''.C → Option R) → Option R) → ((τ' : TT) → τ'.C → Option R) → Option R
  | .pair a b, x, 0, g, K => g a x.1 fun a' y => K (.pair a' b) (y, x.2)
  | .pair a b, x, n + 1, g, K => TT.compMod b x.2 n g fun b' y => K (.pair a b') (x.1, y)
  | _, _, _, _, _ => none
def TT.modK {R : Type} : (p : List Nat) → (τ : TT) → τ.C → ((τ' : TT) → τ'.C → ((τ'' : TT) → τ''.C → Option R) → Option R) → ((τ' : TT) → τ'.C → Option R) → Option R
  | [], τ, x, g, K => g τ x K
  | f :: p, .agg τ, x, g, K => TT.compMod τ x f (fun u y k => TT.modK p u y g k) fun τ' x' => K (.agg τ') x'
  | _ :: p, .own τ, x, g, K => TT.modK p τ x g fun τ' x' => K (.own τ') x'
  | _ :: p, .opt τ, x, g, K => match x with
    | some x => TT.modK p τ x g fun τ' x' => K (.opt τ') (some x')
    | none => none
  | f :: p, .data t, x, g, K => Ty.getK (f :: p) t x fun t' y => g (.data t') y fun τ'' z => match τ'', z with
    | .data t'', z => Ty.setK (f :: p) t x t'' z fun x' => K (.data t) x'
    | _, _ => none
  | _ :: _, _, _, _, _ => none
def TT.compK {R : Type} : (τ : TT) → τ.C → Nat → ((τ' : TT) → τ'.C → Option R) → Option R
  | .pair a _, x, 0, K => K a x.1
  | .pair _ b, x, n + 1, K => TT.compK b x.2 n K
  | _, _, _, _ => none
def TT.getK {R : Type} : (p : List Nat) → (τ : TT) → τ.C → ((τ' : TT) → τ'.C → Option R) → Option R
  | [], τ, x, K => K τ x
  | f :: p, .agg τ, x, K => TT.compK τ x f fun u y => TT.getK p u y K
  | _ :: p, .own τ, x, K => TT.getK p τ x K
  | _ :: p, .opt τ, x, K => match x with
    | some x => TT.getK p τ x K
    | none => none
  | f :: p, .data t, x, K => Ty.getK (f :: p) t x fun t' y => K (.data t') y
  | _ :: _, _, _, _ => none
structure Tab where
  ty : TypeId → Option Ty
  mt : TypeId → Option TT
  bx : TypeId → Bool
instance : CoeFun Tab (fun _ => TypeId → Option Ty) := ⟨Tab.ty⟩
structure Ver where
  s : Nat
  w : Nat
def Ver.up (v : Ver) : Ver := ⟨v.s + 1, v.w + 1⟩
def Ver.wr (v : Ver) : Ver := ⟨v.s, v.w + 1⟩
structure LS where
  s : Nat
  p : List Nat
structure Lg where
  p : List Nat
  τ : TT
  y : τ.C
/-! ## 2. Abstract values and objects -/
inductive AVal where
  | data (t : Ty) (x : t.C)
  | osl (id ver : Nat)
  | ptr (id : Nat) (path : List Nat)
  | rptr (t : Ty) (x : t.C)
  | eptr (id ver i : Nat) (path : List Nat)
  | iter (id : Nat)
  | fn (f : FuncId) (caps : AVal)
  | tnil
  | tcons (a b : AVal)
  | nils
  | nilp
  | tv (id ver : Nat) (path : List Nat)
  | ad (id ver : Nat) (path : List Nat)
  | elt (id ver : Nat) (path : List Nat) (i : Nat) (sub : List Nat)
  | lease (id : Nat) (s : LS) (w : Nat) (t : Ty) (x : t.C)
  | undef
  | dead
inductive AObj where
  | none
  | vt (ver : Ver) (τ : TT) (x : τ.C)
  | box (t : Ty) (x : t.C)
  | row (ver : Nat) (t : Ty) (l : List t.C)
  | frow (ver : Nat) (t : Ty) (l : List t.C)
  | fbox (t : Ty) (x : t.C)
  | iter (s : ByteArray) (pos : Nat)
inductive RVal where
  | data (t : Ty) (x : t.C)
  | row (id ver : Nat) (t : Ty) (l : List t.C)
  | box (id : Nat) (t : Ty) (x : t.C) (path : List Nat)
  | fbox (t : Ty) (x : t.C) (path : List Nat)
  | rptr (t : Ty) (x : t.C)
  | elem (id ver : Nat) (t : Ty) (l : List t.C) (i : Nat) (path : List Nat)
  | iter (id : Nat) (s : ByteArray) (pos : Nat)
  | fn (f : FuncId) (caps : RVal)
  | tnil
  | tcons (a b : RVal)
  | nils
  | nilp
  | tr (id : Nat) (ver : Ver) (path : List Nat) (τ : TT) (x : τ.C)
  | ad (id : Nat) (ver : Ver) (path : List Nat) (τ : TT) (x : τ.C)
  | elt (id : Nat) (ver : Ver) (path : List Nat) (τ : TT) (x : τ.C) (i : Nat) (sub : List Nat)
  | lease (id : Nat) (g : Lg) (t : Ty) (x : t.C)
  | tree (τ : TT) (x : τ.C)
  | dead
def AObj.owns : AObj → Bool
  | .box .. | .row .. | .iter .. | .vt .. => true
  | _ => false
def AObj.isVt : AObj → Bool
  | .vt .. => true
  | _ => false
def hget : List AObj → Nat → AObj
  | [], _ => .none
  | o :: _, 0 => o
  | _ :: h, n + 1 => hget h n
def isNil : List Nat → Bool
  | [] => true
  | _ => false
def res (h : List AObj) : AVal → RVal
  | .data t x => .data t x
  | .osl id v => match hget h id with
    | .row v' t l => cond (v == v') (.row id v t l) .dead
    | .frow v' t l => cond (v == v') (.data (.list t) l) .dead
    | _ => .dead
  | .ptr id p => match hget h id with
    | .box t x => .box id t x p
    | .fbox t x => .fbox t x p
    | _ => .dead
  | .rptr t x => .rptr t x
  | .eptr id v i p => match hget h id with
    | .row v' t l => cond (v == v') (.elem id v t l i p) .dead
    | _ => .dead
  | .iter id => match hget h id with
    | .iter s pos => .iter id s pos
    | _ => .dead
  | .fn f c => .fn f (res h c)
  | .tnil => .tnil
  | .tcons a b => .tcons (res h a) (res h b)
  | .nils => .nils
  | .nilp => .nilp
  | .tv id v p => match hget h id with
    | .vt v' τ x => cond (v == v'.s || (isNil p && τ.fixed)) (.tr id v' p τ x) .dead
    | _ => .dead
  | .ad id v p => match hget h id with
    | .vt v' τ x => cond (v == v'.s) (.ad id v' p τ x) .dead
    | _ => .dead
  | .elt id v p i q => match hget h id with
    | .vt v' τ x => cond (v == v'.s) (.elt id v' p τ x i q) .dead
    | _ => .dead
  | .lease id s w t x => match hget h id with
    | .vt v' τ y => cond (s.s == v'.s && w == v'.w) (.lease id ⟨s.p, τ, y⟩ t x) .dead
    | _ => .dead
  | .undef => .dead
  | .dead => .dead
structure St where
  tmps : List AVal
  heap : List AObj
def tget : List AVal → Nat → AVal
  | [], _ => .undef
  | v :: _, 0 => v
  | _ :: l, n + 1 => tget l n
def tset : List AVal → Nat → AVal → List AVal
  | [], _, _ => []
  | _ :: l, 0, v => v :: l
  | u :: l, n + 1, v => u :: tset l n v
def hset : List AObj → Nat → AObj → List AObj
  | [], _, _ => []
  | _ :: l, 0, v => v :: l
  | u :: l, n + 1, v => u :: hset l n v
def cval : Value → AVal
  | .int k n => .data (.int k) n
  | .bool b => .data .bool b
  | .nilIface => .data .err true
  | .string s => .data .str s
  | .slice none 0 0 => .nils
  | .pointer none => .nilp
  | _ => .dead
def ev (tmps : List AVal) : Operand → AVal
  | .tmp t => tget tmps t
  | .const v => cval v
  | .func f => .fn f .tnil
  | .global _ => .dead
/-! ## 3. Calls -/
inductive ARes where
  | data (t : Ty) (x : t.C)
  | own (t : Ty) (l : List t.C)
  | upd (t : Ty) (l : List t.C)
  | tree (τ : TT) (x : τ.C)
  | out (i : Nat) (τ : TT) (x : τ.C)
abbrev Env := (R : Type) → FuncId → List RVal → (List ARes → Option R) → Option R
/-! ## 4. One operation -/
inductive NV where
  | new
  | lit (v : AVal)
  | cons (a b : NV)
  | nil
inductive Out where
  | q (v : AVal)
  | row (t : Ty) (l : List t.C)
  | box (t : Ty) (x : t.C)
  | iter (s : ByteArray)
  | upd (v : AVal) (id : Nat) (o : AObj)
  | results (rs : List ARes) (frz : List RVal)
  | ownr (t : Ty) (l : List t.C) (frz : List RVal)
  | gen (ups : List (Nat × AObj)) (v : AVal)
  | genN (ups : List (Nat × AObj)) (o : AObj) (v : NV)
def RVal.dataK {R : Type} (r : RVal) (t : Ty) (K : t.C → Option R) : Option R :=
  match r, t with
  | .data t' x, t => castK t' t x K
  | .nils, .list _ => K []
  | _, _ => none
def listK {R : Type} (r : RVal) (t : Ty) (K : List t.C → Option R) : Option R :=
  match r with
  | .data (.list t') x => castK (.list t') (.list t) x K
  | .row _ _ t' x => castK (.list t') (.list t) x K
  | .nils => K []
  | _ => none
def binInt {R : Type} (op : BinOp) (k : IntKind) (x y : Int) (K : Out → Option R) : Option R :=
  match op with
  | .add => K (.q (.data (.int k) (k.wrap (x + y))))
  | .sub => K (.q (.data (.int k) (k.wrap (x - y))))
  | .mul => K (.q (.data (.int k) (k.wrap (x * y))))
  | .quo => nzK y <| K (.q (.data (.int k) (k.wrap (x.tdiv y))))
  | .rem => nzK y <| K (.q (.data (.int k) (x.tmod y)))
  | .and => K (.q (.data (.int k) (k.wrap (BitVec.ofInt k.bits x &&& BitVec.ofInt k.bits y).toNat)))
  | .or => K (.q (.data (.int k) (k.wrap (BitVec.ofInt k.bits x ||| BitVec.ofInt k.bits y).toNat)))
  | .xor => K (.q (.data (.int k) (k.wrap (BitVec.ofInt k.bits x ^^^ BitVec.ofInt k.bits y).toNat)))
  | .andNot => K (.q (.data (.int k) (k.wrap (BitVec.ofInt k.bits x &&& ~~~ BitVec.ofInt k.bits y).toNat)))
  | .eql => K (.q (.data .bool (x == y)))
  | .neq => K (.q (.data .bool (x != y)))
  | .lss => K (.q (.data .bool (decide (x < y))))
  | .leq => K (.q (.data .bool (decide (x ≤ y))))
  | .gtr => K (.q (.data .bool (decide (x > y))))
  | .geq => K (.q (.data .bool (decide (x ≥ y))))
  | _ => none
def binShift {R : Type} (op : BinOp) (k : IntKind) (x y : Int) (K : Out → Option R) : Option R :=
  match op with
  | .shl => posK y <| K (.q (.data (.int k) (k.wrap (x * 2 ^ min y.toNat k.bits))))
  | .shr => posK y <| K (.q (.data (.int k) (x.fdiv (2 ^ min y.toNat k.bits))))
  | _ => none
def binStr {R : Type} (op : BinOp) (x y : ByteArray) (K : Out → Option R) : Option R :=
  match op with
  | .add => roomK (x.size + y.size) 9223372036854775807 (K (.q (.data .str (x ++ y))))
  | .eql => K (.q (.data .bool (x.toList == y.toList)))
  | .neq => K (.q (.data .bool (!(x.toList == y.toList))))
  | .lss => K (.q (.data .bool (Op.bytesLess x.toList y.toList)))
  | .leq => K (.q (.data .bool (Op.bytesLess x.toList y.toList || x.toList == y.toList)))
  | .gtr => K (.q (.data .bool (!(Op.bytesLess x.toList y.toList || x.toList == y.toList))))
  | .geq => K (.q (.data .bool (!Op.bytesLess x.toList y.toList)))
  | _ => none
def isC : Operand → Bool
  | .const _ => true
  | _ => false
def binK {R : Type} (ty : Option Ty) (cst : Bool) (op : BinOp) (x y : RVal) (K : Out → Option R) : Option R :=
  match x, y with
  | .data (.int k) x, .data (.int k') y =>
    match op with
    | .shl => binShift .shl k x y K
    | .shr => binShift .shr k x y K
    | op => if k = k' then binInt op k x y K else none
  | .data .str x, .data .str y => binStr op x y K
  | .data .bool x, .data .bool y =>
    match op, ty with
    | .eql, some .bool => K (.q (.data .bool (x == y)))
    | .neq, some .bool => K (.q (.data .bool (!(x == y))))
    | _, _ => none
  | .data .err x, .data .err y =>
    match op, ty with
    | .eql, some .err => cond (cst && (x || y)) (K (.q (.data .bool (x && y)))) none
    | .neq, some .err => cond (cst && (x || y)) (K (.q (.data .bool (!(x && y))))) none
    | _, _ => none
  | .data (.agg t) x, .data (.agg t') y =>
    match op, ty with
    | .eql, some t0 => cond (t0.plainEq && Nat.blt t0.deep 1000) (castK (.agg t) t0 x fun x => castK (.agg t') t0 y fun y => K (.q (.data .bool (t0.eqD x y)))) none
    | .neq, some t0 => cond (t0.plainEq && Nat.blt t0.deep 1000) (castK (.agg t) t0 x fun x => castK (.agg t') t0 y fun y => K (.q (.data .bool (!(t0.eqD x y))))) none
    | _, _ => none
  | _, _ => none
def unK {R : Type} (op : UnOp) (x : RVal) (K : Out → Option R) : Option R :=
  match op, x with
  | .neg, .data (.int k) x => K (.q (.data (.int k) (k.wrap (0 - x))))
  | .xor, .data (.int k) x => K (.q (.data (.int k) (k.wrap (BitVec.ofInt k.bits (if k.signed then -1 else k.max) ^^^ BitVec.ofInt k.bits x).toNat)))
  | .not, .data .bool b => K (.q (.data .bool (!b)))
  | _, _ => none
def lenK {R : Type} (ty : Option Ty) (x : RVal) (K : Out → Option R) : Option R :=
  match ty, x with
  | some .str, .data .str s => K (.q (.data (.int .i64) (s.size : Int)))
  | some (.list _), .data (.list _) l => K (.q (.data (.int .i64) (l.length : Int)))
  | some (.list _), .row _ _ _ l => K (.q (.data (.int .i64) (l.length : Int)))
  | some (.list _), .nils => K (.q (.data (.int .i64) (0 : Int)))
  | _, _ => none
def atPath {R : Type} (p : List Nat) (t t0 : Ty) (K : Option R) : Option R :=
  match Ty.pathOff p t with
  | some (_, u) => sameK u t0 K
  | none => none
def indexAddrK {R : Type} (ty : Option Ty) (x i : RVal) (K : Out → Option R) : Option R :=
  match ty, x, i with
  | some (.list t0), .data (.list t) l, .data (.int _) i => sameK t t0 (rangeK i l.length (K (.q (.rptr t (l.getD (Int.toNat i) t.zero)))))
  | some (.list t0), .row id v t l, .data (.int _) i => sameK t t0 (rangeK i l.length (K (.q (.eptr id v (Int.toNat i) []))))
  | some (.arr n t0), .box id t _ p, .data (.int _) i => atPath p t (.arr n t0) (rangeK i n (K (.q (.ptr id (p ++ [Int.toNat i])))))
  | some (.arr n t0), .rptr (.arr m t) l, .data (.int _) i => sameK (.arr m t) (.arr n t0) (rangeK i n (K (.q (.rptr t (l.getD (Int.toNat i) t.zero)))))
  | _, _, _ => none
def indexK {R : Type} (ty : Option Ty) (x i : RVal) (K : Out → Option R) : Option R :=
  match ty, x, i with
  | some .str, .data .str s, .data (.int _) i => rangeK i s.size (K (.q (.data (.int .u8) (((s.data.getD (Int.toNat i) 0).toNat : Nat) : Int))))
  | _, _, _ => none
def optI {R : Type} (x : Option RVal) (d : Int) (K : Int → Option R) : Option R :=
  match x with
  | none => K d
  | some (.data (.int _) i) => K i
  | some _ => none
def sliceK {R : Type} (ty : Option Ty) (x : RVal) (lo hi mx : Option RVal) (K : Out → Option R) : Option R :=
  match ty, x, mx with
  | some .str, .data .str s, none => optI lo 0 fun l => optI hi s.size fun h => cutK l h s.size (K (.q (.data .str (s.extract l.toNat h.toNat))))
  | some (.arr n t0), .fbox (.arr m t) xs [], none => sameK (.arr m t) (.arr n t0) (optI lo 0 fun l => optI hi n fun h => cutK l h n (K (.q (.data (.list t) ((xs.take h.toNat).drop l.toNat)))))
  | some (.list t0), .data (.list t) xs, none => sameK t t0 (optI lo 0 fun l => optI hi xs.length fun h => cutK l h xs.length (K (.q (.data (.list t) ((xs.take h.toNat).drop l.toNat)))))
  | _, _, _ => none
def hasPath {R : Type} (p : List Nat) (t : Ty) (K : Option R) : Option R :=
  match Ty.pathOff p t with
  | some _ => K
  | none => none
def fieldAddrK {R : Type} (ty : Option Ty) (x : AVal) (r : RVal) (f : Nat) (K : Out → Option R) : Option R :=
  match ty, x, r with
  | some (.agg t0), .ptr id p, .box _ t _ _ => atPath p t (.agg t0) (hasPath (p ++ [f]) t (K (.q (.ptr id (p ++ [f])))))
  | some t0, .rptr _ _, .rptr (.agg t) y => sameK (.agg t) t0 (Ty.compK t y f fun t' y' => K (.q (.rptr t' y')))
  | some (.agg t0), .eptr id v i p, .elem _ _ t _ _ _ => atPath p t (.agg t0) (hasPath (p ++ [f]) t (K (.q (.eptr id v i (p ++ [f])))))
  | _, _, _ => none
def fieldK {R : Type} (ty : Option Ty) (r : RVal) (f : Nat) (K : Out → Option R) : Option R :=
  match ty, r with
  | some t0, .data (.agg t) y => sameK (.agg t) t0 (Ty.compK t y f fun t' y' => K (.q (.data t' y')))
  | _, _ => none
def loadK {R : Type} (ty : Option Ty) (r : RVal) (K : Out → Option R) : Option R :=
  match ty, r with
  | some t0, .box _ t x p => Ty.getK p t x fun t' y => castK t' t0 y fun z => K (.q (.data t0 z))
  | some t0, .rptr t x => castK t t0 x fun z => K (.q (.data t0 z))
  | some t0, .elem _ _ t l i p => Ty.getK p t (l.getD i t.zero) fun t' y => castK t' t0 y fun z => K (.q (.data t0 z))
  | _, _ => none
def storeK {R : Type} (ty : Option Ty) (r : RVal) (x : RVal) (K : Out → Option R) : Option R :=
  match ty, r with
  | some t0, .box id t y p => RVal.dataK x t0 fun z => Ty.setK p t y t0 z fun y' => K (.upd .undef id (.box t y'))
  | some t0, .elem id v t l i p => RVal.dataK x t0 fun z => Ty.setK p t (l.getD i t.zero) t0 z fun y' => K (.upd .undef id (.row v t (l.set i y')))
  | _, _ => none
def most : Nat := 4294967296
def appendK {R : Type} (te : Ty) (s x : RVal) (K : Out → Option R) : Option R :=
  match s with
  | .row id v t l => sameK t te <| listK x t fun m => roomK (l.length + m.length) most (K (.upd (.osl id (v + 1)) id (.row (v + 1) t (l ++ m))))
  | .nils => listK x te fun m => roomK m.length most (K (.row te m))
  | _ => none
def extractK {R : Type} : AVal → Nat → (Out → Option R) → Option R
  | .tcons a _, 0, K => K (.q a)
  | .tcons _ b, n + 1, K => extractK b n K
  | _, _, _ => none
def partsK {R : Type} : (t : Ty) → t.C → List (Nat × RVal) → (t.C → Option R) → Option R
  | _, x, [], K => K x
  | t, x, (f, r) :: ps, K => Ty.compSet t x f (fun u _ k => RVal.dataK r u k) fun y => partsK t y ps K
def elemsK {R : Type} (t : Ty) : List t.C → List (Nat × RVal) → (List t.C → Option R) → Option R
  | l, [], K => K l
  | l, (i, r) :: ps, K => roomK (i + 1) l.length <| RVal.dataK r t fun y => elemsK t (l.set i y) ps K
def strB (l : List Int) : ByteArray := ⟨(l.map fun n => UInt8.ofNat n.toNat).toArray⟩
def bytesL (s : ByteArray) : List Int := s.data.toList.map fun b => (b.toNat : Int)
def convK {R : Type} (src dst : Option Ty) (x : RVal) (K : Out → Option R) : Option R :=
  match src, dst, x with
  | some _, some (.int k), .data (.int _) n => K (.q (.data (.int k) (k.wrap n)))
  | some _, some .str, .data .str s => K (.q (.data .str s))
  | some (.list (.int .u8)), some .str, x => listK x (.int .u8) fun l => K (.q (.data .str (strB l)))
  | some .str, some (.list (.int .u8)), .data .str s => K (.results [.data (.list (.int .u8)) (bytesL s)] [])
  | _, _, _ => none
def argsOf (a : Operand → RVal) (l : List Operand) : List RVal := l.map a
def RVal.flat : RVal → List RVal
  | .tcons a b => a :: b.flat
  | _ => []
def rowsOf : List RVal → List RVal
  | [] => []
  | .row id v t l :: r => .row id v t l :: rowsOf r
  | _ :: r => rowsOf r
def ARes.refs : ARes → Bool
  | .data t _ => t.refs
  | .own t _ => t.refs
  | .upd t _ => t.refs
  | .tree _ _ => true
  | .out _ _ _ => true
def allData : List ARes → Bool
  | [] => true
  | .data _ _ :: rs => allData rs
  | .own _ _ :: _ => false
  | .upd _ _ :: _ => false
  | .tree _ _ :: _ => false
  | .out _ _ _ :: _ => false
def restOk (id : Nat) : List RVal → Bool
  | [] => true
  | .data t _ :: r => !t.refs && restOk id r
  | .nils :: r => restOk id r
  | .row id' _ t _ :: r => !(Nat.beq id' id) && (!t.refs && restOk id r)
  | .fn _ .tnil :: r => restOk id r
  | _ :: _ => false
def anyRefs : List ARes → Bool
  | [] => false
  | r :: rs => r.refs || anyRefs rs
def borrowC : RVal → RVal
  | .data t x => .data t x
  | .box _ t x p => match Ty.getK p t x fun t' y => some (⟨t', y⟩ : (t : Ty) × t.C) with
    | some ⟨t', y⟩ => .rptr t' y
    | none => .dead
  | .rptr t x => .rptr t x
  | .fn f .tnil => .fn f .tnil
  | .tcons a b => .tcons (borrowC a) (borrowC b)
  | .tnil => .tnil
  | _ => .dead
def borrow : RVal → RVal
  | .data t x => .data t x
  | .row _ _ t l => .data (.list t) l
  | .box _ t x p => match Ty.getK p t x fun t' y => some (⟨t', y⟩ : (t : Ty) × t.C) with
    | some ⟨t', y⟩ => .rptr t' y
    | none => .dead
  | .elem _ _ t l i p => cond (decide (i < l.length)) (match Ty.getK p t (l.getD i t.zero) fun t' y => some (⟨t', y⟩ : (t : Ty) × t.C) with
    | some ⟨t', y⟩ => .rptr t' y
    | none => .dead) .dead
  | .rptr t x => .rptr t x
  | .fn f c => .fn f (borrowC c)
  | .tcons _ _ => .dead
  | .tnil => .dead
  | .nils => .nils
  | .nilp => .nilp
  | .iter .. => .dead
  | .fbox .. => .dead
  | .tr _ _ p τ x => match TT.getK p τ x fun τ' y => some (⟨τ', y⟩ : (τ : TT) × τ.C) with
    | some ⟨τ', y⟩ => .tree τ' y
    | none => .dead
  | .ad .. => .dead
  | .elt .. => .dead
  | .lease _ _ t x => .data t x
  | .tree .. => .dead
  | .dead => .dead
def hasLease : List RVal → Bool
  | [] => false
  | .lease .. :: _ => true
  | _ :: r => hasLease r
def hasRow : List RVal → Bool
  | [] => false
  | .row .. :: _ => true
  | _ :: r => hasRow r
def resPart : List ARes → List ARes
  | [] => []
  | .out _ _ _ :: r => resPart r
  | a :: r => a :: resPart r
def outPart : List ARes → List (Nat × (τ : TT) × τ.C)
  | [] => []
  | .out i τ x :: r => (i, ⟨τ, x⟩) :: outPart r
  | _ :: r => outPart r
def memUp (id : Nat) : List (Nat × AObj) → Bool
  | [] => false
  | p :: l => Nat.beq p.1 id || memUp id l
def TT.isRef : TT → Bool
  | .own _ | .opt _ | .map _ _ | .vec _ => true
  | _ => false
def RVal.isT : RVal → Bool
  | .tr .. | .ad .. | .elt .. => true
  | _ => false
def TT.isFlat : TT → Bool
  | .vec _ | .map _ _ | .own (.data _) => true
  | _ => false
def updArgs {R : Type} : List RVal → Nat → List (Nat × (τ : TT) × τ.C) → List (Nat × AObj) → (List (Nat × AObj) → Option R) → Option R
  | [], _, [], ups, K => K ups
  | [], _, _ :: _, _, _ => none
  | .tr id ver p τ x :: as, i, os, ups, K => match os with
    | [] => none
    | (j, ⟨τ1, x1⟩) :: os => cond (Nat.beq i j && !memUp id ups) (TT.modK p τ x (fun τ' _ k => cond ((Nat.beq τ1.width τ'.width && (τ1.isAgg == τ'.isAgg)) && (isNil p || τ'.isRef)) (k τ1 x1) none) fun T X =>
        updArgs as (i + 1) os (ups ++ [(id, .vt ver.up T X)]) K) none
  | _ :: as, i, os, ups, K => updArgs as (i + 1) os ups K
def noTree : List ARes → Bool
  | [] => true
  | .tree _ _ :: _ => false
  | _ :: r => noTree r
def nvs : List ARes → NV
  | [] => .nil
  | .data t x :: r => .cons (.lit (.data t x)) (nvs r)
  | .tree _ _ :: r => .cons .new (nvs r)
  | _ :: r => .cons (.lit .dead) (nvs r)
def oneNV (n : Nat) (v : NV) : NV := match n, v with
  | 1, .cons a .nil => a
  | _, v => v
def finK {R : Type} (whole : List ARes) (ups : List (Nat × AObj)) (K : Out → Option R) : List ARes → Option R
  | [] => K (.gen ups (oneOf whole.length (layRes0 whole)))
  | .tree τ x :: r => cond (allData r) (K (.genN ups (.vt ⟨0, 0⟩ τ x) (oneNV whole.length (nvs whole)))) none
  | .data _ _ :: r => finK whole ups K r
  | _ :: _ => none
  where
  layRes0 : List ARes → AVal
    | [] => .tnil
    | .data t x :: rs => .tcons (.data t x) (layRes0 rs)
    | _ :: _ => .dead
  oneOf (n : Nat) (v : AVal) : AVal := match n, v with
    | 1, .tcons a .tnil => a
    | _, v => v
def RVal.plain : RVal → Bool
  | .data _ _ => true
  | .nils => true
  | .nilp => true
  | .fn _ .tnil => true
  | .dead => true
  | _ => false
def handy : List RVal → Bool
  | [] => true
  | .tr .. :: r => handy r
  | a :: r => (borrow a).plain && handy r
def callT {R : Type} (args : List RVal) (rs : List ARes) (K : Out → Option R) : Option R :=
  cond (hasRow args || (hasLease args || !handy args)) none (updArgs args 0 (outPart rs) [] fun ups => finK (resPart rs) ups K (resPart rs))
def callK {R : Type} (env : Env) (f : FuncId) (args : List RVal) (K : Out → Option R) : Option R :=
  env R f (args.map borrow) fun rs => match rs with
    | [.own t l] => cond (t.refs && hasLease args) none (K (.ownr t l (cond t.refs (rowsOf args) [])))
    | [.upd t m] => match args with
      | .row id v t' _ :: rest => cond (restOk id rest && !t.refs) (sameK t' t (K (.upd (.osl id (v + 1)) id (.row (v + 1) t m)))) none
      | _ => none
    | rs => cond (allData rs) (cond (anyRefs rs && hasLease args) none (K (.results rs (cond (anyRefs rs) (rowsOf args) [])))) (callT args rs K)
def minmax {R : Type} (isMax : Bool) : Int → List RVal → (Int → Option R) → Option R
  | x, [], K => K x
  | x, .data (.int _) y :: r, K => minmax isMax (if (cond isMax (decide (y > x)) (decide (y < x))) = true then y else x) r K
  | _, _, _ => none
def ifaceK {R : Type} (t : Option Ty) (K : Out → Option R) : Option R :=
  match t with
  | some .err => none
  | some _ => K (.q (.data .err false))
  | none => none
def opK {R : Type} (tt : Tab) (env : Env) (o : Oper) (a : Operand → AVal) (r : Operand → RVal) (K : Out → Option R) : Option R :=
  match o.op with
  | .move x | .assign x => K (.q (a x))
  | .pick c x y => match r c with
    | .data .bool b => match a x, a y with
      | .data t u, .data t' v => castK t' t v fun v' => K (.q (.data t (cond b u v')))
      | u, v => cond b (K (.q u)) (K (.q v))
    | _ => none
  | .binOp op ty x y _ => binK (tt ty) (isC x || isC y) op (r x) (r y) K
  | .unOp op _ x => unK op (r x) K
  | .convert src dst x => convK (tt src) (tt dst) (r x) K
  | .nilCheck x => match r x with
    | .box .. | .rptr .. | .elem .. => K (.q (a x))
    | _ => none
  | .fieldAddr s x f => fieldAddrK (tt s) (a x) (r x) f K
  | .field s x f => fieldK (tt s) (r x) f K
  | .indexAddr t x i => indexAddrK (tt t) (r x) (r i) K
  | .index t x i => indexK (tt t) (r x) (r i) K
  | .slice t x lo hi mx => sliceK (tt t) (r x) (lo.map r) (hi.map r) (mx.map r) K
  | .load t x => loadK (tt t) (r x) K
  | .store t x y => storeK (tt t) (r x) (r y) K
  | .extract x i => extractK (a x) i K
  | .alloc e => match tt e with
    | some t => K (.box t t.zero)
    | none => none
  | .box e x => match tt e with
    | some t => RVal.dataK (r x) t fun y => K (.box t y)
    | none => none
  | .build t ps => match tt t with
    | some (.agg u) => partsK u u.zero (ps.toList.map fun p => (p.1, r p.2)) fun y => K (.q (.data (.agg u) y))
    | _ => none
  | .buildSlice t n ps => match tt t with
    | some (.list u) => roomK (n * u.width) 16777216 <| elemsK u (List.replicate n u.zero) (ps.toList.map fun p => (p.1, r p.2)) fun l => K (.row u l)
    | _ => none
  | .makeInterface ty _ => ifaceK (tt ty) K
  | .makeFunc (.func f) first caps => if first.size = 0 then K (.q (.fn f (caps.toList.foldr (fun x t => .tcons (a x) t) .tnil))) else none
  | .range t x => match tt t, r x with
    | some .str, .data .str s => K (.iter s)
    | _, _ => none
  | .next x isStr => match r x with
    | .iter id s pos => cond isStr (if pos < s.size then
        K (.upd (.tcons (.data .bool true) (.tcons (.data (.int .i64) (pos : Int)) (.tcons (.data (.int .i32) ((Utf8.decode s pos).1 : Int)) .tnil))) id (.iter s (pos + (Utf8.decode s pos).2)))
        else K (.q (.tcons (.data .bool false) .tnil))) none
    | _ => none
  | .call c => match c.callee with
    | .value f => match r f with
      | .fn g caps => callK env g (argsOf r c.args.toList ++ caps.flat) K
      | _ => none
    | .builtin .len => match c.args.toList, c.argTypes.toList with
      | [x], [ty] => lenK (tt ty) (r x) K
      | _, _ => none
    | .builtin .append => match c.args.toList, c.argTypes.toList with
      | [s, x], [ty, ty'] => match tt ty, tt ty' with
        | some (.list te), some (.list _) => appendK te (r s) (r x) K
        | _, _ => none
      | _, _ => none
    | .builtin .max => match c.args.toList with
      | x :: rest => match r x with
        | .data (.int k) n => minmax true n (rest.map r) fun m => K (.q (.data (.int k) m))
        | _ => none
      | _ => none
    | .builtin .min => match c.args.toList with
      | x :: rest => match r x with
        | .data (.int k) n => minmax false n (rest.map r) fun m => K (.q (.data (.int k) m))
        | _ => none
      | _ => none
    | _ => none
  | _ => none
end Go.PB
namespace Go.PB
open Go Go.RowKit
/-! ## 1. Types -/
def Tab.off (tt : Tab) (s : TypeId) (f : Nat) : Option Nat :=
  match tt.mt s with
  | some τ => τ.off f
  | none => match tt.ty s with
    | some (.agg t) => (t.compOff f).map (·.1)
    | _ => none
def sameOff {R : Type} (a b : Option Nat) (K : Option R) : Option R :=
  match a, b with
  | some x, some y => cond (Nat.beq x y) K none
  | _, _ => none
def Tab.one (tt : Tab) (t : TypeId) : Bool :=
  match tt.mt t with
  | some τ => Nat.beq τ.width 1 && !τ.isAgg
  | none => match tt.ty t with
    | some u => Nat.beq u.width 1 && !u.isAgg
    | none => false
def Tab.aggW (tt : Tab) (t : TypeId) : Option Nat :=
  match tt.mt t with
  | some τ => cond τ.isAgg (some τ.width) none
  | none => match tt.ty t with
    | some (.agg u) => some u.width
    | _ => none
def toD {R : Type} : (τ : TT) → τ.C → ((t : Ty) → t.C → Option R) → Option R
  | .data t, x, K => K t x
  | .vec t, l, K => K (.list t) l
  | .unit, _, K => K .unit ()
  | .pair a b, x, K => toD a x.1 fun t y => toD b x.2 fun u z => K (.pair t u) (y, z)
  | .agg τ, x, K => toD τ x fun t y => K (.agg t) y
  | _, _, _ => none
def ofD {R : Type} : (τ : TT) → (t : Ty) → t.C → (τ.C → Option R) → Option R
  | .data u, t, x, K => castK t u x K
  | .unit, .unit, _, K => K ()
  | .pair a b, .pair t u, x, K => ofD a t x.1 fun y => ofD b u x.2 fun z => K (y, z)
  | .agg τ, .agg t, x, K => ofD τ t x K
  | _, _, _, _ => none
/-! ## 2. Maps -/
def mget (k v : Ty) : List (k.C × v.C) → k.C → Option v.C
  | [], _ => none
  | x :: l, y => cond (k.eqD y x.1) (some x.2) (mget k v l y)
def mput (k v : Ty) : List (k.C × v.C) → k.C → v.C → List (k.C × v.C)
  | [], y, z => [(y, z)]
  | x :: l, y, z => cond (k.eqD y x.1) ((y, z) :: l) (x :: mput k v l y z)
def mdel (k v : Ty) : List (k.C × v.C) → k.C → List (k.C × v.C)
  | [], _ => []
  | x :: l, y => cond (k.eqD y x.1) l (x :: mdel k v l y)
/-! ## 3. Operations -/
def ptrK {R : Type} (r : RVal) (K : (id : Nat) → (ver : Ver) → (p : List Nat) → (τ : TT) → τ.C → Option R) : Option R :=
  match r with
  | .ad id ver p τ x => K id ver p τ x
  | .tr id ver p τ x => TT.getK p τ x fun τ' y => match τ', y with
    | .own _, _ => K id ver (p ++ [0]) τ x
    | .opt _, y => match y with
      | some _ => K id ver (p ++ [0]) τ x
      | none => none
    | _, _ => none
  | _ => none
def fieldAddrX {R : Type} (tt : Tab) (s : TypeId) (f : Nat) (r : RVal) (K : Out → Option R) : Option R :=
  match r with
  | .elt id ver p τ x i q => TT.getK p τ x fun τ' _ => match τ' with
    | .vec t => match tt s with
      | some (.agg t0) => atPath q t (.agg t0) (hasPath (q ++ [f]) t (K (.q (.elt id ver.s p i (q ++ [f])))))
      | _ => none
    | _ => none
  | r => ptrK r fun id ver p τ x => TT.getK p τ x fun τ' _ => sameOff (tt.off s f) (τ'.off f) (hasField τ x (p ++ [f]) (K (.q (.ad id ver.s (p ++ [f])))))
  where hasField (τ : TT) (x : τ.C) (p : List Nat) (K : Option R) : Option R :=
    match TT.getK p τ x fun _ _ => some () with
    | some _ => K
    | none => none
def readK {R : Type} (tt : Tab) (t : TypeId) (id : Nat) (ver : Ver) (p : List Nat) (τ : TT) (x : τ.C) (K : Out → Option R) : Option R :=
  TT.getK p τ x fun τ' y => match τ', y with
    | .data t', y => match tt t with
      | some t0 => castK t' t0 y fun z => K (.q (.data t0 z))
      | none => none
    | .opt _, y => match y with
      | none => cond (tt.one t) (K (.q .nilp)) none
      | some _ => cond (tt.one t) (K (.q (.tv id ver.s p))) none
    | .own _, _ => cond (tt.one t) (K (.q (.tv id ver.s p))) none
    | .map _ _, _ => cond (tt.one t) (K (.q (.tv id ver.s p))) none
    | .vec _, _ => cond (tt.one t) (K (.q (.tv id ver.s p))) none
    | .agg σ, y => match tt t with
      | some t0 => toD (.agg σ) y fun t' z => castK t' t0 z fun z => K (.q (.lease id ⟨ver.s, p⟩ ver.w t0 z))
      | none => none
    | _, _ => none
def loadX {R : Type} (tt : Tab) (t : TypeId) (r : RVal) (K : Out → Option R) : Option R :=
  match r with
  | .elt _ _ p τ x i q => TT.getK p τ x fun τ' y => match τ', y with
    | .vec u, l => match tt t with
      | some t0 => Ty.getK q u (l.getD i u.zero) fun t' z => castK t' t0 z fun z => K (.q (.data t0 z))
      | none => none
    | _, _ => none
  | r => ptrK r fun id ver p τ x => readK tt t id ver p τ x K
def takeK {R : Type} (v : RVal) (K : (id : Nat) → (σ : TT) → σ.C → Option R) : Option R :=
  match v with
  | .tr id _ p τ y => match p with
    | [] => K id τ y
    | _ => none
  | .lease id g t _ => match g.p with
    | [0] => match g.τ, g.y with
      | .own σ, y => cond (σ.isAgg && (t.isAgg && Nat.beq t.width σ.width)) (K id σ y) none
      | _, _ => none
    | _ => none
  | _ => none
def fitT {R : Type} (tt : Tab) (t : TypeId) (τ' : TT) (σ : TT) (z : σ.C) (k : (τ'' : TT) → τ''.C → Option R) : Option R :=
  cond σ.isAgg
    (match tt.aggW t with
      | some n => cond (τ'.isAgg && (Nat.beq τ'.width n && Nat.beq σ.width n)) (k σ z) none
      | none => none)
    (cond (tt.one t && Nat.beq σ.width 1) (match τ' with
      | .opt τo => match σ, z with
        | .own σ2, z => castT σ2 τo z fun z => k (.opt τo) (some z)
        | _, _ => none
      | .own _ => k σ z
      | .map _ _ => k σ z
      | .vec _ => k σ z
      | .hole => k σ z
      | _ => none) none)
def rowT {R : Type} (τ' : TT) (u : Ty) (l : List u.C) (k : (τ'' : TT) → τ''.C → Option R) : Option R :=
  match τ' with
  | .vec _ => k (.vec u) l
  | .hole => k (.vec u) l
  | .data (.list _) => k (.vec u) l
  | _ => none
def datT {R : Type} (tt : Tab) (t : TypeId) (τ' : TT) (v : RVal) (k : (τ'' : TT) → τ''.C → Option R) : Option R :=
  match τ' with
  | .data t' => match tt t with
    | some t0 => RVal.dataK v t0 fun z => castK t0 t' z fun z => k (.data t') z
    | none => none
  | _ => none
def nilT {R : Type} (tt : Tab) (t : TypeId) (τ' : TT) (v : RVal) (k : (τ'' : TT) → τ''.C → Option R) : Option R :=
  match τ', v with
  | .vec u, .nils => cond (tt.one t) (k (.vec u) []) none
  | .opt σ, .nilp => cond (tt.one t) (k (.opt σ) none) none
  | .own σ, .nilp => cond (tt.one t) (k (.opt σ) none) none
  | .data (.list u), .nils => cond (tt.one t) (k (.data (.list u)) []) none
  | _, _ => none
def storeX {R : Type} (tt : Tab) (t : TypeId) (r : RVal) (v : RVal) (K : Out → Option R) : Option R :=
  match r with
  | .elt id ver p τ x i q => match tt t with
    | some t0 => RVal.dataK v t0 fun z => TT.modK p τ x (fun τ' y k => match τ', y with
        | .vec u, l => Ty.setK q u (l.getD i u.zero) t0 z fun e => k (.vec u) (l.set i e)
        | _, _ => none) fun τ1 x1 => K (.gen [(id, .vt ver.wr τ1 x1)] .undef)
    | none => none
  | r => ptrK r fun id ver p τ x => match v with
    | .tr .. | .lease .. => takeK v fun id2 σ z => cond (Nat.beq id id2) none (TT.modK p τ x (fun τ' _ k => fitT tt t τ' σ z k) fun τ1 x1 => K (.gen [(id, .vt ver.up τ1 x1), (id2, .none)] .undef))
    | .row id2 _ u l => cond (tt.one t) (cond (Nat.beq id id2) none (TT.modK p τ x (fun τ' _ k => rowT τ' u l k) fun τ1 x1 => K (.gen [(id, .vt ver.up τ1 x1), (id2, .none)] .undef))) none
    | .data .. => TT.modK p τ x (fun τ' _ k => datT tt t τ' v k) fun τ1 x1 => K (.gen [(id, .vt ver.wr τ1 x1)] .undef)
    | v => TT.modK p τ x (fun τ' _ k => nilT tt t τ' v k) fun τ1 x1 => K (.gen [(id, .vt ver.up τ1 x1)] .undef)
def boxX {R : Type} (tt : Tab) (t : TypeId) (τ : TT) (v : RVal) (K : Out → Option R) : Option R :=
  match v with
  | .data u x => ofD τ u x fun y => K (.genN [] (.vt ⟨0, 0⟩ (.own τ) y) .new)
  | .tr .. | .lease .. => takeK v fun id2 σ z => cond (Nat.beq σ.width τ.width && (σ.isAgg == τ.isAgg)) (K (.genN [(id2, .none)] (.vt ⟨0, 0⟩ (.own σ) z) .new)) none
  | _ => none
def indexAddrX {R : Type} (tt : Tab) (t : TypeId) (r i : RVal) (K : Out → Option R) : Option R :=
  match r, i with
  | .tr id ver p τ x, .data (.int _) i => TT.getK p τ x fun τ' y => match τ', y with
    | .vec u, l => match tt t with
      | some (.list t0) => sameK u t0 (rangeK i l.length (K (.q (.elt id ver.s p (Int.toNat i) []))))
      | _ => none
    | _, _ => none
  | _, _ => none
def Tab.isSlice (tt : Tab) (t : TypeId) : Bool :=
  match tt.ty t with
  | some (.list _) => true
  | _ => match tt.mt t with
    | some (.vec _) => true
    | _ => false
def lenX {R : Type} (tt : Tab) (t : TypeId) (r : RVal) (K : Out → Option R) : Option R :=
  match r with
  | .tr _ _ p τ x => TT.getK p τ x fun τ' y => match τ', y with
    | .vec _, l => cond (tt.isSlice t) (K (.q (.data (.int .i64) (l.length : Int)))) none
    | .map _ _, l => match tt.mt t with
      | some (.map _ _) => K (.q (.data (.int .i64) (l.length : Int)))
      | _ => none
    | _, _ => none
  | _ => none
def appendX {R : Type} (te : Ty) (s x : RVal) (K : Out → Option R) : Option R :=
  match s with
  | .tr id ver p τ y => TT.getK p τ y fun τ' l => match τ', l with
    | .vec t, l => sameK t te <| listK x t fun m => roomK (l.length + m.length) most <| match p with
      | [] => none
      | _ :: _ => TT.modK p τ y (fun _ _ k => k .hole ()) fun τ1 y1 => K (.genN [(id, .vt ver.up τ1 y1)] (.vt ⟨0, 0⟩ (.vec t) (l ++ m)) .new)
    | _, _ => none
  | _ => none
def headK {R : Type} (l : Int) (n : Nat) (K : Option R) : Option R := if l = 0 ∨ l < n then K else none
def sliceX {R : Type} (tt : Tab) (t : TypeId) (r : RVal) (lo hi mx : Option RVal) (K : Out → Option R) : Option R :=
  match r, mx with
  | .tr id ver p τ x, none => TT.getK p τ x fun τ' y => match τ', y with
    | .vec u, l => match tt t with
      | some (.list t0) => sameK u t0 <| optI lo 0 fun a => optI hi l.length fun b => cutK a b l.length <| headK a l.length <| match p with
        | [] => none
        | _ :: _ => TT.modK p τ x (fun _ _ k => k .hole ()) fun τ1 y1 => K (.genN [(id, .vt ver.up τ1 y1)] (.vt ⟨0, 0⟩ (.vec u) ((l.take b.toNat).drop a.toNat)) .new)
      | _ => none
    | _, _ => none
  | _, _ => none
def mapK {R : Type} (tt : Tab) (t : TypeId) (r : RVal) (K : (k v : Ty) → List (k.C × v.C) → Option R) : Option R :=
  match r with
  | .tr _ _ p τ x => TT.getK p τ x fun τ' y => match τ', y, tt.mt t with
    | .map k v, l, some (.map k' v') => sameK k k' (sameK v v' (cond (k.plainEq && Nat.blt k.deep 1000) (K k v l) none))
    | _, _, _ => none
  | _ => none
def lookupX {R : Type} (tt : Tab) (t : TypeId) (r key : RVal) (ok : Bool) (K : Out → Option R) : Option R :=
  mapK tt t r fun k v l => RVal.dataK key k fun y =>
    cond ok (K (.q (.tcons (.data v ((mget k v l y).getD v.zero)) (.tcons (.data .bool (mget k v l y).isSome) .tnil))))
      (K (.q (.data v ((mget k v l y).getD v.zero))))
def mapUpdateX {R : Type} (tt : Tab) (t : TypeId) (r key val : RVal) (K : Out → Option R) : Option R :=
  mapK tt t r fun k v _ => RVal.dataK key k fun y => RVal.dataK val v fun z => match r with
    | .tr id ver p τ x => TT.modK p τ x (fun τ' l k' => match τ', l with
        | .map k1 v1, l => castK k k1 y fun y => castK v v1 z fun z => k' (.map k1 v1) (mput k1 v1 l y z)
        | _, _ => none) fun τ1 x1 => K (.gen [(id, .vt ver.wr τ1 x1)] .undef)
    | _ => none
def deleteX {R : Type} (tt : Tab) (t : TypeId) (r key : RVal) (K : Out → Option R) : Option R :=
  mapK tt t r fun k v _ => RVal.dataK key k fun y => match r with
    | .tr id ver p τ x => TT.modK p τ x (fun τ' l k' => match τ', l with
        | .map k1 v1, l => castK k k1 y fun y => k' (.map k1 v1) (mdel k1 v1 l y)
        | _, _ => none) fun τ1 x1 => K (.gen [(id, .vt ver.wr τ1 x1)] .tnil)
    | _ => none
def partsX {R : Type} (tt : Tab) : (τ : TT) → τ.C → List (Nat × RVal) → Option Nat → ((τ' : TT) → τ'.C → Option Nat → Option R) → Option R
  | τ, x, [], g, K => K τ x g
  | τ, x, (f, r) :: ps, g, K => match r with
    | .tr id2 _ [] τ2 y2 => match g with
      | none => TT.compMod τ x f (fun τ' _ k => cond (Nat.beq τ2.width τ'.width && (Nat.beq τ2.width 1 && !τ2.isAgg)) (match τ' with
        | .hole => k τ2 y2
        | .vec _ => k τ2 y2
        | _ => none) none) fun τ1 x1 => partsX tt τ1 x1 ps (some id2) K
      | some _ => none
    | r => TT.compMod τ x f (fun τ' _ k => match τ' with
        | .data t' => RVal.dataK r t' fun z => k (.data t') z
        | _ => none) fun τ1 x1 => partsX tt τ1 x1 ps g K
def goneU (g : Option Nat) : List (Nat × AObj) := match g with
  | some g => [(g, .none)]
  | none => []
def buildX {R : Type} (tt : Tab) (t : TypeId) (ps : List (Nat × RVal)) (K : Out → Option R) : Option R :=
  match tt.mt t with
  | some (.agg τ) => partsX tt τ.zt τ.zt.zero ps none fun τ1 x1 g => K (.genN (goneU g) (.vt ⟨0, 0⟩ (.agg τ1) x1) .new)
  | _ => none
def isNilK {R : Type} (r : RVal) (K : Bool → Option R) : Option R :=
  match r with
  | .nilp => K true
  | .tr _ _ p τ x => TT.getK p τ x fun τ' y => match τ', y with
    | .own _, _ => K false
    | .opt _, y => match y with
      | some _ => K false
      | none => K true
    | _, _ => none
  | _ => none
def isNilp : RVal → Bool
  | .nilp => true
  | _ => false
def Tab.ptr (tt : Tab) (t : TypeId) : Bool :=
  match tt.mt t with
  | some (.opt _) => true
  | _ => false
def nilEqX {R : Type} (tt : Tab) (t : TypeId) (op : BinOp) (x y : RVal) (K : Out → Option R) : Option R :=
  cond (tt.ptr t && (isNilp x || isNilp y)) (isNilK x fun a => isNilK y fun b => match op with
    | .eql => K (.q (.data .bool (a && b)))
    | .neq => K (.q (.data .bool (!(a && b))))
    | _ => none) none
def isTN (a b : RVal) : Bool := (a.isT || isNilp a) && (b.isT || isNilp b)
def opX {R : Type} (tt : Tab) (env : Env) (o : Oper) (a : Operand → AVal) (r : Operand → RVal) (K : Out → Option R) : Option R :=
  match o.op with
  | .nilCheck x => cond (r x).isT (ptrK (r x) fun _ _ _ _ _ => K (.q (a x))) (opK tt env o a r K)
  | .fieldAddr s x f => cond (r x).isT (fieldAddrX tt s f (r x) K) (opK tt env o a r K)
  | .load t x => cond (r x).isT (loadX tt t (r x) K) (opK tt env o a r K)
  | .store t x y => cond (r x).isT (storeX tt t (r x) (r y) K) (opK tt env o a r K)
  | .indexAddr t x i => cond (r x).isT (indexAddrX tt t (r x) (r i) K) (opK tt env o a r K)
  | .alloc e => match tt.mt e with
    | some τ => K (.genN [] (.vt ⟨0, 0⟩ (.own τ.zt) τ.zt.zero) .new)
    | none => opK tt env o a r K
  | .box e x => match tt.mt e with
    | some τ => cond (tt.bx e) (boxX tt e τ (r x) K) (opK tt env o a r K)
    | none => opK tt env o a r K
  | .binOp op ty x y _ => cond (isTN (r x) (r y)) (nilEqX tt ty op (r x) (r y) K) (opK tt env o a r K)
  | .slice t x lo hi mx => cond (r x).isT (sliceX tt t (r x) (lo.map r) (hi.map r) (mx.map r) K) (opK tt env o a r K)
  | .lookup t x k ok => lookupX tt t (r x) (r k) ok K
  | .mapUpdate t m k x => mapUpdateX tt t (r m) (r k) (r x) K
  | .makeMap t h => match h, tt.mt t with
    | none, some (.map k v) => K (.genN [] (.vt ⟨0, 0⟩ (.map k v) []) .new)
    | _, _ => none
  | .build t ps => match tt.mt t with
    | some (.agg _) => cond (tt.bx t) (buildX tt t (ps.toList.map fun p => (p.1, r p.2)) K) (opK tt env o a r K)
    | _ => opK tt env o a r K
  | .call c => match c.callee with
    | .builtin .len => match c.args.toList, c.argTypes.toList with
      | [x], [ty] => cond (r x).isT (lenX tt ty (r x) K) (opK tt env o a r K)
      | _, _ => none
    | .builtin .append => match c.args.toList, c.argTypes.toList with
      | [s, x], [ty, ty'] => cond (r s).isT (match tt ty, tt ty' with
        | some (.list te), some (.list _) => appendX te (r s) (r x) K
        | _, _ => none) (opK tt env o a r K)
      | _, _ => none
    | .builtin .delete => match c.args.toList, c.argTypes.toList with
      | [x, k], [ty, _] => deleteX tt ty (r x) (r k) K
      | _, _ => none
    | _ => opK tt env o a r K
  | _ => opK tt env o a r K
end Go.PB
namespace Go.PB
open Go Go.RowKit
/-! ## 5. A state behind an operation -/
def AVal.ids : AVal → List Nat
  | .osl id _ => [id]
  | .ptr id _ => [id]
  | .eptr id _ _ _ => [id]
  | .iter id => [id]
  | .tv id _ _ => [id]
  | .ad id _ _ => [id]
  | .elt id _ _ _ _ => [id]
  | .lease id _ _ _ _ => [id]
  | .fn _ c => c.ids
  | .tcons a b => a.ids ++ b.ids
  | _ => []
def NV.val (p : Nat) : NV → AVal
  | .new => .tv p 0 []
  | .lit v => match v.ids with
    | [] => v
    | _ => .dead
  | .cons a b => .tcons (a.val p) (b.val p)
  | .nil => .tnil
def freezeRows : List RVal → List AObj → List AObj
  | [], h => h
  | .row id v t l :: r, h => freezeRows r (hset h id (.frow v t l))
  | .box id t x _ :: r, h => freezeRows r (hset h id (.fbox t x))
  | _ :: r, h => freezeRows r h
def layRes : List ARes → AVal
  | [] => .tnil
  | .data t x :: rs => .tcons (.data t x) (layRes rs)
  | .own _ _ :: _ => .dead
  | .upd _ _ :: _ => .dead
  | .tree _ _ :: _ => .dead
  | .out _ _ _ :: _ => .dead
def oneOf (n : Nat) (v : AVal) : AVal := match n, v with
  | 1, .tcons a .tnil => a
  | _, v => v
def hsets : List (Nat × AObj) → List AObj → List AObj
  | [], h => h
  | p :: l, h => hsets l (hset h p.1 p.2)
def upIds : List (Nat × AObj) → List Nat
  | [] => []
  | p :: l => p.1 :: upIds l
def Out.value (h : List AObj) : Out → AVal × List AObj
  | .q v => (v, h)
  | .row t l => (.osl h.length 0, h ++ [.row 0 t l])
  | .box t x => (.ptr h.length [], h ++ [.box t x])
  | .iter s => (.iter h.length, h ++ [.iter s 0])
  | .upd v id o => (v, hset h id o)
  | .results rs frz => (oneOf rs.length (layRes rs), freezeRows frz h)
  | .ownr t l frz => (.osl (freezeRows frz h).length 0, freezeRows frz h ++ [.row 0 t l])
  | .gen ups v => (v, hsets ups h)
  | .genN ups o v => (v.val (hsets ups h).length, hsets ups h ++ [o])
def putD (tmps : List AVal) : Option Tmp → AVal → List AVal
  | some d, v => tset tmps d v
  | none, _ => tmps
def St.after (st : St) (dst : Option Tmp) (out : Out) : St :=
  ⟨putD st.tmps dst (out.value st.heap).1, (out.value st.heap).2⟩
/-! ## 6. Regions -/
def laid (o : Oper) : List Operand := match o.op with
  | .store _ _ x | .box _ x => [x]
  | .build _ ps | .buildSlice _ _ ps => ps.toList.map (·.2)
  | _ => []
def arrBox : RVal → List RVal
  | .box id (.arr n t) x p => [.box id (.arr n t) x p]
  | .row id v t l => [.row id v t l]
  | _ => []
def laidRows (o : Oper) (st : St) : List RVal := match o.op with
  | .slice _ x _ _ _ => arrBox (res st.heap (ev st.tmps x))
  | .store _ x y => cond (res st.heap (ev st.tmps x)).isT [] (rowsOf [res st.heap (ev st.tmps y)])
  | _ => rowsOf ((laid o).map fun x => res st.heap (ev st.tmps x))
def preFreeze (o : Oper) (st : St) : St := ⟨st.tmps, freezeRows (laidRows o st) st.heap⟩
def opOn {R : Type} (tt : Tab) (env : Env) (o : Oper) (st : St) (K : St → Option R) : Option R :=
  opX tt env o (ev st.tmps) (fun x => res st.heap (ev st.tmps x)) fun out => K (st.after o.dst out)
def opAt {R : Type} (tt : Tab) (env : Env) (o : Oper) (st : St) (K : St → Option R) : Option R := opOn tt env o (preFreeze o st) K
def stepK {R : Type} (tt : Tab) (env : Env) (ops : List Oper) (o : Oper) (st : St) (K : St → Option R) : Option R :=
  match o.guard with
  | none => opAt tt env o st K
  | some (j, want) =>
    match (ops[j]?).bind (·.dst) with
    | some d => match tget st.tmps d with
      | .data .bool b => cond b
          (cond want (opAt tt env o ⟨tset st.tmps d (.data .bool true), st.heap⟩ K) (K ⟨putD (tset st.tmps d (.data .bool true)) o.dst .undef, st.heap⟩))
          (cond want (K ⟨putD (tset st.tmps d (.data .bool false)) o.dst .undef, st.heap⟩) (opAt tt env o ⟨tset st.tmps d (.data .bool false), st.heap⟩ K))
      | .undef => K ⟨putD st.tmps o.dst .undef, st.heap⟩
      | _ => none
    | none => none
def seqK {R : Type} (tt : Tab) (env : Env) (ops : List Oper) : List Oper → St → (St → Option R) → Option R
  | [], st, K => K st
  | o :: rest, st, K => stepK tt env ops o st fun st' => seqK tt env ops rest st' K
/-! ## 6b. Regions that draw their order of evaluation -/
def frzIds : List RVal → List Nat
  | [] => []
  | .row id _ _ _ :: r => id :: frzIds r
  | .box id _ _ _ :: r => id :: frzIds r
  | _ :: r => frzIds r
def Out.val (p : Nat) : Out → AVal
  | .q v => v
  | .row _ _ => .osl p 0
  | .box _ _ => .ptr p []
  | .iter _ => .iter p
  | .upd v _ _ => v
  | .results rs _ => oneOf rs.length (layRes rs)
  | .ownr _ _ _ => .osl p 0
  | .gen _ v => v
  | .genN _ _ v => v.val p
def Out.pre (h : List AObj) : Out → List AObj
  | .upd _ id o => hset h id o
  | .results _ frz => freezeRows frz h
  | .ownr _ _ frz => freezeRows frz h
  | .gen ups _ => hsets ups h
  | .genN ups _ _ => hsets ups h
  | _ => h
def Out.obj : Out → Option AObj
  | .row t l => some (.row 0 t l)
  | .box t x => some (.box t x)
  | .iter s => some (.iter s 0)
  | .ownr t l _ => some (.row 0 t l)
  | .genN _ o _ => some o
  | _ => none
def Out.wr (p : Nat) : Out → List Nat
  | .q _ => []
  | .row _ _ | .box _ _ | .iter _ => [p]
  | .upd _ id _ => [id]
  | .results _ frz => frzIds frz
  | .ownr _ _ frz => p :: frzIds frz
  | .gen ups _ => upIds ups
  | .genN ups _ _ => p :: upIds ups
structure Foot where
  rd : List Nat
  wr : List Nat
  vl : List Nat
def idsAt (tmps : List AVal) : List Operand → List Nat
  | [] => []
  | x :: l => (ev tmps x).ids ++ idsAt tmps l
def readsOf (o : Oper) : List Operand := match o.op with
  | .move _ => []
  | .assign _ => []
  | op => op.operands.toList
def placeK {R : Type} (p : Nat) (h : List AObj) (o : Option AObj) (K : List AObj → Option R) : Option R :=
  match o with
  | some o => match hget h p with
    | .none => K (hset h p o)
    | _ => none
  | none => K h
def opD {R : Type} (tt : Tab) (env : Env) (o : Oper) (p : Nat) (st : St) (K : Foot → St → Option R) : Option R :=
  opX tt env o (ev st.tmps) (fun x => res (preFreeze o st).heap (ev st.tmps x)) fun out =>
    placeK p (out.pre (preFreeze o st).heap) out.obj fun h =>
      K ⟨idsAt st.tmps (readsOf o), frzIds (laidRows o st) ++ out.wr p, (out.val p).ids⟩ ⟨putD st.tmps o.dst (out.val p), h⟩
def stepD {R : Type} (tt : Tab) (env : Env) (ops : List Oper) (o : Oper) (p : Nat) (st : St) (K : Foot → St → Option R) : Option R :=
  match o.guard with
  | none => opD tt env o p st K
  | some (j, want) =>
    match (ops[j]?).bind (·.dst) with
    | some d => match tget st.tmps d with
      | .data .bool b => cond b
          (cond want (opD tt env o p ⟨tset st.tmps d (.data .bool true), st.heap⟩ K) (K ⟨[], [], []⟩ ⟨putD (tset st.tmps d (.data .bool true)) o.dst .undef, st.heap⟩))
          (cond want (K ⟨[], [], []⟩ ⟨putD (tset st.tmps d (.data .bool false)) o.dst .undef, st.heap⟩) (opD tt env o p ⟨tset st.tmps d (.data .bool false), st.heap⟩ K))
      | .undef => K ⟨[], [], []⟩ ⟨putD st.tmps o.dst .undef, st.heap⟩
      | _ => none
    | none => none
def force {α : Type} (m : Nat) (k : Nat → α) : α :=
  match m with
  | 0 => k 0
  | n + 1 => k (n + 1)
def runD {R : Type} (tt : Tab) (env : Env) (ops : List Oper) : List Oper → Nat → St → List Foot → (List Foot → St → Option R) → Option R
  | [], _, st, lg, K => K lg st
  | o :: rest, p, st, lg, K => stepD tt env ops o p st fun e st' => force (p + 1) fun p' => runD tt env ops rest p' st' (lg ++ [e]) K
def allFrom {α : Type} (f : Nat → α → Bool) : Nat → List α → Bool
  | _, [] => true
  | i, x :: l => f i x && allFrom f (i + 1) l
def nget : List Nat → Nat → Nat
  | [], _ => 0
  | x :: _, 0 => x
  | _ :: l, n + 1 => nget l n
def memN (x : Nat) : List Nat → Bool
  | [] => false
  | y :: l => Nat.beq x y || memN x l
def edgeMask (ms : List Nat) : List Edge → Nat
  | [] => 0
  | e :: es => cond (Region.binds .any e) (2 ^ e.on ||| (nget ms e.on ||| edgeMask ms es)) (edgeMask ms es)
def masks : List Oper → List Nat → List Nat
  | [], ms => ms
  | o :: rest, ms => force (edgeMask ms o.after.toList) fun m => masks rest (ms ++ [m])
def ordB (ms : List Nat) (i j : Nat) : Bool := Nat.testBit (nget ms i) j || Nat.testBit (nget ms j) i
def dstIs (o : Option Tmp) (t : Nat) : Bool :=
  match o with
  | some d => Nat.beq d t
  | none => false
def tmpsOf : List Operand → List Nat
  | [] => []
  | .tmp t :: l => t :: tmpsOf l
  | _ :: l => tmpsOf l
def opTmps (ops : List Oper) (o : Oper) : List Nat :=
  tmpsOf o.op.operands.toList ++ (match o.guard with
    | some (j, _) => match (ops[j]?).bind (·.dst) with
      | some d => [d]
      | none => []
    | none => [])
def drawOk (ms : List Nat) (ops : List Oper) : Bool :=
  allFrom (fun i o => (o.after.toList.all fun e => !Region.binds .any e || Nat.blt e.on i) && (Nat.beq (nget ms i) (edgeMask ms o.after.toList)
    && ((match o.dst with | some d => allFrom (fun j o' => Nat.beq j i || !dstIs o'.dst d) 0 ops | none => true)
    && (opTmps ops o).all fun t => allFrom (fun j o' => !dstIs o'.dst t || (Nat.beq j i || ordB ms i j)) 0 ops))) 0 ops
def logOk (base : Nat) (ms : List Nat) (lg : List Foot) : Bool :=
  allFrom (fun i e => (e.wr.all fun id => allFrom (fun j (e' : Foot) => Nat.beq j i || (ordB ms i j || !(memN id e'.rd || memN id e'.wr))) 0 lg)
    && e.vl.all fun id => Nat.blt id base || (Nat.beq id (base + i) || Nat.testBit (nget ms i) (id - base))) 0 lg
def nones : Nat → List AObj
  | 0 => []
  | n + 1 => .none :: nones n
def drawK {R : Type} (tt : Tab) (env : Env) (ops : List Oper) (st : St) (K : St → Option R) : Option R :=
  cond (drawOk (masks ops []) ops)
    (force st.heap.length fun base => runD tt env ops ops base ⟨st.tmps, st.heap ++ nones ops.length⟩ [] fun lg st' => cond (logOk base (masks ops []) lg) (K st') none)
    none
def preArr : List Oper → St → St
  | [], st => st
  | o :: r, st => match o.op with
    | .slice _ x _ _ _ => match res st.heap (ev st.tmps x) with
      | .box id (.arr n t) y _ => preArr r ⟨st.tmps, hset st.heap id (.fbox (.arr n t) y)⟩
      | _ => preArr r st
    | _ => preArr r st
/-! ## 7. Code -/
structure Ks (R : Type) where
  n : St → Option R
  ret : St → Option R
  x : List (Nat × (St → Option R))
def exitK {R : Type} : List (Nat × (St → Option R)) → Nat → St → Option R
  | [], _, _ => none
  | (i, k) :: xs, id, st => cond (i == id) (k st) (exitK xs id st)
def firstRegion : Code → Nat
  | .region id _ _ => id
  | .seq a _ => firstRegion a
  | .block _ c => firstRegion c
  | .loop c => firstRegion c
  | .cond _ x _ => firstRegion x
  | _ => 0
def keyOf : Code → Option Nat
  | .loop c => some (2 * firstRegion c)
  | .cond _ x _ => some (2 * firstRegion x + 1)
  | _ => none
def mkRows : List (Nat × Ty) → St → St
  | [], st => st
  | (s, t) :: r, st => match tget st.tmps s with
    | .nils => mkRows r ⟨tset st.tmps s (.osl st.heap.length 0), st.heap ++ [.row 0 t []]⟩
    | _ => mkRows r st
def mkData (s : Nat) (t : Ty) (st : St) : St :=
  match res st.heap (tget st.tmps s) with
  | .data t' x => ⟨tset st.tmps s (.data t' x), st.heap⟩
  | .row id v t' l => ⟨tset st.tmps s (.data (.list t') l), hset st.heap id (.frow v t' l)⟩
  | .nils => ⟨tset st.tmps s (.data (.list t) []), st.heap⟩
  | _ => st
def mkDatas : List (Nat × Ty) → St → St
  | [], st => st
  | (s, t) :: r, st => mkDatas r (mkData s t st)
def AObj.reset : AObj → AObj
  | .row _ t l => .row 0 t l
  | .frow _ t l => .frow 0 t l
  | .vt _ τ x => .vt ⟨0, 0⟩ τ x
  | o => o
def normVal (m : Nat) (h : List AObj) : AVal → AVal
  | .data t x => .data t x
  | .osl id v => cond (id < m) (match hget h id with
    | .row v' _ _ => cond (v == v') (.osl id 0) .dead
    | .frow v' _ _ => cond (v == v') (.osl id 0) .dead
    | _ => .dead) .dead
  | .ptr id p => cond (id < m) (.ptr id p) .dead
  | .rptr t x => .rptr t x
  | .iter id => cond (id < m) (.iter id) .dead
  | .fn f c => .fn f (normVal m h c)
  | .tcons a b => .tcons (normVal m h a) (normVal m h b)
  | .tnil => .tnil
  | .nils => .nils
  | .nilp => .nilp
  | .tv id v p => cond (id < m) (match hget h id with
    | .vt v' τ _ => cond (v == v'.s || (isNil p && τ.fixed)) (.tv id 0 p) .dead
    | _ => .dead) .dead
  | .ad id v p => cond (id < m) (match hget h id with
    | .vt v' _ _ => cond (v == v'.s) (.ad id 0 p) .dead
    | _ => .dead) .dead
  | .undef => .undef
  | _ => .dead
def keepT (m : Nat) (h : List AObj) : List Bool → List AVal → List AVal
  | _, [] => []
  | [], _ :: l => .dead :: keepT m h [] l
  | b :: bs, v :: l => cond b (normVal m h v) .dead :: keepT m h bs l
def takeH : Nat → List AObj → List AObj
  | 0, _ => []
  | _ + 1, [] => []
  | n + 1, o :: h => o.reset :: takeH n h
def norm (keep : List Bool) (m : Nat) (st : St) : St := ⟨keepT m st.heap keep st.tmps, takeH m st.heap⟩
/-! ### Shapes of states -/
inductive SlotS where
  | dead
  | data (t : Ty)
  | rptr (t : Ty)
  | osl (id : Nat)
  | ptr (id : Nat) (path : List Nat)
  | iter (id : Nat)
  | fn (f : FuncId)
  | fnc (f : FuncId) (ts : List Ty)
  | nils
  | nilp
  | tv (id : Nat) (path : List Nat)
  | ad (id : Nat) (path : List Nat)
  | fnv (f : FuncId) (l : List (Nat × List Nat))
inductive ObjS where
  | none
  | vt (τ : TT)
  | box (t : Ty)
  | row (t : Ty)
  | frow (t : Ty)
  | iter
abbrev capsC : List Ty → Type
  | [] => Unit
  | t :: r => t.C × capsC r
def mkCatch : (ts : List Ty) → capsC ts → AVal
  | [], _ => .tnil
  | t :: r, v => .tcons (.rptr t v.1) (mkCatch r v.2)
def getCatch {R : Type} : (ts : List Ty) → AVal → (capsC ts → Option R) → Option R
  | [], .tnil, K => K ()
  | t :: r, .tcons (.rptr t' x) b, K => castK t' t x fun y => getCatch r b fun v => K (y, v)
  | _, _, _ => none
def eqPath : List Nat → List Nat → Bool
  | [], [] => true
  | a :: l, b :: m => Nat.beq a b && eqPath l m
  | _, _ => false
def mkCapV : List (Nat × List Nat) → AVal
  | [] => .tnil
  | p :: r => .tcons (.tv p.1 0 p.2) (mkCapV r)
def eqCapV : List (Nat × List Nat) → AVal → Bool
  | [], .tnil => true
  | p :: r, .tcons (.tv id ver q) b => Nat.beq p.1 id && (Nat.beq ver 0 && (eqPath p.2 q && eqCapV r b))
  | _, _ => false
abbrev slotsC (T : Type) : List SlotS → Type
  | [] => T
  | .fnc _ ts :: r => capsC ts × slotsC T r
  | .data t :: r => t.C × slotsC T r
  | .rptr t :: r => t.C × slotsC T r
  | _ :: r => slotsC T r
abbrev objsC : List ObjS → Type
  | [] => Unit
  | .box t :: r => t.C × objsC r
  | .vt τ :: r => τ.C × objsC r
  | .row t :: r => List t.C × objsC r
  | .frow t :: r => List t.C × objsC r
  | .iter :: r => ByteArray × (Nat × objsC r)
  | .none :: r => objsC r
structure Shape where
  tmps : List SlotS
  heap : List ObjS
  rows : List (Nat × Ty)
  datas : List (Nat × Ty)
abbrev Shape.C (s : Shape) : Type := slotsC (objsC s.heap) s.tmps
def mkT {T : Type} : (l : List SlotS) → slotsC T l → List AVal
  | [], _ => []
  | .data t :: r, v => .data t v.1 :: mkT r v.2
  | .rptr t :: r, v => .rptr t v.1 :: mkT r v.2
  | .dead :: r, v => .dead :: mkT r v
  | .osl id :: r, v => .osl id 0 :: mkT r v
  | .ptr id p :: r, v => .ptr id p :: mkT r v
  | .iter id :: r, v => .iter id :: mkT r v
  | .fn f :: r, v => .fn f .tnil :: mkT r v
  | .fnc f ts :: r, v => .fn f (mkCatch ts v.1) :: mkT r v.2
  | .nils :: r, v => .nils :: mkT r v
  | .nilp :: r, v => .nilp :: mkT r v
  | .tv id p :: r, v => .tv id 0 p :: mkT r v
  | .ad id p :: r, v => .ad id 0 p :: mkT r v
  | .fnv f l :: r, v => .fn f (mkCapV l) :: mkT r v
def restT {T : Type} : (l : List SlotS) → slotsC T l → T
  | [], v => v
  | .data _ :: r, v => restT r v.2
  | .rptr _ :: r, v => restT r v.2
  | .dead :: r, v => restT r v
  | .osl _ :: r, v => restT r v
  | .ptr _ _ :: r, v => restT r v
  | .iter _ :: r, v => restT r v
  | .fn _ :: r, v => restT r v
  | .fnc _ _ :: r, v => restT r v.2
  | .nils :: r, v => restT r v
  | .nilp :: r, v => restT r v
  | .tv _ _ :: r, v => restT r v
  | .ad _ _ :: r, v => restT r v
  | .fnv _ _ :: r, v => restT r v
def mkH : (l : List ObjS) → objsC l → List AObj
  | [], _ => []
  | .box t :: r, v => .box t v.1 :: mkH r v.2
  | .row t :: r, v => .row 0 t v.1 :: mkH r v.2
  | .frow t :: r, v => .frow 0 t v.1 :: mkH r v.2
  | .iter :: r, v => .iter v.1 v.2.1 :: mkH r v.2.2
  | .none :: r, v => .none :: mkH r v
  | .vt τ :: r, v => .vt ⟨0, 0⟩ τ v.1 :: mkH r v.2
def mkSt (s : Shape) (v : s.C) : St := ⟨mkT s.tmps v, mkH s.heap (restT s.tmps v)⟩
def capT {R T : Type} : (l : List SlotS) → List AVal → T → (slotsC T l → Option R) → Option R
  | [], [], h, K => K h
  | .data t :: r, .data t' x :: vs, h, K => castK t' t x fun y => capT r vs h fun v => K (y, v)
  | .rptr t :: r, .rptr t' x :: vs, h, K => castK t' t x fun y => capT r vs h fun v => K (y, v)
  | .dead :: r, .dead :: vs, h, K => capT r vs h K
  | .osl id :: r, .osl id' ver :: vs, h, K => cond (Nat.beq id id' && Nat.beq ver 0) (capT r vs h K) none
  | .ptr id p :: r, .ptr id' p' :: vs, h, K => cond (Nat.beq id id' && eqPath p p') (capT r vs h K) none
  | .iter id :: r, .iter id' :: vs, h, K => cond (Nat.beq id id') (capT r vs h K) none
  | .fn f :: r, .fn f' .tnil :: vs, h, K => cond (Nat.beq f f') (capT r vs h K) none
  | .fnc f ts :: r, .fn f' c :: vs, h, K => cond (Nat.beq f f') (getCatch ts c fun u => capT r vs h fun v => K (u, v)) none
  | .nils :: r, .nils :: vs, h, K => capT r vs h K
  | .nilp :: r, .nilp :: vs, h, K => capT r vs h K
  | .tv id p :: r, .tv id' ver p' :: vs, h, K => cond (Nat.beq id id' && (Nat.beq ver 0 && eqPath p p')) (capT r vs h K) none
  | .fnv f l :: r, .fn f' c :: vs, h, K => cond (Nat.beq f f' && eqCapV l c) (capT r vs h K) none
  | .ad id p :: r, .ad id' ver p' :: vs, h, K => cond (Nat.beq id id' && (Nat.beq ver 0 && eqPath p p')) (capT r vs h K) none
  | _, _, _, _ => none
def capH {R : Type} : (l : List ObjS) → List AObj → (objsC l → Option R) → Option R
  | [], [], K => K ()
  | .box t :: r, .box t' x :: vs, K => castK t' t x fun y => capH r vs fun v => K (y, v)
  | .row t :: r, .row ver t' x :: vs, K => cond (Nat.beq ver 0) (castK (.list t') (.list t) x fun y => capH r vs fun v => K (y, v)) none
  | .frow t :: r, .frow ver t' x :: vs, K => cond (Nat.beq ver 0) (castK (.list t') (.list t) x fun y => capH r vs fun v => K (y, v)) none
  | .iter :: r, .iter s p :: vs, K => capH r vs fun v => K (s, p, v)
  | .none :: r, .none :: vs, K => capH r vs K
  | .vt τ :: r, .vt ver τ' x :: vs, K => cond (Nat.beq ver.s 0 && Nat.beq ver.w 0) (castT τ' τ x fun y => capH r vs fun v => K (y, v)) none
  | _, _, _ => none
def keeps : List SlotS → List Bool
  | [] => []
  | .dead :: r => false :: keeps r
  | _ :: r => true :: keeps r
def olen : List ObjS → Nat
  | [] => 0
  | _ :: h => olen h + 1
def maskH : List ObjS → List AObj → List AObj
  | .none :: r, _ :: h => .none :: maskH r h
  | _ :: r, o :: h => o :: maskH r h
  | _, h => h
def Shape.norm (s : Shape) (st : St) : St :=
  ⟨(PB.norm (keeps s.tmps) (olen s.heap) (mkDatas s.datas (mkRows s.rows st))).tmps, maskH s.heap (PB.norm (keeps s.tmps) (olen s.heap) (mkDatas s.datas (mkRows s.rows st))).heap⟩
def capSt {R : Type} (s : Shape) (st : St) (K : s.C → Option R) : Option R := capH s.heap (s.norm st).heap fun h => capT s.tmps (s.norm st).tmps h K
/-! ### Summaries -/
inductive Kind where
  | n
  | ret
  | x (id : Nat)
structure Way where
  kind : Kind
  shape : Shape
abbrev WaysC : List Way → Type
  | [] => Empty
  | [w] => w.shape.C
  | w :: w' :: ws => w.shape.C ⊕ WaysC (w' :: ws)
def goto_ {R : Type} (k : Kind) (st : St) (ks : Ks R) : Option R :=
  match k with
  | .n => ks.n st
  | .ret => ks.ret st
  | .x id => exitK ks.x id st
def dispatch {R : Type} : (ws : List Way) → WaysC ws → Ks R → Option R
  | [], _, _ => none
  | [w], v, ks => goto_ w.kind (mkSt w.shape v) ks
  | w :: w' :: ws, o, ks => match o with
    | .inl v => goto_ w.kind (mkSt w.shape v) ks
    | .inr v => dispatch (w' :: ws) v ks
def Kind.same : Kind → Kind → Bool
  | .n, .n => true
  | .ret, .ret => true
  | .x i, .x j => Nat.beq i j
  | _, _ => false
def capW : (ws : List Way) → Kind → St → Option (WaysC ws)
  | [], _, _ => none
  | [w], k, st => cond (k.same w.kind) (capSt w.shape st some) none
  | w :: w' :: ws, k, st => cond (k.same w.kind) (capSt w.shape st fun v => some (.inl v)) ((capW (w' :: ws) k st).map .inr)
def exitsOf : List Way → List Nat
  | [] => []
  | ⟨.x id, _⟩ :: ws => id :: exitsOf ws
  | _ :: ws => exitsOf ws
structure Sub where
  key : Nat
  inp : Shape
  ways : List Way
  run : inp.C → Option (WaysC ways)
  n : Nat := 0
def fitWays (n : Nat) : List Way → Bool
  | [] => true
  | w :: ws => Nat.ble n (olen w.shape.heap) && fitWays n ws
def fitSubs (n : Nat) : List Sub → Bool
  | [] => true
  | s :: ss => Nat.ble n s.n && fitSubs n ss
def fitAll (s : Sub) (subs : List Sub) : Bool := Nat.ble s.n (olen s.inp.heap) && (fitWays s.n s.ways && fitSubs s.n subs)
def subK {R : Type} (s : Sub) (st : St) (ks : Ks R) : Option R := capSt s.inp st fun v => (s.run v).bind fun o => dispatch s.ways o ks
def findSub : List Sub → Nat → Option Sub
  | [], _ => none
  | s :: ss, k => cond (Nat.beq s.key k) (some s) (findSub ss k)
def exec {R : Type} (tt : Tab) (env : Env) (subs : List Sub) : Code → St → Ks R → Option R
  | .skip, st, ks => ks.n st
  | .region _ ops draw, st, ks => cond draw (drawK tt env ops.toList (preArr ops.toList st) ks.n) (seqK tt env ops.toList ops.toList st ks.n)
  | .seq a b, st, ks => exec tt env subs a st { ks with n := fun st' => exec tt env subs b st' ks }
  | .cond c x y, st, ks => match findSub subs (2 * firstRegion x + 1) with
    | some s => subK s st ks
    | none => match ev st.tmps c with
      | .data .bool b => cond b (exec tt env subs x st ks) (exec tt env subs y st ks)
      | _ => none
  | .block id c, st, ks => exec tt env subs c st { ks with x := (id, ks.n) :: ks.x }
  | .loop c, st, ks => match findSub subs (2 * firstRegion c) with
    | some s => subK s st ks
    | none => none
  | .exit id, st, ks => exitK ks.x id st
  | .ret, st, ks => ks.ret st
  | _, _, _ => none
def iter {A B : Type} (step : A → Option (A ⊕ B)) : Nat → A → Option B
  | 0, _ => none
  | n + 1, v => (step v).bind fun o => match o with
    | .inl v' => iter step n v'
    | .inr b => some b
def capKs (ws : List Way) : Ks (WaysC ws) :=
  { n := capW ws .n, ret := capW ws .ret, x := (exitsOf ws).map fun id => (id, capW ws (.x id)) }
def loopKs (inp : Shape) (ws : List Way) : Ks (inp.C ⊕ WaysC ws) :=
  { n := fun st => capSt inp st fun v => some (.inl v), ret := fun st => (capW ws .ret st).map .inr, x := (exitsOf ws).map fun id => (id, fun st => (capW ws (.x id) st).map .inr) }
def nodesAt (k : Nat) : Code → List Code
  | .seq a b => nodesAt k a ++ nodesAt k b
  | .cond c x y => cond (Nat.beq (2 * firstRegion x + 1) k) [.cond c x y] [] ++ (nodesAt k x ++ nodesAt k y)
  | .block _ c => nodesAt k c
  | .loop c => cond (Nat.beq (2 * firstRegion c) k) [.loop c] [] ++ nodesAt k c
  | _ => []
/-! ## 8. Functions -/
def outK {R : Type} (n : Nat) (tt : Tab) (ty : TypeId) (id : Nat) (σ : TT) (z : σ.C) (K : ARes → Option R) : Option R :=
  cond (Nat.ble n id) (cond σ.isAgg
    (match tt.aggW ty with
      | some m => cond (Nat.beq σ.width m) (K (.tree σ z)) none
      | none => none)
    (cond (tt.one ty && Nat.beq σ.width 1) (K (.tree σ z)) none)) none
def retCell {R : Type} (n : Nat) (tt : Tab) (ty : TypeId) (r : RVal) (K : ARes → Option R) : Option R :=
  match r with
  | .tr id _ p τ y => match p, τ, y with
    | [], .own (.data t), y => loadX tt ty r fun out => match out with
      | .q (.data t x) => K (.data t x)
      | _ => none
    | [], .own σ, y => outK n tt ty id σ y K
    | _, _, _ => none
  | r => loadK (tt ty) r fun out => match out with
    | .q (.data t x) => K (.data t x)
    | _ => none
def retOne {R : Type} (n : Nat) (tt : Tab) (st : St) (x : ResultVar) (ty : TypeId) (K : ARes → Option R) : Option R :=
  match x with
  | .tmp d => match res st.heap (tget st.tmps d) with
    | .data t x => K (.data t x)
    | .row _ _ t l => K (.data (.list t) l)
    | .nils => match tt ty with
      | some (.list t) => K (.data (.list t) [])
      | _ => none
    | .nilp => match tt.mt ty with
      | some (.opt σ) => K (.tree (.opt σ) none)
      | _ => none
    | .tr .. => takeK (res st.heap (tget st.tmps d)) fun id σ z => cond (Nat.ble n id) (K (.tree σ z)) none
    | .lease .. => takeK (res st.heap (tget st.tmps d)) fun id σ z => cond (Nat.ble n id) (K (.tree σ z)) none
    | _ => none
  | .cell a ty' => retCell n tt ty' (res st.heap (tget st.tmps a)) K
def retK {R : Type} (n : Nat) (tt : Tab) (st : St) : List ResultVar → List TypeId → (List ARes → Option R) → Option R
  | [], _, K => K []
  | x :: xs, ty :: tys, K => retOne n tt st x ty fun r => retK n tt st xs tys fun rs => K (r :: rs)
  | _ :: _, [], _ => none
mutual
def argVal : RVal → AVal
  | .data t x => .data t x
  | .rptr t x => .rptr t x
  | .fn f c => .fn f (argCaps c)
  | .nils => .nils
  | .nilp => .nilp
  | _ => .dead
def argCaps : RVal → AVal
  | .tcons a b => .tcons (argVal a) (argCaps b)
  | .tnil => .tnil
  | _ => .dead
end
def entT : List RVal → Nat → List AVal
  | [], _ => []
  | .tree _ _ :: r, n => .tv n 0 [] :: entT r (n + 1)
  | a :: r, n => argVal a :: entT r n
def entH : List RVal → List AObj
  | [] => []
  | .tree τ x :: r => .vt ⟨0, 0⟩ τ x :: entH r
  | _ :: r => entH r
def outsK {R : Type} (h : List AObj) : List RVal → Nat → Nat → (List ARes → Option R) → Option R
  | [], _, _, K => K []
  | .tree τ _ :: r, i, n, K => match hget h n with
    | .vt _ τ' x' => cond (Nat.beq τ'.width τ.width && (τ'.isAgg == τ.isAgg)) (outsK h r (i + 1) (n + 1) fun os => K (.out i τ' x' :: os)) none
    | _ => none
  | _ :: r, i, n, K => outsK h r (i + 1) n K
def oneTree : List ARes → Bool
  | [] => true
  | .tree _ _ :: r => noTree r
  | _ :: r => oneTree r
def undefs : Nat → List AVal
  | 0 => []
  | n + 1 => .undef :: undefs n
def endK {R : Type} (n : Nat) (tt : Tab) (fn : Func) (args : List RVal) (K : List ARes → Option R) (st : St) : Option R :=
  retK n tt st fn.results.toList fn.resultTypes.toList fun rs => cond (oneTree rs) (outsK st.heap args 0 0 fun os => K (rs ++ os)) none
def fexec {R : Type} (tt : Tab) (env : Env) (subs : List Sub) (fn : Func) (c : Code) (args : List RVal) (K : List ARes → Option R) : Option R :=
  cond (fitSubs (entH args).length subs) (exec tt env subs c ⟨entT args 0 ++ undefs (fn.ntmps - args.length), entH args⟩
    { n := endK (entH args).length tt fn args K, ret := endK (entH args).length tt fn args K, x := [] }) none
end Go.PB
namespace Go.PB
open Go Go.RowKit
def EnvNat (env : Env) : Prop := ∀ (R : Type) (f : FuncId) (args : List RVal) (K : List ARes → Option R), env R f args K = (env (List ARes) f args some).bind K
section
variable {R : Type}
theorem rangeK_nat {α : Type} (i n : Int) (x : Option α) (K : α → Option R) (y : Option R) (h : y = x.bind K) : rangeK i n y = (rangeK i n x).bind K := by subst h; unfold rangeK; split <;> rfl
theorem cutK_nat {α : Type} (l h n : Int) (x : Option α) (K : α → Option R) (y : Option R) (he : y = x.bind K) : cutK l h n y = (cutK l h n x).bind K := by subst he; unfold cutK; split <;> rfl
theorem roomK_nat {α : Type} (n m : Nat) (x : Option α) (K : α → Option R) (y : Option R) (h : y = x.bind K) : roomK n m y = (roomK n m x).bind K := by subst h; unfold roomK; split <;> rfl
theorem nzK_nat {α : Type} (n : Int) (x : Option α) (K : α → Option R) (y : Option R) (h : y = x.bind K) : nzK n y = (nzK n x).bind K := by subst h; unfold nzK; split <;> rfl
theorem posK_nat {α : Type} (n : Int) (x : Option α) (K : α → Option R) (y : Option R) (h : y = x.bind K) : posK n y = (posK n x).bind K := by subst h; unfold posK; split <;> rfl
theorem sameK_nat {α : Type} (a b : Ty) (x : Option α) (K : α → Option R) (y : Option R) (h : y = x.bind K) : sameK a b y = (sameK a b x).bind K := by subst h; unfold sameK; split <;> rfl
theorem castK_nat {α : Type} (a b : Ty) (x : a.C) (g : b.C → Option α) (K : α → Option R) (g' : b.C → Option R) (h : ∀ z, g' z = (g z).bind K) : castK a b x g' = (castK a b x g).bind K := by
  unfold castK; split
  · exact h _
  · rfl
theorem dataK_nat {α : Type} (r : RVal) (t : Ty) (g : t.C → Option α) (K : α → Option R) (g' : t.C → Option R) (h : ∀ z, g' z = (g z).bind K) : RVal.dataK r t g' = (RVal.dataK r t g).bind K := by
  cases r with
  | data t' x => exact castK_nat _ _ _ _ _ _ h
  | _ => first | rfl | (cases t <;> first | rfl | exact h _)
theorem listK_nat {α : Type} (r : RVal) (t : Ty) (g : List t.C → Option α) (K : α → Option R) (g' : List t.C → Option R) (h : ∀ z, g' z = (g z).bind K) : listK r t g' = (listK r t g).bind K := by
  unfold listK; split
  · exact castK_nat _ _ _ _ _ _ h
  · exact castK_nat _ _ _ _ _ _ h
  · exact h _
  · rfl
theorem compK_nat {α : Type} (K : α → Option R) : ∀ (t : Ty) (x : t.C) (f : Nat) (g : (t' : Ty) → t'.C → Option α) (g' : (t' : Ty) → t'.C → Option R), (∀ t' z, g' t' z = (g t' z).bind K) → Ty.compK t x f g' = (Ty.compK t x f g).bind K
  | .pair a _, x, 0, g, g', h => h _ _
  | .pair _ b, x, n + 1, g, g', h => compK_nat K b x.2 n g g' h
  | .unit, _, _, _, _, _ => rfl
  | .int _, _, _, _, _, _ => rfl
  | .bool, _, _, _, _, _ => rfl
  | .err, _, _, _, _, _ => rfl
  | .str, _, _, _, _, _ => rfl
  | .list _, _, _, _, _, _ => rfl
  | .agg _, _, _, _, _, _ => rfl
  | .arr _ _, _, _, _, _, _ => rfl
theorem getK_nat {α : Type} (K : α → Option R) : ∀ (p : List Nat) (t : Ty) (x : t.C) (g : (t' : Ty) → t'.C → Option α) (g' : (t' : Ty) → t'.C → Option R), (∀ t' z, g' t' z = (g t' z).bind K) → Ty.getK p t x g' = (Ty.getK p t x g).bind K
  | [], t, x, g, g', h => h _ _
  | f :: p, .agg t, x, g, g', h => compK_nat K t x f _ _ fun t' z => getK_nat K p t' z g g' h
  | f :: p, .arr n t, x, g, g', h => roomK_nat _ _ _ _ _ (getK_nat K p t _ g g' h)
  | _ :: _, .unit, _, _, _, _ => rfl
  | _ :: _, .int _, _, _, _, _ => rfl
  | _ :: _, .bool, _, _, _, _ => rfl
  | _ :: _, .err, _, _, _, _ => rfl
  | _ :: _, .str, _, _, _, _ => rfl
  | _ :: _, .list _, _, _, _, _ => rfl
  | _ :: _, .pair _ _, _, _, _, _ => rfl
theorem compSet_nat {α : Type} (K : α → Option R) : ∀ (t : Ty) (x : t.C) (f : Nat) (c : (t' : Ty) → t'.C → (t'.C → Option α) → Option α) (c' : (t' : Ty) → t'.C → (t'.C → Option R) → Option R) (g : t.C → Option α) (g' : t.C → Option R),
    (∀ t' z (k : t'.C → Option α) (k' : t'.C → Option R), (∀ y, k' y = (k y).bind K) → c' t' z k' = (c t' z k).bind K) → (∀ y, g' y = (g y).bind K) → Ty.compSet t x f c' g' = (Ty.compSet t x f c g).bind K
  | .pair a _, x, 0, c, c', g, g', hc, h => hc _ _ _ _ fun y => h _
  | .pair _ b, x, n + 1, c, c', g, g', hc, h => compSet_nat K b x.2 n c c' _ _ hc fun y => h _
  | .unit, _, _, _, _, _, _, _, _ => rfl
  | .int _, _, _, _, _, _, _, _, _ => rfl
  | .bool, _, _, _, _, _, _, _, _ => rfl
  | .err, _, _, _, _, _, _, _, _ => rfl
  | .str, _, _, _, _, _, _, _, _ => rfl
  | .list _, _, _, _, _, _, _, _, _ => rfl
  | .agg _, _, _, _, _, _, _, _, _ => rfl
  | .arr _ _, _, _, _, _, _, _, _, _ => rfl
theorem setK_nat {α : Type} (K : α → Option R) : ∀ (p : List Nat) (t : Ty) (x : t.C) (t' : Ty) (y : t'.C) (g : t.C → Option α) (g' : t.C → Option R), (∀ z, g' z = (g z).bind K) → Ty.setK p t x t' y g' = (Ty.setK p t x t' y g).bind K
  | [], t, x, t', y, g, g', h => castK_nat _ _ _ _ _ _ h
  | f :: p, .agg t, x, t', y, g, g', h => compSet_nat K t x f _ _ _ _ (fun u z k k' hk => setK_nat K p u z t' y k k' hk) h
  | f :: p, .arr n t, x, t', y, g, g', h => roomK_nat _ _ _ _ _ (setK_nat K p t _ t' y _ _ fun z => h _)
  | _ :: _, .unit, _, _, _, _, _, _ => rfl
  | _ :: _, .int _, _, _, _, _, _, _ => rfl
  | _ :: _, .bool, _, _, _, _, _, _ => rfl
  | _ :: _, .err, _, _, _, _, _, _ => rfl
  | _ :: _, .str, _, _, _, _, _, _ => rfl
  | _ :: _, .list _, _, _, _, _, _, _ => rfl
  | _ :: _, .pair _ _, _, _, _, _, _, _ => rfl
theorem partsK_nat {α : Type} (K : α → Option R) : ∀ (ps : List (Nat × RVal)) (t : Ty) (x : t.C) (g : t.C → Option α) (g' : t.C → Option R), (∀ z, g' z = (g z).bind K) → partsK t x ps g' = (partsK t x ps g).bind K
  | [], t, x, g, g', h => h _
  | p :: ps, t, x, g, g', h => compSet_nat K t x p.1 _ _ _ _ (fun u z k k' hk => dataK_nat _ _ _ _ _ hk) fun y => partsK_nat K ps t y g g' h
theorem elemsK_nat {α : Type} (K : α → Option R) : ∀ (ps : List (Nat × RVal)) (t : Ty) (l : List t.C) (g : List t.C → Option α) (g' : List t.C → Option R), (∀ z, g' z = (g z).bind K) → elemsK t l ps g' = (elemsK t l ps g).bind K
  | [], t, l, g, g', h => h _
  | p :: ps, t, l, g, g', h => roomK_nat _ _ _ _ _ (dataK_nat _ _ _ _ _ fun y => elemsK_nat K ps t _ g g' h)
theorem extractK_nat (K : Out → Option R) : ∀ (u : AVal) (i : Nat), extractK u i K = (extractK u i some).bind K
  | .tcons a _, 0 => rfl
  | .tcons _ b, n + 1 => extractK_nat K b n
  | .tnil, _ => rfl
  | .data .., _ => rfl
  | .osl .., _ => rfl
  | .ptr .., _ => rfl
  | .rptr .., _ => rfl
  | .eptr .., _ => rfl
  | .iter .., _ => rfl
  | .tv .., _ => rfl
  | .ad .., _ => rfl
  | .elt .., _ => rfl
  | .lease .., _ => rfl
  | .fn .., _ => rfl
  | .nils, _ => rfl
  | .nilp, _ => rfl
  | .undef, _ => rfl
  | .dead, _ => rfl
theorem minmax_nat {α : Type} (isMax : Bool) (K : α → Option R) (g : Int → Option α) (g' : Int → Option R) (h : ∀ z, g' z = (g z).bind K) : ∀ (l : List RVal) (x : Int), minmax isMax x l g' = (minmax isMax x l g).bind K
  | [], x => h _
  | y :: l, x => by
    cases y with
    | data t z =>
      cases t with
      | int k => exact minmax_nat isMax K g g' h l _
      | _ => rfl
    | _ => rfl
theorem optI_nat {α : Type} (x : Option RVal) (d : Int) (g : Int → Option α) (K : α → Option R) (g' : Int → Option R) (h : ∀ z, g' z = (g z).bind K) : optI x d g' = (optI x d g).bind K := by
  unfold optI; split
  · exact h _
  · exact h _
  · rfl
theorem binInt_nat (op : BinOp) (k : IntKind) (x y : Int) (K : Out → Option R) : binInt op k x y K = (binInt op k x y some).bind K := by
  cases op <;> first | rfl | exact nzK_nat _ _ _ _ rfl
theorem binShift_nat (op : BinOp) (k : IntKind) (x y : Int) (K : Out → Option R) : binShift op k x y K = (binShift op k x y some).bind K := by
  cases op <;> first | rfl | exact posK_nat _ _ _ _ rfl
theorem binStr_nat (op : BinOp) (x y : ByteArray) (K : Out → Option R) : binStr op x y K = (binStr op x y some).bind K := by
  cases op <;> first | rfl | exact roomK_nat _ _ _ _ _ rfl
theorem cond_nat {R S : Type} (c : Bool) (K : S → Option R) (v : S) : (cond c (K v) none) = (cond c (some v) none).bind K := by cases c <;> rfl
theorem binK_nat (ty : Option Ty) (c : Bool) (op : BinOp) (x y : RVal) (K : Out → Option R) : binK ty c op x y K = (binK ty c op x y some).bind K := by
  unfold binK
  split
  · split
    · exact binShift_nat _ _ _ _ _
    · exact binShift_nat _ _ _ _ _
    · split
      · exact binInt_nat _ _ _ _ _
      · rfl
  · exact binStr_nat _ _ _ _
  · split <;> rfl
  · split
    · exact cond_nat _ _ _
    · exact cond_nat _ _ _
    · rfl
  · split
    · rename_i t0
      cases (t0.plainEq && Nat.blt t0.deep 1000)
      · rfl
      · simp only [cond_true]; exact castK_nat _ _ _ _ _ _ fun _ => castK_nat _ _ _ _ _ _ fun _ => rfl
    · rename_i t0
      cases (t0.plainEq && Nat.blt t0.deep 1000)
      · rfl
      · simp only [cond_true]; exact castK_nat _ _ _ _ _ _ fun _ => castK_nat _ _ _ _ _ _ fun _ => rfl
    · rfl
  · rfl
theorem atPath_nat {S : Type} {K : S → Option R} (p : List Nat) (t t0 : Ty) {a : Option R} {b : Option S} (h : a = b.bind K) : atPath p t t0 a = (atPath p t t0 b).bind K := by
  unfold atPath
  split
  · exact sameK_nat _ _ _ _ _ h
  · rfl
theorem fieldAddrK_nat (ty : Option Ty) (x : AVal) (r : RVal) (f : Nat) (K : Out → Option R) : fieldAddrK ty x r f K = (fieldAddrK ty x r f some).bind K := by
  unfold fieldAddrK atPath hasPath
  split
  · split
    · refine sameK_nat _ _ _ _ _ ?_
      split <;> rfl
    · rfl
  · exact sameK_nat _ _ _ _ _ (compK_nat _ _ _ _ _ _ fun _ _ => rfl)
  · split
    · refine sameK_nat _ _ _ _ _ ?_
      split <;> rfl
    · rfl
  · rfl
theorem compMod_nat {α : Type} (F : α → Option R) : ∀ (τ : TT) (x : τ.C) (f : Nat) (g : (τ' : TT) → τ'.C → ((τ'' : TT) → τ''.C → Option α) → Option α) (g' : (τ' : TT) → τ'.C → ((τ'' : TT) → τ''.C → Option R) → Option R) (K : (τ' : TT) → τ'.C → Option α) (K' : (τ' : TT) → τ'.C → Option R),
    (∀ τ' y k k', (∀ τ'' z, k' τ'' z = (k τ'' z).bind F) → g' τ' y k' = (g τ' y k).bind F) → (∀ τ' y, K' τ' y = (K τ' y).bind F) → TT.compMod τ x f g' K' = (TT.compMod τ x f g K).bind F
  | .pair a b, x, 0, g, g', K, K', hg, hK => hg _ _ _ _ fun _ _ => hK _ _
  | .pair a b, x, n + 1, g, g', K, K', hg, hK => compMod_nat F b x.2 n g g' _ _ hg fun _ _ => hK _ _
  | .data _, _, _, _, _, _, _, _, _ => rfl
  | .vec _, _, _, _, _, _, _, _, _ => rfl
  | .map _ _, _, _, _, _, _, _, _, _ => rfl
  | .own _, _, _, _, _, _, _, _, _ => rfl
  | .opt _, _, _, _, _, _, _, _, _ => rfl
  | .hole, _, _, _, _, _, _, _, _ => rfl
  | .unit, _, _, _, _, _, _, _, _ => rfl
  | .agg _, _, _, _, _, _, _, _, _ => rfl
theorem modK_nat {α : Type} (F : α → Option R) : ∀ (p : List Nat) (τ : TT) (x : τ.C) (g : (τ' : TT) → τ'.C → ((τ'' : TT) → τ''.C → Option α) → Option α) (g' : (τ' : TT) → τ'.C → ((τ'' : TT) → τ''.C → Option R) → Option R) (K : (τ' : TT) → τ'.C → Option α) (K' : (τ' : TT) → τ'.C → Option R),
    (∀ τ' y k k', (∀ τ'' z, k' τ'' z = (k τ'' z).bind F) → g' τ' y k' = (g τ' y k).bind F) → (∀ τ' y, K' τ' y = (K τ' y).bind F) → TT.modK p τ x g' K' = (TT.modK p τ x g K).bind F
  | [], τ, x, g, g', K, K', hg, hK => hg _ _ _ _ hK
  | f :: p, .agg τ, x, g, g', K, K', hg, hK => compMod_nat F τ x f _ _ _ _ (fun u y k k' hk => modK_nat F p u y g g' k k' hg hk) fun _ _ => hK _ _
  | f :: p, .own τ, x, g, g', K, K', hg, hK => modK_nat F p τ x g g' _ _ hg fun _ _ => hK _ _
  | f :: p, .opt τ, none, g, g', K, K', hg, hK => rfl
  | f :: p, .opt τ, some x, g, g', K, K', hg, hK => modK_nat F p τ x g g' _ _ hg fun _ _ => hK _ _
  | f :: p, .data t, x, g, g', K, K', hg, hK => getK_nat F (f :: p) t x _ _ fun t' y => hg _ _ _ _ fun τ'' z => by
    cases τ'' with
    | data t'' => exact setK_nat F (f :: p) t x t'' z _ _ fun _ => hK _ _
    | _ => rfl
  | _ :: _, .vec _, _, _, _, _, _, _, _ => rfl
  | _ :: _, .map _ _, _, _, _, _, _, _, _ => rfl
  | _ :: _, .hole, _, _, _, _, _, _, _ => rfl
  | _ :: _, .unit, _, _, _, _, _, _, _ => rfl
  | _ :: _, .pair _ _, _, _, _, _, _, _, _ => rfl
theorem updArgs_nat {α : Type} (F : α → Option R) : ∀ (as : List RVal) (i : Nat) (os : List (Nat × (τ : TT) × τ.C)) (ups : List (Nat × AObj)) (K : List (Nat × AObj) → Option α) (K' : List (Nat × AObj) → Option R), (∀ u, K' u = (K u).bind F) → updArgs as i os ups K' = (updArgs as i os ups K).bind F := by
  intro as
  induction as with
  | nil => intro i os ups K K' h; cases os <;> first | exact h _ | rfl
  | cons a as ih =>
    intro i os ups K K' h
    cases a with
    | tr id ver p τ x =>
      cases os with
      | nil => rfl
      | cons o os =>
        obtain ⟨j, τ1, x1⟩ := o
        simp only [updArgs]
        cases (Nat.beq i j && !memUp id ups) with
        | false => rfl
        | true =>
          simp only [cond_true]
          refine modK_nat F p τ x _ _ _ _ (fun τ' y k k' hk => ?_) fun T X => ih _ _ _ _ _ h
          cases ((Nat.beq τ1.width τ'.width && (τ1.isAgg == τ'.isAgg)) && (isNil p || τ'.isRef)) with
          | false => rfl
          | true => exact hk _ _
    | _ => exact ih _ _ _ _ _ h
theorem finK_nat (whole : List ARes) (ups : List (Nat × AObj)) (K : Out → Option R) : ∀ rs, finK whole ups K rs = (finK whole ups some rs).bind K
  | [] => rfl
  | .tree τ x :: r => by simp only [finK]; cases allData r <;> rfl
  | .data _ _ :: r => finK_nat whole ups K r
  | .own _ _ :: _ => rfl
  | .upd _ _ :: _ => rfl
  | .out _ _ _ :: _ => rfl
theorem callT_nat (args : List RVal) (rs : List ARes) (K : Out → Option R) : callT args rs K = (callT args rs some).bind K := by
  unfold callT
  cases (hasRow args || (hasLease args || !handy args)) with
  | true => rfl
  | false => exact updArgs_nat K _ _ _ _ _ _ fun u => finK_nat _ _ K _
theorem callK_nat {env : Env} (hn : EnvNat env) (f : FuncId) (args : List RVal) (K : Out → Option R) : callK env f args K = (callK env f args some).bind K := by
  unfold callK
  rw [hn R f _ _, hn Out f _ _, Option.bind_assoc]
  congr 1
  funext rs
  split
  · rename_i t l; cases (t.refs && hasLease args) <;> rfl
  · split
    · rename_i id v t' l rest
      cases (restOk id rest && !_) with
      | true => exact sameK_nat _ _ _ _ _ rfl
      | false => rfl
    · rfl
  · cases allData _ with
    | true => simp only [cond_true]; cases (anyRefs _ && hasLease args) <;> rfl
    | false => exact callT_nat _ _ _
theorem opK_nat {env : Env} (hn : EnvNat env) (tt : Tab) (o : Oper) (a : Operand → AVal) (r : Operand → RVal) (K : Out → Option R) : opK tt env o a r K = (opK tt env o a r some).bind K := by
  unfold opK
  cases o.op with
  | move x => rfl
  | assign x => rfl
  | pick c x y =>
    simp only
    split
    · rename_i b _
      split
      · exact castK_nat _ _ _ _ _ _ fun _ => rfl
      · cases b <;> rfl
    · rfl
  | binOp op ty x y _ => exact binK_nat _ _ _ _ _ _
  | unOp op ty x => simp only [unK]; split <;> rfl
  | convert s d x => simp only [convK]; split <;> first | rfl | exact listK_nat _ _ _ _ _ fun _ => rfl
  | nilCheck x => simp only; split <;> rfl
  | fieldAddr s x f => exact fieldAddrK_nat _ _ _ _ _
  | field s x f => simp only [fieldK]; split <;> first | rfl | exact sameK_nat _ _ _ _ _ (compK_nat _ _ _ _ _ _ fun _ _ => rfl)
  | indexAddr t x i => simp only [indexAddrK]; split <;> first | rfl | exact sameK_nat _ _ _ _ _ (rangeK_nat _ _ _ _ _ rfl) | exact atPath_nat _ _ _ (rangeK_nat _ _ _ _ _ rfl)
  | index t x i => simp only [indexK]; split <;> first | rfl | exact rangeK_nat _ _ _ _ _ rfl
  | slice t x lo hi mx =>
    simp only [sliceK]; split
    · exact optI_nat _ _ _ _ _ fun _ => optI_nat _ _ _ _ _ fun _ => cutK_nat _ _ _ _ _ _ rfl
    · exact sameK_nat _ _ _ _ _ (optI_nat _ _ _ _ _ fun _ => optI_nat _ _ _ _ _ fun _ => cutK_nat _ _ _ _ _ _ rfl)
    · exact sameK_nat _ _ _ _ _ (optI_nat _ _ _ _ _ fun _ => optI_nat _ _ _ _ _ fun _ => cutK_nat _ _ _ _ _ _ rfl)
    · rfl
  | load t x =>
    simp only [loadK]; split
    · exact getK_nat _ _ _ _ _ _ fun _ _ => castK_nat _ _ _ _ _ _ fun _ => rfl
    · exact castK_nat _ _ _ _ _ _ fun _ => rfl
    · exact getK_nat _ _ _ _ _ _ fun _ _ => castK_nat _ _ _ _ _ _ fun _ => rfl
    · rfl
  | store t x y =>
    simp only [storeK]; split
    · exact dataK_nat _ _ _ _ _ fun _ => setK_nat _ _ _ _ _ _ _ _ fun _ => rfl
    · exact dataK_nat _ _ _ _ _ fun _ => setK_nat _ _ _ _ _ _ _ _ fun _ => rfl
    · rfl
  | extract x i => exact extractK_nat _ _ _
  | alloc e => simp only; split <;> rfl
  | box e x => simp only; split <;> first | rfl | exact dataK_nat _ _ _ _ _ fun _ => rfl
  | build t ps => simp only; split <;> first | rfl | exact partsK_nat _ _ _ _ _ _ fun _ => rfl
  | buildSlice t n ps => simp only; split <;> first | rfl | exact roomK_nat _ _ _ _ _ (elemsK_nat _ _ _ _ _ _ fun _ => rfl)
  | makeInterface ty x => simp only [ifaceK]; split <;> rfl
  | makeFunc f first caps =>
    cases f with
    | func g => simp only; split <;> rfl
    | _ => rfl
  | range t x => simp only; split <;> rfl
  | next x isStr =>
    simp only; split
    · cases isStr with
      | true => simp only [cond_true]; split <;> rfl
      | false => rfl
    · rfl
  | call c =>
    simp only
    split
    · split
      · exact callK_nat hn _ _ _
      · rfl
    · split
      · simp only [lenK]; split <;> rfl
      · rfl
    · split
      · split
        · simp only [appendK]; split
          · exact sameK_nat _ _ _ _ _ (listK_nat _ _ _ _ _ fun _ => roomK_nat _ _ _ _ _ rfl)
          · exact listK_nat _ _ _ _ _ fun _ => roomK_nat _ _ _ _ _ rfl
          · rfl
        · rfl
      · rfl
    · split
      · split
        · exact minmax_nat true K (fun m => some (.q (.data (.int _) m))) _ (fun _ => rfl) _ _
        · rfl
      · rfl
    · split
      · split
        · exact minmax_nat false K (fun m => some (.q (.data (.int _) m))) _ (fun _ => rfl) _ _
        · rfl
      · rfl
    · rfl
  | _ => rfl
theorem compT_nat {R S : Type} (K : S → Option R) : ∀ (τ : TT) (x : τ.C) (f : Nat) (g : (t' : TT) → t'.C → Option S) (g' : (t' : TT) → t'.C → Option R), (∀ t' z, g' t' z = (g t' z).bind K) → TT.compK τ x f g' = (TT.compK τ x f g).bind K
  | .pair a b, x, 0, g, g', h => h _ _
  | .pair a b, x, n + 1, g, g', h => compT_nat K b x.2 n g g' h
  | .data _, _, _, _, _, _ => rfl
  | .vec _, _, _, _, _, _ => rfl
  | .map _ _, _, _, _, _, _ => rfl
  | .own _, _, _, _, _, _ => rfl
  | .opt _, _, _, _, _, _ => rfl
  | .hole, _, _, _, _, _ => rfl
  | .unit, _, _, _, _, _ => rfl
  | .agg _, _, _, _, _, _ => rfl
theorem getT_nat {R S : Type} (K : S → Option R) : ∀ (p : List Nat) (τ : TT) (x : τ.C) (g : (t' : TT) → t'.C → Option S) (g' : (t' : TT) → t'.C → Option R), (∀ t' z, g' t' z = (g t' z).bind K) → TT.getK p τ x g' = (TT.getK p τ x g).bind K
  | [], τ, x, g, g', h => h _ _
  | f :: p, .agg τ, x, g, g', h => compT_nat K τ x f _ _ fun u y => getT_nat K p u y g g' h
  | f :: p, .own τ, x, g, g', h => getT_nat K p τ x g g' h
  | f :: p, .opt τ, none, g, g', h => rfl
  | f :: p, .opt τ, some x, g, g', h => getT_nat K p τ x g g' h
  | f :: p, .data t, x, g, g', h => getK_nat K (f :: p) t x _ _ fun t' y => h _ _
  | _ :: _, .vec _, _, _, _, _ => rfl
  | _ :: _, .map _ _, _, _, _, _ => rfl
  | _ :: _, .hole, _, _, _, _ => rfl
  | _ :: _, .unit, _, _, _, _ => rfl
  | _ :: _, .pair _ _, _, _, _, _ => rfl
theorem castT_nat {α : Type} (a b : TT) (x : a.C) (g : b.C → Option α) (K : α → Option R) (g' : b.C → Option R) (h : ∀ z, g' z = (g z).bind K) : castT a b x g' = (castT a b x g).bind K := by
  unfold castT; split
  · exact h _
  · rfl
theorem condK_nat {α : Type} (b : Bool) {x : Option α} {K : α → Option R} {y : Option R} (h : y = x.bind K) : cond b y none = (cond b x none).bind K := by cases b <;> first | rfl | exact h
theorem condK_nat' {α : Type} (b : Bool) {x : Option α} {K : α → Option R} {y : Option R} (h : y = x.bind K) : cond b none y = (cond b none x).bind K := by cases b <;> first | rfl | exact h
theorem condK_nat2 {α : Type} (b : Bool) {x x' : Option α} {K : α → Option R} {y y' : Option R} (h : y = x.bind K) (h' : y' = x'.bind K) : cond b y y' = (cond b x x').bind K := by cases b <;> first | exact h | exact h'
theorem sameOff_nat {α : Type} (a b : Option Nat) {x : Option α} {K : α → Option R} {y : Option R} (h : y = x.bind K) : sameOff a b y = (sameOff a b x).bind K := by
  unfold sameOff; split
  · exact condK_nat _ h
  · rfl
theorem ptrK_nat {α : Type} (F : α → Option R) (r : RVal) (K : (id : Nat) → (ver : Ver) → (p : List Nat) → (τ : TT) → τ.C → Option α) (K' : (id : Nat) → (ver : Ver) → (p : List Nat) → (τ : TT) → τ.C → Option R) (h : ∀ id ver p τ x, K' id ver p τ x = (K id ver p τ x).bind F) : ptrK r K' = (ptrK r K).bind F := by
  cases r with
  | ad id ver p τ x => exact h _ _ _ _ _
  | tr id ver p τ x =>
    refine getT_nat F _ _ _ _ _ fun τ' y => ?_
    cases τ' with
    | own σ => exact h _ _ _ _ _
    | opt σ => cases y <;> first | exact h _ _ _ _ _ | rfl
    | _ => rfl
  | _ => rfl
theorem toD_nat {α : Type} (F : α → Option R) : ∀ (τ : TT) (x : τ.C) (K : (t : Ty) → t.C → Option α) (K' : (t : Ty) → t.C → Option R), (∀ t y, K' t y = (K t y).bind F) → toD τ x K' = (toD τ x K).bind F
  | .data t, x, K, K', h => h _ _
  | .vec t, l, K, K', h => h _ _
  | .unit, _, K, K', h => h _ _
  | .pair a b, x, K, K', h => toD_nat F a x.1 _ _ fun t y => toD_nat F b x.2 _ _ fun u z => h _ _
  | .agg τ, x, K, K', h => toD_nat F τ x _ _ fun t y => h _ _
  | .map _ _, _, _, _, _ => rfl
  | .own _, _, _, _, _ => rfl
  | .opt _, _, _, _, _ => rfl
  | .hole, _, _, _, _ => rfl
theorem ofD_nat {α : Type} (F : α → Option R) : ∀ (τ : TT) (t : Ty) (x : t.C) (K : τ.C → Option α) (K' : τ.C → Option R), (∀ y, K' y = (K y).bind F) → ofD τ t x K' = (ofD τ t x K).bind F
  | .data u, t, x, K, K', h => castK_nat _ _ _ _ _ _ h
  | .unit, .unit, _, K, K', h => h _
  | .pair a b, .pair t u, x, K, K', h => ofD_nat F a t x.1 _ _ fun y => ofD_nat F b u x.2 _ _ fun z => h _
  | .agg τ, .agg t, x, K, K', h => ofD_nat F τ t x _ _ h
  | .unit, .int _, _, _, _, _ => rfl
  | .unit, .bool, _, _, _, _ => rfl
  | .unit, .err, _, _, _, _ => rfl
  | .unit, .str, _, _, _, _ => rfl
  | .unit, .list _, _, _, _, _ => rfl
  | .unit, .pair _ _, _, _, _, _ => rfl
  | .unit, .agg _, _, _, _, _ => rfl
  | .unit, .arr _ _, _, _, _, _ => rfl
  | .pair _ _, .unit, _, _, _, _ => rfl
  | .pair _ _, .int _, _, _, _, _ => rfl
  | .pair _ _, .bool, _, _, _, _ => rfl
  | .pair _ _, .err, _, _, _, _ => rfl
  | .pair _ _, .str, _, _, _, _ => rfl
  | .pair _ _, .list _, _, _, _, _ => rfl
  | .pair _ _, .agg _, _, _, _, _ => rfl
  | .pair _ _, .arr _ _, _, _, _, _ => rfl
  | .agg _, .unit, _, _, _, _ => rfl
  | .agg _, .int _, _, _, _, _ => rfl
  | .agg _, .bool, _, _, _, _ => rfl
  | .agg _, .err, _, _, _, _ => rfl
  | .agg _, .str, _, _, _, _ => rfl
  | .agg _, .list _, _, _, _, _ => rfl
  | .agg _, .pair _ _, _, _, _, _ => rfl
  | .agg _, .arr _ _, _, _, _, _ => rfl
  | .vec _, _, _, _, _, _ => rfl
  | .map _ _, _, _, _, _, _ => rfl
  | .own _, _, _, _, _, _ => rfl
  | .opt _, _, _, _, _, _ => rfl
  | .hole, _, _, _, _, _ => rfl
theorem hasField_nat {α : Type} (F : α → Option R) (τ : TT) (x : τ.C) (p : List Nat) {a : Option α} {b : Option R} (h : b = a.bind F) : fieldAddrX.hasField τ x p b = (fieldAddrX.hasField τ x p a).bind F := by
  unfold fieldAddrX.hasField; split
  · exact h
  · rfl
theorem hasPath_nat {α : Type} (F : α → Option R) (p : List Nat) (t : Ty) {a : Option α} {b : Option R} (h : b = a.bind F) : hasPath p t b = (hasPath p t a).bind F := by
  unfold hasPath; split
  · exact h
  · rfl
theorem fieldAddrX_nat (tt : Tab) (s : TypeId) (f : Nat) (r : RVal) (K : Out → Option R) : fieldAddrX tt s f r K = (fieldAddrX tt s f r some).bind K := by
  have key : ∀ r, (ptrK r fun id ver p τ x => TT.getK p τ x fun τ' _ => sameOff (tt.off s f) (τ'.off f) (fieldAddrX.hasField τ x (p ++ [f]) (K (.q (.ad id ver.s (p ++ [f])))))) = (ptrK r fun id ver p τ x => TT.getK p τ x fun τ' _ => sameOff (tt.off s f) (τ'.off f) (fieldAddrX.hasField τ x (p ++ [f]) (some (.q (.ad id ver.s (p ++ [f])))))).bind K := fun r =>
    ptrK_nat K r _ _ fun id ver p τ x => getT_nat K _ _ _ _ _ fun τ' y => sameOff_nat _ _ (hasField_nat K _ _ _ rfl)
  cases r with
  | elt id ver p τ x i q =>
    refine getT_nat K _ _ _ _ _ fun τ' y => ?_
    cases τ' with
    | vec t =>
      simp only
      split
      · exact atPath_nat _ _ _ (hasPath_nat K _ _ rfl)
      · rfl
    | _ => rfl
  | ad id ver p τ x => exact key (.ad id ver p τ x)
  | tr id ver p τ x => exact key (.tr id ver p τ x)
  | _ => rfl
theorem readK_nat (tt : Tab) (t : TypeId) (id : Nat) (ver : Ver) (p : List Nat) (τ : TT) (x : τ.C) (K : Out → Option R) : readK tt t id ver p τ x K = (readK tt t id ver p τ x some).bind K := by
  refine getT_nat K _ _ _ _ _ fun τ' y => ?_
  cases τ' with
  | data t' => simp only; split <;> first | rfl | exact castK_nat _ _ _ _ _ _ fun _ => rfl
  | opt σ => cases y <;> exact condK_nat _ rfl
  | own σ => exact condK_nat _ rfl
  | map k v => exact condK_nat _ rfl
  | vec t => exact condK_nat _ rfl
  | agg σ =>
    simp only
    split
    · exact toD_nat K _ _ _ _ fun _ _ => castK_nat _ _ _ _ _ _ fun _ => rfl
    · rfl
  | _ => rfl
theorem loadX_nat (tt : Tab) (t : TypeId) (r : RVal) (K : Out → Option R) : loadX tt t r K = (loadX tt t r some).bind K := by
  have key : ∀ r, (ptrK r fun id ver p τ x => readK tt t id ver p τ x K) = (ptrK r fun id ver p τ x => readK tt t id ver p τ x some).bind K := fun r => ptrK_nat K r _ _ fun _ _ _ _ _ => readK_nat _ _ _ _ _ _ _ _
  cases r with
  | elt id ver p τ x i q =>
    refine getT_nat K _ _ _ _ _ fun τ' y => ?_
    cases τ' with
    | vec u =>
      simp only
      split
      · exact getK_nat _ _ _ _ _ _ fun _ _ => castK_nat _ _ _ _ _ _ fun _ => rfl
      · rfl
    | _ => rfl
  | ad id ver p τ x => exact key (.ad id ver p τ x)
  | tr id ver p τ x => exact key (.tr id ver p τ x)
  | _ => rfl
theorem takeK_nat {α : Type} (F : α → Option R) (v : RVal) (K : (id : Nat) → (σ : TT) → σ.C → Option α) (K' : (id : Nat) → (σ : TT) → σ.C → Option R) (h : ∀ id σ z, K' id σ z = (K id σ z).bind F) : takeK v K' = (takeK v K).bind F := by
  cases v with
  | tr id ver p τ y =>
    simp only [takeK]
    split
    · exact h _ _ _
    · rfl
  | lease id g t x =>
    simp only [takeK]
    split
    · split
      · exact condK_nat _ (h _ _ _)
      · rfl
    · rfl
  | _ => rfl
theorem fitT_nat {α : Type} (F : α → Option R) (tt : Tab) (t : TypeId) (τ' σ : TT) (z : σ.C) (k : (τ'' : TT) → τ''.C → Option α) (k' : (τ'' : TT) → τ''.C → Option R) (h : ∀ τ'' y, k' τ'' y = (k τ'' y).bind F) : fitT tt t τ' σ z k' = (fitT tt t τ' σ z k).bind F := by
  unfold fitT
  refine condK_nat2 _ ?_ (condK_nat _ ?_)
  · split
    · exact condK_nat _ (h _ _)
    · rfl
  · cases τ' with
    | opt τo =>
      cases σ with
      | own σ2 => exact castT_nat _ _ _ _ _ _ fun _ => h _ _
      | _ => rfl
    | own _ => exact h _ _
    | map _ _ => exact h _ _
    | vec _ => exact h _ _
    | hole => exact h _ _
    | _ => rfl
theorem rowT_nat {α : Type} (F : α → Option R) (τ' : TT) (u : Ty) (l : List u.C) (k : (τ'' : TT) → τ''.C → Option α) (k' : (τ'' : TT) → τ''.C → Option R) (h : ∀ τ'' y, k' τ'' y = (k τ'' y).bind F) : rowT τ' u l k' = (rowT τ' u l k).bind F := by
  unfold rowT; split <;> first | exact h _ _ | rfl
theorem datT_nat {α : Type} (F : α → Option R) (tt : Tab) (t : TypeId) (τ' : TT) (v : RVal) (k : (τ'' : TT) → τ''.C → Option α) (k' : (τ'' : TT) → τ''.C → Option R) (h : ∀ τ'' y, k' τ'' y = (k τ'' y).bind F) : datT tt t τ' v k' = (datT tt t τ' v k).bind F := by
  unfold datT; split
  · split
    · exact dataK_nat _ _ _ _ _ fun _ => castK_nat _ _ _ _ _ _ fun _ => h _ _
    · rfl
  · rfl
theorem nilT_nat {α : Type} (F : α → Option R) (tt : Tab) (t : TypeId) (τ' : TT) (v : RVal) (k : (τ'' : TT) → τ''.C → Option α) (k' : (τ'' : TT) → τ''.C → Option R) (h : ∀ τ'' y, k' τ'' y = (k τ'' y).bind F) : nilT tt t τ' v k' = (nilT tt t τ' v k).bind F := by
  unfold nilT; split <;> first | rfl | exact condK_nat _ (h _ _)
theorem storeX_nat (tt : Tab) (t : TypeId) (r v : RVal) (K : Out → Option R) : storeX tt t r v K = (storeX tt t r v some).bind K := by
  have key : ∀ (r : RVal), (∀ id ver p τ x i q, r ≠ .elt id ver p τ x i q) → storeX tt t r v K = (storeX tt t r v some).bind K := by
    intro r hr
    have h : ∀ {S : Type} (K : Out → Option S), storeX tt t r v K = ptrK r fun id ver p τ x => match v with
      | .tr .. | .lease .. => takeK v fun id2 σ z => cond (Nat.beq id id2) none (TT.modK p τ x (fun τ' _ k => fitT tt t τ' σ z k) fun τ1 x1 => K (.gen [(id, .vt ver.up τ1 x1), (id2, .none)] .undef))
      | .row id2 _ u l => cond (tt.one t) (cond (Nat.beq id id2) none (TT.modK p τ x (fun τ' _ k => rowT τ' u l k) fun τ1 x1 => K (.gen [(id, .vt ver.up τ1 x1), (id2, .none)] .undef))) none
      | .data .. => TT.modK p τ x (fun τ' _ k => datT tt t τ' v k) fun τ1 x1 => K (.gen [(id, .vt ver.wr τ1 x1)] .undef)
      | v => TT.modK p τ x (fun τ' _ k => nilT tt t τ' v k) fun τ1 x1 => K (.gen [(id, .vt ver.up τ1 x1)] .undef) := by
      intro S K
      cases r <;> first | rfl | (exact absurd rfl (hr _ _ _ _ _ _ _))
    rw [h, h]
    refine ptrK_nat K r _ _ fun id ver p τ x => ?_
    split
    · exact takeK_nat K _ _ _ fun id2 σ z => condK_nat' _ (modK_nat K _ _ _ _ _ _ _ (fun τ' y k k' hk => fitT_nat K _ _ _ _ _ _ _ hk) fun _ _ => rfl)
    · exact takeK_nat K _ _ _ fun id2 σ z => condK_nat' _ (modK_nat K _ _ _ _ _ _ _ (fun τ' y k k' hk => fitT_nat K _ _ _ _ _ _ _ hk) fun _ _ => rfl)
    · exact condK_nat _ (condK_nat' _ (modK_nat K _ _ _ _ _ _ _ (fun τ' y k k' hk => rowT_nat K _ _ _ _ _ hk) fun _ _ => rfl))
    · exact modK_nat K _ _ _ _ _ _ _ (fun τ' y k k' hk => datT_nat K _ _ _ _ _ _ hk) fun _ _ => rfl
    · exact modK_nat K _ _ _ _ _ _ _ (fun τ' y k k' hk => nilT_nat K _ _ _ _ _ _ hk) fun _ _ => rfl
  cases r with
  | elt id ver p τ x i q =>
    simp only [storeX]
    split
    · refine dataK_nat _ _ _ _ _ fun z => modK_nat K _ _ _ _ _ _ _ (fun τ' y k k' hk => ?_) fun _ _ => rfl
      cases τ' with
      | vec u => exact setK_nat _ _ _ _ _ _ _ _ fun _ => hk _ _
      | _ => rfl
    · rfl
  | ad id ver p τ x => exact key (.ad id ver p τ x) (by intros; simp)
  | tr id ver p τ x => exact key (.tr id ver p τ x) (by intros; simp)
  | _ => rfl
theorem boxX_nat (tt : Tab) (t : TypeId) (τ : TT) (v : RVal) (K : Out → Option R) : boxX tt t τ v K = (boxX tt t τ v some).bind K := by
  cases v with
  | data u x => exact ofD_nat K _ _ _ _ _ fun _ => rfl
  | tr id ver p τ0 y =>
    simp only [boxX]
    exact takeK_nat K _ _ _ fun _ _ _ => condK_nat _ rfl
  | lease id g t x =>
    simp only [boxX]
    exact takeK_nat K _ _ _ fun _ _ _ => condK_nat _ rfl
  | _ => rfl
theorem indexAddrX_nat (tt : Tab) (t : TypeId) (r i : RVal) (K : Out → Option R) : indexAddrX tt t r i K = (indexAddrX tt t r i some).bind K := by
  unfold indexAddrX
  split
  · refine getT_nat K _ _ _ _ _ fun τ' y => ?_
    cases τ' with
    | vec u =>
      simp only
      split
      · exact sameK_nat _ _ _ _ _ (rangeK_nat _ _ _ _ _ rfl)
      · rfl
    | _ => rfl
  · rfl
theorem lenX_nat (tt : Tab) (t : TypeId) (r : RVal) (K : Out → Option R) : lenX tt t r K = (lenX tt t r some).bind K := by
  unfold lenX
  split
  · refine getT_nat K _ _ _ _ _ fun τ' y => ?_
    cases τ' with
    | vec u => exact condK_nat _ rfl
    | map k v => simp only; split <;> rfl
    | _ => rfl
  · rfl
theorem headK_nat {α : Type} (l : Int) (n : Nat) (x : Option α) (K : α → Option R) (y : Option R) (h : y = x.bind K) : headK l n y = (headK l n x).bind K := by subst h; unfold headK; split <;> rfl
theorem appendX_nat (te : Ty) (s x : RVal) (K : Out → Option R) : appendX te s x K = (appendX te s x some).bind K := by
  unfold appendX
  split
  · refine getT_nat K _ _ _ _ _ fun τ' y => ?_
    cases τ' with
    | vec t =>
      refine sameK_nat _ _ _ _ _ (listK_nat _ _ _ _ _ fun m => roomK_nat _ _ _ _ _ ?_)
      split
      · rfl
      · exact modK_nat K _ _ _ _ _ _ _ (fun τ' y k k' hk => hk _ _) fun _ _ => rfl
    | _ => rfl
  · rfl
theorem sliceX_nat (tt : Tab) (t : TypeId) (r : RVal) (lo hi mx : Option RVal) (K : Out → Option R) : sliceX tt t r lo hi mx K = (sliceX tt t r lo hi mx some).bind K := by
  unfold sliceX
  split
  · refine getT_nat K _ _ _ _ _ fun τ' y => ?_
    cases τ' with
    | vec t =>
      simp only
      split
      · refine sameK_nat _ _ _ _ _ (optI_nat _ _ _ _ _ fun a => optI_nat _ _ _ _ _ fun b => cutK_nat _ _ _ _ _ _ (headK_nat _ _ _ _ _ ?_))
        split
        · rfl
        · exact modK_nat K _ _ _ _ _ _ _ (fun τ' y k k' hk => hk _ _) fun _ _ => rfl
      · rfl
    | _ => rfl
  · rfl
theorem mapK_nat {α : Type} (F : α → Option R) (tt : Tab) (t : TypeId) (r : RVal) (K : (k v : Ty) → List (k.C × v.C) → Option α) (K' : (k v : Ty) → List (k.C × v.C) → Option R) (h : ∀ k v l, K' k v l = (K k v l).bind F) : mapK tt t r K' = (mapK tt t r K).bind F := by
  unfold mapK
  split
  · refine getT_nat F _ _ _ _ _ fun τ' y => ?_
    split
    · exact sameK_nat _ _ _ _ _ (sameK_nat _ _ _ _ _ (condK_nat _ (h _ _ _)))
    · rfl
  · rfl
theorem lookupX_nat (tt : Tab) (t : TypeId) (r key : RVal) (ok : Bool) (K : Out → Option R) : lookupX tt t r key ok K = (lookupX tt t r key ok some).bind K :=
  mapK_nat K _ _ _ _ _ fun k v l => dataK_nat _ _ _ _ _ fun y => condK_nat2 _ rfl rfl
theorem mapUpdateX_nat (tt : Tab) (t : TypeId) (r key val : RVal) (K : Out → Option R) : mapUpdateX tt t r key val K = (mapUpdateX tt t r key val some).bind K := by
  refine mapK_nat K _ _ _ _ _ fun k v l => dataK_nat _ _ _ _ _ fun y => dataK_nat _ _ _ _ _ fun z => ?_
  split
  · refine modK_nat K _ _ _ _ _ _ _ (fun τ' y k k' hk => ?_) fun _ _ => rfl
    cases τ' with
    | map k1 v1 => exact castK_nat _ _ _ _ _ _ fun _ => castK_nat _ _ _ _ _ _ fun _ => hk _ _
    | _ => rfl
  · rfl
theorem deleteX_nat (tt : Tab) (t : TypeId) (r key : RVal) (K : Out → Option R) : deleteX tt t r key K = (deleteX tt t r key some).bind K := by
  refine mapK_nat K _ _ _ _ _ fun k v l => dataK_nat _ _ _ _ _ fun y => ?_
  split
  · refine modK_nat K _ _ _ _ _ _ _ (fun τ' y k k' hk => ?_) fun _ _ => rfl
    cases τ' with
    | map k1 v1 => exact castK_nat _ _ _ _ _ _ fun _ => hk _ _
    | _ => rfl
  · rfl
theorem isNilK_nat {α : Type} (F : α → Option R) (r : RVal) (K : Bool → Option α) (K' : Bool → Option R) (h : ∀ b, K' b = (K b).bind F) : isNilK r K' = (isNilK r K).bind F := by
  unfold isNilK
  split
  · exact h _
  · refine getT_nat F _ _ _ _ _ fun τ' y => ?_
    cases τ' with
    | own _ => exact h _
    | opt _ => cases y <;> exact h _
    | _ => rfl
  · rfl
theorem nilEqX_nat (tt : Tab) (t : TypeId) (op : BinOp) (x y : RVal) (K : Out → Option R) : nilEqX tt t op x y K = (nilEqX tt t op x y some).bind K :=
  condK_nat _ (isNilK_nat K _ _ _ fun a => isNilK_nat K _ _ _ fun b => by cases op <;> rfl)
theorem partsX_nat {α : Type} (F : α → Option R) (tt : Tab) : ∀ (ps : List (Nat × RVal)) (τ : TT) (x : τ.C) (g : Option Nat) (K : (τ' : TT) → τ'.C → Option Nat → Option α) (K' : (τ' : TT) → τ'.C → Option Nat → Option R), (∀ τ' x' g', K' τ' x' g' = (K τ' x' g').bind F) → partsX tt τ x ps g K' = (partsX tt τ x ps g K).bind F
  | [], τ, x, g, K, K', h => h _ _ _
  | (f, r) :: ps, τ, x, g, K, K', h => by
    have plain : ∀ (r : RVal), (TT.compMod τ x f (fun τ' _ k => match τ' with
        | .data t' => RVal.dataK r t' fun z => k (.data t') z
        | _ => none) fun τ1 x1 => partsX tt τ1 x1 ps g K') = (TT.compMod τ x f (fun τ' _ k => match τ' with
        | .data t' => RVal.dataK r t' fun z => k (.data t') z
        | _ => none) fun τ1 x1 => partsX tt τ1 x1 ps g K).bind F := fun r => by
      refine compMod_nat F _ _ _ _ _ _ _ (fun τ' y k k' hk => ?_) fun τ1 x1 => partsX_nat F tt ps τ1 x1 g K K' h
      cases τ' with
      | data t' => exact dataK_nat _ _ _ _ _ fun _ => hk _ _
      | _ => rfl
    cases r with
    | tr id2 ver p τ2 y2 =>
      cases p with
      | nil =>
        simp only [partsX]
        cases g with
        | none =>
          refine compMod_nat F _ _ _ _ _ _ _ (fun τ' y k k' hk => condK_nat _ ?_) fun τ1 x1 => partsX_nat F tt ps τ1 x1 _ K K' h
          cases τ' with
          | hole => exact hk _ _
          | vec _ => exact hk _ _
          | _ => rfl
        | some _ => rfl
      | cons _ _ => exact plain _
    | _ => exact plain _
theorem buildX_nat (tt : Tab) (t : TypeId) (ps : List (Nat × RVal)) (K : Out → Option R) : buildX tt t ps K = (buildX tt t ps some).bind K := by
  unfold buildX
  split
  · exact partsX_nat K _ _ _ _ _ _ _ fun _ _ _ => rfl
  · rfl
theorem opX_nat {env : Env} (hn : EnvNat env) (tt : Tab) (o : Oper) (a : Operand → AVal) (r : Operand → RVal) (K : Out → Option R) : opX tt env o a r K = (opX tt env o a r some).bind K := by
  have h := opK_nat hn tt o a r K
  unfold opX
  cases o.op with
  | nilCheck x => exact condK_nat2 _ (ptrK_nat K _ _ _ fun _ _ _ _ _ => rfl) h
  | fieldAddr s x f => exact condK_nat2 _ (fieldAddrX_nat _ _ _ _ _) h
  | load t x => exact condK_nat2 _ (loadX_nat _ _ _ _) h
  | store t x y => exact condK_nat2 _ (storeX_nat _ _ _ _ _) h
  | indexAddr t x i => exact condK_nat2 _ (indexAddrX_nat _ _ _ _ _) h
  | alloc e => simp only; split <;> first | rfl | exact h
  | box e x => simp only; split <;> first | exact condK_nat2 _ (boxX_nat _ _ _ _ _) h | exact h
  | call c =>
    simp only
    split
    · split
      · exact condK_nat2 _ (lenX_nat _ _ _ _) h
      · rfl
    · split
      · refine condK_nat2 _ ?_ h
        split
        · exact appendX_nat _ _ _ _
        · rfl
      · rfl
    · split
      · exact deleteX_nat _ _ _ _ _
      · rfl
    · exact h
  | binOp op ty x y p => exact condK_nat2 _ (nilEqX_nat _ _ _ _ _ _) h
  | slice t x lo hi mx => exact condK_nat2 _ (sliceX_nat _ _ _ _ _ _ _) h
  | lookup t x k ok => exact lookupX_nat _ _ _ _ _ _
  | mapUpdate t m k x => exact mapUpdateX_nat _ _ _ _ _ _
  | makeMap t h0 => simp only; split <;> rfl
  | build t ps => simp only; split <;> first | exact condK_nat2 _ (buildX_nat _ _ _ _) h | exact h
  | _ => exact h
end
end Go.PB
namespace Go.PB
open Go Go.RowKit
/-! ## 1. Rows of cells -/
def RowC {α : Type} (R : α → List Value → Prop) : List α → List Value → Prop
  | [], cs => cs = []
  | x :: xs, cs => ∃ c1 c2, cs = c1 ++ c2 ∧ R x c1 ∧ RowC R xs c2
theorem RowC.mono {α : Type} {R R' : α → List Value → Prop} (h : ∀ x cs, R x cs → R' x cs) : ∀ (l : List α) (cs : List Value), RowC R l cs → RowC R' l cs
  | [], _, hc => hc
  | _ :: xs, _, ⟨c1, c2, e, h1, h2⟩ => ⟨c1, c2, e, h _ _ h1, RowC.mono h xs c2 h2⟩
theorem RowC.append {α : Type} {R : α → List Value → Prop} : ∀ (l m : List α) (c d : List Value), RowC R l c → RowC R m d → RowC R (l ++ m) (c ++ d)
  | [], _, _, _, h, h' => by simp only [RowC] at h; subst h; simpa using h'
  | x :: xs, m, _, d, ⟨c1, c2, e, h1, h2⟩, h' => by subst e; exact ⟨c1, c2 ++ d, by simp, h1, RowC.append xs m c2 d h2 h'⟩
def SliceW (w : World) (ok : Nat → Prop) {α : Type} (R : α → List Value → Prop) (l : List α) (v : Value) : Prop :=
  ∃ A c, v = .slice A l.length c ∧ l.length ≤ c ∧
    (l = [] ∨ ∃ b o cc, A = some ⟨b, o, none⟩ ∧ ok b ∧ RowC R l cc ∧ ∀ j u, cc[j]? = some u → w.cell? ⟨b, o + j, none⟩ = some u)
def Cells (w : World) (ok : Nat → Prop) : (t : Ty) → t.C → List Value → Prop
  | .int k, x, cs => cs = [.int k x]
  | .bool, x, cs => cs = [.bool x]
  | .err, x, cs => (x = true ∧ cs = [.nilIface]) ∨ (x = false ∧ ∃ u v, cs = [.iface u v])
  | .str, x, cs => cs = [.string x]
  | .list t, l, cs => ∃ v, cs = [v] ∧ SliceW w ok (Cells w ok t) l v
  | .unit, _, cs => cs = []
  | .pair a b, x, cs => ∃ c1 c2, cs = c1 ++ c2 ∧ Cells w ok a x.1 c1 ∧ Cells w ok b x.2 c2
  | .agg t, x, cs => Cells w ok t x cs
  | .arr n t, l, cs => l.length = n ∧ RowC (Cells w ok t) l cs
theorem Cells.mono {w w' : World} {ok ok' : Nat → Prop} (hok : ∀ b, ok b → ok' b ∧ w'.heap[b]? = w.heap[b]?) : ∀ (t : Ty) (x : t.C) (cs : List Value), Cells w ok t x cs → Cells w' ok' t x cs
  | .int _, _, _, h => h
  | .bool, _, _, h => h
  | .err, _, _, h => h
  | .str, _, _, h => h
  | .unit, _, _, h => h
  | .list t, l, _, ⟨v, e, A, c, hv, hc, h⟩ => by
    refine ⟨v, e, A, c, hv, hc, ?_⟩
    rcases h with h | ⟨b, o, cc, hA, hb, hr, hcell⟩
    · exact .inl h
    · exact .inr ⟨b, o, cc, hA, (hok b hb).1, RowC.mono (fun x cs => Cells.mono hok t x cs) l cc hr, fun j u hj => by
        rw [World.cell?_of_block (w := w) (w' := w') ((hok b hb).2)]; exact hcell j u hj⟩
  | .pair a b, x, _, ⟨c1, c2, e, h1, h2⟩ => ⟨c1, c2, e, Cells.mono hok a x.1 c1 h1, Cells.mono hok b x.2 c2 h2⟩
  | .agg t, x, cs, h => Cells.mono hok t x cs h
  | .arr n t, l, cs, h => ⟨h.1, RowC.mono (fun x cs => Cells.mono hok t x cs) l cs h.2⟩
theorem RowC.length {α : Type} {R : α → List Value → Prop} {n : Nat} (h : ∀ x cs, R x cs → cs.length = n) : ∀ (l : List α) (cs : List Value), RowC R l cs → cs.length = l.length * n
  | [], _, hc => by simp only [RowC] at hc; subst hc; simp
  | _ :: xs, _, ⟨c1, c2, e, h1, h2⟩ => by subst e; simp [h _ _ h1, RowC.length h xs c2 h2, Nat.succ_mul, Nat.add_comm]
theorem Cells.length {w : World} {ok : Nat → Prop} : ∀ (t : Ty) (x : t.C) (cs : List Value), Cells w ok t x cs → cs.length = t.width
  | .int _, _, _, h => by simp only [Cells] at h; subst h; rfl
  | .bool, _, _, h => by simp only [Cells] at h; subst h; rfl
  | .err, _, _, h => by simp only [Cells] at h; rcases h with ⟨_, h⟩ | ⟨_, _, _, h⟩ <;> (subst h; rfl)
  | .str, _, _, h => by simp only [Cells] at h; subst h; rfl
  | .unit, _, _, h => by simp only [Cells] at h; subst h; rfl
  | .list _, _, _, ⟨v, e, _⟩ => by subst e; rfl
  | .pair a b, x, _, ⟨c1, c2, e, h1, h2⟩ => by subst e; simp [Ty.width, Cells.length a x.1 c1 h1, Cells.length b x.2 c2 h2]
  | .agg t, x, cs, h => Cells.length t x cs h
  | .arr n t, l, cs, h => by rw [RowC.length (fun x cs => Cells.length t x cs) l cs h.2, h.1]; rfl
theorem RowC.get {α : Type} {R : α → List Value → Prop} {n : Nat} (h : ∀ x cs, R x cs → cs.length = n) (d : α) : ∀ (l : List α) (cs : List Value) (i : Nat), RowC R l cs → i < l.length →
    ∃ c, R (l.getD i d) c ∧ c.length = n ∧ ∀ j u, c[j]? = some u → cs[i * n + j]? = some u
  | [], _, i, _, hi => by simp at hi
  | x :: xs, _, 0, ⟨c1, c2, e, h1, h2⟩, _ => ⟨c1, by simpa using h1, h _ _ h1, fun j u hj => by
      subst e; have : j < c1.length := (List.getElem?_eq_some_iff.1 hj).1
      rw [Nat.zero_mul, Nat.zero_add, List.getElem?_append_left this]; exact hj⟩
  | x :: xs, _, i + 1, ⟨c1, c2, e, h1, h2⟩, hi => by
    obtain ⟨c, hc, hl, hg⟩ := RowC.get h d xs c2 i h2 (by simpa using hi)
    refine ⟨c, by simpa using hc, hl, fun j u hj => ?_⟩
    subst e
    have := h _ _ h1
    rw [List.getElem?_append_right (by rw [this, Nat.succ_mul]; omega), this, show (i + 1) * n + j - n = i * n + j by rw [Nat.succ_mul]; omega]
    exact hg j u hj
theorem RowC.set {α : Type} {R : α → List Value → Prop} {n : Nat} (h : ∀ x cs, R x cs → cs.length = n) (d : α) : ∀ (l : List α) (cs : List Value) (i : Nat), RowC R l cs → i < l.length →
    ∃ c1 c c3, cs = c1 ++ (c ++ c3) ∧ c1.length = i * n ∧ R (l.getD i d) c ∧ ∀ y c', R y c' → RowC R (l.set i y) (c1 ++ (c' ++ c3))
  | [], _, i, _, hi => by simp at hi
  | x :: xs, _, 0, ⟨c1, c2, e, h1, h2⟩, _ => ⟨[], c1, c2, by simpa using e, by simp, by simpa using h1, fun y c' hy => ⟨c', c2, by simp, hy, h2⟩⟩
  | x :: xs, _, i + 1, ⟨c1, c2, e, h1, h2⟩, hi => by
    obtain ⟨d1, c, d3, e', hl, hc, hs⟩ := RowC.set h d xs c2 i h2 (by simpa using hi)
    refine ⟨c1 ++ d1, c, d3, by subst e e'; simp, by simp [hl, h _ _ h1, Nat.succ_mul, Nat.add_comm], by simpa using hc, fun y c' hy => ?_⟩
    exact ⟨c1, d1 ++ (c' ++ d3), by simp, h1, hs y c' hy⟩
def DVal (w : World) (ok : Nat → Prop) (t : Ty) (x : t.C) (v : Value) : Prop :=
  Cells w ok t x v.cells.toList ∧ (t.isAgg = true ↔ ∃ cs, v = .agg cs) ∧ t.isVal = true
theorem DVal.mono {w w' : World} {ok ok' : Nat → Prop} (hok : ∀ b, ok b → ok' b ∧ w'.heap[b]? = w.heap[b]?) {t : Ty} {x : t.C} {v : Value} (h : DVal w ok t x v) : DVal w' ok' t x v :=
  ⟨Cells.mono hok t x _ h.1, h.2.1, h.2.2⟩
/-! ## 1b. Trees -/
inductive Skel where
  | leaf
  | vec (v : Value)
  | map (b : Nat)
  | own (b : Nat) (s : Skel)
  | nil
  | pair (a b : Skel)
def vecBs : Value → List Nat
  | .slice (some a) _ _ => [a.block]
  | _ => []
def Skel.blocks : Skel → List Nat
  | .leaf => []
  | .vec v => vecBs v
  | .map b => [b]
  | .own b s => b :: s.blocks
  | .nil => []
  | .pair a b => a.blocks ++ b.blocks
def VecC (w : World) (ok : Nat → Prop) (t : Ty) (l : List t.C) (v : Value) : Prop :=
  (v = .slice none 0 0 ∧ l = []) ∨ ∃ b o c cs T pre cc rest, v = .slice (some ⟨b, o, none⟩) l.length c ∧ w.heap[b]? = some (.cells cs T (0, 0)) ∧ cs.toList = pre ++ (cc ++ rest) ∧ pre.length = o ∧
    cs.size = o + c * t.width ∧ l.length ≤ c ∧ RowC (Cells w ok t) l cc
def MapC (w : World) (ok : Nat → Prop) (k v : Ty) : List (k.C × v.C) → List MapEntry → Prop
  | [], es => es = []
  | x :: l, es => ∃ e r, es = e :: r ∧ DVal w ok k x.1 e.key ∧ DVal w ok v x.2 e.val ∧ MapC w ok k v l r
def Born (es : List MapEntry) (clk : Nat) : Prop := (∀ e ∈ es, e.born < clk) ∧ es.Pairwise (fun x y => x.born ≠ y.born)
def TCells (w : World) (ok : Nat → Prop) : (τ : TT) → τ.C → Skel → List Value → Prop
  | .data t, x, sk, cs => sk = .leaf ∧ Cells w ok t x cs
  | .vec t, l, sk, cs => ∃ v, sk = .vec v ∧ cs = [v] ∧ VecC w ok t l v
  | .map k v, l, sk, cs => ∃ b es clk, sk = .map b ∧ cs = [.map (some b)] ∧ w.heap[b]? = some (.map es clk) ∧ MapC w ok k v l es.toList ∧ Born es.toList clk
  | .own τ, x, sk, cs => ∃ b cc T s, sk = .own b s ∧ cs = [.pointer (some ⟨b, 0, none⟩)] ∧ w.heap[b]? = some (.cells cc T (0, 0)) ∧ TCells w ok τ x s cc.toList
  | .opt τ, x, sk, cs => match x with
    | none => sk = .nil ∧ cs = [.pointer none]
    | some x => ∃ b cc T s, sk = .own b s ∧ cs = [.pointer (some ⟨b, 0, none⟩)] ∧ w.heap[b]? = some (.cells cc T (0, 0)) ∧ TCells w ok τ x s cc.toList
  | .hole, _, sk, cs => sk = .leaf ∧ ∃ v, cs = [v] ∧ v.oneCell' = true
  | .unit, _, sk, cs => sk = .leaf ∧ cs = []
  | .pair a b, x, sk, cs => ∃ s1 s2 c1 c2, sk = .pair s1 s2 ∧ cs = c1 ++ c2 ∧ TCells w ok a x.1 s1 c1 ∧ TCells w ok b x.2 s2 c2
  | .agg τ, x, sk, cs => TCells w ok τ x sk cs
theorem VecC.mono {w w' : World} {ok ok' : Nat → Prop} (hok : ∀ b, ok b → ok' b ∧ w'.heap[b]? = w.heap[b]?) {t : Ty} {l : List t.C} {v : Value} (hb : ∀ b ∈ vecBs v, w'.heap[b]? = w.heap[b]?) (h : VecC w ok t l v) : VecC w' ok' t l v := by
  rcases h with h | ⟨b, o, c, cs, T, pre, cc, rest, h1, h2, h3, h4, h5, h6, h7⟩
  · exact .inl h
  · exact .inr ⟨b, o, c, cs, T, pre, cc, rest, h1, by rw [hb b (by rw [h1]; simp [vecBs])]; exact h2, h3, h4, h5, h6, RowC.mono (fun x cs => Cells.mono hok t x cs) l cc h7⟩
theorem MapC.mono {w w' : World} {ok ok' : Nat → Prop} (hok : ∀ b, ok b → ok' b ∧ w'.heap[b]? = w.heap[b]?) {k v : Ty} : ∀ {l : List (k.C × v.C)} {es : List MapEntry}, MapC w ok k v l es → MapC w' ok' k v l es
  | [], _, h => h
  | _ :: _, _, ⟨e, r, h1, h2, h3, h4⟩ => ⟨e, r, h1, DVal.mono hok h2, DVal.mono hok h3, MapC.mono hok h4⟩
theorem TCells.mono {w w' : World} {ok ok' : Nat → Prop} (hok : ∀ b, ok b → ok' b ∧ w'.heap[b]? = w.heap[b]?) : ∀ (τ : TT) (x : τ.C) (sk : Skel) (cs : List Value), (∀ b ∈ sk.blocks, w'.heap[b]? = w.heap[b]?) → TCells w ok τ x sk cs → TCells w' ok' τ x sk cs
  | .data t, x, sk, cs, _, ⟨h1, h2⟩ => ⟨h1, Cells.mono hok t x cs h2⟩
  | .vec t, l, sk, cs, hb, ⟨v, h1, h2, h3⟩ => ⟨v, h1, h2, h3.mono hok (by subst h1; exact hb)⟩
  | .map k v, l, sk, cs, hb, ⟨b, es, clk, h1, h2, h3, h4, h5⟩ => ⟨b, es, clk, h1, h2, by rw [hb b (by rw [h1]; simp [Skel.blocks])]; exact h3, h4.mono hok, h5⟩
  | .own τ, x, sk, cs, hb, ⟨b, cc, T, s, h1, h2, h3, h4⟩ => ⟨b, cc, T, s, h1, h2, by rw [hb b (by rw [h1]; simp [Skel.blocks])]; exact h3, TCells.mono hok τ x s cc.toList (fun k hk => hb k (by rw [h1]; simp [Skel.blocks, hk])) h4⟩
  | .opt τ, none, sk, cs, _, h => h
  | .opt τ, some x, sk, cs, hb, ⟨b, cc, T, s, h1, h2, h3, h4⟩ => ⟨b, cc, T, s, h1, h2, by rw [hb b (by rw [h1]; simp [Skel.blocks])]; exact h3, TCells.mono hok τ x s cc.toList (fun k hk => hb k (by rw [h1]; simp [Skel.blocks, hk])) h4⟩
  | .hole, _, _, _, _, h => h
  | .unit, _, _, _, _, h => h
  | .pair a b, x, sk, cs, hb, ⟨s1, s2, c1, c2, h1, h2, h3, h4⟩ => ⟨s1, s2, c1, c2, h1, h2, TCells.mono hok a x.1 s1 c1 (fun k hk => hb k (by rw [h1]; simp [Skel.blocks, hk])) h3, TCells.mono hok b x.2 s2 c2 (fun k hk => hb k (by rw [h1]; simp [Skel.blocks, hk])) h4⟩
  | .agg τ, x, sk, cs, hb, h => TCells.mono hok τ x sk cs hb h
theorem TCells.length {w : World} {ok : Nat → Prop} : ∀ (τ : TT) (x : τ.C) (sk : Skel) (cs : List Value), TCells w ok τ x sk cs → cs.length = τ.width
  | .data t, x, _, cs, ⟨_, h⟩ => Cells.length t x cs h
  | .vec _, _, _, _, ⟨v, _, h, _⟩ => by subst h; rfl
  | .map _ _, _, _, _, ⟨_, _, _, _, h, _⟩ => by subst h; rfl
  | .own _, _, _, _, ⟨_, _, _, _, _, h, _⟩ => by subst h; rfl
  | .opt _, none, _, _, ⟨_, h⟩ => by subst h; rfl
  | .opt _, some _, _, _, ⟨_, _, _, _, _, h, _⟩ => by subst h; rfl
  | .hole, _, _, _, ⟨_, v, h, _⟩ => by subst h; rfl
  | .unit, _, _, _, ⟨_, h⟩ => by subst h; rfl
  | .pair a b, x, _, _, ⟨_, _, c1, c2, _, e, h1, h2⟩ => by subst e; simp [TT.width, TCells.length a x.1 _ c1 h1, TCells.length b x.2 _ c2 h2]
  | .agg τ, x, sk, cs, h => TCells.length τ x sk cs h
def skVal : Skel → Option Value
  | .vec v => some v
  | .map b => some (.map (some b))
  | .own b _ => some (.pointer (some ⟨b, 0, none⟩))
  | .nil => some (.pointer none)
  | _ => none
def compSk : TT → Skel → Nat → Option (TT × Skel)
  | .pair a _, .pair s _, 0 => some (a, s)
  | .pair _ b, .pair _ s, n + 1 => compSk b s n
  | _, _, _ => none
def skAt : List Nat → TT → Skel → Option Skel
  | [], _, sk => some sk
  | f :: p, .agg τ, sk => match compSk τ sk f with | some (u, s) => skAt p u s | none => none
  | _ :: p, .own τ, sk => match sk with | .own _ s => skAt p τ s | _ => none
  | _ :: p, .opt τ, sk => match sk with | .own _ s => skAt p τ s | _ => none
  | _ :: _, .data _, _ => some .leaf
  | _ :: _, _, _ => none
def TT.codeAt : List Nat → TT → Option TT
  | [], τ => some τ
  | f :: p, .agg τ => match TT.compOff τ f with | some (_, u) => TT.codeAt p u | none => none
  | _ :: p, .own τ => TT.codeAt p τ
  | _ :: p, .opt τ => TT.codeAt p τ
  | f :: p, .data t => match Ty.pathOff (f :: p) t with | some (_, u) => some (.data u) | none => none
  | _ :: _, _ => none
def addrAt : List Nat → TT → Skel → Option (Nat × Nat) → Option (Nat × Nat)
  | [], _, _, cur => cur
  | f :: p, .agg τ, sk, cur => match compSk τ sk f, TT.compOff τ f with | some (u, s), some (o, _) => addrAt p u s (cur.map fun a => (a.1, a.2 + o)) | _, _ => none
  | _ :: p, .own τ, sk, _ => match sk with | .own b s => addrAt p τ s (some (b, 0)) | _ => none
  | _ :: p, .opt τ, sk, _ => match sk with | .own b s => addrAt p τ s (some (b, 0)) | _ => none
  | f :: p, .data t, _, cur => match Ty.pathOff (f :: p) t with | some (o, _) => cur.map fun a => (a.1, a.2 + o) | none => none
  | _ :: _, _, _, _ => none
/-! ## 2. Objects and references -/
structure Loc where
  bs : List Nat
  cs : List Value := []
  sk : Skel := .leaf
def Loc.nil : Loc := ⟨[], [], .leaf⟩
structure Fr where
  ok : Nat → Prop
  kept : Nat → Prop
  n : Nat := 0
  cs : Nat → List Value := fun _ => []
instance : CoeFun Fr (fun _ => Nat → Prop) := ⟨Fr.ok⟩
structure Gv where
  prop : World → Prop
  low : Nat
instance : CoeFun Gv (fun _ => World → Prop) := ⟨fun G w => G.prop w ∧ G.low ≤ w.heap.size⟩
def Good (G : Gv) (F : Fr) (w : World) : Prop := G w ∧ ∀ b, b < G.low → F.kept b
structure Near (K : Nat → Prop) (w w' : World) : Prop where
  os : w'.os = w.os
  tape : w'.tape = w.tape
  output : w'.output = w.output
  size : w.heap.size ≤ w'.heap.size
  block : ∀ k, K k → w'.heap[k]? = w.heap[k]?
theorem Near.refl (K : Nat → Prop) (w : World) : Near K w w := ⟨rfl, rfl, rfl, Nat.le_refl _, fun _ _ => rfl⟩
theorem Near.trans {K : Nat → Prop} {a b c : World} (h : Near K a b) (k : Near K b c) : Near K a c :=
  ⟨k.os.trans h.os, k.tape.trans h.tape, k.output.trans h.output, Nat.le_trans h.size k.size, fun i hi => (k.block i hi).trans (h.block i hi)⟩
theorem Near.mono {K K' : Nat → Prop} {w w' : World} (h : Near K w w') (hK : ∀ b, K' b → K b) : Near K' w w' := ⟨h.os, h.tape, h.output, h.size, fun k hk => h.block k (hK k hk)⟩
theorem Near.below {K : Nat → Prop} {w w' : World} {n : Nat} (h : Below n w w') (hK : ∀ b, K b → b < n) : Near K w w' := ⟨h.os, h.tape, h.output, h.size, fun k hk => h.block k (hK k hk)⟩
theorem Near.drew {K : Nat → Prop} {a w : World} (h : Near K a w) : Near K a w.drew := ⟨h.os, h.tape, h.output, h.size, h.block⟩
theorem Near.alloc {K : Nat → Prop} {a w : World} (h : Near K a w) (hB : ∀ b, K b → b < w.heap.size) (o : Obj) : Near K a (w.alloc o) :=
  h.trans ⟨rfl, rfl, rfl, by simp, fun k hk => Below.heap_alloc _ _ _ (hB k hk)⟩
def liveOf (w : World) (ρ : Nat → Loc) (h : List AObj) (b : Nat) : Prop :=
  b < w.heap.size ∧ ∀ id, (hget h id).owns = true → b ∉ (ρ id).bs
def okOf (F : Fr) (w : World) (ρ : Nat → Loc) (h : List AObj) (b : Nat) : Prop := F b ∧ liveOf w ρ h b
def ORel (w : World) (ρ : Nat → Loc) (ok : Nat → Prop) (id : Nat) : AObj → Prop
  | .none => True
  | .frow _ _ _ => True
  | .fbox _ _ => True
  | .vt _ τ x => (ρ id).bs = (ρ id).sk.blocks ∧ (ρ id).bs.Nodup ∧ TCells w ok τ x (ρ id).sk (ρ id).cs
  | .box t x => ∃ b cs T, (ρ id).bs = [b] ∧ w.heap[b]? = some (.cells cs T (0, 0)) ∧ Cells w ok t x cs.toList
  | .row _ t l => ((ρ id).bs = [] ∧ l = []) ∨ ∃ b cs T cc rest, (ρ id).bs = [b] ∧ w.heap[b]? = some (.cells cs T (0, 0)) ∧ cs.toList = cc ++ rest ∧ RowC (Cells w ok t) l cc
  | .iter s pos => ∃ b, (ρ id).bs = [b] ∧ w.heap[b]? = some (.stringIter s pos)
def SlRel (w : World) (ρ : Nat → Loc) (ok : Nat → Prop) (id ver : Nat) (val : Value) : AObj → Prop
  | .row v' t l => ver ≤ v' ∧ (ver = v' → ((ρ id).bs = [] ∧ val = .slice none 0 0) ∨ ∃ b c cs T, (ρ id).bs = [b] ∧ val = .slice (some ⟨b, 0, none⟩) l.length c ∧ w.heap[b]? = some (.cells cs T (0, 0)) ∧ cs.size = c * t.width ∧ l.length ≤ c)
  | .frow v' t l => ver = v' → SliceW w ok (Cells w ok t) l val
  | _ => True
def FbRel (w : World) (ok : Nat → Prop) (t : Ty) (x : t.C) (val : Value) : Prop :=
  ∃ b cs, val = .pointer (some ⟨b, 0, none⟩) ∧ ok b ∧ Cells w ok t x cs ∧ ∀ j u, cs[j]? = some u → w.cell? ⟨b, 0 + j, none⟩ = some u
def PtRel (w : World) (ρ : Nat → Loc) (ok : Nat → Prop) (id : Nat) (path : List Nat) (val : Value) : AObj → Prop
  | .fbox t x => path = [] → FbRel w ok t x val
  | .box t _ => ∃ b off t', (ρ id).bs = [b] ∧ Ty.pathOff path t = some (off, t') ∧ val = .pointer (some ⟨b, off, none⟩)
  | _ => True
def ElRel (ρ : Nat → Loc) (id ver i : Nat) (path : List Nat) (val : Value) : AObj → Prop
  | .row v' t l => ver ≤ v' ∧ (ver = v' → i < l.length ∧ ∃ b off t', (ρ id).bs = [b] ∧ Ty.pathOff path t = some (off, t') ∧ val = .pointer (some ⟨b, i * t.width + off, none⟩))
  | _ => True
def ItRel (ρ : Nat → Loc) (id : Nat) (val : Value) : AObj → Prop
  | .iter _ _ => ∃ b, (ρ id).bs = [b] ∧ val = .pointer (some ⟨b, 0, none⟩)
  | _ => True
def ValAt (l : Loc) (τ : TT) : List Nat → Value → Prop
  | [], val => (τ.isAgg = true → val = .agg l.cs.toArray) ∧ (τ.isAgg = false → l.cs = [val])
  | f :: p, val => ∃ s, skAt (f :: p) τ l.sk = some s ∧ skVal s = some val
def AtRel (ρ : Nat → Loc) (id ver : Nat) (path : List Nat) (val : Value) : AObj → Prop
  | .vt v' τ _ => ver ≤ v'.s ∧ ((ver = v'.s ∨ (isNil path && τ.fixed) = true) → ValAt (ρ id) τ path val)
  | _ => True
def AdRel (ρ : Nat → Loc) (id ver : Nat) (path : List Nat) (val : Value) : AObj → Prop
  | .vt v' τ _ => ver ≤ v'.s ∧ (ver = v'.s → ∃ b o, addrAt path τ (ρ id).sk none = some (b, o) ∧ val = .pointer (some ⟨b, o, none⟩))
  | _ => True
def EtRel (ρ : Nat → Loc) (id ver : Nat) (path : List Nat) (i : Nat) (sub : List Nat) (val : Value) : AObj → Prop
  | .vt v' τ _ => ver ≤ v'.s ∧ (ver = v'.s → ∃ t b o n c off t', TT.codeAt path τ = some (.vec t) ∧ skAt path τ (ρ id).sk = some (.vec (.slice (some ⟨b, o, none⟩) n c)) ∧ i < n ∧ Ty.pathOff sub t = some (off, t') ∧
      val = .pointer (some ⟨b, o + (i * t.width + off), none⟩))
  | _ => True
def PlAt (w : World) (l : Loc) (p : List Nat) (τ : TT) (val : Value) : Prop :=
  ∃ b o cc T c1 c3, addrAt p τ l.sk none = some (b, o) ∧ b ∈ l.bs ∧ w.heap[b]? = some (.cells cc T (0, 0)) ∧ cc.toList = c1 ++ (val.cells.toList ++ c3) ∧ c1.length = o
def LeRel (w : World) (ρ : Nat → Loc) (ok : Nat → Prop) (id : Nat) (s : LS) (u : Nat) (t : Ty) (x : t.C) (val : Value) : AObj → Prop
  | .vt v' τ _ => s.s ≤ v'.s ∧ u ≤ v'.w ∧ (s.s = v'.s ∧ u = v'.w → DVal w (fun b => ok b ∨ b ∈ (ρ id).bs) t x val ∧ PlAt w (ρ id) s.p τ val)
  | _ => True
def RpRel (w : World) (live ok : Nat → Prop) (t : Ty) (x : t.C) (val : Value) : Prop :=
  ∃ b o cs, val = .pointer (some ⟨b, o, none⟩) ∧ live b ∧ Cells w ok t x cs ∧ ∀ j u, cs[j]? = some u → w.cell? ⟨b, o + j, none⟩ = some u
mutual
def VRel (w : World) (ρ : Nat → Loc) (h : List AObj) (ok : Nat → Prop) : AVal → Value → Prop
  | .data t x, val => DVal w ok t x val
  | .osl id ver, val => id < h.length ∧ SlRel w ρ ok id ver val (hget h id)
  | .ptr id path, val => id < h.length ∧ PtRel w ρ ok id path val (hget h id)
  | .rptr t x, val => RpRel w (liveOf w ρ h) ok t x val
  | .eptr id ver i path, val => id < h.length ∧ ElRel ρ id ver i path val (hget h id)
  | .iter id, val => id < h.length ∧ ItRel ρ id val (hget h id)
  | .fn f c, val => ∃ vs, val = .func (.func f) #[] vs.toArray ∧ VList w ρ h ok c vs
  | .tnil, val => val = .tuple #[]
  | .tcons a b, val => ∃ v vs, val = .tuple (v :: vs).toArray ∧ VRel w ρ h ok a v ∧ VList w ρ h ok b vs
  | .nils, val => val = .slice none 0 0
  | .nilp, val => val = .pointer none
  | .tv id ver p, val => id < h.length ∧ AtRel ρ id ver p val (hget h id)
  | .ad id ver p, val => id < h.length ∧ AdRel ρ id ver p val (hget h id)
  | .elt id ver p i q, val => id < h.length ∧ EtRel ρ id ver p i q val (hget h id)
  | .lease id s u t x, val => id < h.length ∧ LeRel w ρ ok id s u t x val (hget h id)
  | .undef, val => val = Go.undef
  | .dead, _ => True
def VList (w : World) (ρ : Nat → Loc) (h : List AObj) (ok : Nat → Prop) : AVal → List Value → Prop
  | .tnil, vs => vs = []
  | .tcons a b, vs => ∃ v vs', vs = v :: vs' ∧ VRel w ρ h ok a v ∧ VList w ρ h ok b vs'
  | _, _ => False
end
structure Keeps (w : World) (ρ : Nat → Loc) (h : List AObj) (ok : Nat → Prop) (w' : World) (ρ' : Nat → Loc) (h' : List AObj) (ok' : Nat → Prop) : Prop where
  dat : ∀ b, ok b → ok' b ∧ w'.heap[b]? = w.heap[b]?
  live : ∀ b, liveOf w ρ h b → liveOf w' ρ' h' b ∧ w'.heap[b]? = w.heap[b]?
  len : h.length ≤ h'.length
  sl : ∀ id ver val, id < h.length → SlRel w ρ ok id ver val (hget h id) → SlRel w' ρ' ok' id ver val (hget h' id)
  pt : ∀ id p val, id < h.length → PtRel w ρ ok id p val (hget h id) → PtRel w' ρ' ok' id p val (hget h' id)
  el : ∀ id ver i p val, id < h.length → ElRel ρ id ver i p val (hget h id) → ElRel ρ' id ver i p val (hget h' id)
  it : ∀ id val, id < h.length → ItRel ρ id val (hget h id) → ItRel ρ' id val (hget h' id)
  tr : ∀ id, id < h.length → (∀ ver p val, AtRel ρ id ver p val (hget h id) → AtRel ρ' id ver p val (hget h' id)) ∧ (∀ ver p val, AdRel ρ id ver p val (hget h id) → AdRel ρ' id ver p val (hget h' id)) ∧
    (∀ ver p i q val, EtRel ρ id ver p i q val (hget h id) → EtRel ρ' id ver p i q val (hget h' id))
  le : ∀ id s u t x val, id < h.length → LeRel w ρ ok id s u t x val (hget h id) → LeRel w' ρ' ok' id s u t x val (hget h' id)
theorem RpRel.mono {w w' : World} {live live' ok ok' : Nat → Prop} (hlv : ∀ b, live b → live' b ∧ w'.heap[b]? = w.heap[b]?) (hok : ∀ b, ok b → ok' b ∧ w'.heap[b]? = w.heap[b]?) {t : Ty} {x : t.C} {v : Value} (h : RpRel w live ok t x v) : RpRel w' live' ok' t x v := by
  obtain ⟨b, o, cs, e, hb, hc, hj⟩ := h
  exact ⟨b, o, cs, e, (hlv b hb).1, Cells.mono hok t x cs hc, fun j u hu => by
    rw [World.cell?_of_block (w := w) (w' := w') ((hlv b hb).2)]; exact hj j u hu⟩
theorem FbRel.mono {w w' : World} {ok ok' : Nat → Prop} (hok : ∀ b, ok b → ok' b ∧ w'.heap[b]? = w.heap[b]?) {t : Ty} {x : t.C} {v : Value} (h : FbRel w ok t x v) : FbRel w' ok' t x v := by
  obtain ⟨b, cs, e, hb, hc, hj⟩ := h
  exact ⟨b, cs, e, (hok b hb).1, Cells.mono hok t x cs hc, fun j u hu => by
    rw [World.cell?_of_block (w := w) (w' := w') ((hok b hb).2)]; exact hj j u hu⟩
theorem SliceW.mono {w w' : World} {ok ok' : Nat → Prop} (hok : ∀ b, ok b → ok' b ∧ w'.heap[b]? = w.heap[b]?) {t : Ty} {l : List t.C} {v : Value} (h : SliceW w ok (Cells w ok t) l v) : SliceW w' ok' (Cells w' ok' t) l v := by
  have := Cells.mono hok (.list t) l [v] ⟨v, rfl, h⟩
  obtain ⟨v', e, h'⟩ := this
  obtain rfl : v = v' := by simpa using e
  exact h'
section
variable {w w' : World} {ρ ρ' : Nat → Loc} {h h' : List AObj} {ok ok' : Nat → Prop}
mutual
theorem VRel.keeps (k : Keeps w ρ h ok w' ρ' h' ok') : ∀ (v : AVal) (val : Value), VRel w ρ h ok v val → VRel w' ρ' h' ok' v val
  | .data _ _, _, hv => DVal.mono k.dat hv
  | .osl id ver, val, ⟨hl, hv⟩ => ⟨Nat.lt_of_lt_of_le hl k.len, k.sl id ver val hl hv⟩
  | .ptr id p, val, ⟨hl, hv⟩ => ⟨Nat.lt_of_lt_of_le hl k.len, k.pt id p val hl hv⟩
  | .rptr _ _, _, hv => RpRel.mono k.live k.dat hv
  | .eptr id ver i p, val, ⟨hl, hv⟩ => ⟨Nat.lt_of_lt_of_le hl k.len, k.el id ver i p val hl hv⟩
  | .iter id, val, ⟨hl, hv⟩ => ⟨Nat.lt_of_lt_of_le hl k.len, k.it id val hl hv⟩
  | .fn _ c, _, ⟨vs, e, hv⟩ => ⟨vs, e, VList.keeps k c vs hv⟩
  | .tnil, _, hv => hv
  | .tcons a b, _, ⟨v, vs, e, h1, h2⟩ => ⟨v, vs, e, VRel.keeps k a v h1, VList.keeps k b vs h2⟩
  | .nils, _, hv => hv
  | .nilp, _, hv => hv
  | .tv id ver p, val, ⟨hl, hv⟩ => ⟨Nat.lt_of_lt_of_le hl k.len, (k.tr id hl).1 ver p val hv⟩
  | .ad id ver p, val, ⟨hl, hv⟩ => ⟨Nat.lt_of_lt_of_le hl k.len, (k.tr id hl).2.1 ver p val hv⟩
  | .elt id ver p i q, val, ⟨hl, hv⟩ => ⟨Nat.lt_of_lt_of_le hl k.len, (k.tr id hl).2.2 ver p i q val hv⟩
  | .lease id s u t x, val, ⟨hl, hv⟩ => ⟨Nat.lt_of_lt_of_le hl k.len, k.le id s u t x val hl hv⟩
  | .undef, _, hv => hv
  | .dead, _, _ => trivial
theorem VList.keeps (k : Keeps w ρ h ok w' ρ' h' ok') : ∀ (v : AVal) (vs : List Value), VList w ρ h ok v vs → VList w' ρ' h' ok' v vs
  | .tnil, _, hv => hv
  | .tcons a b, _, ⟨v, vs, e, h1, h2⟩ => ⟨v, vs, e, VRel.keeps k a v h1, VList.keeps k b vs h2⟩
  | .data .., _, hv => hv.elim
  | .osl .., _, hv => hv.elim
  | .ptr .., _, hv => hv.elim
  | .rptr .., _, hv => hv.elim
  | .eptr .., _, hv => hv.elim
  | .iter .., _, hv => hv.elim
  | .fn .., _, hv => hv.elim
  | .nils, _, hv => hv.elim
  | .nilp, _, hv => hv.elim
  | .tv .., _, hv => hv.elim
  | .ad .., _, hv => hv.elim
  | .elt .., _, hv => hv.elim
  | .lease .., _, hv => hv.elim
  | .undef, _, hv => hv.elim
  | .dead, _, hv => hv.elim
end
end
/-! ## 3. States -/
structure HRel (F : Fr) (B : Nat) (w : World) (ρ : Nat → Loc) (h : List AObj) : Prop where
  base : ∀ b, ¬ F.kept b → F b
  kb : ∀ b, F.kept b → b < B
  nle : F.n ≤ h.length
  arg : ∀ k, k < F.n → (hget h k).isVt = true → (ρ k).cs = F.cs k
  obj : ∀ id, id < h.length → ORel w ρ (okOf F w ρ h) id (hget h id)
  own : ∀ id b, (hget h id).owns = true → b ∈ (ρ id).bs → ¬ F.kept b ∧ b < w.heap.size
  inj : ∀ id id' b, (hget h id).owns = true → (hget h id').owns = true → b ∈ (ρ id).bs → b ∈ (ρ id').bs → id = id'
structure Rel (F : Fr) (w0 : World) (st : St) (a : Act) (w : World) : Prop where
  defers : a.defers = []
  size : a.tmps.size = st.tmps.length
  below : Near F.kept w0 w
  mem : ∃ ρ, HRel F w0.heap.size w ρ st.heap ∧ ∀ i, VRel w ρ st.heap (okOf F w ρ st.heap) (tget st.tmps i) (a.tmps.getD i Go.undef)
end Go.PB
namespace Go.PB
open Go Go.RowKit
/-! ## 1. Types -/
def InfoOk (P : Program) (ty : TypeId) (t : Ty) : Prop :=
  ∃ i z, P.info? ty = some i ∧ i.size = t.width ∧ 0 < t.width ∧ i.bytes ≤ 4096 ∧ i.zero = some z ∧ z.cells.toList = t.zcells ∧ (t.isAgg = true ↔ ∃ cs, z = .agg cs) ∧
    (t.isAgg = true → P.stoodInHeld ty = false ∧ P.eqGuardType P.depth ty = false ∧ (P.fieldsOf ty).toList.all (fun f => !(f.name == "_")) = true)
mutual
def TyOk (P : Program) : Ty → TypeId → Prop
  | .int k, ty => InfoOk P ty (.int k) ∧ P.underlying ty = some (.int k)
  | .bool, ty => InfoOk P ty .bool ∧ P.underlying ty = some .bool
  | .err, ty => InfoOk P ty .err ∧ ∃ ms, P.underlying ty = some (.interface ms)
  | .str, ty => InfoOk P ty .str ∧ P.underlying ty = some .string
  | .list t, ty => InfoOk P ty (.list t) ∧ ∃ e, P.underlying ty = some (.slice e) ∧ TyOk P t e
  | .arr n t, ty => InfoOk P ty (.arr n t) ∧ ∃ e, P.underlying ty = some (.array n e) ∧ TyOk P t e
  | .agg t, ty => InfoOk P ty (.agg t) ∧ ∃ fs, P.underlying ty = some (.struct fs) ∧ ChainOk P t 0 fs.toList
  | _, _ => False
def ChainOk (P : Program) : Ty → Nat → List Field → Prop
  | .pair a b, off, f :: fs => f.offset = off ∧ TyOk P a f.type ∧ ChainOk P b (off + a.width) fs
  | .unit, _, [] => True
  | _, _, _ => False
end
def TT.zcells : TT → List Value
  | .data t => t.zcells
  | .vec _ => [.slice none 0 0]
  | .map _ _ => [.map none]
  | .own _ => [.pointer none]
  | .opt _ => [.pointer none]
  | .hole => [.pointer none]
  | .unit => []
  | .pair a b => a.zcells ++ b.zcells
  | .agg τ => τ.zcells
def InfoM (P : Program) (ty : TypeId) (τ : TT) : Prop :=
  ∃ i z, P.info? ty = some i ∧ i.size = τ.width ∧ 0 < τ.width ∧ i.zero = some z ∧ z.cells.toList = τ.zcells ∧ (τ.isAgg = true ↔ ∃ cs, z = .agg cs)
mutual
def MtOk (P : Program) : TT → TypeId → Prop
  | .data t, ty => TyOk P t ty
  | .vec t, ty => TyOk P (.list t) ty
  | .map k v, ty => InfoM P ty (.map k v) ∧ ∃ kt vt, P.underlying ty = some (.map kt vt) ∧ TyOk P k kt ∧ TyOk P v vt
  | .opt τ, ty => InfoM P ty (.opt τ) ∧ ∃ e, P.underlying ty = some (.pointer e)
  | .agg τ, ty => InfoM P ty (.agg τ) ∧ ∃ fs, P.underlying ty = some (.struct fs) ∧ MChain P τ 0 fs.toList
  | .own _, _ => False
  | .hole, _ => False
  | .unit, _ => False
  | .pair _ _, _ => False
def MChain (P : Program) : TT → Nat → List Field → Prop
  | .pair a b, off, f :: fs => f.offset = off ∧ MtOk P a f.type ∧ MChain P b (off + a.width) fs
  | .unit, _, [] => True
  | _, _, _ => False
end
structure TTOk (P : Program) (tt : Tab) : Prop where
  ty : ∀ ty t, tt.ty ty = some t → TyOk P t ty
  mt : ∀ ty τ, tt.mt ty = some τ → MtOk P τ ty
instance {P : Program} {tt : Tab} : CoeFun (TTOk P tt) (fun _ => ∀ ty t, tt.ty ty = some t → TyOk P t ty) := ⟨TTOk.ty⟩
theorem TyOk.info {P : Program} {ty : TypeId} : ∀ {t : Ty}, TyOk P t ty → InfoOk P ty t
  | .int _, h => h.1
  | .bool, h => h.1
  | .err, h => h.1
  | .str, h => h.1
  | .list _, h => h.1
  | .agg _, h => h.1
  | .arr _ _, h => h.1
  | .unit, h => h.elim
  | .pair _ _, h => h.elim
theorem TyOk.pos {P : Program} {ty : TypeId} {t : Ty} (h : TyOk P t ty) : 0 < t.width := by
  obtain ⟨i, z, hi, hs, hp, _⟩ := h.info
  exact hp
theorem TyOk.isVal {P : Program} {ty : TypeId} : ∀ {t : Ty}, TyOk P t ty → t.isVal = true
  | .int _, _ => rfl
  | .bool, _ => rfl
  | .err, _ => rfl
  | .str, _ => rfl
  | .list _, _ => rfl
  | .agg _, _ => rfl
  | .arr _ _, _ => rfl
  | .unit, h => h.elim
  | .pair _ _, h => h.elim
theorem TyOk.run_isAgg {P : Program} {ty : TypeId} {w : World} : ∀ {t : Ty}, TyOk P t ty → (isAgg ty).run P w = .ok t.isAgg w
  | .int _, h => by simp [Go.isAgg, Go.underlying, h.2, Ty.isAgg]
  | .bool, h => by simp [Go.isAgg, Go.underlying, h.2, Ty.isAgg]
  | .err, h => by obtain ⟨ms, h2⟩ := h.2; simp [Go.isAgg, Go.underlying, h2, Ty.isAgg]
  | .str, h => by simp [Go.isAgg, Go.underlying, h.2, Ty.isAgg]
  | .list _, h => by obtain ⟨_, e, he, _⟩ := h; simp [Go.isAgg, Go.underlying, he, Ty.isAgg]
  | .agg _, h => by obtain ⟨_, e, he, _⟩ := h; simp [Go.isAgg, Go.underlying, he, Ty.isAgg]
  | .arr _ _, h => by obtain ⟨_, e, he, _⟩ := h; simp [Go.isAgg, Go.underlying, he, Ty.isAgg]
  | .unit, h => h.elim
  | .pair _ _, h => h.elim
theorem TyOk.run_sizeOf {P : Program} {ty : TypeId} {w : World} {t : Ty} (h : TyOk P t ty) : (sizeOf ty).run P w = .ok t.width w := by
  obtain ⟨i, z, hi, hs, _⟩ := h.info
  simp [Go.sizeOf, typeInfo, hi, hs]
theorem TyOk.run_zero {P : Program} {ty : TypeId} {w : World} {t : Ty} (h : TyOk P t ty) :
    ∃ z, (zeroValue ty).run P w = .ok z w ∧ z.cells.toList = t.zcells ∧ (t.isAgg = true ↔ ∃ cs, z = .agg cs) := by
  obtain ⟨i, z, hi, hs, _, _, hz, hc, ha⟩ := h.info
  exact ⟨z, by simp [zeroValue, typeInfo, hi, hz], hc, ha.1⟩
theorem rowC_zero {α : Type} {R : α → List Value → Prop} {z : α} {cs : List Value} (h : R z cs) : ∀ n, RowC R (List.replicate n z) (List.replicate n cs).flatten
  | 0 => rfl
  | n + 1 => ⟨cs, _, rfl, h, rowC_zero h n⟩
theorem cells_zero (w : World) (ok : Nat → Prop) : ∀ t : Ty, Cells w ok t t.zero t.zcells
  | .int _ => rfl
  | .bool => rfl
  | .err => .inl ⟨rfl, rfl⟩
  | .str => rfl
  | .unit => rfl
  | .list _ => ⟨_, rfl, none, 0, rfl, Nat.le_refl _, .inl rfl⟩
  | .pair a b => ⟨_, _, rfl, cells_zero w ok a, cells_zero w ok b⟩
  | .agg t => cells_zero w ok t
  | .arr n t => ⟨List.length_replicate, rowC_zero (cells_zero w ok t) n⟩
/-! ## 2. Functions that are called -/
def ARel (w : World) (ok : Nat → Prop) : RVal → Value → Prop
  | .data t x, v => DVal w ok t x v
  | .rptr t x, v => ∃ b o cs, v = .pointer (some ⟨b, o, none⟩) ∧ b < w.heap.size ∧ Cells w ok t x cs ∧ ∀ j u, cs[j]? = some u → w.cell? ⟨b, o + j, none⟩ = some u
  | .nils, v => v = .slice none 0 0
  | .nilp, v => v = .pointer none
  | .fn f c, v => ∃ vs, v = .func (.func f) #[] vs.toArray ∧ AList w ok c vs
  | _, _ => True
  where AList (w : World) (ok : Nat → Prop) : RVal → List Value → Prop
  | .tnil, vs => vs = []
  | .tcons a b, vs => ∃ v vs', vs = v :: vs' ∧ ARel w ok a v ∧ AList w ok b vs'
  | _, _ => False
def ArgsRel (w : World) (ok : Nat → Prop) : List RVal → List Value → Prop
  | [], vs => vs = []
  | a :: as, vs => ∃ v vs', vs = v :: vs' ∧ ARel w ok a v ∧ ArgsRel w ok as vs'
def ResList (w : World) (ok : Nat → Prop) (B : Nat) : List ARes → List Value → List Nat → Prop
  | [], vs, gs => vs = [] ∧ gs = []
  | .data t x :: rs, vs, gs => ∃ v vs', vs = v :: vs' ∧ DVal w ok t x v ∧ ResList w ok B rs vs' gs
  | .own t l :: rs, vs, gs => ∃ v vs', vs = v :: vs' ∧ t.isVal = true ∧
      ((v = .slice none 0 0 ∧ l = [] ∧ ResList w ok B rs vs' gs) ∨
       ∃ b c cs T cc rest gs', gs = b :: gs' ∧ b ∉ gs' ∧ B ≤ b ∧ v = .slice (some ⟨b, 0, none⟩) l.length c ∧ w.heap[b]? = some (.cells cs T (0, 0)) ∧ cs.size = c * t.width ∧ l.length ≤ c ∧
         cs.toList = cc ++ rest ∧ RowC (Cells w ok t) l cc ∧ ResList w ok B rs vs' gs')
  | .upd _ _ :: _, _, _ => False
  | .tree _ _ :: _, _, _ => False
  | .out _ _ _ :: _, _, _ => False
def tupleOf (vs : List Value) : Value := if h : vs.length = 1 then vs[0] else .tuple vs.toArray
def PureCall (P : Program) (G : Gv) (f : FuncId) (args : List RVal) (rs : List ARes) : Prop :=
  ∀ (w : World) (ok : Nat → Prop) (vals : Array Value), G w → (∀ b, ok b → b < w.heap.size) → ArgsRel w ok args vals.toList →
    Calls P f vals w fun e w' => ∃ vs gs, e = .returned (tupleOf vs) ∧ Below w.heap.size w w' ∧
      ResList w' (fun b => (ok b ∨ (w.heap.size ≤ b ∧ b < w'.heap.size)) ∧ b ∉ gs) w.heap.size rs vs gs
def OwnRow (w : World) (t : Ty) (l : List t.C) (v : Value) (b : Nat) : Prop :=
  ∃ c cs T cc rest, v = .slice (some ⟨b, 0, none⟩) l.length c ∧ w.heap[b]? = some (.cells cs T (0, 0)) ∧ cs.size = c * t.width ∧ l.length ≤ c ∧ cs.toList = cc ++ rest ∧ RowC (Cells w (fun _ => False) t) l cc
def RowCall (P : Program) (G : Gv) (f : FuncId) (t : Ty) (l : List t.C) (args : List RVal) (m : List t.C) : Prop :=
  ∀ (w : World) (ok : Nat → Prop) (v : Value) (vals : List Value), G w → (∀ b, ok b → ∃ cs T, w.heap[b]? = some (.cells cs T (0, 0))) → ArgsRel w ok args vals →
    ((v = .slice none 0 0 ∧ l = []) ∨ ∃ b, ¬ ok b ∧ OwnRow w t l v b) →
    Calls P f (v :: vals).toArray w fun e w' => ∃ v', e = .returned v' ∧ w'.os = w.os ∧ w'.tape = w.tape ∧ w'.output = w.output ∧ w.heap.size ≤ w'.heap.size ∧
      (∀ k, k < w.heap.size → (∀ c, v ≠ .slice (some ⟨k, 0, none⟩) l.length c) → w'.heap[k]? = w.heap[k]?) ∧
      ((v' = .slice none 0 0 ∧ m = [] ∧ v = .slice none 0 0) ∨ ∃ b, OwnRow w' t m v' b ∧ (w.heap.size ≤ b ∨ ∃ c, v = .slice (some ⟨b, 0, none⟩) l.length c))
def TVal (w : World) (ok : Nat → Prop) (τ : TT) (x : τ.C) (sk : Skel) (v : Value) : Prop :=
  ∃ cs, TCells w ok τ x sk cs ∧ (τ.isAgg = true → v = .agg cs.toArray) ∧ (τ.isAgg = false → cs = [v])
def HArgs (w : World) (ok : Nat → Prop) : List RVal → List Value → List Nat → Prop
  | [], vs, hs => vs = [] ∧ hs = []
  | .tree τ x :: as, vs, hs => ∃ v vs' s hs', vs = v :: vs' ∧ hs = s.blocks ++ hs' ∧ TVal w ok τ x s v ∧ HArgs w ok as vs' hs'
  | a :: as, vs, hs => ∃ v vs', vs = v :: vs' ∧ (ARel w ok a v ∧ a.plain = true) ∧ HArgs w ok as vs' hs
def HRes (w : World) (ok : Nat → Prop) (argv : List Value) : List ARes → List Value → List Nat → Prop
  | [], vs, gs => vs = [] ∧ gs = []
  | .data t x :: rs, vs, gs => ∃ v vs', vs = v :: vs' ∧ DVal w ok t x v ∧ HRes w ok argv rs vs' gs
  | .tree τ x :: rs, vs, gs => ∃ v vs' s gs', vs = v :: vs' ∧ gs = s.blocks ++ gs' ∧ TVal w ok τ x s v ∧ HRes w ok argv rs vs' gs'
  | .out i τ x :: rs, vs, gs => ∃ v s gs', argv[i]? = some v ∧ gs = s.blocks ++ gs' ∧ TVal w ok τ x s v ∧ HRes w ok argv rs vs gs'
  | .own _ _ :: _, _, _ => False
  | .upd _ _ :: _, _, _ => False
def HandCall (P : Program) (G : Gv) (f : FuncId) (args : List RVal) (rs : List ARes) : Prop :=
  ∀ (w : World) (ok : Nat → Prop) (vals : Array Value) (hs : List Nat), G w → (∀ b, ok b → b < w.heap.size ∧ b ∉ hs) → hs.Nodup → (∀ b ∈ hs, G.low ≤ b ∧ b < w.heap.size) → HArgs w ok args vals.toList hs →
    Calls P f vals w fun e w' => ∃ vs gs, e = .returned (tupleOf vs) ∧ Near (fun b => b < w.heap.size ∧ b ∉ hs) w w' ∧ gs.Nodup ∧ (∀ b ∈ gs, b < w'.heap.size ∧ (b ∈ hs ∨ w.heap.size ≤ b)) ∧
      HRes w' (fun b => (ok b ∨ b ∈ hs ∨ (w.heap.size ≤ b ∧ b < w'.heap.size)) ∧ b ∉ gs) vals.toList rs vs gs
def hasT : List ARes → Bool
  | [] => false
  | .tree _ _ :: _ => true
  | .out _ _ _ :: _ => true
  | _ :: r => hasT r
def CallOk (P : Program) (G : Gv) (f : FuncId) (args : List RVal) (rs : List ARes) : Prop :=
  match rs with
  | [.upd t m] => t.isVal = true ∧ ∀ l rest, args = .data (.list t) l :: rest → RowCall P G f t l rest m
  | rs => cond (hasT rs) (HandCall P G f args rs) (PureCall P G f args rs)
def Enters (P : Program) (f : FuncId) : Prop := ∃ fn, P.funcs[f]? = some fn ∧ fn.body.isSome = true ∧ (fn.name == "runtime.NumGoroutine") = false
def EnvSound (P : Program) (G : Gv) (env : Env) : Prop :=
  ∀ (R : Type) (f : FuncId) (args : List RVal) (K : List ARes → Option R) (r : R), env R f args K = some r → ∃ rs, K rs = some r ∧ Enters P f ∧ CallOk P G f args rs
/-! ## 3. Lists -/
theorem tget_tset (l : List AVal) (i j : Nat) (v : AVal) : tget (tset l i v) j = if i = j ∧ i < l.length then v else tget l j := by
  induction l generalizing i j with
  | nil => simp [tset, tget]
  | cons x l ih =>
    cases i with
    | zero => cases j <;> simp [tset, tget]
    | succ i => cases j with
      | zero => simp [tset, tget]
      | succ j => simp [tset, tget, ih]
theorem length_tset (l : List AVal) (i : Nat) (v : AVal) : (tset l i v).length = l.length := by
  induction l generalizing i with
  | nil => rfl
  | cons x l ih => cases i <;> simp [tset, ih]
theorem hget_hset (l : List AObj) (i j : Nat) (v : AObj) : hget (hset l i v) j = if i = j ∧ i < l.length then v else hget l j := by
  induction l generalizing i j with
  | nil => simp [hset, hget]
  | cons x l ih =>
    cases i with
    | zero => cases j <;> simp [hset, hget]
    | succ i => cases j with
      | zero => simp [hset, hget]
      | succ j => simp [hset, hget, ih]
theorem length_hset (l : List AObj) (i : Nat) (v : AObj) : (hset l i v).length = l.length := by
  induction l generalizing i with
  | nil => rfl
  | cons x l ih => cases i <;> simp [hset, ih]
theorem hget_append (l : List AObj) (o : AObj) (i : Nat) : hget (l ++ [o]) i = if i = l.length then o else hget l i := by
  induction l generalizing i with
  | nil => cases i <;> simp [hget]
  | cons x l ih => cases i <;> simp [hget, ih]
theorem hget_append_lt : ∀ (h g : List AObj) (id : Nat), id < h.length → hget (h ++ g) id = hget h id
  | [], g, id, hl => by simp at hl
  | o :: h, g, 0, _ => rfl
  | o :: h, g, id + 1, hl => hget_append_lt h g id (by simpa using hl)
theorem hget_append_ge : ∀ (h g : List AObj) (id : Nat), hget (h ++ g) (h.length + id) = hget g id
  | [], g, id => by simp
  | o :: h, g, id => by
    have := hget_append_ge h g id
    rw [show (o :: h).length + id = (h.length + id) + 1 by simp; omega]
    simpa [hget] using this
theorem hget_ge (l : List AObj) (i : Nat) (h : l.length ≤ i) : hget l i = .none := by
  induction l generalizing i with
  | nil => rfl
  | cons x l ih => cases i with
    | zero => simp at h
    | succ i => simp [hget]; exact ih i (by simpa using h)
theorem getD_put (tmps : Array Value) (d j : Nat) (v : Value) : (tmps.setIfInBounds d v).getD j Go.undef = if d = j ∧ d < tmps.size then v else tmps.getD j Go.undef := by
  simp only [Array.getD_eq_getD_getElem?, Array.getElem?_setIfInBounds]
  by_cases h : d = j
  · subst h
    by_cases h' : d < tmps.size <;> simp [h']
  · simp [h]
/-! ## 4. Operands -/
section
variable {F : Fr} {w0 w : World} {st : St} {a : Act} {ρ : Nat → Loc}
theorem dval_int (w : World) (ok : Nat → Prop) (k : IntKind) (n : Int) : DVal w ok (.int k) n (.int k n) := ⟨rfl, by simp [Ty.isAgg], rfl⟩
theorem dval_bool (w : World) (ok : Nat → Prop) (b : Bool) : DVal w ok .bool b (.bool b) := ⟨rfl, by simp [Ty.isAgg], rfl⟩
theorem dval_str (w : World) (ok : Nat → Prop) (s : ByteArray) : DVal w ok .str s (.string s) := ⟨rfl, by simp [Ty.isAgg], rfl⟩
theorem cells_one {v : Value} (h : ¬ ∃ cs, v = .agg cs) : v.cells.toList = [v] := by
  cases v <;> first | rfl | exact absurd ⟨_, rfl⟩ h
theorem DVal.one {ok : Nat → Prop} {t : Ty} {x : t.C} {v : Value} (h : DVal w ok t x v) (ht : t.isAgg = false) : Cells w ok t x [v] := by
  have : ¬ ∃ cs, v = .agg cs := fun hc => by have := h.2.1.2 hc; simp [ht] at this
  rw [← cells_one this]; exact h.1
theorem DVal.int_inv {ok : Nat → Prop} {k : IntKind} {n : Int} {v : Value} (h : DVal w ok (.int k) n v) : v = .int k n := by
  have := h.one rfl; simpa [Cells] using this
theorem DVal.bool_inv {ok : Nat → Prop} {b : Bool} {v : Value} (h : DVal w ok .bool b v) : v = .bool b := by
  have := h.one rfl; simpa [Cells] using this
theorem DVal.str_inv {ok : Nat → Prop} {s : ByteArray} {v : Value} (h : DVal w ok .str s v) : v = .string s := by
  have := h.one rfl; simpa [Cells] using this
theorem DVal.list_inv {ok : Nat → Prop} {t : Ty} {l : List t.C} {v : Value} (h : DVal w ok (.list t) l v) : SliceW w ok (Cells w ok t) l v := by
  obtain ⟨v', e, h'⟩ := h.one rfl
  obtain rfl : v = v' := by simpa using e
  exact h'
theorem DVal.agg_inv {ok : Nat → Prop} {t : Ty} {x : t.C} {v : Value} (h : DVal w ok (.agg t) x v) : ∃ cs, v = .agg cs ∧ Cells w ok t x cs.toList := by
  obtain ⟨cs, rfl⟩ := h.2.1.1 rfl
  exact ⟨cs, rfl, h.1⟩
theorem dval_list {ok : Nat → Prop} {t : Ty} {l : List t.C} {v : Value} (h : SliceW w ok (Cells w ok t) l v) : DVal w ok (.list t) l v := by
  obtain ⟨A, c, rfl, hc, h'⟩ := h
  exact ⟨⟨_, rfl, A, c, rfl, hc, h'⟩, by simp [Ty.isAgg], rfl⟩
theorem dval_of_cells {ok : Nat → Prop} : ∀ {t : Ty} {x : t.C} {cs : List Value}, Cells w ok t x cs → t.isVal = true → (t.isAgg = true → DVal w ok t x (.agg cs.toArray)) ∧ (t.isAgg = false → ∃ v, cs = [v] ∧ DVal w ok t x v)
  | .int k, x, cs, h, _ => ⟨by simp [Ty.isAgg], fun _ => ⟨_, h, dval_int w ok k x⟩⟩
  | .bool, x, cs, h, _ => ⟨by simp [Ty.isAgg], fun _ => ⟨_, h, dval_bool w ok x⟩⟩
  | .err, x, cs, h, _ => ⟨by simp [Ty.isAgg], fun _ => by
      rcases h with ⟨h1, h⟩ | ⟨h1, u, v, h⟩
      · exact ⟨_, h, .inl ⟨h1, rfl⟩, by simp [Ty.isAgg], rfl⟩
      · exact ⟨_, h, .inr ⟨h1, u, v, rfl⟩, by simp [Ty.isAgg], rfl⟩⟩
  | .str, x, cs, h, _ => ⟨by simp [Ty.isAgg], fun _ => ⟨_, h, dval_str w ok x⟩⟩
  | .list t, x, cs, ⟨v, e, h⟩, _ => ⟨by simp [Ty.isAgg], fun _ => ⟨v, e, dval_list h⟩⟩
  | .agg t, x, cs, h, _ => ⟨fun _ => ⟨by simpa [Value.cells] using h, by simp [Ty.isAgg], rfl⟩, by simp [Ty.isAgg]⟩
  | .arr n t, x, cs, h, _ => ⟨fun _ => ⟨by simpa [Value.cells] using h, by simp [Ty.isAgg], rfl⟩, by simp [Ty.isAgg]⟩
  | .unit, _, _, _, h => by simp [Ty.isVal] at h
  | .pair _ _, _, _, _, h => by simp [Ty.isVal] at h
theorem vrel_cval (w : World) (ρ : Nat → Loc) (h : List AObj) (ok : Nat → Prop) (v : Value) : VRel w ρ h ok (cval v) v := by
  unfold cval
  split
  · exact dval_int w ok _ _
  · exact dval_bool w ok _
  · exact ⟨.inl ⟨rfl, rfl⟩, by simp [Ty.isAgg], rfl⟩
  · exact dval_str w ok _
  · simp [VRel]
  · simp [VRel]
  · simp [VRel]
theorem vrel_ev {h : List AObj} {ok : Nat → Prop} {tmps : List AVal} (hv : ∀ i, VRel w ρ h ok (tget tmps i) (a.tmps.getD i Go.undef)) (x : Operand) : VRel w ρ h ok (ev tmps x) (a.eval x) := by
  cases x with
  | tmp t => exact hv t
  | const v => exact vrel_cval w ρ h ok v
  | global g => simp [ev, VRel]
  | func f => exact ⟨[], rfl, rfl⟩
end
end Go.PB
namespace Go.PB
open Go Go.RowKit
section
variable {F : Fr} {w : World} {ρ : Nat → Loc} {h : List AObj} {ok : Nat → Prop}
/-! ## 1. What a resolved value tells of the value -/
theorem res_tv_cases (h : List AObj) (id v : Nat) (p : List Nat) : res h (.tv id v p) = .dead ∨ ∃ v' τ x, res h (.tv id v p) = .tr id v' p τ x := by
  simp only [res]
  cases hget h id with
  | vt v' τ x =>
    simp only
    cases (v == v'.s || (isNil p && τ.fixed)) with
    | true => exact .inr ⟨_, _, _, rfl⟩
    | false => exact .inl rfl
  | _ => exact .inl rfl
theorem res_ad_cases (h : List AObj) (id v : Nat) (p : List Nat) : res h (.ad id v p) = .dead ∨ ∃ v' τ x, res h (.ad id v p) = .ad id v' p τ x := by
  simp only [res]
  cases hget h id with
  | vt v' τ x =>
    simp only
    cases (v == v'.s) with
    | true => exact .inr ⟨_, _, _, rfl⟩
    | false => exact .inl rfl
  | _ => exact .inl rfl
theorem res_elt_cases (h : List AObj) (id v : Nat) (p : List Nat) (i : Nat) (q : List Nat) : res h (.elt id v p i q) = .dead ∨ ∃ v' τ x, res h (.elt id v p i q) = .elt id v' p τ x i q := by
  simp only [res]
  cases hget h id with
  | vt v' τ x =>
    simp only
    cases (v == v'.s) with
    | true => exact .inr ⟨_, _, _, rfl⟩
    | false => exact .inl rfl
  | _ => exact .inl rfl
theorem res_lease_cases (h : List AObj) (id : Nat) (s : LS) (u : Nat) (t : Ty) (x : t.C) : res h (.lease id s u t x) = .dead ∨ ∃ g, res h (.lease id s u t x) = .lease id g t x := by
  simp only [res]
  cases hget h id with
  | vt v' τ x =>
    simp only
    cases (s.s == v'.s && u == v'.w) with
    | true => exact .inr ⟨_, rfl⟩
    | false => exact .inl rfl
  | _ => exact .inl rfl
theorem res_data {v : AVal} {val : Value} {t : Ty} {x : t.C} (hv : VRel w ρ h ok v val) (e : res h v = .data t x) : DVal w ok t x val := by
  cases v with
  | data t' x' => simp only [res, RVal.data.injEq] at e; obtain ⟨rfl, e⟩ := e; obtain rfl := eq_of_heq e; exact hv
  | osl id ver =>
    obtain ⟨hl, hs⟩ := hv
    simp only [res] at e
    cases ho : hget h id with
    | row v' t' l => rw [ho] at e; simp only at e; cases hc : (ver == v') <;> simp [hc] at e
    | frow v' t' l =>
      rw [ho] at e hs
      simp only at e
      cases hc : (ver == v') with
      | false => simp [hc] at e
      | true =>
        simp only [hc, cond_true, RVal.data.injEq] at e
        obtain ⟨rfl, e⟩ := e
        obtain rfl := eq_of_heq e
        exact dval_list (hs (by simpa using hc))
    | none => rw [ho] at e; simp at e
    | fbox t' x' => rw [ho] at e; simp at e
    | vt v0 τ0 x0 => rw [ho] at e; simp at e
    | box t' x' => rw [ho] at e; simp at e
    | iter s p => rw [ho] at e; simp at e
  | ptr id p => simp only [res] at e; split at e <;> simp at e
  | eptr id v i p => simp only [res] at e; split at e <;> (try (cases hc : (v == ‹Nat›) <;> simp [hc] at e)) <;> simp at e
  | iter id => simp only [res] at e; split at e <;> simp at e
  | tv id ver p => rcases res_tv_cases _ id ver p with e' | ⟨_, _, _, e'⟩ <;> rw [e'] at e <;> simp at e
  | ad id ver p => rcases res_ad_cases _ id ver p with e' | ⟨_, _, _, e'⟩ <;> rw [e'] at e <;> simp at e
  | elt id ver p i q => rcases res_elt_cases _ id ver p i q with e' | ⟨_, _, _, e'⟩ <;> rw [e'] at e <;> simp at e
  | lease id s u t x => rcases res_lease_cases _ id s u t x with e' | ⟨_, e'⟩ <;> rw [e'] at e <;> simp at e
  | rptr t' x' => simp [res] at e
  | fn f c => simp [res] at e
  | tnil => simp [res] at e
  | tcons a b => simp [res] at e
  | nils => simp [res] at e
  | nilp => simp [res] at e
  | undef => simp [res] at e
  | dead => simp [res] at e
theorem res_row {v : AVal} {id ver : Nat} {t : Ty} {l : List t.C} (e : res h v = .row id ver t l) : v = .osl id ver ∧ hget h id = .row ver t l := by
  cases v with
  | osl id' ver' =>
    simp only [res] at e
    cases ho : hget h id' with
    | row v' t' l' =>
      rw [ho] at e; simp only at e
      cases hc : (ver' == v') with
      | false => simp [hc] at e
      | true =>
        simp only [hc, cond_true, RVal.row.injEq] at e
        obtain ⟨rfl, rfl, rfl, e⟩ := e
        obtain rfl := eq_of_heq e
        obtain rfl : ver' = v' := by simpa using hc
        exact ⟨rfl, ho⟩
    | frow v' t' l' => rw [ho] at e; simp only at e; cases hc : (ver' == v') <;> simp [hc] at e
    | none => rw [ho] at e; simp at e
    | fbox t' x' => rw [ho] at e; simp at e
    | vt v0 τ0 x0 => rw [ho] at e; simp at e
    | box t' x' => rw [ho] at e; simp at e
    | iter s p => rw [ho] at e; simp at e
  | ptr id p => simp only [res] at e; split at e <;> simp at e
  | eptr id v i p => simp only [res] at e; split at e <;> (try (cases hc : (v == ‹Nat›) <;> simp [hc] at e)) <;> simp at e
  | iter id => simp only [res] at e; split at e <;> simp at e
  | tv id ver p => rcases res_tv_cases _ id ver p with e' | ⟨_, _, _, e'⟩ <;> rw [e'] at e <;> simp at e
  | ad id ver p => rcases res_ad_cases _ id ver p with e' | ⟨_, _, _, e'⟩ <;> rw [e'] at e <;> simp at e
  | elt id ver p i q => rcases res_elt_cases _ id ver p i q with e' | ⟨_, _, _, e'⟩ <;> rw [e'] at e <;> simp at e
  | lease id s u t x => rcases res_lease_cases _ id s u t x with e' | ⟨_, e'⟩ <;> rw [e'] at e <;> simp at e
  | _ => simp [res] at e
theorem res_box {v : AVal} {id : Nat} {t : Ty} {x : t.C} {p : List Nat} (e : res h v = .box id t x p) : v = .ptr id p ∧ hget h id = .box t x := by
  cases v with
  | ptr id' p' =>
    simp only [res] at e
    cases ho : hget h id' with
    | box t' x' =>
      rw [ho] at e; simp only [RVal.box.injEq] at e
      obtain ⟨rfl, rfl, e, rfl⟩ := e
      obtain rfl := eq_of_heq e
      exact ⟨rfl, ho⟩
    | row v' t' l' => rw [ho] at e; simp at e
    | frow v' t' l' => rw [ho] at e; simp at e
    | none => rw [ho] at e; simp at e
    | fbox t' x' => rw [ho] at e; simp at e
    | vt v0 τ0 x0 => rw [ho] at e; simp at e
    | iter s p => rw [ho] at e; simp at e
  | osl id ver => simp only [res] at e; split at e <;> (try (cases hc : (ver == ‹Nat›) <;> simp [hc] at e)) <;> simp at e
  | eptr id v i p => simp only [res] at e; split at e <;> (try (cases hc : (v == ‹Nat›) <;> simp [hc] at e)) <;> simp at e
  | iter id => simp only [res] at e; split at e <;> simp at e
  | tv id ver p => rcases res_tv_cases _ id ver p with e' | ⟨_, _, _, e'⟩ <;> rw [e'] at e <;> simp at e
  | ad id ver p => rcases res_ad_cases _ id ver p with e' | ⟨_, _, _, e'⟩ <;> rw [e'] at e <;> simp at e
  | elt id ver p i q => rcases res_elt_cases _ id ver p i q with e' | ⟨_, _, _, e'⟩ <;> rw [e'] at e <;> simp at e
  | lease id s u t x => rcases res_lease_cases _ id s u t x with e' | ⟨_, e'⟩ <;> rw [e'] at e <;> simp at e
  | _ => simp [res] at e
theorem res_elem {v : AVal} {id ver : Nat} {t : Ty} {l : List t.C} {i : Nat} {p : List Nat} (e : res h v = .elem id ver t l i p) : v = .eptr id ver i p ∧ hget h id = .row ver t l := by
  cases v with
  | eptr id' ver' i' p' =>
    simp only [res] at e
    cases ho : hget h id' with
    | row v' t' l' =>
      rw [ho] at e; simp only at e
      cases hc : (ver' == v') with
      | false => simp [hc] at e
      | true =>
        simp only [hc, cond_true, RVal.elem.injEq] at e
        obtain ⟨rfl, rfl, rfl, e, rfl, rfl⟩ := e
        obtain rfl := eq_of_heq e
        obtain rfl : ver' = v' := by simpa using hc
        exact ⟨rfl, ho⟩
    | frow v' t' l' => rw [ho] at e; simp at e
    | none => rw [ho] at e; simp at e
    | fbox t' x' => rw [ho] at e; simp at e
    | vt v0 τ0 x0 => rw [ho] at e; simp at e
    | box t' x' => rw [ho] at e; simp at e
    | iter s p => rw [ho] at e; simp at e
  | ptr id p => simp only [res] at e; split at e <;> simp at e
  | osl id ver => simp only [res] at e; split at e <;> (try (cases hc : (ver == ‹Nat›) <;> simp [hc] at e)) <;> simp at e
  | iter id => simp only [res] at e; split at e <;> simp at e
  | tv id ver p => rcases res_tv_cases _ id ver p with e' | ⟨_, _, _, e'⟩ <;> rw [e'] at e <;> simp at e
  | ad id ver p => rcases res_ad_cases _ id ver p with e' | ⟨_, _, _, e'⟩ <;> rw [e'] at e <;> simp at e
  | elt id ver p i q => rcases res_elt_cases _ id ver p i q with e' | ⟨_, _, _, e'⟩ <;> rw [e'] at e <;> simp at e
  | lease id s u t x => rcases res_lease_cases _ id s u t x with e' | ⟨_, e'⟩ <;> rw [e'] at e <;> simp at e
  | _ => simp [res] at e
theorem res_iter {v : AVal} {id : Nat} {s : ByteArray} {pos : Nat} (e : res h v = .iter id s pos) : v = .iter id ∧ hget h id = .iter s pos := by
  cases v with
  | iter id' =>
    simp only [res] at e
    cases ho : hget h id' with
    | iter s' p' => rw [ho] at e; simp only [RVal.iter.injEq] at e; obtain ⟨rfl, rfl, rfl⟩ := e; exact ⟨rfl, ho⟩
    | row v' t' l' => rw [ho] at e; simp at e
    | frow v' t' l' => rw [ho] at e; simp at e
    | none => rw [ho] at e; simp at e
    | fbox t' x' => rw [ho] at e; simp at e
    | vt v0 τ0 x0 => rw [ho] at e; simp at e
    | box t' x' => rw [ho] at e; simp at e
  | ptr id p => simp only [res] at e; split at e <;> simp at e
  | osl id ver => simp only [res] at e; split at e <;> (try (cases hc : (ver == ‹Nat›) <;> simp [hc] at e)) <;> simp at e
  | eptr id v i p => simp only [res] at e; split at e <;> (try (cases hc : (v == ‹Nat›) <;> simp [hc] at e)) <;> simp at e
  | tv id ver p => rcases res_tv_cases _ id ver p with e' | ⟨_, _, _, e'⟩ <;> rw [e'] at e <;> simp at e
  | ad id ver p => rcases res_ad_cases _ id ver p with e' | ⟨_, _, _, e'⟩ <;> rw [e'] at e <;> simp at e
  | elt id ver p i q => rcases res_elt_cases _ id ver p i q with e' | ⟨_, _, _, e'⟩ <;> rw [e'] at e <;> simp at e
  | lease id s u t x => rcases res_lease_cases _ id s u t x with e' | ⟨_, e'⟩ <;> rw [e'] at e <;> simp at e
  | _ => simp [res] at e
theorem res_fbox {v : AVal} {val : Value} {t : Ty} {x : t.C} (hv : VRel w ρ h ok v val) (e : res h v = .fbox t x []) : FbRel w ok t x val := by
  cases v with
  | ptr id' p' =>
    obtain ⟨hl, hp⟩ := hv
    simp only [res] at e
    cases ho : hget h id' with
    | fbox t' x' =>
      rw [ho] at e hp; simp only [RVal.fbox.injEq] at e
      obtain ⟨rfl, e, rfl⟩ := e
      obtain rfl := eq_of_heq e
      exact hp rfl
    | row v' t' l' => rw [ho] at e; simp at e
    | frow v' t' l' => rw [ho] at e; simp at e
    | none => rw [ho] at e; simp at e
    | vt v0 τ0 x0 => rw [ho] at e; simp at e
    | box t' x' => rw [ho] at e; simp at e
    | iter s p => rw [ho] at e; simp at e
  | osl id ver => simp only [res] at e; split at e <;> (try (cases hc : (ver == ‹Nat›) <;> simp [hc] at e)) <;> simp at e
  | eptr id v i p => simp only [res] at e; split at e <;> (try (cases hc : (v == ‹Nat›) <;> simp [hc] at e)) <;> simp at e
  | iter id => simp only [res] at e; split at e <;> simp at e
  | tv id ver p => rcases res_tv_cases _ id ver p with e' | ⟨_, _, _, e'⟩ <;> rw [e'] at e <;> simp at e
  | ad id ver p => rcases res_ad_cases _ id ver p with e' | ⟨_, _, _, e'⟩ <;> rw [e'] at e <;> simp at e
  | elt id ver p i q => rcases res_elt_cases _ id ver p i q with e' | ⟨_, _, _, e'⟩ <;> rw [e'] at e <;> simp at e
  | lease id s u t x => rcases res_lease_cases _ id s u t x with e' | ⟨_, e'⟩ <;> rw [e'] at e <;> simp at e
  | _ => simp [res] at e
theorem res_lease {v : AVal} {val : Value} {id : Nat} {g : Lg} {t : Ty} {x : t.C} (hv : VRel w ρ h ok v val) (e : res h v = .lease id g t x) : ∃ s u, v = .lease id s u t x ∧ (hget h id).isVt = true ∧ DVal w (fun b => ok b ∨ b ∈ (ρ id).bs) t x val ∧ ∃ ver, hget h id = .vt ver g.τ g.y ∧ PlAt w (ρ id) g.p g.τ val := by
  cases v with
  | lease id' s u t' x' =>
    obtain ⟨hl, hp⟩ := hv
    simp only [res] at e
    cases ho : hget h id' with
    | vt v0 τ0 x0 =>
      rw [ho] at e hp; simp only at e
      cases hc : (s.s == v0.s && u == v0.w) with
      | false => rw [hc] at e; simp at e
      | true =>
        rw [hc] at e
        simp only [cond_true, RVal.lease.injEq] at e
        obtain ⟨rfl, rfl, rfl, e⟩ := e
        obtain rfl := eq_of_heq e
        simp only [Bool.and_eq_true, beq_iff_eq] at hc
        exact ⟨s, u, rfl, by rw [ho]; rfl, (hp.2.2 hc).1, v0, ho, (hp.2.2 hc).2⟩
    | _ => rw [ho] at e; simp at e
  | ptr id p => simp only [res] at e; split at e <;> simp at e
  | osl id ver => simp only [res] at e; split at e <;> (try (cases hc : (ver == ‹Nat›) <;> simp [hc] at e)) <;> simp at e
  | eptr id v i p => simp only [res] at e; split at e <;> (try (cases hc : (v == ‹Nat›) <;> simp [hc] at e)) <;> simp at e
  | iter id => simp only [res] at e; split at e <;> simp at e
  | tv id ver p => rcases res_tv_cases _ id ver p with e' | ⟨_, _, _, e'⟩ <;> rw [e'] at e <;> simp at e
  | ad id ver p => rcases res_ad_cases _ id ver p with e' | ⟨_, _, _, e'⟩ <;> rw [e'] at e <;> simp at e
  | elt id ver p i q => rcases res_elt_cases _ id ver p i q with e' | ⟨_, _, _, e'⟩ <;> rw [e'] at e <;> simp at e
  | _ => simp [res] at e
theorem res_rptr {v : AVal} {val : Value} {t : Ty} {x : t.C} (hv : VRel w ρ h ok v val) (e : res h v = .rptr t x) : v = .rptr t x ∧ RpRel w (liveOf w ρ h) ok t x val := by
  cases v with
  | rptr t' x' => simp only [res, RVal.rptr.injEq] at e; obtain ⟨rfl, e⟩ := e; obtain rfl := eq_of_heq e; exact ⟨rfl, hv⟩
  | ptr id p => simp only [res] at e; split at e <;> simp at e
  | osl id ver => simp only [res] at e; split at e <;> (try (cases hc : (ver == ‹Nat›) <;> simp [hc] at e)) <;> simp at e
  | eptr id v i p => simp only [res] at e; split at e <;> (try (cases hc : (v == ‹Nat›) <;> simp [hc] at e)) <;> simp at e
  | iter id => simp only [res] at e; split at e <;> simp at e
  | tv id ver p => rcases res_tv_cases _ id ver p with e' | ⟨_, _, _, e'⟩ <;> rw [e'] at e <;> simp at e
  | ad id ver p => rcases res_ad_cases _ id ver p with e' | ⟨_, _, _, e'⟩ <;> rw [e'] at e <;> simp at e
  | elt id ver p i q => rcases res_elt_cases _ id ver p i q with e' | ⟨_, _, _, e'⟩ <;> rw [e'] at e <;> simp at e
  | lease id s u t x => rcases res_lease_cases _ id s u t x with e' | ⟨_, e'⟩ <;> rw [e'] at e <;> simp at e
  | _ => simp [res] at e
theorem res_nils {v : AVal} (e : res h v = .nils) : v = .nils := by
  cases v with
  | nils => rfl
  | ptr id p => simp only [res] at e; split at e <;> simp at e
  | osl id ver => simp only [res] at e; split at e <;> (try (cases hc : (ver == ‹Nat›) <;> simp [hc] at e)) <;> simp at e
  | eptr id v i p => simp only [res] at e; split at e <;> (try (cases hc : (v == ‹Nat›) <;> simp [hc] at e)) <;> simp at e
  | iter id => simp only [res] at e; split at e <;> simp at e
  | tv id ver p => rcases res_tv_cases _ id ver p with e' | ⟨_, _, _, e'⟩ <;> rw [e'] at e <;> simp at e
  | ad id ver p => rcases res_ad_cases _ id ver p with e' | ⟨_, _, _, e'⟩ <;> rw [e'] at e <;> simp at e
  | elt id ver p i q => rcases res_elt_cases _ id ver p i q with e' | ⟨_, _, _, e'⟩ <;> rw [e'] at e <;> simp at e
  | lease id s u t x => rcases res_lease_cases _ id s u t x with e' | ⟨_, e'⟩ <;> rw [e'] at e <;> simp at e
  | _ => simp [res] at e
theorem res_fn {v : AVal} {f : FuncId} {c : RVal} (e : res h v = .fn f c) : ∃ c', v = .fn f c' ∧ c = res h c' := by
  cases v with
  | fn f' c' => simp only [res, RVal.fn.injEq] at e; obtain ⟨rfl, rfl⟩ := e; exact ⟨c', rfl, rfl⟩
  | ptr id p => simp only [res] at e; split at e <;> simp at e
  | osl id ver => simp only [res] at e; split at e <;> (try (cases hc : (ver == ‹Nat›) <;> simp [hc] at e)) <;> simp at e
  | eptr id v i p => simp only [res] at e; split at e <;> (try (cases hc : (v == ‹Nat›) <;> simp [hc] at e)) <;> simp at e
  | iter id => simp only [res] at e; split at e <;> simp at e
  | tv id ver p => rcases res_tv_cases _ id ver p with e' | ⟨_, _, _, e'⟩ <;> rw [e'] at e <;> simp at e
  | ad id ver p => rcases res_ad_cases _ id ver p with e' | ⟨_, _, _, e'⟩ <;> rw [e'] at e <;> simp at e
  | elt id ver p i q => rcases res_elt_cases _ id ver p i q with e' | ⟨_, _, _, e'⟩ <;> rw [e'] at e <;> simp at e
  | lease id s u t x => rcases res_lease_cases _ id s u t x with e' | ⟨_, e'⟩ <;> rw [e'] at e <;> simp at e
  | _ => simp [res] at e
/-! ## 2. Codes that are one -/
theorem sameK_inv {R : Type} {a b : Ty} {K : Option R} {r : R} (h : sameK a b K = some r) : a = b ∧ K = some r := by
  unfold sameK at h
  split at h
  · rename_i x hx; exact ⟨x.down, h⟩
  · simp at h
theorem roomK_inv {R : Type} {n m : Nat} {K : Option R} {r : R} (hk : roomK n m K = some r) : n ≤ m ∧ K = some r := by
  unfold roomK at hk; split at hk
  · exact ⟨‹_›, hk⟩
  · simp at hk
theorem castK_inv {R : Type} {a b : Ty} {x : a.C} {K : b.C → Option R} {r : R} (h : castK a b x K = some r) : ∃ e : a = b, K (e ▸ x) = some r := by
  unfold castK at h
  split at h
  · rename_i e _; exact ⟨e, h⟩
  · simp at h
theorem castT_inv {R : Type} {a b : TT} {x : a.C} {K : b.C → Option R} {r : R} (h : castT a b x K = some r) : ∃ e : a = b, K (e ▸ x) = some r := by
  unfold castT at h
  split at h
  · rename_i e _; exact ⟨e, h⟩
  · simp at h
/-! ## 3. Fields -/
theorem compK_inv {R : Type} : ∀ {t : Ty} {x : t.C} {f : Nat} {K : (t' : Ty) → t'.C → Option R} {r : R}, Ty.compK t x f K = some r →
    ∃ t' y off, K t' y = some r ∧ Ty.compOff t f = some (off, t') ∧ ∀ {w : World} {ok : Nat → Prop} {cs : List Value}, Cells w ok t x cs → ∃ c1 c2 c3, cs = c1 ++ (c2 ++ c3) ∧ c1.length = off ∧ Cells w ok t' y c2
  | .pair a b, x, 0, K, r, h => ⟨a, x.1, 0, h, rfl, fun ⟨c1, c2, e, h1, h2⟩ => ⟨[], c1, c2, by simpa using e, rfl, h1⟩⟩
  | .pair a b, x, n + 1, K, r, h => by
    obtain ⟨t', y, off, hk, ho, hc⟩ := compK_inv (t := b) (x := x.2) (f := n) h
    refine ⟨t', y, a.width + off, hk, by simp [Ty.compOff, ho], fun {w ok cs} ⟨c1, c2, e, h1, h2⟩ => ?_⟩
    obtain ⟨d1, d2, d3, e', hl, hd⟩ := hc h2
    exact ⟨c1 ++ d1, d2, d3, by subst e e'; simp, by simp [hl, Cells.length _ _ _ h1], hd⟩
  | .unit, _, _, _, _, h => by simp [Ty.compK] at h
  | .int _, _, _, _, _, h => by simp [Ty.compK] at h
  | .bool, _, _, _, _, h => by simp [Ty.compK] at h
  | .err, _, _, _, _, h => by simp [Ty.compK] at h
  | .str, _, _, _, _, h => by simp [Ty.compK] at h
  | .list _, _, _, _, _, h => by simp [Ty.compK] at h
  | .agg _, _, _, _, _, h => by simp [Ty.compK] at h
  | .arr _ _, _, _, _, _, h => by simp [Ty.compK] at h
theorem ChainOk.comp {P : Program} : ∀ {t : Ty} {base f off : Nat} {t' : Ty} {fs : List Field}, ChainOk P t base fs → Ty.compOff t f = some (off, t') →
    ∃ fd, fs[f]? = some fd ∧ fd.offset = base + off ∧ TyOk P t' fd.type
  | .pair a b, base, 0, off, t', fd :: fs, h, e => by
    simp only [Ty.compOff, Option.some.injEq, Prod.mk.injEq] at e
    obtain ⟨rfl, rfl⟩ := e
    exact ⟨fd, rfl, by simpa using h.1, h.2.1⟩
  | .pair a b, base, n + 1, off, t', fd :: fs, h, e => by
    simp only [Ty.compOff] at e
    split at e
    · rename_i o u ho
      simp only [Option.some.injEq, Prod.mk.injEq] at e
      obtain ⟨rfl, rfl⟩ := e
      obtain ⟨fd', h1, h2, h3⟩ := ChainOk.comp h.2.2 ho
      exact ⟨fd', by simpa using h1, by omega, h3⟩
    · simp at e
  | .pair a b, _, _, _, _, [], h, _ => by simp [ChainOk] at h
  | .unit, _, _, _, _, _, _, e => by simp [Ty.compOff] at e
  | .int _, _, _, _, _, _, _, e => by simp [Ty.compOff] at e
  | .bool, _, _, _, _, _, _, e => by simp [Ty.compOff] at e
  | .err, _, _, _, _, _, _, e => by simp [Ty.compOff] at e
  | .str, _, _, _, _, _, _, e => by simp [Ty.compOff] at e
  | .list _, _, _, _, _, _, _, e => by simp [Ty.compOff] at e
  | .agg _, _, _, _, _, _, _, e => by simp [Ty.compOff] at e
  | .arr _ _, _, _, _, _, _, _, e => by simp [Ty.compOff] at e
theorem getK_inv {R : Type} : ∀ {p : List Nat} {t : Ty} {x : t.C} {K : (t' : Ty) → t'.C → Option R} {r : R}, Ty.getK p t x K = some r →
    ∃ t' y off, K t' y = some r ∧ Ty.pathOff p t = some (off, t') ∧ ∀ {w : World} {ok : Nat → Prop} {cs : List Value}, Cells w ok t x cs → ∃ c1 c2 c3, cs = c1 ++ (c2 ++ c3) ∧ c1.length = off ∧ Cells w ok t' y c2
  | [], t, x, K, r, h => ⟨t, x, 0, h, rfl, fun {w ok cs} hc => ⟨[], cs, [], by simp, rfl, hc⟩⟩
  | f :: p, .agg t, x, K, r, h => by
    obtain ⟨t', y, off, hk, ho, hc⟩ := compK_inv (t := t) (x := x) h
    obtain ⟨t'', y', off', hk', ho', hc'⟩ := getK_inv hk
    refine ⟨t'', y', off + off', hk', by simp [Ty.pathOff, ho, ho'], fun {w ok cs} hcs => ?_⟩
    obtain ⟨c1, c2, c3, e, hl, h2⟩ := hc hcs
    obtain ⟨d1, d2, d3, e', hl', h2'⟩ := hc' h2
    exact ⟨c1 ++ d1, d2, d3 ++ c3, by subst e e'; simp, by simp [hl, hl'], h2'⟩
  | f :: p, .arr n t, x, K, r, h => by
    obtain ⟨hlt, h⟩ := roomK_inv h
    obtain ⟨t'', y', off', hk', ho', hc'⟩ := getK_inv h
    refine ⟨t'', y', f * t.width + off', hk', by simp [Ty.pathOff, ho', show f < n by omega], fun {w ok cs} hcs => ?_⟩
    obtain ⟨c1, c, c3, e, hl, hc, _⟩ := RowC.set (fun x cs => Cells.length t x cs) t.zero x cs f hcs.2 (by rw [hcs.1]; omega)
    obtain ⟨d1, d2, d3, e', hl', h2'⟩ := hc' hc
    exact ⟨c1 ++ d1, d2, d3 ++ c3, by subst e e'; simp, by simp [hl, hl'], h2'⟩
  | _ :: _, .err, _, _, _, h => by simp [Ty.getK] at h
  | _ :: _, .unit, _, _, _, h => by simp [Ty.getK] at h
  | _ :: _, .int _, _, _, _, h => by simp [Ty.getK] at h
  | _ :: _, .bool, _, _, _, h => by simp [Ty.getK] at h
  | _ :: _, .str, _, _, _, h => by simp [Ty.getK] at h
  | _ :: _, .list _, _, _, _, h => by simp [Ty.getK] at h
  | _ :: _, .pair _ _, _, _, _, h => by simp [Ty.getK] at h
theorem pathOff_snoc : ∀ {p : List Nat} {t u : Ty} {off f o' : Nat} {t' : Ty}, Ty.pathOff p t = some (off, .agg u) → Ty.compOff u f = some (o', t') → Ty.pathOff (p ++ [f]) t = some (off + o', t')
  | [], t, u, off, f, o', t', h, h' => by
    simp only [Ty.pathOff, Option.some.injEq, Prod.mk.injEq] at h
    obtain ⟨rfl, rfl⟩ := h
    simp [Ty.pathOff, h']
  | g :: p, .agg t, u, off, f, o', t', h, h' => by
    simp only [Ty.pathOff] at h
    split at h
    · rename_i o t1 ho
      split at h
      · rename_i o2 t2 ho2
        simp only [Option.some.injEq, Prod.mk.injEq] at h
        obtain ⟨rfl, rfl⟩ := h
        simp [Ty.pathOff, ho, pathOff_snoc ho2 h', Nat.add_assoc]
      · simp at h
    · simp at h
  | g :: p, .arr n t, u, off, f, o', t', h, h' => by
    simp only [Ty.pathOff] at h
    split at h
    · rename_i hlt
      split at h
      · rename_i o2 t2 ho2
        simp only [Option.some.injEq, Prod.mk.injEq] at h
        obtain ⟨rfl, rfl⟩ := h
        simp [Ty.pathOff, pathOff_snoc ho2 h', Nat.add_assoc, hlt]
      · simp at h
    · simp at h
  | _ :: _, .err, _, _, _, _, _, h, _ => by simp [Ty.pathOff] at h
  | _ :: _, .unit, _, _, _, _, _, h, _ => by simp [Ty.pathOff] at h
  | _ :: _, .int _, _, _, _, _, _, h, _ => by simp [Ty.pathOff] at h
  | _ :: _, .bool, _, _, _, _, _, h, _ => by simp [Ty.pathOff] at h
  | _ :: _, .str, _, _, _, _, _, h, _ => by simp [Ty.pathOff] at h
  | _ :: _, .list _, _, _, _, _, _, h, _ => by simp [Ty.pathOff] at h
  | _ :: _, .pair _ _, _, _, _, _, _, h, _ => by simp [Ty.pathOff] at h
end
/-! ## 4. Rows of cells that are read -/
theorem run_loadVar {P : Program} {w : World} {ok : Nat → Prop} {ty : TypeId} {t : Ty} {x : t.C} {cs : List Value} (ht : TyOk P t ty) (b o : Nat) (hc : Cells w ok t x cs)
    (hcell : ∀ j u, cs[j]? = some u → w.cell? ⟨b, o + j, none⟩ = some u) : ∃ val, (loadVar ty ⟨b, o, none⟩).run P w = .ok val w ∧ DVal w ok t x val := by
  have hadd : ∀ j u, cs[j]? = some u → w.cell? ((⟨b, o, none⟩ : Addr).add j) = some u := fun j u hj => by
    have := hcell j u hj
    unfold Addr.add
    split
    · rename_i h0; subst h0; simpa using this
    · exact this
  obtain ⟨h1, h2⟩ := dval_of_cells hc ht.isVal
  cases ha : t.isAgg with
  | true =>
    refine ⟨.agg cs.toArray, ?_, h1 ha⟩
    have hl := run_loadCells_list (P := P) (w := w) ⟨b, o, none⟩ cs hadd
    have hlen := Cells.length t x cs hc
    simp [loadVar, ht.run_isAgg, ha, ht.run_sizeOf, ← hlen, hl]
  | false =>
    obtain ⟨v, rfl, hd⟩ := h2 ha
    refine ⟨v, ?_, hd⟩
    have := hadd 0 v rfl
    simp [Addr.add] at this
    simp [loadVar, ht.run_isAgg, ha, Go.load, Sem.run, this]
theorem run_part {P : Program} {w : World} {ok : Nat → Prop} {ty : TypeId} {t : Ty} {x : t.C} (ht : TyOk P t ty) (cs : Array Value) (c1 c2 c3 : List Value) (e : cs.toList = c1 ++ (c2 ++ c3)) (hc : Cells w ok t x c2) :
    ∃ val, (part ty cs c1.length).run P w = .ok val w ∧ DVal w ok t x val := by
  obtain ⟨h1, h2⟩ := dval_of_cells hc ht.isVal
  have hlen := Cells.length t x c2 hc
  cases ha : t.isAgg with
  | true =>
    refine ⟨.agg c2.toArray, ?_, h1 ha⟩
    have : cs.extract c1.length (c1.length + t.width) = c2.toArray := by
      rw [← hlen]
      apply Array.toList_inj.1
      simp [Array.toList_extract, e]
    simp [part, ht.run_isAgg, ha, ht.run_sizeOf, this]
  | false =>
    obtain ⟨v, rfl, hd⟩ := h2 ha
    refine ⟨v, ?_, hd⟩
    have : cs[c1.length]? = some v := by rw [← Array.getElem?_toList, e]; simp
    simp [part, ht.run_isAgg, ha, this]
end Go.PB
namespace Go.PB
open Go Go.RowKit
section
variable {P : Program} {w : World} {ok : Nat → Prop}
theorem fieldsOf_eq {ty : TypeId} {fs : Array Field} (h : P.underlying ty = some (.struct fs)) : P.fieldsOf ty = fs := by unfold Program.fieldsOf; rw [h]
mutual
theorem equalIn_sound : ∀ {t : Ty} {ty : TypeId} {x y : t.C} {v u : Value} {d : Nat}, TyOk P t ty → t.plainEq = true → t.deep < d → DVal w ok t x v → DVal w ok t y u → (Op.equalIn d ty v u).run P w = .ok (t.eqD x y) w
  | .int k, ty, x, y, v, u, 0, _, _, hd, _, _ => by omega
  | .int k, ty, x, y, v, u, d + 1, ht, _, _, hv, hu => by
    rw [hv.int_inv, hu.int_inv, run_equalIn_int w d ty k k x y ht.2]
    simp only [Ty.eqD]
    congr 1
  | .bool, ty, x, y, v, u, 0, _, _, hd, _, _ => by omega
  | .bool, ty, x, y, v, u, d + 1, ht, _, _, hv, hu => by rw [hv.bool_inv, hu.bool_inv, run_equalIn_bool' w d ty x y ht.2]; rfl
  | .str, ty, x, y, v, u, 0, _, _, hd, _, _ => by omega
  | .str, ty, x, y, v, u, d + 1, ht, _, _, hv, hu => by rw [hv.str_inv, hu.str_inv, run_equalIn_string w d ty x y ht.2]; rfl
  | .list _, _, _, _, _, _, _, _, hp, _, _, _ => by simp [Ty.plainEq] at hp
  | .err, _, _, _, _, _, _, _, hp, _, _, _ => by simp [Ty.plainEq] at hp
  | .unit, _, _, _, _, _, _, ht, _, _, _, _ => ht.elim
  | .pair _ _, _, _, _, _, _, _, ht, _, _, _, _ => ht.elim
  | .agg t, ty, x, y, v, u, 0, _, _, hd, _, _ => by omega
  | .agg t, ty, x, y, v, u, d + 1, ht, hp, hd, hv, hu => by
    obtain ⟨cs, e1, h1⟩ := hv.agg_inv
    obtain ⟨ds, e2, h2⟩ := hu.agg_inv
    obtain ⟨hi, fs, hf, hch⟩ := ht
    obtain ⟨_, _, _, _, _, _, _, _, _, hq⟩ := hi
    obtain ⟨q1, q2, q3⟩ := hq rfl
    have ef := fieldsOf_eq hf
    subst e1; subst e2
    rw [run_equalIn_struct w d ty cs ds (by rw [ef]; exact hf) q1, ef]
    rw [ef] at q3
    exact eqFields_sound (t := t) hch (by simpa [Ty.plainEq] using hp) (by simp only [Ty.deep] at hd; omega) q3 [] [] cs ds (by simp) (by simp) rfl rfl x y h1 h2
theorem eqFields_sound : ∀ {t : Ty} {base : Nat} {fs : List Field} {d : Nat}, ChainOk P t base fs → t.plainEq = true → t.deep < d → fs.all (fun f => !(f.name == "_")) = true →
    ∀ (c1 d1 : List Value) (cs ds : Array Value) {c2 d2 : List Value}, cs.toList = c1 ++ c2 → ds.toList = d1 ++ d2 → c1.length = base → d1.length = base → ∀ (x y : t.C), Cells w ok t x c2 → Cells w ok t y d2 →
      (Op.eqFields d cs ds fs).run P w = .ok (t.eqD x y) w
  | .unit, base, [], d, _, _, _, _, c1, d1, cs, ds, c2, d2, _, _, _, _, x, y, _, _ => by simp [Op.eqFields, Ty.eqD]
  | .pair a b, base, f :: fs, d, hch, hp, hd, hn, c1, d1, cs, ds, c2, d2, e1, e2, l1, l2, x, y, ⟨p1, p2, ep, hp1, hp2⟩, ⟨q1, q2, eq, hq1, hq2⟩ => by
    obtain ⟨ho, ha, hb⟩ := hch
    simp only [Ty.plainEq, Bool.and_eq_true] at hp
    simp only [Ty.deep] at hd
    simp only [List.all_cons, Bool.and_eq_true] at hn
    have hname : f.name ≠ "_" := by have := hn.1; simpa using this
    obtain ⟨va, hra, hva⟩ := run_part ha cs c1 p1 p2 (by rw [e1, ep]) hp1
    obtain ⟨vb, hrb, hvb⟩ := run_part ha ds d1 q1 q2 (by rw [e2, eq]) hq1
    rw [l1, ← ho] at hra
    rw [l2, ← ho] at hrb
    have he := equalIn_sound (d := d) ha hp.1 (by omega) hva hvb
    have rest := eqFields_sound (d := d) hb hp.2 (by omega) hn.2 (c1 ++ p1) (d1 ++ q1) cs ds (c2 := p2) (d2 := q2) (by rw [e1, ep]; simp) (by rw [e2, eq]; simp)
      (by rw [List.length_append, l1, Cells.length a x.1 p1 hp1]) (by rw [List.length_append, l2, Cells.length a y.1 q1 hq1]) x.2 y.2 hp2 hq2
    simp only [Op.eqFields, if_pos hname, Sem.run_bind, hra, hrb, he, Result.andThen_ok, Ty.eqD]
    cases a.eqD x.1 y.1 with
    | true => simpa using rest
    | false => simp
  | .pair _ _, _, [], _, hch, _, _, _, _, _, _, _, _, _, _, _, _, _, _, _, _, _ => hch.elim
  | .unit, _, _ :: _, _, hch, _, _, _, _, _, _, _, _, _, _, _, _, _, _, _, _, _ => hch.elim
  | .int _, _, _, _, hch, _, _, _, _, _, _, _, _, _, _, _, _, _, _, _, _, _ => hch.elim
  | .bool, _, _, _, hch, _, _, _, _, _, _, _, _, _, _, _, _, _, _, _, _, _ => hch.elim
  | .err, _, _, _, hch, _, _, _, _, _, _, _, _, _, _, _, _, _, _, _, _, _ => hch.elim
  | .str, _, _, _, hch, _, _, _, _, _, _, _, _, _, _, _, _, _, _, _, _, _ => hch.elim
  | .list _, _, _, _, hch, _, _, _, _, _, _, _, _, _, _, _, _, _, _, _, _, _ => hch.elim
  | .agg _, _, _, _, hch, _, _, _, _, _, _, _, _, _, _, _, _, _, _, _, _, _ => hch.elim
end
end
end Go.PB
namespace Go.PB
open Go Go.RowKit
section
variable {F : Fr} {P : Program} {w : World} {ρ : Nat → Loc} {h : List AObj} {ok : Nat → Prop} {R : Type}
theorem addr_add (b o n : Nat) : (⟨b, o, none⟩ : Addr).add n = ⟨b, o + n, none⟩ := by
  unfold Addr.add; split
  · rename_i h; subst h; rfl
  · rfl
theorem rangeK_inv {i n : Int} {K : Option R} {r : R} (hk : rangeK i n K = some r) : (0 ≤ i ∧ i < n) ∧ K = some r := by
  unfold rangeK at hk; split at hk
  · exact ⟨‹_›, hk⟩
  · simp at hk
theorem cutK_inv {l m n : Int} {K : Option R} {r : R} (hk : cutK l m n K = some r) : (0 ≤ l ∧ l ≤ m ∧ m ≤ n) ∧ K = some r := by
  unfold cutK at hk; split at hk
  · exact ⟨‹_›, hk⟩
  · simp at hk
theorem nzK_inv {y : Int} {K : Option R} {r : R} (hk : nzK y K = some r) : y ≠ 0 ∧ K = some r := by
  unfold nzK at hk; split at hk
  · simp at hk
  · exact ⟨‹_›, hk⟩
theorem posK_inv {y : Int} {K : Option R} {r : R} (hk : posK y K = some r) : ¬ y < 0 ∧ K = some r := by
  unfold posK at hk; split at hk
  · simp at hk
  · exact ⟨‹_›, hk⟩
def Yield (P : Program) (w : World) (ρ : Nat → Loc) (h : List AObj) (ok : Nat → Prop) {R : Type} (K : Out → Option R) (r : R) (s : Sem Value) : Prop :=
  ∃ v val, K (.q v) = some r ∧ VRel w ρ h ok v val ∧ s.run P w = .ok val w
theorem binInt_yield {op : BinOp} {k : IntKind} {x y : Int} {K : Out → Option R} {r : R} (hop : op ≠ .shl ∧ op ≠ .shr) (hk : binInt op k x y K = some r) (ty : TypeId) :
    Yield P w ρ h ok K r (binOp op ty (.int k x) (.int k y)) := by
  cases op with
  | add => exact ⟨_, _, hk, dval_int _ _ _ _, by simp [binOp, Op.intArith]⟩
  | sub => exact ⟨_, _, hk, dval_int _ _ _ _, by simp [binOp, Op.intArith]⟩
  | mul => exact ⟨_, _, hk, dval_int _ _ _ _, by simp [binOp, Op.intArith]⟩
  | quo =>
    obtain ⟨hy, hk⟩ := nzK_inv hk
    exact ⟨_, _, hk, dval_int _ _ _ _, by simp [binOp, Op.intDiv, hy]⟩
  | rem =>
    obtain ⟨hy, hk⟩ := nzK_inv hk
    exact ⟨_, _, hk, dval_int _ _ _ _, by simp [binOp, Op.intDiv, hy]⟩
  | and => exact ⟨_, _, hk, dval_int _ _ _ _, by simp [binOp, Op.intBits]⟩
  | or => exact ⟨_, _, hk, dval_int _ _ _ _, by simp [binOp, Op.intBits]⟩
  | xor => exact ⟨_, _, hk, dval_int _ _ _ _, by simp [binOp, Op.intBits]⟩
  | andNot => exact ⟨_, _, hk, dval_int _ _ _ _, by simp [binOp, Op.intBits]⟩
  | shl => exact absurd rfl hop.1
  | shr => exact absurd rfl hop.2
  | eql => exact ⟨_, _, hk, dval_bool _ _ _, by simp [binOp, Op.intCmp]⟩
  | neq => exact ⟨_, _, hk, dval_bool _ _ _, by simp [binOp, Op.intCmp]⟩
  | lss => exact ⟨_, _, hk, dval_bool _ _ _, by simp [binOp, Op.intCmp]⟩
  | leq => exact ⟨_, _, hk, dval_bool _ _ _, by simp [binOp, Op.intCmp]⟩
  | gtr => exact ⟨_, _, hk, dval_bool _ _ _, by simp [binOp, Op.intCmp]⟩
  | geq => exact ⟨_, _, hk, dval_bool _ _ _, by simp [binOp, Op.intCmp]⟩
theorem binShift_yield {op : BinOp} {k k' : IntKind} {x y : Int} {K : Out → Option R} {r : R} (hk : binShift op k x y K = some r) (ty : TypeId) :
    Yield P w ρ h ok K r (binOp op ty (.int k x) (.int k' y)) := by
  cases op <;> simp only [binShift] at hk <;> try (simp at hk; done)
  · obtain ⟨hy, hk⟩ := posK_inv hk
    exact ⟨_, _, hk, dval_int _ _ _ _, by simp [binOp, Op.shift, hy]⟩
  · obtain ⟨hy, hk⟩ := posK_inv hk
    exact ⟨_, _, hk, dval_int _ _ _ _, by simp [binOp, Op.shift, hy]⟩
theorem binStr_yield {op : BinOp} {x y : ByteArray} {K : Out → Option R} {r : R} (hk : binStr op x y K = some r) (ty : TypeId) :
    Yield P w ρ h ok K r (binOp op ty (.string x) (.string y)) := by
  cases op <;> simp only [binStr] at hk <;> try (simp at hk; done)
  · obtain ⟨hy, hk⟩ := roomK_inv hk
    refine ⟨_, _, hk, dval_str _ _ _, ?_⟩
    have hmax : IntKind.i64.max = 9223372036854775807 := rfl
    have hn : ¬ ((x.size + y.size : Nat) : Int) > IntKind.i64.max := by rw [hmax]; omega
    simp only [binOp, Op.stringOp, hn, if_false]
    rfl
  · exact ⟨_, _, hk, dval_bool _ _ _, by simp [binOp, Op.stringOp]⟩
  · exact ⟨_, _, hk, dval_bool _ _ _, by simp [binOp, Op.stringOp]⟩
  · exact ⟨_, _, hk, dval_bool _ _ _, by simp [binOp, Op.stringOp]⟩
  · exact ⟨_, _, hk, dval_bool _ _ _, by simp [binOp, Op.stringOp]⟩
  · exact ⟨_, _, hk, dval_bool _ _ _, by simp [binOp, Op.stringOp]⟩
  · exact ⟨_, _, hk, dval_bool _ _ _, by simp [binOp, Op.stringOp]⟩
theorem eqGuard_plain (op : BinOp) (ty : TypeId) (x y : Operand) (a b : Value) (ha : a ≠ .nilIface) (ha' : ¬ ∃ c, a = .agg c) : (eqGuard op ty x y a b).run P w = .ok () w := by
  unfold eqGuard
  cases a <;> first | exact absurd rfl ha | exact absurd ⟨_, rfl⟩ ha' | (simp; done) | (simp; split <;> rfl)
theorem equal_bool {ty : TypeId} (hty : P.underlying ty = some .bool) (a b : Bool) : (Op.equal ty (.bool a) (.bool b)).run P w = .ok (a == b) w := by
  unfold Op.equal
  rw [show Op.maxDepth = 9999 + 1 from rfl, Op.equalIn]
  simp [Go.underlying, hty]
theorem cond_none_inv {α : Type} {c : Bool} {a : Option α} {r : α} (h : cond c a none = some r) : c = true ∧ a = some r := by cases c <;> simp_all
theorem DVal.err_inv {ok : Nat → Prop} {b : Bool} {v : Value} (h : DVal w ok .err b v) : (b = true ∧ v = .nilIface) ∨ (b = false ∧ ∃ d z, v = .iface d z) := by
  have := h.one rfl
  simpa [Cells] using this
theorem eqGuard_err {op : BinOp} {ty : TypeId} {ox oy : Operand} {x y : Value} {a b : Bool} {ok : Nat → Prop} (hc : (isC ox || isC oy) = true) (_h : (a || b) = true) (hx : DVal w ok .err a x) (hy : DVal w ok .err b y) :
    (eqGuard op ty ox oy x y).run P w = .ok () w := by
  rcases hx.err_inv with ⟨_, rfl⟩ | ⟨_, d, z, rfl⟩ <;> rcases hy.err_inv with ⟨_, rfl⟩ | ⟨_, d', z', rfl⟩
  · cases ox <;> cases oy <;> simp [isC] at hc <;> cases op <;> rfl
  · cases op <;> rfl
  · cases op <;> rfl
  · cases op <;> rfl
theorem equal_err {ty : TypeId} {x y : Value} {a b : Bool} {ok : Nat → Prop} (ht : ∃ ms, P.underlying ty = some (.interface ms)) (h : (a || b) = true) (hx : DVal w ok .err a x) (hy : DVal w ok .err b y) :
    (Op.equal ty x y).run P w = .ok (a && b) w := by
  obtain ⟨ms, hty⟩ := ht
  unfold Op.equal
  rw [show Op.maxDepth = 9999 + 1 from rfl, Op.equalIn]
  rcases hx.err_inv with ⟨rfl, rfl⟩ | ⟨rfl, d, z, rfl⟩ <;> rcases hy.err_inv with ⟨rfl, rfl⟩ | ⟨rfl, d', z', rfl⟩
  · simp [Go.underlying, hty]
  · simp [Go.underlying, hty]
  · simp [Go.underlying, hty]
  · simp at h
theorem binOp_eql_err {ty : TypeId} {x y : Value} {a b : Bool} {ok : Nat → Prop} (ht : ∃ ms, P.underlying ty = some (.interface ms)) (h : (a || b) = true) (hx : DVal w ok .err a x) (hy : DVal w ok .err b y) :
    (binOp .eql ty x y).run P w = .ok (.bool (a && b)) w := by
  have e : binOp .eql ty x y = (do pure (.bool (← Op.equal ty x y))) := by
    rcases hx.err_inv with ⟨_, rfl⟩ | ⟨_, d, z, rfl⟩ <;> rcases hy.err_inv with ⟨_, rfl⟩ | ⟨_, d', z', rfl⟩ <;> rfl
  rw [e]; simp [equal_err ht h hx hy]
theorem binOp_neq_err {ty : TypeId} {x y : Value} {a b : Bool} {ok : Nat → Prop} (ht : ∃ ms, P.underlying ty = some (.interface ms)) (h : (a || b) = true) (hx : DVal w ok .err a x) (hy : DVal w ok .err b y) :
    (binOp .neq ty x y).run P w = .ok (.bool (!(a && b))) w := by
  have e : binOp .neq ty x y = (do pure (.bool (!(← Op.equal ty x y)))) := by
    rcases hx.err_inv with ⟨_, rfl⟩ | ⟨_, d, z, rfl⟩ <;> rcases hy.err_inv with ⟨_, rfl⟩ | ⟨_, d', z', rfl⟩ <;> rfl
  rw [e]; simp [equal_err ht h hx hy]
theorem binK_yield {tt : Tab} (hT : TTOk P tt) {op : BinOp} {ty : TypeId} {u v : AVal} {x y : Value} {K : Out → Option R} {r : R} (ox oy : Operand) (hx : VRel w ρ h ok u x) (hy : VRel w ρ h ok v y)
    (hk : binK (tt ty) (isC ox || isC oy) op (res h u) (res h v) K = some r) : Yield P w ρ h ok K r (do eqGuard op ty ox oy x y; binOp op ty x y) := by
  unfold binK at hk
  split at hk
  · rename_i k n k' m ex ey
    obtain rfl := (res_data hx ex).int_inv
    obtain rfl := (res_data hy ey).int_inv
    have key : Yield P w ρ h ok K r (binOp op ty (.int k n) (.int k' m)) := by
      split at hk
      · exact binShift_yield hk ty
      · exact binShift_yield hk ty
      · rename_i h1 h2
        split at hk
        · rename_i hkk; subst hkk; exact binInt_yield ⟨fun e => h1 e, fun e => h2 e⟩ hk ty
        · simp at hk
    obtain ⟨v', val, h1, h2, h3⟩ := key
    exact ⟨v', val, h1, h2, by simp [eqGuard_plain, h3]⟩
  · rename_i s s' ex ey
    obtain rfl := (res_data hx ex).str_inv
    obtain rfl := (res_data hy ey).str_inv
    obtain ⟨v', val, h1, h2, h3⟩ := binStr_yield (P := P) (w := w) (ρ := ρ) (h := h) (ok := ok) hk ty
    exact ⟨v', val, h1, h2, by simp [eqGuard_plain, h3]⟩
  · rename_i s s' ex ey
    obtain rfl := (res_data hx ex).bool_inv
    obtain rfl := (res_data hy ey).bool_inv
    split at hk
    · rename_i hty
      have := (hT _ _ hty).2
      have hb : binOp .eql ty (.bool s) (.bool s') = (do pure (.bool (← Op.equal ty (.bool s) (.bool s')))) := rfl
      exact ⟨_, _, hk, dval_bool _ _ _, by simp [eqGuard_plain, hb, equal_bool this]⟩
    · rename_i hty
      have := (hT _ _ hty).2
      have hb : binOp .neq ty (.bool s) (.bool s') = (do pure (.bool (!(← Op.equal ty (.bool s) (.bool s'))))) := rfl
      exact ⟨_, _, hk, dval_bool _ _ _, by simp [eqGuard_plain, hb, equal_bool this]⟩
    · simp at hk
  · rename_i a b ex ey
    have hdx := res_data hx ex
    have hdy := res_data hy ey
    split at hk
    · rename_i hty
      obtain ⟨hc, hk⟩ := cond_none_inv hk
      simp only [Bool.and_eq_true] at hc
      exact ⟨_, _, hk, dval_bool _ _ _, by simp [eqGuard_err hc.1 hc.2 hdx hdy, binOp_eql_err (hT _ _ hty).2 hc.2 hdx hdy]⟩
    · rename_i hty
      obtain ⟨hc, hk⟩ := cond_none_inv hk
      simp only [Bool.and_eq_true] at hc
      exact ⟨_, _, hk, dval_bool _ _ _, by simp [eqGuard_err hc.1 hc.2 hdx hdy, binOp_neq_err (hT _ _ hty).2 hc.2 hdx hdy]⟩
    · simp at hk
  · rename_i t a t' b ex ey
    have hdx := res_data hx ex
    have hdy := res_data hy ey
    obtain ⟨cs, e1, _⟩ := hdx.agg_inv
    obtain ⟨ds, e2, _⟩ := hdy.agg_inv
    have main : ∀ {t0 : Ty}, tt ty = some t0 → (t0.plainEq && Nat.blt t0.deep 1000) = true → ∀ (ea : Ty.agg t = t0) (eb : Ty.agg t' = t0), P.eqGuardType P.depth ty = false ∧ (Op.equalIn 10000 ty (.agg cs) (.agg ds)).run P w = .ok (t0.eqD (ea ▸ a) (eb ▸ b)) w := by
      intro t0 hty hc ea eb
      subst ea
      have ht := hT _ _ hty
      obtain ⟨_, _, _, _, _, _, _, _, _, hq⟩ := ht.info
      simp only [Bool.and_eq_true] at hc
      have e3 : t' = t := by injection eb
      subst e3
      refine ⟨(hq rfl).2.1, ?_⟩
      rw [e1] at hdx; rw [e2] at hdy
      exact equalIn_sound ht hc.1 (by have := hc.2; simp only [Nat.blt_eq] at this; omega) hdx hdy
    subst e1; subst e2
    split at hk
    · rename_i t0 hty
      cases hc : (t0.plainEq && Nat.blt t0.deep 1000) with
      | false => rw [hc] at hk; simp at hk
      | true =>
        rw [hc] at hk
        simp only [cond_true] at hk
        obtain ⟨ea, hk1⟩ := castK_inv hk
        obtain ⟨eb, hk2⟩ := castK_inv hk1
        obtain ⟨g1, g2⟩ := main hty hc ea eb
        exact ⟨_, _, hk2, dval_bool _ _ _, by simp [run_eqGuard_agg w _ ty ox oy cs ds g1, run_eql_struct, g2]⟩
    · rename_i t0 hty
      cases hc : (t0.plainEq && Nat.blt t0.deep 1000) with
      | false => rw [hc] at hk; simp at hk
      | true =>
        rw [hc] at hk
        simp only [cond_true] at hk
        obtain ⟨ea, hk1⟩ := castK_inv hk
        obtain ⟨eb, hk2⟩ := castK_inv hk1
        obtain ⟨g1, g2⟩ := main hty hc ea eb
        exact ⟨_, _, hk2, dval_bool _ _ _, by simp [run_eqGuard_agg w _ ty ox oy cs ds g1, run_neq_struct, g2]⟩
    · simp at hk
  · simp at hk
theorem unK_yield {op : UnOp} {u : AVal} {x : Value} {K : Out → Option R} {r : R} (hx : VRel w ρ h ok u x) (hk : unK op (res h u) K = some r) : Yield P w ρ h ok K r (Op.unary op x) := by
  unfold unK at hk
  split at hk
  · rename_i k n ex
    obtain rfl := (res_data hx ex).int_inv
    exact ⟨_, _, hk, dval_int _ _ _ _, by simp [Op.unary, Op.intArith]⟩
  · rename_i k n ex
    obtain rfl := (res_data hx ex).int_inv
    exact ⟨_, _, hk, dval_int _ _ _ _, by simp [Op.unary, Op.intBits]⟩
  · rename_i b ex
    obtain rfl := (res_data hx ex).bool_inv
    exact ⟨_, _, hk, dval_bool _ _ _, by simp [Op.unary]⟩
  · simp at hk
theorem row_osl {id ver : Nat} {t : Ty} {l : List t.C} {u : AVal} {x : Value} (hx : VRel w ρ h ok u x) (e : res h u = .row id ver t l) :
    id < h.length ∧ hget h id = .row ver t l ∧ u = .osl id ver ∧ (((ρ id).bs = [] ∧ x = .slice none 0 0) ∨ ∃ b c cs T, (ρ id).bs = [b] ∧ x = .slice (some ⟨b, 0, none⟩) l.length c ∧ w.heap[b]? = some (.cells cs T (0, 0)) ∧ cs.size = c * t.width ∧ l.length ≤ c) := by
  obtain ⟨rfl, ho⟩ := res_row e
  obtain ⟨hl, hs⟩ := hx
  rw [ho] at hs
  exact ⟨hl, ho, rfl, hs.2 rfl⟩
theorem lenK_yield {tt : Tab} (hT : TTOk P tt) {ty : TypeId} {tyo : TypeId} {u : AVal} {x : Value} {K : Out → Option R} {r : R} (hobj : ∀ id, id < h.length → ORel w ρ ok id (hget h id)) (hx : VRel w ρ h ok u x)
    (hk : lenK (tt ty) (res h u) K = some r) : Yield P w ρ h ok K r (Builtin.len_ #[ty] tyo #[x]) := by
  unfold lenK at hk
  split at hk
  · rename_i s hty ex
    obtain rfl := (res_data hx ex).str_inv
    exact ⟨_, _, hk, dval_int _ _ _ _, by simp [Builtin.len_, Go.underlying, (hT _ _ hty).2, goInt]⟩
  · rename_i t1 t l hty ex
    obtain ⟨A, c, rfl, _⟩ := (res_data hx ex).list_inv
    obtain ⟨_, e, he, _⟩ := hT _ _ hty
    exact ⟨_, _, hk, dval_int _ _ _ _, by simp [Builtin.len_, Go.underlying, he, goInt]⟩
  · rename_i t1 id ver t l hty ex
    obtain ⟨hl, ho, _, hx'⟩ := row_osl hx ex
    obtain ⟨_, e, he, _⟩ := hT _ _ hty
    rcases hx' with ⟨hn, rfl⟩ | ⟨b, c, cs, T, hb, rfl, _⟩
    · have hnil := hobj id hl
      rw [ho] at hnil
      rcases hnil with ⟨_, hl0⟩ | ⟨b, _, _, _, _, hb, _⟩
      · subst hl0
        exact ⟨_, _, hk, dval_int _ _ _ _, by simp [Builtin.len_, Go.underlying, he, goInt]⟩
      · rw [hn] at hb; cases hb
    · exact ⟨_, _, hk, dval_int _ _ _ _, by simp [Builtin.len_, Go.underlying, he, goInt]⟩
  · rename_i t1 hty ex
    obtain rfl := res_nils ex
    obtain rfl : x = .slice none 0 0 := hx
    obtain ⟨_, e, he, _⟩ := hT _ _ hty
    exact ⟨_, _, hk, dval_int _ _ _ _, by simp [Builtin.len_, Go.underlying, he, goInt]⟩
  · simp at hk
theorem getD_of_lt {α : Type} (a : Array α) (i : Nat) (d : α) (h : i < a.size) : a.getD i d = a[i] := by simp [Array.getD, h]
theorem indexK_yield {tt : Tab} (hT : TTOk P tt) {ty : TypeId} {u v : AVal} {x y : Value} {K : Out → Option R} {r : R} (hx : VRel w ρ h ok u x) (hy : VRel w ρ h ok v y)
    (hk : indexK (tt ty) (res h u) (res h v) K = some r) : Yield P w ρ h ok K r (Instr.index ty x y) := by
  unfold indexK at hk
  split at hk
  · rename_i s k i hty ex ey
    obtain rfl := (res_data hy ey).int_inv
    obtain rfl := (res_data hx ex).str_inv
    obtain ⟨hi, hk⟩ := rangeK_inv hk
    refine ⟨_, _, hk, dval_int _ _ _ _, ?_⟩
    have hlt : Int.toNat i < ByteArray.size s := by omega
    have hg : (s : ByteArray)[Int.toNat i]? = some (s.data.getD (Int.toNat i) 0) := by
      rw [getElem?_pos (s : ByteArray) (Int.toNat i) hlt, getD_of_lt s.data (Int.toNat i) 0 hlt]; rfl
    simp [Instr.index, asIntOf, Go.underlying, (hT _ _ hty).2, hi.1, hg]
  · simp at hk
theorem atPath_inv {p : List Nat} {t t0 : Ty} {K : Option R} {r : R} (hk : atPath p t t0 K = some r) : ∃ o u, Ty.pathOff p t = some (o, u) ∧ u = t0 ∧ K = some r := by
  unfold atPath at hk
  split at hk
  · rename_i o u hp; exact ⟨o, u, hp, (sameK_inv hk).1, (sameK_inv hk).2⟩
  · simp at hk
theorem hasPath_inv {p : List Nat} {t : Ty} {K : Option R} {r : R} (hk : hasPath p t K = some r) : ∃ q, Ty.pathOff p t = some q ∧ K = some r := by
  unfold hasPath at hk
  split at hk
  · rename_i q hq; exact ⟨q, hq, hk⟩
  · simp at hk
theorem pathOff_snoc_inv : ∀ {p : List Nat} {t v : Ty} {off f : Nat} {q : Nat × Ty}, Ty.pathOff p t = some (off, .agg v) → Ty.pathOff (p ++ [f]) t = some q →
    ∃ o' t2, Ty.compOff v f = some (o', t2) ∧ q = (off + o', t2)
  | [], t, v, off, f, q, h, h' => by
    simp only [Ty.pathOff, Option.some.injEq, Prod.mk.injEq] at h
    obtain ⟨rfl, rfl⟩ := h
    simp only [List.nil_append, Ty.pathOff] at h'
    split at h'
    · rename_i o t' ho
      simp only [Option.some.injEq] at h'
      exact ⟨o, t', ho, by rw [← h']; simp⟩
    · simp at h'
  | g :: p, .agg t, v, off, f, q, h, h' => by
    simp only [Ty.pathOff] at h
    simp only [List.cons_append, Ty.pathOff] at h'
    split at h
    · rename_i o t1 ho
      rw [ho] at h'
      simp only at h'
      split at h
      · rename_i o2 t2 ho2
        simp only [Option.some.injEq, Prod.mk.injEq] at h
        obtain ⟨rfl, rfl⟩ := h
        split at h'
        · rename_i o3 t3 ho3
          obtain ⟨o', t4, e2, e3⟩ := pathOff_snoc_inv ho2 ho3
          simp only [Prod.mk.injEq] at e3
          obtain ⟨rfl, rfl⟩ := e3
          simp only [Option.some.injEq] at h'
          exact ⟨o', _, e2, by rw [← h']; simp [Nat.add_assoc]⟩
        · simp at h'
      · simp at h
    · simp at h
  | g :: p, .arr n t, v, off, f, q, h, h' => by
    simp only [Ty.pathOff] at h
    simp only [List.cons_append, Ty.pathOff] at h'
    split at h
    · rename_i hlt
      rw [if_pos hlt] at h'
      split at h
      · rename_i o2 t2 ho2
        simp only [Option.some.injEq, Prod.mk.injEq] at h
        obtain ⟨rfl, rfl⟩ := h
        split at h'
        · rename_i o3 t3 ho3
          obtain ⟨o', t4, e2, e3⟩ := pathOff_snoc_inv ho2 ho3
          simp only [Prod.mk.injEq] at e3
          obtain ⟨rfl, rfl⟩ := e3
          simp only [Option.some.injEq] at h'
          exact ⟨o', _, e2, by rw [← h']; simp [Nat.add_assoc]⟩
        · simp at h'
      · simp at h
    · simp at h
  | _ :: _, .unit, _, _, _, _, h, _ => by simp [Ty.pathOff] at h
  | _ :: _, .int _, _, _, _, _, h, _ => by simp [Ty.pathOff] at h
  | _ :: _, .bool, _, _, _, _, h, _ => by simp [Ty.pathOff] at h
  | _ :: _, .err, _, _, _, _, h, _ => by simp [Ty.pathOff] at h
  | _ :: _, .str, _, _, _, _, h, _ => by simp [Ty.pathOff] at h
  | _ :: _, .list _, _, _, _, _, h, _ => by simp [Ty.pathOff] at h
  | _ :: _, .pair _ _, _, _, _, _, h, _ => by simp [Ty.pathOff] at h
theorem pathOff_snoc_arr : ∀ {p : List Nat} {t u : Ty} {off n i : Nat}, Ty.pathOff p t = some (off, .arr n u) → i < n → Ty.pathOff (p ++ [i]) t = some (off + i * u.width, u)
  | [], t, u, off, n, i, h, hi => by
    simp only [Ty.pathOff, Option.some.injEq, Prod.mk.injEq] at h
    obtain ⟨rfl, rfl⟩ := h
    simp [Ty.pathOff, hi]
  | g :: p, .agg t, u, off, n, i, h, hi => by
    simp only [Ty.pathOff] at h
    split at h
    · rename_i o t1 ho
      split at h
      · rename_i o2 t2 ho2
        simp only [Option.some.injEq, Prod.mk.injEq] at h
        obtain ⟨rfl, rfl⟩ := h
        simp [Ty.pathOff, ho, pathOff_snoc_arr ho2 hi, Nat.add_assoc]
      · simp at h
    · simp at h
  | g :: p, .arr m t, u, off, n, i, h, hi => by
    simp only [Ty.pathOff] at h
    split at h
    · rename_i hlt
      split at h
      · rename_i o2 t2 ho2
        simp only [Option.some.injEq, Prod.mk.injEq] at h
        obtain ⟨rfl, rfl⟩ := h
        simp [Ty.pathOff, pathOff_snoc_arr ho2 hi, Nat.add_assoc, hlt]
      · simp at h
    · simp at h
  | _ :: _, .unit, _, _, _, _, h, _ => by simp [Ty.pathOff] at h
  | _ :: _, .int _, _, _, _, _, h, _ => by simp [Ty.pathOff] at h
  | _ :: _, .bool, _, _, _, _, h, _ => by simp [Ty.pathOff] at h
  | _ :: _, .err, _, _, _, _, h, _ => by simp [Ty.pathOff] at h
  | _ :: _, .str, _, _, _, _, h, _ => by simp [Ty.pathOff] at h
  | _ :: _, .list _, _, _, _, _, h, _ => by simp [Ty.pathOff] at h
  | _ :: _, .pair _ _, _, _, _, _, h, _ => by simp [Ty.pathOff] at h
theorem fieldAddrK_yield {tt : Tab} (hT : TTOk P tt) {ty : TypeId} {u : AVal} {x : Value} {f : Nat} {K : Out → Option R} {r : R} (hx : VRel w ρ h ok u x)
    (hk : fieldAddrK (tt ty) u (res h u) f K = some r) : Yield P w ρ h ok K r (Instr.fieldAt ty x f) := by
  have place : ∀ (fd : Field) (t' : Ty) (b o : Nat), TyOk P t' fd.type → (fieldPlace ⟨b, o, none⟩ fd).run P w = .ok ⟨b, o + fd.offset, none⟩ w := fun fd t' b o ht => by
    have hne : t'.width ≠ 0 := Nat.pos_iff_ne_zero.1 ht.pos
    simp [fieldPlace, ht.run_sizeOf, hne, addr_add]
  unfold fieldAddrK at hk
  split at hk
  · rename_i t0 id p id' t y p' hty ex
    obtain ⟨e1, ho⟩ := res_box ex
    obtain ⟨rfl, rfl⟩ : id = id' ∧ p = p' := by simpa using e1
    obtain ⟨o, u, hp, e2, hk1⟩ := atPath_inv hk; clear hk; subst e2
    obtain ⟨q, hq, hk⟩ := hasPath_inv hk1
    obtain ⟨hl, hpt⟩ := hx
    rw [ho] at hpt
    obtain ⟨b, off, t', hb, hoff, rfl⟩ := hpt
    obtain ⟨o', t2, hc, hq2⟩ := pathOff_snoc_inv hp hq
    obtain ⟨_, fs, hfs, hch⟩ := hT _ _ hty
    obtain ⟨fd, hfd, hfo, hft⟩ := ChainOk.comp hch hc
    rw [Array.getElem?_toList] at hfd
    rw [hp] at hoff
    simp only [Option.some.injEq, Prod.mk.injEq] at hoff
    obtain ⟨rfl, rfl⟩ := hoff
    refine ⟨_, .pointer (some ⟨b, o + fd.offset, none⟩), hk, ⟨hl, ?_⟩, ?_⟩
    · rw [ho]
      exact ⟨b, o + o', t2, hb, by rw [hq, hq2], by simp [hfo]⟩
    · simp [Instr.fieldAt, Go.underlying, hfs, hfd, Instr.sureAddr, place fd t2 b o hft]
  · rename_i t0 t1 x1 t y hty ex
    obtain ⟨e1, b, o, cs, rfl, hb, hc, hcell⟩ := res_rptr hx ex
    obtain ⟨e2, hk1⟩ := sameK_inv hk; clear hk; subst e2; have hk := hk1; clear hk1
    obtain ⟨t', z, off, hk, hco, hparts⟩ := compK_inv hk
    obtain ⟨_, fs, hfs, hch⟩ := hT _ _ hty
    obtain ⟨fd, hfd, hfo, hft⟩ := ChainOk.comp hch hco
    rw [Array.getElem?_toList] at hfd
    obtain ⟨c1, c2, c3, ecs, hl1, h2⟩ := hparts (cs := cs) hc
    refine ⟨_, .pointer (some ⟨b, o + fd.offset, none⟩), hk, ⟨b, o + fd.offset, c2, rfl, hb, h2, fun j u hj => ?_⟩, ?_⟩
    · have : cs[off + j]? = some u := by
        subst ecs
        have hlt : j < c2.length := (List.getElem?_eq_some_iff.1 hj).1
        rw [List.getElem?_append_right (by omega), hl1, Nat.add_sub_cancel_left, List.getElem?_append_left hlt]; exact hj
      have := hcell _ _ this
      rw [hfo, Nat.zero_add, Nat.add_assoc]; exact this
    · simp [Instr.fieldAt, Go.underlying, hfs, hfd, Instr.sureAddr, place fd t' b o hft]
  · rename_i t0 id v i p id' v' t l i' p' hty ex
    obtain ⟨e1, ho⟩ := res_elem ex
    obtain ⟨rfl, rfl, rfl, rfl⟩ : id = id' ∧ v = v' ∧ i = i' ∧ p = p' := by simpa using e1
    obtain ⟨o, u, hp, e2, hk1⟩ := atPath_inv hk; clear hk; subst e2
    obtain ⟨q, hq, hk⟩ := hasPath_inv hk1
    obtain ⟨hl, hpt⟩ := hx
    rw [ho] at hpt
    obtain ⟨hil, b, off, t', hb, hoff, rfl⟩ := hpt.2 rfl
    obtain ⟨o', t2, hc, hq2⟩ := pathOff_snoc_inv hp hq
    obtain ⟨_, fs, hfs, hch⟩ := hT _ _ hty
    obtain ⟨fd, hfd, hfo, hft⟩ := ChainOk.comp hch hc
    rw [Array.getElem?_toList] at hfd
    rw [hp] at hoff
    simp only [Option.some.injEq, Prod.mk.injEq] at hoff
    obtain ⟨rfl, rfl⟩ := hoff
    refine ⟨_, .pointer (some ⟨b, i * t.width + o + fd.offset, none⟩), hk, ⟨hl, ?_⟩, ?_⟩
    · rw [ho]
      exact ⟨Nat.le_refl _, fun _ => ⟨hil, b, o + o', t2, hb, by rw [hq, hq2], by simp [hfo, Nat.add_assoc]⟩⟩
    · simp [Instr.fieldAt, Go.underlying, hfs, hfd, Instr.sureAddr, place fd t2 b _ hft]
  · simp at hk
theorem indexAddrK_yield {tt : Tab} (hT : TTOk P tt) {ty : TypeId} {u v : AVal} {x y : Value} {K : Out → Option R} {r : R} (hlive : ∀ b, ok b → liveOf w ρ h b) (hobj : ∀ id, id < h.length → ORel w ρ ok id (hget h id)) (hx : VRel w ρ h ok u x) (hy : VRel w ρ h ok v y)
    (hk : indexAddrK (tt ty) (res h u) (res h v) K = some r) : Yield P w ρ h ok K r (Instr.indexAt ty x y) := by
  unfold indexAddrK at hk
  split at hk
  · rename_i t0 t l k i hty ex ey
    obtain rfl := (res_data hy ey).int_inv
    obtain ⟨e1, hk1⟩ := sameK_inv hk; clear hk; subst e1; have hk := hk1; clear hk1
    obtain ⟨_, e, he, hte⟩ := hT _ _ hty
    obtain ⟨A, c, rfl, _, hl⟩ := (res_data hx ex).list_inv
    obtain ⟨hi, hk⟩ := rangeK_inv hk
    rcases hl with rfl | ⟨b, o, cc, rfl, hb, hr, hcell⟩
    · simp at hi; omega
    · obtain ⟨ce, hce, hcl, hg⟩ := RowC.get (fun x cs => Cells.length t x cs) t.zero l cc (Int.toNat i) hr (by omega)
      refine ⟨_, .pointer (some ⟨b, o + Int.toNat i * t.width, none⟩), hk, ⟨b, o + Int.toNat i * t.width, ce, rfl, hlive b hb, hce, fun j u hj => ?_⟩, ?_⟩
      · rw [Nat.add_assoc]; exact hcell _ _ (hg j u hj)
      · simp [Instr.indexAt, asIntOf, Go.underlying, he, hi.1, hi.2, hte.run_sizeOf, addr_add]
  · rename_i t0 id ver t l k i hty ex ey
    obtain rfl := (res_data hy ey).int_inv
    obtain ⟨e1, hk1⟩ := sameK_inv hk; clear hk; subst e1; have hk := hk1; clear hk1
    obtain ⟨_, e, he, hte⟩ := hT _ _ hty
    obtain ⟨hl, ho, rfl, hx'⟩ := row_osl hx ex
    obtain ⟨hi, hk⟩ := rangeK_inv hk
    rcases hx' with ⟨hn, rfl⟩ | ⟨b, c, cs, T, hb, rfl, hrow, hsz, hlc⟩
    · have hnil := hobj id hl
      rw [ho] at hnil
      rcases hnil with ⟨_, hl0⟩ | ⟨b, _, _, _, _, hb, _⟩
      · subst hl0; simp at hi; omega
      · rw [hn] at hb; cases hb
    · refine ⟨_, .pointer (some ⟨b, 0 + Int.toNat i * t.width, none⟩), hk, ⟨hl, ?_⟩, ?_⟩
      · rw [ho]; refine ⟨Nat.le_refl _, fun _ => ?_⟩
        exact ⟨by omega, b, 0, t, hb, rfl, by simp⟩
      · simp [Instr.indexAt, asIntOf, Go.underlying, he, hi.1, hi.2, hte.run_sizeOf, addr_add]
  · rename_i n t0 id t y p k i hty ex ey
    obtain rfl := (res_data hy ey).int_inv
    obtain ⟨rfl, ho⟩ := res_box ex
    obtain ⟨o, u, hp, e2, hk1⟩ := atPath_inv hk; clear hk; subst e2
    obtain ⟨hi, hk⟩ := rangeK_inv hk1
    obtain ⟨_, e, he, hte⟩ := hT _ _ hty
    obtain ⟨hl, hpt⟩ := hx
    rw [ho] at hpt
    obtain ⟨b, off, t', hb, hoff, rfl⟩ := hpt
    rw [hp] at hoff
    simp only [Option.some.injEq, Prod.mk.injEq] at hoff
    obtain ⟨rfl, rfl⟩ := hoff
    refine ⟨_, .pointer (some ⟨b, o + Int.toNat i * t0.width, none⟩), hk, ⟨hl, ?_⟩, ?_⟩
    · rw [ho]
      exact ⟨b, _, t0, hb, pathOff_snoc_arr hp (by omega), rfl⟩
    · simp [Instr.indexAt, Instr.sureAddr, asIntOf, Go.underlying, he, hi.1, hi.2, hte.run_sizeOf, addr_add]
  · rename_i n t0 m t l k i hty ex ey
    obtain rfl := (res_data hy ey).int_inv
    obtain ⟨e1, b, o, cs, rfl, hb, hc, hcell⟩ := res_rptr hx ex
    obtain ⟨e2, hk1⟩ := sameK_inv hk; clear hk
    injection e2 with e3 e4; subst e3 e4
    obtain ⟨hi, hk⟩ := rangeK_inv hk1
    obtain ⟨_, e, he, hte⟩ := hT _ _ hty
    obtain ⟨ce, hce, hcl, hg⟩ := RowC.get (fun x cs => Cells.length t x cs) t.zero l cs (Int.toNat i) hc.2 (by rw [hc.1]; omega)
    refine ⟨_, .pointer (some ⟨b, o + Int.toNat i * t.width, none⟩), hk, ⟨b, o + Int.toNat i * t.width, ce, rfl, hb, hce, fun j u hj => ?_⟩, ?_⟩
    · rw [Nat.add_assoc]; exact hcell _ _ (hg j u hj)
    · simp [Instr.indexAt, Instr.sureAddr, asIntOf, Go.underlying, he, hi.1, hi.2, hte.run_sizeOf, addr_add]
  · simp at hk
end
end Go.PB
namespace Go.PB
open Go Go.RowKit
section
variable {F : Fr} {P : Program} {w : World} {ρ : Nat → Loc} {h : List AObj} {ok : Nat → Prop} {R : Type}
theorem fieldK_yield {tt : Tab} (hT : TTOk P tt) {ty : TypeId} {u : AVal} {x : Value} {f : Nat} {K : Out → Option R} {r : R} (hx : VRel w ρ h ok u x)
    (hk : fieldK (tt ty) (res h u) f K = some r) : Yield P w ρ h ok K r (Instr.field ty x f) := by
  unfold fieldK at hk
  split at hk
  · rename_i t0 t y hty ex
    obtain ⟨cs, rfl, hc⟩ := (res_data hx ex).agg_inv
    obtain ⟨e2, hk1⟩ := sameK_inv hk; clear hk; subst e2
    obtain ⟨t', z, off, hk, hco, hparts⟩ := compK_inv hk1
    obtain ⟨_, fs, hfs, hch⟩ := hT _ _ hty
    obtain ⟨fd, hfd, hfo, hft⟩ := ChainOk.comp hch hco
    rw [Array.getElem?_toList] at hfd
    obtain ⟨c1, c2, c3, ecs, hl1, h2⟩ := hparts hc
    obtain ⟨val, hrun, hd⟩ := run_part (P := P) hft cs c1 c2 c3 ecs h2
    rw [Nat.zero_add] at hfo
    rw [← hl1] at hfo
    exact ⟨_, val, hk, hd, by simp [Instr.field, Go.underlying, hfs, hfd, asAgg, hfo, hrun]⟩
  · simp at hk
theorem optI_inv {tmps : List AVal} {a : Act} (hv : ∀ x : Operand, VRel w ρ h ok (ev tmps x) (a.eval x)) {lo : Option Operand} {d : Int} {K : Int → Option R} {r : R}
    (hk : optI (lo.map fun x => res h (ev tmps x)) d K = some r) : ∃ n, K n = some r ∧ ((lo.map a.eval = none ∧ n = d) ∨ ∃ k, lo.map a.eval = some (.int k n)) := by
  cases lo with
  | none => exact ⟨d, hk, .inl ⟨rfl, rfl⟩⟩
  | some x =>
    simp only [Option.map_some, optI] at hk
    split at hk
    · rename_i e; cases e
    · rename_i k i e
      simp only [Option.some.injEq] at e
      exact ⟨i, hk, .inr ⟨k, by simp [(res_data (hv x) e).int_inv]⟩⟩
    · simp at hk
theorem run_sliceBound {k : IntKind} {n : Int} {y : Nat} {code : BoundsCode} (h0 : 0 ≤ n) (h1 : n ≤ y) : (Instr.sliceBound (.int k n) y code).run P w = .ok n.toNat w := by
  simp [Instr.sliceBound, asIntOf, h0, h1]
theorem run_sliceBounds {isSlice : Bool} {len cap : Nat} {lo hi : Option Value} {l m : Int} (hl : (lo = none ∧ l = 0) ∨ ∃ k, lo = some (.int k l)) (hm : (hi = none ∧ m = len) ∨ ∃ k, hi = some (.int k m))
    (h0 : 0 ≤ l) (h1 : l ≤ m) (h2 : m ≤ len) (hcap : len ≤ cap) : (Instr.sliceBounds isSlice len cap lo hi none).run P w = .ok (l.toNat, m.toNat, cap) w := by
  have e : ((m.toNat : Nat) : Int) = m := by omega
  have hb : ∀ k, (Instr.sliceBound (.int k l) m.toNat .sliceB).run P w = .ok l.toNat w := fun k => run_sliceBound h0 (by omega)
  rcases hm with ⟨rfl, rfl⟩ | ⟨k, rfl⟩
  · rcases hl with ⟨rfl, rfl⟩ | ⟨k', rfl⟩
    · simp [Instr.sliceBounds]
    · have := hb k'; simp at this; simp [Instr.sliceBounds, this]
  · have hh : ∀ code, (Instr.sliceBound (.int k m) cap code).run P w = .ok m.toNat w := fun code => run_sliceBound (by omega) (by omega)
    rcases hl with ⟨rfl, rfl⟩ | ⟨k', rfl⟩
    · simp [Instr.sliceBounds, hh]
    · have := hb k'; simp [Instr.sliceBounds, hh, this]
theorem sliceW_cut {t : Ty} {l : List t.C} {A : Option Addr} {c i j : Nat} (hw : SliceW w ok (Cells w ok t) l (.slice A l.length c)) (hij : i ≤ j) (hj : j ≤ l.length) :
    SliceW w ok (Cells w ok t) ((l.take j).drop i) (.slice (if c = i then A else A.map (·.add (i * t.width))) (j - i) (c - i)) := by
  obtain ⟨A', c', e, hc, hl⟩ := hw
  simp only [Value.slice.injEq, true_and] at e
  obtain ⟨rfl, rfl⟩ := e
  have hlen : ((l.take j).drop i).length = j - i := by simp; omega
  refine ⟨_, _, by rw [hlen], by rw [hlen]; omega, ?_⟩
  rcases hl with rfl | ⟨b, o, cc, rfl, hb, hr, hcell⟩
  · simp at hj; subst hj; simp at hij; subst hij; left; rfl
  · by_cases he : i = j
    · subst he; left
      exact List.eq_nil_of_length_eq_zero (by omega)
    · right
      have hci : ¬ c = i := by omega
      have sub : ∀ (xs : List t.C) (cs : List Value) (n : Nat), RowC (Cells w ok t) xs cs → n ≤ xs.length → RowC (Cells w ok t) (xs.take n) (cs.take (n * t.width)) ∧ RowC (Cells w ok t) (xs.drop n) (cs.drop (n * t.width)) := by
        intro xs
        induction xs with
        | nil => intro cs n hr hn; simp at hn; subst hn; simp only [RowC] at hr; subst hr; simp [RowC]
        | cons x xs ih =>
          intro cs n hr hn
          cases n with
          | zero => simp only [List.take_zero, Nat.zero_mul, List.drop_zero]; exact ⟨rfl, hr⟩
          | succ n =>
            obtain ⟨c1, c2, rfl, h1, h2⟩ := hr
            have hl1 := Cells.length _ _ _ h1
            obtain ⟨i1, i2⟩ := ih c2 n h2 (by simpa using hn)
            have e1 : (n + 1) * t.width = c1.length + n * t.width := by rw [hl1, Nat.succ_mul, Nat.add_comm]
            rw [e1]
            refine ⟨?_, ?_⟩
            · rw [List.take_length_add_append]
              exact ⟨c1, _, rfl, h1, i1⟩
            · rw [List.drop_length_add_append]
              exact i2
      obtain ⟨h1, _⟩ := sub l cc j hr hj
      obtain ⟨_, h2⟩ := sub _ _ i h1 (by simp; omega)
      refine ⟨b, o + i * t.width, _, by simp [hci, addr_add], hb, h2, fun n u hn => ?_⟩
      rw [Nat.add_assoc]
      refine hcell _ _ ?_
      rw [List.getElem?_drop] at hn
      rw [List.getElem?_take] at hn
      split at hn
      · exact hn
      · simp at hn
theorem sliceK_yield {tt : Tab} (hT : TTOk P tt) {ty : TypeId} {u : AVal} {x : Value} {lo hi mx : Option Operand} {tmps : List AVal} {a : Act} (hv : ∀ x : Operand, VRel w ρ h ok (ev tmps x) (a.eval x)) {K : Out → Option R} {r : R} (hx : VRel w ρ h ok u x)
    (hk : sliceK (tt ty) (res h u) (lo.map fun x => res h (ev tmps x)) (hi.map fun x => res h (ev tmps x)) (mx.map fun x => res h (ev tmps x)) K = some r) :
    Yield P w ρ h ok K r (Instr.sliceAt ty x (lo.map a.eval) (hi.map a.eval) (mx.map a.eval)) := by
  unfold sliceK at hk
  split at hk
  · rename_i s hty ex emx
    obtain rfl : mx = none := by cases mx with | none => rfl | some _ => cases emx
    obtain rfl := (res_data hx ex).str_inv
    obtain ⟨l, hk1, hl⟩ := optI_inv hv hk
    obtain ⟨m, hk2, hm⟩ := optI_inv hv hk1
    obtain ⟨hb, hk3⟩ := cutK_inv hk2
    have hd := (hT _ _ hty).2
    have hs := run_sliceBounds (P := P) (w := w) (isSlice := false) hl hm hb.1 hb.2.1 hb.2.2 (Nat.le_refl (ByteArray.size s))
    exact ⟨_, _, hk3, dval_str _ _ _, by simp [Instr.sliceAt, Instr.slice, Go.underlying, hd, hs]⟩
  · rename_i n t0 m t l hty ex emx
    obtain rfl : mx = none := by cases mx with | none => rfl | some _ => cases emx
    obtain ⟨e2, hk1⟩ := sameK_inv hk; clear hk
    injection e2 with e3 e4; subst e3 e4
    obtain ⟨b, cs, rfl, hb, hc, hcell⟩ := res_fbox hx ex
    obtain ⟨_, e, he, hte⟩ := hT _ _ hty
    obtain ⟨i, hk2, hl⟩ := optI_inv hv hk1
    obtain ⟨j, hk3, hm⟩ := optI_inv hv hk2
    obtain ⟨hb', hk4⟩ := cutK_inv hk3
    have hs := run_sliceBounds (P := P) (w := w) (isSlice := false) hl hm hb'.1 hb'.2.1 hb'.2.2 (Nat.le_refl m)
    have hcut := sliceW_cut (w := w) (ok := ok) (t := t) (l := l) (A := some ⟨b, 0, none⟩) (c := m) (i := i.toNat) (j := j.toNat) ⟨_, m, rfl, Nat.le_of_eq hc.1, .inr ⟨b, 0, cs, rfl, hb, hc.2, hcell⟩⟩ (by omega) (by rw [hc.1]; omega)
    refine ⟨_, _, hk4, dval_list hcut, ?_⟩
    simp [Instr.sliceAt, Instr.sureAddr, Go.underlying, he, hs, hte.run_sizeOf]
    split <;> rfl
  · rename_i t0 t l hty ex emx
    obtain rfl : mx = none := by cases mx with | none => rfl | some _ => cases emx
    obtain ⟨e2, hk1⟩ := sameK_inv hk; clear hk; subst e2
    have hw := (res_data hx ex).list_inv
    obtain ⟨A, c, rfl, hc, hl0⟩ := hw
    obtain ⟨_, e, he, hte⟩ := hT _ _ hty
    obtain ⟨i, hk2, hl⟩ := optI_inv hv hk1
    obtain ⟨m, hk3, hm⟩ := optI_inv hv hk2
    obtain ⟨hb, hk4⟩ := cutK_inv hk3
    have hs := run_sliceBounds (P := P) (w := w) (isSlice := true) hl hm hb.1 hb.2.1 hb.2.2 hc
    have hcut := sliceW_cut (w := w) (ok := ok) (t := t) (l := l) (A := A) (c := c) (i := i.toNat) (j := m.toNat) ⟨A, c, rfl, hc, hl0⟩ (by omega) (by omega)
    exact ⟨_, _, hk4, dval_list hcut, by simp [Instr.sliceAt, Instr.slice, Go.underlying, he, hs, hte.run_sizeOf]⟩
  · simp at hk
theorem loadK_yield {tt : Tab} (hT : TTOk P tt) {ty : TypeId} {u : AVal} {x : Value} {K : Out → Option R} {r : R} (hobj : ∀ id, id < h.length → ORel w ρ ok id (hget h id)) (hx : VRel w ρ h ok u x)
    (hk : loadK (tt ty) (res h u) K = some r) : Yield P w ρ h ok K r (Instr.loadAt ty x) := by
  unfold loadK at hk
  split at hk
  · rename_i t0 id t y p hty ex
    obtain ⟨rfl, ho⟩ := res_box ex
    obtain ⟨t', z, off, hk1, hpo, hparts⟩ := getK_inv hk
    obtain ⟨e, hk2⟩ := castK_inv hk1
    subst e
    obtain ⟨hl, hpt⟩ := hx
    rw [ho] at hpt
    obtain ⟨b, off', t2, hb, hoff, rfl⟩ := hpt
    rw [hpo] at hoff
    simp only [Option.some.injEq, Prod.mk.injEq] at hoff
    obtain ⟨rfl, rfl⟩ := hoff
    have hob := hobj id hl
    rw [ho] at hob
    obtain ⟨b', cs, T, hb', hrow, hcs⟩ := hob
    obtain rfl : b = b' := by rw [hb] at hb'; simpa using hb'
    obtain ⟨c1, c2, c3, ecs, hl1, h2⟩ := hparts hcs
    obtain ⟨val, hrun, hd⟩ := run_loadVar (P := P) (hT _ _ hty) b off h2 (fun j u hj => by
      rw [cell_of_row w b _ cs T _ hrow, ← Array.getElem?_toList, ecs]
      have hlt : j < c2.length := (List.getElem?_eq_some_iff.1 hj).1
      rw [List.getElem?_append_right (by omega), hl1, Nat.add_sub_cancel_left, List.getElem?_append_left hlt]; exact hj)
    exact ⟨_, val, hk2, hd, by simp [Instr.loadAt, Instr.sureAddr, hrun]⟩
  · rename_i t0 t y hty ex
    obtain ⟨rfl, b, o, cs, rfl, hb, hc, hcell⟩ := res_rptr hx ex
    obtain ⟨e, hk2⟩ := castK_inv hk
    subst e
    obtain ⟨val, hrun, hd⟩ := run_loadVar (P := P) (hT _ _ hty) b o hc hcell
    exact ⟨_, val, hk2, hd, by simp [Instr.loadAt, Instr.sureAddr, hrun]⟩
  · rename_i t0 id ver t l i p hty ex
    obtain ⟨rfl, ho⟩ := res_elem ex
    obtain ⟨t', z, off, hk1, hpo, hparts⟩ := getK_inv hk
    obtain ⟨e, hk2⟩ := castK_inv hk1
    subst e
    obtain ⟨hl, hpt⟩ := hx
    rw [ho] at hpt
    obtain ⟨hil, b, off', t2, hb, hoff, rfl⟩ := hpt.2 rfl
    rw [hpo] at hoff
    simp only [Option.some.injEq, Prod.mk.injEq] at hoff
    obtain ⟨rfl, rfl⟩ := hoff
    have hob := hobj id hl
    rw [ho] at hob
    rcases hob with ⟨hn, _⟩ | ⟨b', cs, T, cc, rest, hb', hrow, hcs, hrc⟩
    · rw [hn] at hb; cases hb
    · obtain rfl : b = b' := by rw [hb] at hb'; simpa using hb'
      obtain ⟨ce, hce, hcl, hg⟩ := RowC.get (fun x cs => Cells.length t x cs) t.zero l cc i hrc hil
      obtain ⟨c1, c2, c3, ecs, hl1, h2⟩ := hparts hce
      obtain ⟨val, hrun, hd⟩ := run_loadVar (P := P) (hT _ _ hty) b (i * t.width + off) h2 (fun j u hj => by
        have hlt : j < c2.length := (List.getElem?_eq_some_iff.1 hj).1
        have h3 : ce[off + j]? = some u := by
          rw [ecs, List.getElem?_append_right (by omega), hl1, Nat.add_sub_cancel_left, List.getElem?_append_left hlt]; exact hj
        have h4 := hg _ _ h3
        rw [cell_of_row w b _ cs T _ hrow, ← Array.getElem?_toList, hcs]
        rw [Nat.add_assoc, List.getElem?_append_left (List.getElem?_eq_some_iff.1 h4).1]; exact h4)
      exact ⟨_, val, hk2, hd, by simp [Instr.loadAt, Instr.sureAddr, hrun]⟩
  · simp at hk
theorem extractK_yield : ∀ {i : Nat} {u : AVal} {x : Value} {K : Out → Option R} {r : R} (_ : VRel w ρ h ok u x) (_ : extractK u i K = some r), Yield P w ρ h ok K r (Instr.extract x i) := by
  have key : ∀ (i : Nat) (u : AVal) (vs : List Value) (K : Out → Option R) (r : R), VList w ρ h ok u vs → extractK u i K = some r → ∃ v val, K (.q v) = some r ∧ VRel w ρ h ok v val ∧ vs[i]? = some val := by
    intro i
    induction i with
    | zero =>
      intro u vs K r hv hk
      cases u <;> simp only [extractK] at hk <;> first | (exact absurd hk (by simp)) | skip
      obtain ⟨v, vs', rfl, h1, h2⟩ := hv
      exact ⟨_, v, hk, h1, rfl⟩
    | succ n ih =>
      intro u vs K r hv hk
      cases u <;> simp only [extractK] at hk <;> first | (exact absurd hk (by simp)) | skip
      obtain ⟨v, vs', rfl, h1, h2⟩ := hv
      obtain ⟨v', val, hk', h3, h4⟩ := ih _ _ _ _ h2 hk
      exact ⟨v', val, hk', h3, by simpa using h4⟩
  intro i u x K r hx hk
  cases u with
  | tcons a b =>
    obtain ⟨v, vs, rfl, h1, h2⟩ := hx
    obtain ⟨v', val, hk', h3, h4⟩ := key i (.tcons a b) (v :: vs) K r ⟨v, vs, rfl, h1, h2⟩ hk
    refine ⟨v', val, hk', h3, ?_⟩
    have : ((v :: vs).toArray)[i]? = some val := by rw [List.getElem?_toArray]; exact h4
    unfold Instr.extract
    simp only [this]
    rfl
  | tnil => cases i <;> simp [extractK] at hk
  | _ => cases i <;> simp [extractK] at hk
end
end Go.PB
namespace Go.PB
open Go Go.RowKit
section
variable {F : Fr} {w w' : World} {ρ ρ' : Nat → Loc} {h h' : List AObj} {B : Nat}
theorem in1 {l : Loc} {b : Nat} (h : l.bs = [b]) : b ∈ l.bs := by rw [h]; simp
theorem eq1 {l : Loc} {b b' : Nat} (h : l.bs = [b]) (h' : b' ∈ l.bs) : b' = b := by rw [h] at h'; simpa using h'
theorem not0 {l : Loc} {b : Nat} (h : l.bs = []) (h' : b ∈ l.bs) : False := by rw [h] at h'; simp at h'
theorem lt_of_heap {w : World} {b : Nat} {o : Obj} (hb : w.heap[b]? = some o) : b < w.heap.size := (Array.getElem?_eq_some_iff.1 hb).1
theorem PtRel.mono {ok ok' : Nat → Prop} {id : Nat} {p : List Nat} {val : Value} (hok : ∀ b, ok b → ok' b ∧ w'.heap[b]? = w.heap[b]?) : ∀ {o : AObj}, PtRel w ρ ok id p val o → PtRel w' ρ ok' id p val o
  | .fbox t x, h => fun e => FbRel.mono hok (h e)
  | .box _ _, h => h
  | .none, _ => trivial
  | .row _ _ _, _ => trivial
  | .frow _ _ _, _ => trivial
  | .iter _ _, _ => trivial
  | .vt _ _ _, _ => trivial
theorem PlAt.mono {l l' : Loc} {p : List Nat} {τ : TT} {val : Value} (e : l' = l) (hb : ∀ b ∈ l.bs, w'.heap[b]? = w.heap[b]?) (h : PlAt w l p τ val) : PlAt w' l' p τ val := by
  obtain ⟨b, o, cc, T, c1, c3, h1, h2, h3, h4⟩ := h
  subst e
  exact ⟨b, o, cc, T, c1, c3, h1, h2, by rw [hb b h2]; exact h3, h4⟩
theorem LeRel.mono {ok ok' : Nat → Prop} {id : Nat} {s : LS} {u : Nat} {t : Ty} {x : t.C} {val : Value} {o : AObj} (hok : ∀ b, ok b → ok' b ∧ w'.heap[b]? = w.heap[b]?) (e : ρ' id = ρ id) (hb : o.isVt = true → ∀ b ∈ (ρ id).bs, w'.heap[b]? = w.heap[b]?) (h : LeRel w ρ ok id s u t x val o) : LeRel w' ρ' ok' id s u t x val o := by
  cases o with
  | vt v τ y =>
    refine ⟨h.1, h.2.1, fun hc => ⟨DVal.mono (fun b hb' => ?_) (h.2.2 hc).1, (h.2.2 hc).2.mono e (hb rfl)⟩⟩
    rcases hb' with h1 | h1
    · exact ⟨.inl (hok b h1).1, (hok b h1).2⟩
    · exact ⟨.inr (by rw [e]; exact h1), hb rfl b h1⟩
  | _ => trivial
theorem isVt_owns {o : AObj} (h : o.isVt = true) : o.owns = true := by cases o <;> first | rfl | simp [AObj.isVt] at h
theorem le_none {ok' : Nat → Prop} {id : Nat} {s : LS} {u : Nat} {t : Ty} {x : t.C} {val : Value} {o : AObj} (e : o.isVt = false) : LeRel w' ρ' ok' id s u t x val o := by
  cases o <;> first | trivial | simp [AObj.isVt] at e
theorem trs_rho {id : Nat} {o : AObj} (e : ρ' id = ρ id) : (∀ ver p val, AtRel ρ id ver p val o → AtRel ρ' id ver p val o) ∧ (∀ ver p val, AdRel ρ id ver p val o → AdRel ρ' id ver p val o) ∧
    (∀ ver p i q val, EtRel ρ id ver p i q val o → EtRel ρ' id ver p i q val o) := by
  refine ⟨fun ver p val h => ?_, fun ver p val h => ?_, fun ver p i q val h => ?_⟩ <;> cases o <;> first | trivial | skip
  · unfold AtRel at h ⊢; rw [e]; exact h
  · unfold AdRel at h ⊢; rw [e]; exact h
  · unfold EtRel at h ⊢; rw [e]; exact h
theorem trs_none {id : Nat} {o o' : AObj} (e : o'.isVt = false) : (∀ ver p val, AtRel ρ id ver p val o → AtRel ρ' id ver p val o') ∧ (∀ ver p val, AdRel ρ id ver p val o → AdRel ρ' id ver p val o') ∧
    (∀ ver p i q val, EtRel ρ id ver p i q val o → EtRel ρ' id ver p i q val o') := by
  cases o' <;> first | exact ⟨fun _ _ _ _ => trivial, fun _ _ _ _ => trivial, fun _ _ _ _ _ _ => trivial⟩ | simp [AObj.isVt] at e
theorem keeps_ext (hlt : ∀ id b, (hget h id).owns = true → b ∈ (ρ id).bs → b < w.heap.size) (hsz : w.heap.size ≤ w'.heap.size) (hblk : ∀ b, b < w.heap.size → w'.heap[b]? = w.heap[b]?) (hlen : h.length ≤ h'.length)
    (hsame : ∀ id, id < h.length → hget h' id = hget h id ∧ ρ' id = ρ id) (hnew : ∀ id b, h.length ≤ id → (hget h' id).owns = true → b ∈ (ρ' id).bs → w.heap.size ≤ b) :
    Keeps w ρ h (okOf F w ρ h) w' ρ' h' (okOf F w' ρ' h') := by
  have live : ∀ b, liveOf w ρ h b → liveOf w' ρ' h' b ∧ w'.heap[b]? = w.heap[b]? := fun b ⟨h1, h2⟩ => ⟨⟨by omega, fun id ho hr => by
    rcases Nat.lt_or_ge id h.length with hl | hl
    · rw [(hsame id hl).1] at ho; rw [(hsame id hl).2] at hr; exact h2 id ho hr
    · have := hnew id b hl ho hr; omega⟩, hblk b h1⟩
  have dat : ∀ b, okOf F w ρ h b → okOf F w' ρ' h' b ∧ w'.heap[b]? = w.heap[b]? := fun b ⟨h0, h1⟩ => ⟨⟨h0, (live b h1).1⟩, (live b h1).2⟩
  have own : ∀ id, id < h.length → (hget h id).isVt = true → ∀ b ∈ (ρ id).bs, w'.heap[b]? = w.heap[b]? := fun id hl hv b hb => hblk b (hlt id b (isVt_owns hv) hb)
  refine ⟨dat, live, hlen, ?_, ?_, ?_, ?_, fun id hl => ?_, fun id s u t x val hl hv => ?_⟩
  · intro id ver val hl hs
    rw [(hsame id hl).1]
    cases ho : hget h id with
    | row v' t l =>
      rw [ho] at hs
      refine ⟨hs.1, fun e => ?_⟩
      rcases hs.2 e with ⟨h1, h2⟩ | ⟨b, c, cs, T, h1, h2, h3, h4, h5⟩
      · exact .inl ⟨by rw [(hsame id hl).2]; exact h1, h2⟩
      · exact .inr ⟨b, c, cs, T, by rw [(hsame id hl).2]; exact h1, h2, by rw [hblk b (lt_of_heap h3)]; exact h3, h4, h5⟩
    | frow v' t l => rw [ho] at hs; exact fun e => SliceW.mono dat (hs e)
    | none => trivial
    | fbox t x => trivial
    | vt v0 τ0 x0 => trivial
    | box t x => trivial
    | iter s p => trivial
  · intro id p val hl hs
    rw [(hsame id hl).1]
    cases ho : hget h id with
    | box t x => rw [ho] at hs; obtain ⟨b, off, t', h1, h2, h3⟩ := hs; exact ⟨b, off, t', by rw [(hsame id hl).2]; exact h1, h2, h3⟩
    | fbox t x => rw [ho] at hs; exact fun e => FbRel.mono dat (hs e)
    | _ => trivial
  · intro id ver i p val hl hs
    rw [(hsame id hl).1]
    cases ho : hget h id with
    | row v' t l => rw [ho] at hs; refine ⟨hs.1, fun e => ?_⟩; obtain ⟨hi, b, off, t', h1, h2, h3⟩ := hs.2 e; exact ⟨hi, b, off, t', by rw [(hsame id hl).2]; exact h1, h2, h3⟩
    | _ => trivial
  · intro id val hl hs
    rw [(hsame id hl).1]
    cases ho : hget h id with
    | iter s p => rw [ho] at hs; obtain ⟨b, h1, h2⟩ := hs; exact ⟨b, by rw [(hsame id hl).2]; exact h1, h2⟩
    | _ => trivial
  · rw [(hsame id hl).1]; exact trs_rho (hsame id hl).2
  · rw [(hsame id hl).1]; exact LeRel.mono dat (hsame id hl).2 (own id hl) hv
theorem ORel.keeps {ok ok' : Nat → Prop} {id : Nat} {o : AObj} (hdat : ∀ b, ok b → ok' b ∧ w'.heap[b]? = w.heap[b]?) (hρ : ρ' id = ρ id) (hown : ∀ b, o.owns = true → b ∈ (ρ id).bs → w'.heap[b]? = w.heap[b]?)
    (ho : ORel w ρ ok id o) : ORel w' ρ' ok' id o := by
  cases o with
  | none => trivial
  | frow v t l => trivial
  | fbox t x => trivial
  | vt v0 τ0 x0 =>
    obtain ⟨h1, h2, h3⟩ := ho
    exact ⟨by rw [hρ]; exact h1, by rw [hρ]; exact h2, by rw [hρ]; exact TCells.mono hdat τ0 x0 _ _ (fun b hb => hown b rfl (by rw [h1]; exact hb)) h3⟩
  | box t x =>
    obtain ⟨b, cs, T, h1, h2, h3⟩ := ho
    exact ⟨b, cs, T, by rw [hρ]; exact h1, by rw [hown b rfl (in1 h1)]; exact h2, Cells.mono hdat t x _ h3⟩
  | row v t l =>
    rcases ho with ⟨h1, h2⟩ | ⟨b, cs, T, cc, rest, h1, h2, h3, h4⟩
    · exact .inl ⟨by rw [hρ]; exact h1, h2⟩
    · exact .inr ⟨b, cs, T, cc, rest, by rw [hρ]; exact h1, by rw [hown b rfl (in1 h1)]; exact h2, h3, RowC.mono (fun x cs => Cells.mono hdat t x cs) l cc h4⟩
  | iter s p =>
    obtain ⟨b, h1, h2⟩ := ho
    exact ⟨b, by rw [hρ]; exact h1, by rw [hown b rfl (in1 h1)]; exact h2⟩
theorem hrel_ext (hH : HRel F B w ρ h) (hB : B ≤ w.heap.size) (hsz : w.heap.size ≤ w'.heap.size) (hblk : ∀ b, b < w.heap.size → w'.heap[b]? = w.heap[b]?) (hlen : h.length ≤ h'.length)
    (hsame : ∀ id, id < h.length → hget h' id = hget h id ∧ ρ' id = ρ id)
    (hnewobj : ∀ id, h.length ≤ id → id < h'.length → ORel w' ρ' (okOf F w' ρ' h') id (hget h' id))
    (hnewown : ∀ id b, h.length ≤ id → (hget h' id).owns = true → b ∈ (ρ' id).bs → w.heap.size ≤ b ∧ b < w'.heap.size)
    (hnewinj : ∀ id id' b, h.length ≤ id → h.length ≤ id' → (hget h' id).owns = true → (hget h' id').owns = true → b ∈ (ρ' id).bs → b ∈ (ρ' id').bs → id = id') : HRel F B w' ρ' h' := by
  have k := keeps_ext (F := F) (fun id b ho hb => (hH.own id b ho hb).2) hsz hblk hlen hsame (fun id b h1 h2 h3 => (hnewown id b h1 h2 h3).1)
  refine ⟨hH.base, hH.kb, Nat.le_trans hH.nle hlen, fun k hk hv => by
    have hl := Nat.lt_of_lt_of_le hk hH.nle
    rw [(hsame k hl).1] at hv; rw [(hsame k hl).2]; exact hH.arg k hk hv, fun id hid => ?_, fun id b ho hr => ?_, fun id id' b ho ho' hr hr' => ?_⟩
  · rcases Nat.lt_or_ge id h.length with hl | hl
    · rw [(hsame id hl).1]
      exact ORel.keeps k.dat (hsame id hl).2 (fun b ho hr => hblk b (hH.own id b ho hr).2) (hH.obj id hl)
    · exact hnewobj id hl hid
  · rcases Nat.lt_or_ge id h.length with hl | hl
    · rw [(hsame id hl).1] at ho; rw [(hsame id hl).2] at hr
      have := hH.own id b ho hr; exact ⟨this.1, by omega⟩
    · have := hnewown id b hl ho hr; exact ⟨fun hk => by have := hH.kb b hk; omega, this.2⟩
  · rcases Nat.lt_or_ge id h.length with hl | hl <;> rcases Nat.lt_or_ge id' h.length with hl' | hl'
    · rw [(hsame id hl).1] at ho; rw [(hsame id hl).2] at hr; rw [(hsame id' hl').1] at ho'; rw [(hsame id' hl').2] at hr'
      exact hH.inj id id' b ho ho' hr hr'
    · rw [(hsame id hl).1] at ho; rw [(hsame id hl).2] at hr
      have := (hH.own id b ho hr).2; have := (hnewown id' b hl' ho' hr').1; omega
    · rw [(hsame id' hl').1] at ho'; rw [(hsame id' hl').2] at hr'
      have := (hH.own id' b ho' hr').2; have := (hnewown id b hl ho hr).1; omega
    · exact hnewinj id id' b hl hl' ho ho' hr hr'
structure Changes (w : World) (ρ : Nat → Loc) (h : List AObj) (id : Nat) (o' : AObj) (w' : World) (ρ' : Nat → Loc) : Prop where
  lt : id < h.length
  own : (hget h id).owns = true
  own' : o'.owns = true
  size : w.heap.size ≤ w'.heap.size
  blk : ∀ b, b < w.heap.size → b ∉ (ρ id).bs → w'.heap[b]? = w.heap[b]?
  oth : ∀ i, i ≠ id → ρ' i = ρ i
  to : ∀ b, b ∈ (ρ' id).bs → b ∈ (ρ id).bs ∨ (w.heap.size ≤ b ∧ b < w'.heap.size)
theorem hget_hset_self {h : List AObj} {id : Nat} {o : AObj} (hl : id < h.length) : hget (hset h id o) id = o := by rw [hget_hset]; simp [hl]
theorem hget_hset_ne {h : List AObj} {id i : Nat} {o : AObj} (hi : i ≠ id) : hget (hset h id o) i = hget h i := by rw [hget_hset, if_neg (fun e => hi e.1.symm)]
theorem Changes.live {id : Nat} {o' : AObj} (c : Changes w ρ h id o' w' ρ') (b : Nat) (hb : liveOf w ρ h b) : liveOf w' ρ' (hset h id o') b ∧ w'.heap[b]? = w.heap[b]? := by
  obtain ⟨h1, h2⟩ := hb
  refine ⟨⟨Nat.lt_of_lt_of_le h1 c.size, fun i ho hr => ?_⟩, c.blk b h1 (h2 id c.own)⟩
  by_cases hi : i = id
  · subst hi
    rcases c.to b hr with h3 | h3
    · exact h2 i c.own h3
    · omega
  · rw [hget_hset_ne hi] at ho; rw [c.oth i hi] at hr; exact h2 i ho hr
theorem Changes.dat {id : Nat} {o' : AObj} (c : Changes w ρ h id o' w' ρ') (b : Nat) (hb : okOf F w ρ h b) : okOf F w' ρ' (hset h id o') b ∧ w'.heap[b]? = w.heap[b]? :=
  ⟨⟨hb.1, (c.live b hb.2).1⟩, (c.live b hb.2).2⟩
theorem keeps_upd {id : Nat} {o' : AObj} (hH : HRel F B w ρ h) (c : Changes w ρ h id o' w' ρ')
    (hsl : ∀ ver val, SlRel w ρ (okOf F w ρ h) id ver val (hget h id) → SlRel w' ρ' (okOf F w' ρ' (hset h id o')) id ver val o')
    (hpt : ∀ p val, PtRel w ρ (okOf F w ρ h) id p val (hget h id) → PtRel w' ρ' (okOf F w' ρ' (hset h id o')) id p val o')
    (hel : ∀ ver i p val, ElRel ρ id ver i p val (hget h id) → ElRel ρ' id ver i p val o')
    (hit : ∀ val, ItRel ρ id val (hget h id) → ItRel ρ' id val o')
    (htr : (∀ ver p val, AtRel ρ id ver p val (hget h id) → AtRel ρ' id ver p val o') ∧ (∀ ver p val, AdRel ρ id ver p val (hget h id) → AdRel ρ' id ver p val o') ∧ (∀ ver p i q val, EtRel ρ id ver p i q val (hget h id) → EtRel ρ' id ver p i q val o')) (hnv : o'.isVt = false) : Keeps w ρ h (okOf F w ρ h) w' ρ' (hset h id o') (okOf F w' ρ' (hset h id o')) := by
  have other : ∀ i b, i ≠ id → (hget h i).owns = true → b ∈ (ρ i).bs → w'.heap[b]? = w.heap[b]? := fun i b hi ho hr =>
    c.blk b (hH.own i b ho hr).2 (fun e => hi (hH.inj i id b ho c.own hr e))
  refine ⟨c.dat, c.live, by rw [length_hset]; exact Nat.le_refl _, ?_, ?_, ?_, ?_, ?_, fun i s u t x val hl hv => ?_⟩
  · intro i ver val hl hs
    by_cases hi : i = id
    · subst hi; rw [hget_hset_self hl]; exact hsl ver val hs
    · rw [hget_hset_ne hi]
      cases ho : hget h i with
      | row v' t l =>
        rw [ho] at hs
        refine ⟨hs.1, fun e => ?_⟩
        rcases hs.2 e with ⟨h1, h2⟩ | ⟨b, cc, cs, T, h1, h2, h3, h4, h5⟩
        · exact .inl ⟨by rw [c.oth i hi]; exact h1, h2⟩
        · exact .inr ⟨b, cc, cs, T, by rw [c.oth i hi]; exact h1, h2, by rw [other i b hi (by rw [ho]; rfl) (in1 h1)]; exact h3, h4, h5⟩
      | frow v' t l => rw [ho] at hs; exact fun e => SliceW.mono c.dat (hs e)
      | none => trivial
      | fbox t x => trivial
      | vt v0 τ0 x0 => trivial
      | box t x => trivial
      | iter s p => trivial
  · intro i p val hl hs
    by_cases hi : i = id
    · subst hi; rw [hget_hset_self hl]; exact hpt p val hs
    · rw [hget_hset_ne hi]
      cases ho : hget h i with
      | box t x => rw [ho] at hs; obtain ⟨b, off, t', h1, h2, h3⟩ := hs; exact ⟨b, off, t', by rw [c.oth i hi]; exact h1, h2, h3⟩
      | fbox t x => rw [ho] at hs; exact fun e => FbRel.mono c.dat (hs e)
      | _ => trivial
  · intro i ver j p val hl hs
    by_cases hi : i = id
    · subst hi; rw [hget_hset_self hl]; exact hel ver j p val hs
    · rw [hget_hset_ne hi]
      cases ho : hget h i with
      | row v' t l => rw [ho] at hs; refine ⟨hs.1, fun e => ?_⟩; obtain ⟨hj, b, off, t', h1, h2, h3⟩ := hs.2 e; exact ⟨hj, b, off, t', by rw [c.oth i hi]; exact h1, h2, h3⟩
      | _ => trivial
  · intro i val hl hs
    by_cases hi : i = id
    · subst hi; rw [hget_hset_self hl]; exact hit val hs
    · rw [hget_hset_ne hi]
      cases ho : hget h i with
      | iter s p => rw [ho] at hs; obtain ⟨b, h1, h2⟩ := hs; exact ⟨b, by rw [c.oth i hi]; exact h1, h2⟩
      | _ => trivial
  · intro i hl
    by_cases hi : i = id
    · subst hi; rw [hget_hset_self hl]; exact htr
    · rw [hget_hset_ne hi]; exact trs_rho (c.oth i hi)
  · by_cases hi : i = id
    · subst hi; rw [hget_hset_self hl]; exact le_none hnv
    · rw [hget_hset_ne hi]; exact LeRel.mono c.dat (c.oth i hi) (fun hvt b hb => other i b hi (isVt_owns hvt) hb) hv
theorem hrel_upd {id : Nat} {o' : AObj} (hH : HRel F B w ρ h) (hB : B ≤ w.heap.size) (c : Changes w ρ h id o' w' ρ') (ho : ORel w' ρ' (okOf F w' ρ' (hset h id o')) id o') (hnv : o'.isVt = false) : HRel F B w' ρ' (hset h id o') := by
  have lt' : ∀ b, b ∈ (ρ id).bs → ¬ F.kept b ∧ b < w.heap.size := fun b hr => hH.own id b c.own hr
  refine ⟨hH.base, hH.kb, by rw [length_hset]; exact hH.nle, fun k hk hv => ?_, fun i hi => ?_, fun i b hi hr => ?_, fun i j b hi hj hr hr' => ?_⟩
  · by_cases e : k = id
    · subst e; rw [hget_hset_self c.lt, hnv] at hv; cases hv
    · rw [hget_hset_ne e] at hv; rw [c.oth k e]; exact hH.arg k hk hv
  · rw [length_hset] at hi
    by_cases e : i = id
    · subst e; rw [hget_hset_self hi]; exact ho
    · rw [hget_hset_ne e]
      exact ORel.keeps c.dat (c.oth i e) (fun b h1 h2 => c.blk b (hH.own i b h1 h2).2 (fun e' => e (hH.inj i id b h1 c.own h2 e'))) (hH.obj i hi)
  · by_cases e : i = id
    · subst e
      rcases c.to b hr with h1 | h1
      · have h2 := lt' b h1; have := c.size; exact ⟨h2.1, by omega⟩
      · exact ⟨fun hk => by have := hH.kb b hk; omega, h1.2⟩
    · rw [hget_hset_ne e] at hi; rw [c.oth i e] at hr
      have h2 := hH.own i b hi hr; have := c.size; exact ⟨h2.1, by omega⟩
  · by_cases e : i = id <;> by_cases e' : j = id
    · rw [e, e']
    · subst e
      rw [hget_hset_ne e'] at hj; rw [c.oth j e'] at hr'
      rcases c.to b hr with h1 | h1
      · exact hH.inj i j b c.own hj h1 hr'
      · have := (hH.own j b hj hr').2; omega
    · subst e'
      rw [hget_hset_ne e] at hi; rw [c.oth i e] at hr
      rcases c.to b hr' with h1 | h1
      · exact hH.inj i j b hi c.own hr h1
      · have := (hH.own i b hi hr).2; omega
    · rw [hget_hset_ne e] at hi; rw [hget_hset_ne e'] at hj; rw [c.oth i e] at hr; rw [c.oth j e'] at hr'
      exact hH.inj i j b hi hj hr hr'
end
theorem Rel.put {F : Fr} {w0 w w' : World} {st : St} {a : Act} {ρ ρ' : Nat → Loc} {h' : List AObj} {v : AVal} {val : Value} (hd : a.defers = []) (hs : a.tmps.size = st.tmps.length)
    (hV : ∀ i, VRel w ρ st.heap (okOf F w ρ st.heap) (tget st.tmps i) (a.tmps.getD i Go.undef)) (hb : Near F.kept w0 w') (hH : HRel F w0.heap.size w' ρ' h')
    (k : Keeps w ρ st.heap (okOf F w ρ st.heap) w' ρ' h' (okOf F w' ρ' h')) (hv : VRel w' ρ' h' (okOf F w' ρ' h') v val) (dst : Option Tmp) : Rel F w0 ⟨putD st.tmps dst v, h'⟩ (a.put dst val) w' := by
  cases dst with
  | none => exact ⟨hd, hs, hb, ρ', hH, fun i => VRel.keeps k _ _ (hV i)⟩
  | some d =>
    refine ⟨hd, by simp [Act.put, putD, length_tset, hs], hb, ρ', hH, fun i => ?_⟩
    show VRel w' ρ' h' _ (tget (tset st.tmps d v) i) ((a.tmps.setIfInBounds d val).getD i Go.undef)
    rw [tget_tset, getD_put, hs]
    split
    · exact hv
    · exact VRel.keeps k _ _ (hV i)
theorem Keeps.refl (w : World) (ρ : Nat → Loc) (h : List AObj) (ok : Nat → Prop) : Keeps w ρ h ok w ρ h ok :=
  ⟨fun _ hb => ⟨hb, rfl⟩, fun _ hb => ⟨hb, rfl⟩, Nat.le_refl _, fun _ _ _ _ h => h, fun _ _ _ _ h => h, fun _ _ _ _ _ _ h => h, fun _ _ _ h => h, fun _ _ => ⟨fun _ _ _ h => h, fun _ _ _ h => h, fun _ _ _ _ _ h => h⟩, fun _ _ _ _ _ _ _ h => h⟩
theorem Keeps.trans {w1 w2 w3 : World} {r1 r2 r3 : Nat → Loc} {h1 h2 h3 : List AObj} {k1 k2 k3 : Nat → Prop} (a : Keeps w1 r1 h1 k1 w2 r2 h2 k2) (b : Keeps w2 r2 h2 k2 w3 r3 h3 k3) : Keeps w1 r1 h1 k1 w3 r3 h3 k3 :=
  ⟨fun x hx => ⟨(b.dat x (a.dat x hx).1).1, (b.dat x (a.dat x hx).1).2.trans (a.dat x hx).2⟩, fun x hx => ⟨(b.live x (a.live x hx).1).1, (b.live x (a.live x hx).1).2.trans (a.live x hx).2⟩, Nat.le_trans a.len b.len,
   fun id v val hl h => b.sl id v val (Nat.lt_of_lt_of_le hl a.len) (a.sl id v val hl h), fun id p val hl h => b.pt id p val (Nat.lt_of_lt_of_le hl a.len) (a.pt id p val hl h),
   fun id v i p val hl h => b.el id v i p val (Nat.lt_of_lt_of_le hl a.len) (a.el id v i p val hl h), fun id val hl h => b.it id val (Nat.lt_of_lt_of_le hl a.len) (a.it id val hl h),
   fun id hl => ⟨fun ver p val h => (b.tr id (Nat.lt_of_lt_of_le hl a.len)).1 ver p val ((a.tr id hl).1 ver p val h), fun ver p val h => (b.tr id (Nat.lt_of_lt_of_le hl a.len)).2.1 ver p val ((a.tr id hl).2.1 ver p val h), fun ver p i q val h => (b.tr id (Nat.lt_of_lt_of_le hl a.len)).2.2 ver p i q val ((a.tr id hl).2.2 ver p i q val h)⟩,
   fun id s u t x val hl h => b.le id s u t x val (Nat.lt_of_lt_of_le hl a.len) (a.le id s u t x val hl h)⟩
end Go.PB
namespace Go.PB
open Go Go.RowKit
/-! ## 1. Parts of a value that are set -/
theorem compSet_inv {R : Type} {Q : (u : Ty) → u.C → u.C → Prop} {g : (t' : Ty) → t'.C → (t'.C → Option R) → Option R} (hg : ∀ (u : Ty) (z : u.C) (k : u.C → Option R) (r : R), g u z k = some r → ∃ y, k y = some r ∧ Q u z y) :
    ∀ {t : Ty} {x : t.C} {f : Nat} {K : t.C → Option R} {r : R}, Ty.compSet t x f g K = some r →
    ∃ t' off z y x', K x' = some r ∧ Ty.compOff t f = some (off, t') ∧ Q t' z y ∧ ∀ {w : World} {ok : Nat → Prop} {cs : List Value}, Cells w ok t x cs →
      ∃ c1 c2 c3, cs = c1 ++ (c2 ++ c3) ∧ c1.length = off ∧ Cells w ok t' z c2 ∧ ∀ d, Cells w ok t' y d → Cells w ok t x' (c1 ++ (d ++ c3))
  | .pair a b, x, 0, K, r, h => by
    obtain ⟨y, hk, hQ⟩ := hg _ _ _ _ h
    exact ⟨a, 0, x.1, y, (y, x.2), hk, rfl, hQ, fun ⟨c1, c2, e, h1, h2⟩ => ⟨[], c1, c2, by simpa using e, rfl, h1, fun d hd => ⟨d, c2, by simp, hd, h2⟩⟩⟩
  | .pair a b, x, n + 1, K, r, h => by
    obtain ⟨t', off, z, y, x', hk, ho, hQ, hc⟩ := compSet_inv hg (t := b) (x := x.2) (f := n) h
    refine ⟨t', a.width + off, z, y, (x.1, x'), hk, by simp [Ty.compOff, ho], hQ, fun {w ok cs} ⟨c1, c2, e, h1, h2⟩ => ?_⟩
    obtain ⟨d1, d2, d3, e', hl, hz, hd⟩ := hc h2
    exact ⟨c1 ++ d1, d2, d3, by subst e e'; simp, by simp [hl, Cells.length _ _ _ h1], hz, fun d hd' => ⟨c1, d1 ++ (d ++ d3), by simp, h1, hd d hd'⟩⟩
  | .unit, _, _, _, _, h => by simp [Ty.compSet] at h
  | .int _, _, _, _, _, h => by simp [Ty.compSet] at h
  | .bool, _, _, _, _, h => by simp [Ty.compSet] at h
  | .err, _, _, _, _, h => by simp [Ty.compSet] at h
  | .str, _, _, _, _, h => by simp [Ty.compSet] at h
  | .list _, _, _, _, _, h => by simp [Ty.compSet] at h
  | .agg _, _, _, _, _, h => by simp [Ty.compSet] at h
  | .arr _ _, _, _, _, _, h => by simp [Ty.compSet] at h
theorem setK_inv {R : Type} : ∀ {p : List Nat} {t : Ty} {x : t.C} {t' : Ty} {y : t'.C} {K : t.C → Option R} {r : R}, Ty.setK p t x t' y K = some r →
    ∃ off x', K x' = some r ∧ Ty.pathOff p t = some (off, t') ∧ ∀ {w : World} {ok : Nat → Prop} {cs : List Value}, Cells w ok t x cs →
      ∃ c1 c2 c3, cs = c1 ++ (c2 ++ c3) ∧ c1.length = off ∧ c2.length = t'.width ∧ ∀ d, Cells w ok t' y d → Cells w ok t x' (c1 ++ (d ++ c3))
  | [], t, x, t', y, K, r, h => by
    obtain ⟨e, hk⟩ := castK_inv h
    subst e
    exact ⟨0, y, hk, rfl, fun {w ok cs} hc => ⟨[], cs, [], by simp, rfl, Cells.length _ _ _ hc, fun d hd => by simpa using hd⟩⟩
  | f :: p, .agg t, x, t', y, K, r, h => by
    obtain ⟨u, off, z, z', x', hk, ho, ⟨off', hpo, hQ⟩, hc⟩ := compSet_inv (Q := fun u z z' => ∃ off', Ty.pathOff p u = some (off', t') ∧ ∀ {w : World} {ok : Nat → Prop} {cs : List Value}, Cells w ok u z cs →
      ∃ c1 c2 c3, cs = c1 ++ (c2 ++ c3) ∧ c1.length = off' ∧ c2.length = t'.width ∧ ∀ d, Cells w ok t' y d → Cells w ok u z' (c1 ++ (d ++ c3)))
      (fun u z k r hk => by
        obtain ⟨off, x', h1, h2, h3⟩ := setK_inv hk
        exact ⟨x', h1, off, h2, h3⟩) h
    refine ⟨off + off', x', hk, by simp [Ty.pathOff, ho, hpo], fun {w ok cs} hcs => ?_⟩
    obtain ⟨c1, c2, c3, e, hl, hz, hd⟩ := hc hcs
    obtain ⟨d1, d2, d3, e', hl', hw', hd'⟩ := hQ hz
    exact ⟨c1 ++ d1, d2, d3 ++ c3, by subst e e'; simp, by simp [hl, hl'], hw', fun d hdd => by
      have := hd _ (hd' d hdd)
      have e2 : c1 ++ d1 ++ (d ++ (d3 ++ c3)) = c1 ++ (d1 ++ (d ++ d3) ++ c3) := by simp
      rw [e2]; exact this⟩
  | f :: p, .arr n t, x, t', y, K, r, h => by
    obtain ⟨hlt, h⟩ := roomK_inv h
    obtain ⟨off', z, hk, hpo, hQ⟩ := setK_inv h
    refine ⟨f * t.width + off', x.set f z, hk, by simp [Ty.pathOff, hpo, show f < n by omega], fun {w ok cs} hcs => ?_⟩
    obtain ⟨c1, c, c3, e, hl, hc, hset⟩ := RowC.set (fun x cs => Cells.length t x cs) t.zero x cs f hcs.2 (by rw [hcs.1]; omega)
    obtain ⟨d1, d2, d3, e', hl', hw', hd'⟩ := hQ hc
    exact ⟨c1 ++ d1, d2, d3 ++ c3, by subst e e'; simp, by simp [hl, hl'], hw', fun d hdd => by
      have := hset z _ (hd' d hdd)
      have e2 : c1 ++ d1 ++ (d ++ (d3 ++ c3)) = c1 ++ (d1 ++ (d ++ d3) ++ c3) := by simp
      rw [e2]; exact ⟨by simp [hcs.1], this⟩⟩
  | _ :: _, .unit, _, _, _, _, _, h => by simp [Ty.setK] at h
  | _ :: _, .int _, _, _, _, _, _, h => by simp [Ty.setK] at h
  | _ :: _, .bool, _, _, _, _, _, h => by simp [Ty.setK] at h
  | _ :: _, .str, _, _, _, _, _, h => by simp [Ty.setK] at h
  | _ :: _, .list _, _, _, _, _, _, h => by simp [Ty.setK] at h
  | _ :: _, .pair _ _, _, _, _, _, _, h => by simp [Ty.setK] at h
theorem RowC.one' {α : Type} {R : α → List Value → Prop} (hR : ∀ x cs, R x cs → ∀ v ∈ cs, v.oneCell' = true) : ∀ (l : List α) (cs : List Value), RowC R l cs → ∀ v ∈ cs, v.oneCell' = true
  | [], _, h => by simp only [RowC] at h; subst h; simp
  | x :: xs, _, ⟨c1, c2, e, h1, h2⟩ => by
    subst e; intro v hv
    rcases List.mem_append.1 hv with h | h
    · exact hR x c1 h1 v h
    · exact RowC.one' hR xs c2 h2 v h
theorem Cells.one {w : World} {ok : Nat → Prop} : ∀ (t : Ty) (x : t.C) (cs : List Value), Cells w ok t x cs → ∀ v ∈ cs, v.oneCell' = true
  | .int _, _, _, h => by simp only [Cells] at h; subst h; simp [Value.oneCell']
  | .bool, _, _, h => by simp only [Cells] at h; subst h; simp [Value.oneCell']
  | .err, _, _, h => by simp only [Cells] at h; rcases h with ⟨_, h⟩ | ⟨_, _, _, h⟩ <;> (subst h; simp [Value.oneCell'])
  | .str, _, _, h => by simp only [Cells] at h; subst h; simp [Value.oneCell']
  | .unit, _, _, h => by simp only [Cells] at h; subst h; simp
  | .list _, _, _, ⟨v, e, A, c, hv, _⟩ => by subst e hv; simp [Value.oneCell']
  | .pair a b, x, _, ⟨c1, c2, e, h1, h2⟩ => by
    subst e; intro v hv
    rcases List.mem_append.1 hv with h | h
    · exact Cells.one a x.1 c1 h1 v h
    · exact Cells.one b x.2 c2 h2 v h
  | .agg t, x, cs, h => Cells.one t x cs h
  | .arr _ t, l, cs, h => RowC.one' (fun x cs => Cells.one t x cs) l cs h.2
theorem RowC.one {w : World} {ok : Nat → Prop} {t : Ty} : ∀ (l : List t.C) (cs : List Value), RowC (Cells w ok t) l cs → ∀ v ∈ cs, v.oneCell' = true
  | [], _, h => by simp only [RowC] at h; subst h; simp
  | x :: xs, _, ⟨c1, c2, e, h1, h2⟩ => by
    subst e; intro v hv
    rcases List.mem_append.1 hv with h | h
    · exact Cells.one t x c1 h1 v h
    · exact RowC.one xs c2 h2 v h
/-! ## 2. A new object -/
section
variable {F : Fr} {P : Program} {w0 w w' : World} {st : St} {a : Act} {ρ : Nat → Loc} {R : Type}
structure Open (F : Fr) (w0 : World) (st : St) (a : Act) (w : World) (ρ : Nat → Loc) : Prop where
  defers : a.defers = []
  size : a.tmps.size = st.tmps.length
  below : Near F.kept w0 w
  hrel : HRel F w0.heap.size w ρ st.heap
  vals : ∀ i, VRel w ρ st.heap (okOf F w ρ st.heap) (tget st.tmps i) (a.tmps.getD i Go.undef)
theorem Rel.opened (h : Rel F w0 st a w) : ∃ ρ, Open F w0 st a w ρ := let ⟨ρ, h1, h2⟩ := h.mem; ⟨ρ, h.defers, h.size, h.below, h1, h2⟩
theorem Open.rel (h : Open F w0 st a w ρ) : Rel F w0 st a w := ⟨h.defers, h.size, h.below, ρ, h.hrel, h.vals⟩
theorem Open.ev (h : Open F w0 st a w ρ) (x : Operand) : VRel w ρ st.heap (okOf F w ρ st.heap) (ev st.tmps x) (a.eval x) := vrel_ev h.vals x
theorem Open.base (h : Open F w0 st a w ρ) : w0.heap.size ≤ w.heap.size := h.below.size
theorem Open.near (h : Open F w0 st a w ρ) {w' : World} (hb : Below w.heap.size w w') : Near F.kept w0 w' := h.below.trans (Near.below hb fun b hk => Nat.lt_of_lt_of_le (h.hrel.kb b hk) h.base)
theorem Open.q (h : Open F w0 st a w ρ) {v : AVal} {val : Value} (hv : VRel w ρ st.heap (okOf F w ρ st.heap) v val) (dst : Option Tmp) : Rel F w0 (st.after dst (.q v)) (a.put dst val) w :=
  Rel.put h.defers h.size h.vals h.below h.hrel (Keeps.refl _ _ _ _) hv dst
def newρ (ρ : Nat → Loc) (n b : Nat) (i : Nat) : Loc := if i = n then ⟨[b], [], .leaf⟩ else ρ i
theorem alloc_old {w : World} {o : Obj} (b : Nat) (hb : b < w.heap.size) : (w.alloc o).heap[b]? = w.heap[b]? := heap_alloc_old w o b hb
theorem Open.push (h : Open F w0 st a w ρ) {o : AObj} {blk : Obj} {v : AVal} {val : Value}
    (ho : ORel (w.alloc blk) (newρ ρ st.heap.length w.heap.size) (okOf F (w.alloc blk) (newρ ρ st.heap.length w.heap.size) (st.heap ++ [o])) st.heap.length o)
    (hv : VRel (w.alloc blk) (newρ ρ st.heap.length w.heap.size) (st.heap ++ [o]) (okOf F (w.alloc blk) (newρ ρ st.heap.length w.heap.size) (st.heap ++ [o])) v val) (dst : Option Tmp) :
    Rel F w0 ⟨putD st.tmps dst v, st.heap ++ [o]⟩ (a.put dst val) (w.alloc blk) := by
  have hsame : ∀ id, id < st.heap.length → hget (st.heap ++ [o]) id = hget st.heap id ∧ newρ ρ st.heap.length w.heap.size id = ρ id := fun id hid => by
    rw [hget_append, if_neg (by omega)]; simp [newρ]; omega
  have hnew : ∀ id b, st.heap.length ≤ id → (hget (st.heap ++ [o]) id).owns = true → b ∈ (newρ ρ st.heap.length w.heap.size id).bs → id = st.heap.length ∧ b = w.heap.size := fun id b hid hown hr => by
    by_cases e : id = st.heap.length
    · subst e; simp [newρ] at hr; exact ⟨rfl, hr⟩
    · rw [hget_ge _ id (by simp; omega)] at hown; simp [AObj.owns] at hown
  have hB := h.base
  refine Rel.put (ρ := ρ) h.defers h.size h.vals (h.below.alloc (fun b hk => Nat.lt_of_lt_of_le (h.hrel.kb b hk) hB) blk) (hrel_ext h.hrel hB (by simp) (fun b hb => alloc_old b hb) (by simp) hsame ?_ ?_ ?_)
    (keeps_ext (fun id b ho hb => (h.hrel.own id b ho hb).2) (by simp) (fun b hb => alloc_old b hb) (by simp) hsame (fun id b h1 h2 h3 => by have := hnew id b h1 h2 h3; omega)) hv dst
  · intro id h1 h2
    obtain rfl : id = st.heap.length := by simp at h2; omega
    rw [hget_append, if_pos rfl]; exact ho
  · intro id b h1 h2 h3
    obtain ⟨_, rfl⟩ := hnew id b h1 h2 h3
    simp
  · intro id id' b h1 h1' h2 h2' h3 h3'
    rw [(hnew id b h1 h2 h3).1, (hnew id' b h1' h2' h3').1]
theorem Open.dat_push (_h : Open F w0 st a w ρ) (o : AObj) (blk : Obj) (b : Nat) (hb : okOf F w ρ st.heap b) :
    okOf F (w.alloc blk) (newρ ρ st.heap.length w.heap.size) (st.heap ++ [o]) b ∧ (w.alloc blk).heap[b]? = w.heap[b]? := by
  refine ⟨⟨hb.1, by simp; have := hb.2.1; omega, fun id ho hr => ?_⟩, alloc_old b hb.2.1⟩
  by_cases e : id = st.heap.length
  · subst e; simp [newρ] at hr; have := hb.2.1; omega
  · rw [hget_append, if_neg e] at ho; simp [newρ, e] at hr; exact hb.2.2 id ho hr
theorem Open.box (h : Open F w0 st a w ρ) {t : Ty} {x : t.C} {v : Value} (T : TypeId) (hv : Cells w (okOf F w ρ st.heap) t x v.cells.toList) (dst : Option Tmp) :
    Rel F w0 (st.after dst (.box t x)) (a.put dst (.pointer (some ⟨w.heap.size, 0, none⟩))) (w.alloc (.cells v.cells T)) := by
  refine h.push (o := .box t x) ?_ ?_ dst
  · exact ⟨w.heap.size, v.cells, T, by simp [newρ], heap_alloc_new w _, Cells.mono (fun b hb => h.dat_push _ _ b hb) t x _ hv⟩
  · refine ⟨by simp, ?_⟩
    rw [hget_append, if_pos rfl]
    exact ⟨w.heap.size, 0, t, by simp [newρ], rfl, rfl⟩
theorem Open.row (h : Open F w0 st a w ρ) {t : Ty} {l : List t.C} {cs : Array Value} (T : TypeId) (hv : RowC (Cells w (okOf F w ρ st.heap) t) l cs.toList) (dst : Option Tmp) :
    Rel F w0 (st.after dst (.row t l)) (a.put dst (.slice (some ⟨w.heap.size, 0, none⟩) l.length l.length)) (w.alloc (.cells cs T)) := by
  have hlen : cs.size = l.length * t.width := by
    have := RowC.length (fun x cs => Cells.length t x cs) l cs.toList hv
    simpa using this
  refine h.push (o := .row 0 t l) ?_ ?_ dst
  · exact .inr ⟨w.heap.size, cs, T, cs.toList, [], by simp [newρ], heap_alloc_new w _, by simp, RowC.mono (fun x cs => Cells.mono (fun b hb => h.dat_push _ _ b hb) t x cs) l _ hv⟩
  · refine ⟨by simp, ?_⟩
    rw [hget_append, if_pos rfl]
    exact ⟨Nat.le_refl _, fun _ => .inr ⟨w.heap.size, l.length, cs, T, by simp [newρ], rfl, heap_alloc_new w _, hlen, Nat.le_refl _⟩⟩
theorem Open.iter (h : Open F w0 st a w ρ) (s : ByteArray) (dst : Option Tmp) :
    Rel F w0 (st.after dst (.iter s)) (a.put dst (.pointer (some ⟨w.heap.size, 0, none⟩))) (w.alloc (.stringIter s 0)) := by
  refine h.push (o := .iter s 0) ?_ ?_ dst
  · exact ⟨w.heap.size, by simp [newρ], heap_alloc_new w _⟩
  · refine ⟨by simp, ?_⟩
    rw [hget_append, if_pos rfl]
    exact ⟨w.heap.size, by simp [newρ], rfl⟩
end
end Go.PB
namespace Go.PB
open Go Go.RowKit
section
variable {F : Fr} {P : Program} {w0 w w' : World} {st : St} {a : Act} {ρ : Nat → Loc} {R : Type}
theorem Open.upd (h : Open F w0 st a w ρ) {id : Nat} {o' : AObj} {ρ' : Nat → Loc} (c : Changes w ρ st.heap id o' w' ρ') (hb : Near F.kept w0 w')
    (hsl : ∀ ver val, SlRel w ρ (okOf F w ρ st.heap) id ver val (hget st.heap id) → SlRel w' ρ' (okOf F w' ρ' (hset st.heap id o')) id ver val o')
    (hpt : ∀ p val, PtRel w ρ (okOf F w ρ st.heap) id p val (hget st.heap id) → PtRel w' ρ' (okOf F w' ρ' (hset st.heap id o')) id p val o')
    (hel : ∀ ver i p val, ElRel ρ id ver i p val (hget st.heap id) → ElRel ρ' id ver i p val o')
    (hit : ∀ val, ItRel ρ id val (hget st.heap id) → ItRel ρ' id val o')
    (ho : ORel w' ρ' (okOf F w' ρ' (hset st.heap id o')) id o') {v : AVal} {val : Value} (hv : VRel w' ρ' (hset st.heap id o') (okOf F w' ρ' (hset st.heap id o')) v val) (dst : Option Tmp) (hnv : o'.isVt = false := by rfl) :
    Rel F w0 (st.after dst (.upd v id o')) (a.put dst val) w' :=
  Rel.put h.defers h.size h.vals hb (hrel_upd h.hrel h.base c ho hnv) (keeps_upd h.hrel c hsl hpt hel hit (trs_none hnv) hnv) hv dst
theorem below_setRow {K : Nat → Prop} {w1 w : World} (h : Near K w1 w) {g : Nat} (hg : ¬ K g) (cs : Array Value) : Near K w1 (w.setRow g cs) :=
  h.trans ⟨rfl, rfl, rfl, by simp, fun k hk => setRow_other w g k cs (fun e => hg (e ▸ hk))⟩
theorem run_storeAt {ty : TypeId} {t : Ty} (ht : TyOk P t ty) {b off : Nat} {cur : Array Value} {T : TypeId} (hrow : w.heap[b]? = some (.cells cur T (0, 0))) {c1 c2 c3 : List Value}
    (e : cur.toList = c1 ++ (c2 ++ c3)) (hl : c1.length = off) (hw : c2.length = t.width) {v : Value} {y : t.C} {ok : Nat → Prop} (hv : Cells w ok t y v.cells.toList) :
    (Instr.storeAt ty (.pointer (some ⟨b, off, none⟩)) v).run P w = .ok () (w.setRow b (c1 ++ (v.cells.toList ++ c3)).toArray) := by
  have hlen := Cells.length t y _ hv
  have hsz : v.cells.size = t.width := by simpa using hlen
  have hst := run_storeCells_at P b off T v.cells.toList 0 cur w hrow (by
    have : cur.size = (c1 ++ (c2 ++ c3)).length := by rw [← e]; simp
    rw [this]; simp; omega) (Cells.one t y _ hv)
  have e2 : cur.toList.take off ++ v.cells.toList ++ cur.toList.drop (off + v.cells.toList.length) = c1 ++ (v.cells.toList ++ c3) := by
    rw [e, ← hl, List.take_left, List.append_assoc]
    congr 2
    rw [hlen, ← hw, List.drop_length_add_append, List.drop_left]
  simp only [Nat.add_zero, e2] at hst
  simp [Instr.storeAt, Instr.sureAddr, storeVar, ht.run_sizeOf, hsz, hst]
theorem dataK_inv {h : List AObj} {ok : Nat → Prop} {u : AVal} {val : Value} {t : Ty} {K : t.C → Option R} {r : R} (hv : VRel w ρ h ok u val) (hk : RVal.dataK (res h u) t K = some r) : ∃ x, K x = some r ∧ DVal w ok t x val := by
  unfold RVal.dataK at hk
  split at hk
  · rename_i t' x ex
    obtain ⟨e, hk⟩ := castK_inv hk
    subst e
    exact ⟨x, hk, res_data hv ex⟩
  · rename_i u' ex
    rw [res_nils ex] at hv
    obtain rfl : val = .slice none 0 0 := hv
    exact ⟨[], hk, dval_list ⟨none, 0, rfl, Nat.le_refl _, .inl rfl⟩⟩
  · simp at hk
theorem Open.store {tt : Tab} (hT : TTOk P tt) (h : Open F w0 st a w ρ) {ty : TypeId} {x y : Operand} {K : Out → Option R} {r : R}
    (hk : storeK (tt ty) (res st.heap (PB.ev st.tmps x)) (res st.heap (PB.ev st.tmps y)) K = some r) :
    ∃ out w', K out = some r ∧ (Instr.storeAt ty (a.eval x) (a.eval y)).run P w = .ok () w' ∧ ∀ dst, Rel F w0 (st.after dst out) (a.put dst undef) w' := by
  have hx := h.ev x
  have hy := h.ev y
  unfold storeK at hk
  split at hk
  · rename_i t0 id t z p hty ex
    obtain ⟨e1, ho⟩ := res_box ex
    obtain ⟨u, hk1, hu⟩ := dataK_inv hy hk
    obtain ⟨off, z', hk2, hpo, hset⟩ := setK_inv hk1
    rw [e1] at hx
    obtain ⟨hl, hpt⟩ := hx
    rw [ho] at hpt
    obtain ⟨b, off', t2, hb, hoff, hval⟩ := hpt
    rw [hpo] at hoff
    simp only [Option.some.injEq, Prod.mk.injEq] at hoff
    obtain ⟨rfl, rfl⟩ := hoff
    have hob := h.hrel.obj id hl
    rw [ho] at hob
    obtain ⟨b', cs, T, hb', hrow, hcs⟩ := hob
    obtain rfl : b = b' := by rw [hb] at hb'; simpa using hb'
    obtain ⟨c1, c2, c3, ecs, hl1, hw2, _⟩ := hset hcs
    have hrun := run_storeAt (P := P) (hT _ _ hty) hrow ecs hl1 hw2 hu.1
    have hown := h.hrel.own id b (by rw [ho]; rfl) (in1 hb)
    have ch : Changes w ρ st.heap id (.box t z') (w.setRow b (c1 ++ ((a.eval y).cells.toList ++ c3)).toArray) ρ :=
      ⟨hl, by rw [ho]; rfl, rfl, by simp, fun k hk hne => setRow_other w b k _ (fun e => hne (by rw [e]; exact in1 hb)), fun _ _ => rfl, fun _ hr => .inl hr⟩
    refine ⟨_, _, hk2, by rw [hval]; exact hrun, fun dst => h.upd ch (below_setRow h.below hown.1 _) ?_ ?_ ?_ ?_ ?_ ?_ dst⟩
    · intro ver val _; trivial
    · intro p' val hp; rw [ho] at hp; exact hp
    · intro ver i p' val _; trivial
    · intro val _; trivial
    · refine ⟨b, _, T, hb, setRow_heap w b cs _ T _ hrow, ?_⟩
      obtain ⟨d1, d2, d3, ed, hd1, hd2, hnew⟩ := hset (Cells.mono (fun k hk => ch.dat k hk) _ _ _ hcs)
      have e1 : d1 = c1 := by
        have := ecs.symm.trans ed
        exact (List.append_inj_left this (by omega)).symm
      subst e1
      have e2 : c2 ++ c3 = d2 ++ d3 := by
        have := ecs.symm.trans ed
        exact List.append_cancel_left this
      have e3 : d3 = c3 := (List.append_inj_right e2 (by omega)).symm
      subst e3
      have := hnew _ (Cells.mono (fun k hk => ch.dat k hk) _ _ _ hu.1)
      simpa using this
    · simp [VRel]
  · rename_i t0 id ver t l i p hty ex
    obtain ⟨e1, ho⟩ := res_elem ex
    obtain ⟨u, hk1, hu⟩ := dataK_inv hy hk
    obtain ⟨off, z', hk2, hpo, hset⟩ := setK_inv hk1
    rw [e1] at hx
    obtain ⟨hl, hpt⟩ := hx
    rw [ho] at hpt
    obtain ⟨hil, b, off', t2, hb, hoff, hval⟩ := hpt.2 rfl
    rw [hpo] at hoff
    simp only [Option.some.injEq, Prod.mk.injEq] at hoff
    obtain ⟨rfl, rfl⟩ := hoff
    have hob := h.hrel.obj id hl
    rw [ho] at hob
    rcases hob with ⟨hn, _⟩ | ⟨b', cs, T, cc, rest, hb', hrow, ecc, hrc⟩
    · rw [hn] at hb; cases hb
    obtain rfl : b = b' := by rw [hb] at hb'; simpa using hb'
    obtain ⟨k1, ce, k3, ek, hkl, hce, _⟩ := RowC.set (fun x cs => Cells.length t x cs) t.zero l cc i hrc hil
    obtain ⟨c1, c2, c3, ecs, hl1, hw2, _⟩ := hset hce
    have eall : cs.toList = (k1 ++ c1) ++ (c2 ++ (c3 ++ (k3 ++ rest))) := by rw [ecc, ek, ecs]; simp
    have hrun := run_storeAt (P := P) (off := i * t.width + off) (hT _ _ hty) hrow eall (by simp [hkl, hl1]) hw2 hu.1
    have hown := h.hrel.own id b (by rw [ho]; rfl) (in1 hb)
    have ch : Changes w ρ st.heap id (.row ver t (l.set i z')) (w.setRow b ((k1 ++ c1) ++ ((a.eval y).cells.toList ++ (c3 ++ (k3 ++ rest)))).toArray) ρ :=
      ⟨hl, by rw [ho]; rfl, rfl, by simp, fun k hk hne => setRow_other w b k _ (fun e => hne (by rw [e]; exact in1 hb)), fun _ _ => rfl, fun _ hr => .inl hr⟩
    have hul := Cells.length _ _ _ hu.1
    refine ⟨_, _, hk2, by rw [hval]; exact hrun, fun dst => h.upd ch (below_setRow h.below hown.1 _) ?_ ?_ ?_ ?_ ?_ ?_ dst⟩
    · intro v val hs
      rw [ho] at hs
      refine ⟨hs.1, fun e => ?_⟩
      rcases hs.2 e with h1 | ⟨b2, c, cs2, T2, h1, h2, h3, h4, h5⟩
      · exact .inl h1
      · obtain rfl : b = b2 := by rw [hb] at h1; simpa using h1
        rw [hrow] at h3
        simp only [Option.some.injEq, Obj.cells.injEq] at h3
        obtain ⟨rfl, rfl, _⟩ := h3
        refine .inr ⟨b, c, _, T, hb, by simpa using h2, setRow_heap w b cs _ T _ hrow, ?_, by simpa using h5⟩
        rw [← h4]
        have : cs.size = cs.toList.length := by simp
        rw [this, eall]; simp; rw [show (a.eval y).cells.size = c2.length by rw [hw2]; simpa using hul]
    · intro p' val _; trivial
    · intro v j p' val hp; rw [ho] at hp; refine ⟨hp.1, fun e => ?_⟩; obtain ⟨h1, h2⟩ := hp.2 e; exact ⟨by simpa using h1, h2⟩
    · intro val _; trivial
    · obtain ⟨q1, qe, q3, eq, hq1, hqe, hqset⟩ := RowC.set (fun x cs => Cells.length t x cs) t.zero l cc i (RowC.mono (fun x cs => Cells.mono (fun k hk => ch.dat k hk) t x cs) l cc hrc) hil
      have e1 : q1 = k1 := (List.append_inj_left (ek.symm.trans eq) (by omega)).symm
      subst e1
      have e2 : ce ++ k3 = qe ++ q3 := List.append_cancel_left (ek.symm.trans eq)
      have hq := Cells.length _ _ _ hqe
      have hc := Cells.length _ _ _ hce
      have e3 : qe = ce := (List.append_inj_left e2 (by omega)).symm
      have e4 : q3 = k3 := (List.append_inj_right e2 (by omega)).symm
      subst e3 e4
      obtain ⟨d1, d2, d3, ed, hd1, hd2, hnew⟩ := hset hqe
      have e5 : d1 = c1 := (List.append_inj_left (ecs.symm.trans ed) (by omega)).symm
      subst e5
      have e6 : c2 ++ c3 = d2 ++ d3 := List.append_cancel_left (ecs.symm.trans ed)
      have e7 : d3 = c3 := (List.append_inj_right e6 (by omega)).symm
      subst e7
      have hfin := hqset _ _ (hnew _ (Cells.mono (fun k hk => ch.dat k hk) _ _ _ hu.1))
      exact .inr ⟨b, _, T, _, rest, hb, setRow_heap w b cs _ T _ hrow, by simp, hfin⟩
    · simp [VRel]
  · simp at hk
theorem setObj_other {w : World} {b : Nat} {o : Obj} (k : Nat) (hk : k ≠ b) : ({ w with heap := w.heap.setIfInBounds b o } : World).heap[k]? = w.heap[k]? := by
  simp [Ne.symm hk]
theorem Open.next (h : Open F w0 st a w ρ) {x : Operand} {ty : TypeId} {id : Nat} {s : ByteArray} {pos : Nat} (ex : res st.heap (PB.ev st.tmps x) = .iter id s pos) {K : Out → Option R} {r : R}
    (hk : (if pos < s.size then K (.upd (.tcons (.data .bool true) (.tcons (.data (.int .i64) (pos : Int)) (.tcons (.data (.int .i32) ((Utf8.decode s pos).1 : Int)) .tnil))) id (.iter s (pos + (Utf8.decode s pos).2)))
      else K (.q (.tcons (.data .bool false) .tnil))) = some r) :
    ∃ out val w', K out = some r ∧ (Instr.next (a.eval x) true ty).run P w = .ok val w' ∧ ∀ dst, Rel F w0 (st.after dst out) (a.put dst val) w' := by
  have hx := h.ev x
  obtain ⟨e1, ho⟩ := res_iter ex
  rw [e1] at hx
  obtain ⟨hl, hit⟩ := hx
  rw [ho] at hit
  obtain ⟨b, hb, hval⟩ := hit
  have hob := h.hrel.obj id hl
  rw [ho] at hob
  obtain ⟨b', hb', hrow⟩ := hob
  obtain rfl : b = b' := by rw [hb] at hb'; simpa using hb'
  have hown := h.hrel.own id b (by rw [ho]; rfl) (in1 hb)
  have hget : (getObj b).run P w = .ok (.stringIter s pos) w := by simp [getObj, Sem.run, hrow]
  split at hk
  · rename_i hlt
    have ch : Changes w ρ st.heap id (.iter s (pos + (Utf8.decode s pos).2)) { w with heap := w.heap.setIfInBounds b (.stringIter s (pos + (Utf8.decode s pos).2)) } ρ :=
      ⟨hl, by rw [ho]; rfl, rfl, by simp, fun k hk hne => setObj_other k (fun e => hne (by rw [e]; exact in1 hb)), fun _ _ => rfl, fun _ hr => .inl hr⟩
    refine ⟨_, .tuple #[.bool true, goInt pos, .int .i32 (Utf8.decode s pos).1], _, hk, ?_, fun dst => h.upd ch ?_ ?_ ?_ ?_ ?_ ?_ ?_ dst⟩
    · rw [hval]
      simp [Instr.next, hget, hlt, setObj, Sem.run, hrow]
    · exact h.below.trans ⟨rfl, rfl, rfl, by simp, fun k hk => setObj_other k (fun e => hown.1 (e ▸ hk))⟩
    · intro ver val _; trivial
    · intro p val _; trivial
    · intro ver i p val _; trivial
    · intro val hp; rw [ho] at hp; exact hp
    · exact ⟨b, hb, by simp [hown.2]⟩
    · refine ⟨_, [goInt pos, .int .i32 (Utf8.decode s pos).1], rfl, dval_bool _ _ _, _, _, rfl, dval_int _ _ _ _, _, _, rfl, dval_int _ _ _ _, rfl⟩
  · rename_i hge
    refine ⟨_, .tuple #[.bool false], w, hk, ?_, fun dst => h.q (v := .tcons (.data .bool false) .tnil) (val := .tuple #[.bool false]) ?_ dst⟩
    · rw [hval]
      simp [Instr.next, hget, hge]
    · exact ⟨_, [], rfl, dval_bool _ _ _, rfl⟩
end
end Go.PB
