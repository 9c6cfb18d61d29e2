/- The value machine: a deterministic evaluator of the translated code, and how its values stand for the model's (no program stands here). -/
import Derived.Orders
import Derived.Calls
import Derived.Laws.CopyRow
import Derived.Laws.Entries
namespace Vm
open Go
mutual
inductive K where
 | int (k : IntKind) | bool | str | sl (r : Ks)
inductive Ks where
 | nil | cons (k : K) (r : Ks)
end
mutual
def K.Ty : K → Type
 | .int _ => Int
 | .bool => Bool
 | .str => List UInt8
 | .sl r => List r.Ty
def Ks.Ty : Ks → Type
 | .nil => Unit
 | .cons k r => match r with
   | .nil => k.Ty
   | .cons _ _ => k.Ty × r.Ty
end
def Ks.len : Ks → Nat
 | .nil => 0
 | .cons _ r => r.len + 1
mutual
def K.eqp : (a b : K) → Option (PLift (a = b))
 | .int k, .int k' => if h : k = k' then some ⟨by rw [h]⟩ else none
 | .bool, .bool => some ⟨rfl⟩
 | .str, .str => some ⟨rfl⟩
 | .sl r, .sl r' => match Ks.eqp r r' with
   | some ⟨h⟩ => some ⟨by rw [h]⟩
   | none => none
 | _, _ => none
def Ks.eqp : (a b : Ks) → Option (PLift (a = b))
 | .nil, .nil => some ⟨rfl⟩
 | .cons k r, .cons k' r' => match K.eqp k k', Ks.eqp r r' with
   | some ⟨h⟩, some ⟨h'⟩ => some ⟨by rw [h, h']⟩
   | _, _ => none
 | _, _ => none
end
def Ks.cast {a b : Ks} (h : a = b) (xs : List a.Ty) : List b.Ty := h ▸ xs
def beqInt (a b : Int) : Bool := decide (a = b)
def beqBool (a b : Bool) : Bool := a == b
def beqStr (a b : List UInt8) : Bool := a == b
def K.beq : (k : K) → k.Ty → k.Ty → Bool
 | .int _, a, b => beqInt a b
 | .bool, a, b => beqBool a b
 | .str, a, b => beqStr a b
 | .sl _, _, _ => false
def Ks.beq : (r : Ks) → r.Ty → r.Ty → Bool
 | .nil, _, _ => true
 | .cons k .nil, a, b => k.beq a b
 | .cons k (.cons k' r), a, b => k.beq a.1 b.1 && Ks.beq (.cons k' r) a.2 b.2
def K.cmp : K → Bool
 | .sl _ => false
 | _ => true
def Ks.cmp : Ks → Bool
 | .nil => true
 | .cons k r => k.cmp && r.cmp
inductive V where
 | int (k : IntKind) (n : Int)
 | bool (b : Bool)
 | str (s : List UInt8)
 | sl (r : Ks) (xs : List r.Ty)
 | emp (r : Ks) (z : Bool)
 | nilsl | nilp | nilfn | nilif | nilmap
 | undef
 | agg (l : List V)
 | tuple (l : List V)
 | ref (i k w off : Nat)
 | rod (r : Ks) (x : r.Ty) (off : Nat)
 | rodA (r : Ks) (xs : List r.Ty)
 | own (i : Nat)
 | win (i w l n : Nat)
 | map (i : Nat)
 | fn (f : Nat) (first caps : List V)
 | stamp (i : Nat)
 | yld (i : Nat)
 | iface (t : Nat) (v : V)
inductive Ob where
 | var (cells : List V)
 | arr (r : Ks) (xs : List r.Ty) (frozen : Bool)
 | map (kr : Ks) (ka : Bool) (vr : Ks) (va : Bool) (es : List (kr.Ty × vr.Ty))
 | lmap (c : Nat) (kr : Ks) (ka : Bool) (vr : Ks) (va : Bool) (es : List (kr.Ty × vr.Ty))
 | emap (j : Nat) (kr : Ks) (ka : Bool) (vr : Ks) (va : Bool) (es : List (kr.Ty × vr.Ty)) (key : kr.Ty) (z : vr.Ty)
 | iter (s : List UInt8) (pos : Nat)
 | miter (m : Nat) (kr : Ks) (ka : Bool) (vr : Ks) (va : Bool) (left : List (kr.Ty × vr.Ty)) (cur : Option (kr.Ty × vr.Ty))
 | loop (y : Nat) (fr : List (Nat × V)) (st : Nat)
 | dead
structure St where
 fr : List (Nat × V)
 hp : List (Nat × Ob)
 nx : Nat
def look {α : Type} : List (Nat × α) → Nat → Option α
 | [], _ => none
 | (i, x) :: l, j => if i = j then some x else look l j
def idx {α : Type} (xs : List α) (i : Int) : Option α := if 0 ≤ i then xs[i.toNat]? else none
mutual
def V.ids : V → List Nat
 | .ref i _ _ _ | .own i | .win i _ _ _ | .map i | .yld i | .stamp i => [i]
 | .agg l | .tuple l => V.idsL l
 | .fn _ a b => V.idsL a ++ V.idsL b
 | .iface _ v => v.ids
 | _ => []
def V.idsL : List V → List Nat
 | [] => []
 | v :: l => v.ids ++ V.idsL l
end
mutual
def V.roots : V → List Nat
 | .ref i _ _ _ | .map i | .own i | .win i _ _ _ | .yld i | .stamp i => [i]
 | .agg l | .tuple l => V.rootsL l
 | .fn _ a b => V.rootsL a ++ V.rootsL b
 | .iface _ v => v.roots
 | _ => []
def V.rootsL : List V → List Nat
 | [] => []
 | v :: l => v.roots ++ V.rootsL l
end
mutual
def V.ren (ρ : Nat → Nat) : V → V
 | .ref i k w o => .ref (ρ i) k w o
 | .win i w l n => .win (ρ i) w l n
 | .own i => .own (ρ i)
 | .map i => .map (ρ i)
 | .yld i => .yld (ρ i)
 | .stamp i => .stamp (ρ i)
 | .agg l => .agg (V.renL ρ l)
 | .tuple l => .tuple (V.renL ρ l)
 | .fn f a b => .fn f (V.renL ρ a) (V.renL ρ b)
 | .iface t v => .iface t (v.ren ρ)
 | v => v
def V.renL (ρ : Nat → Nat) : List V → List V
 | [] => []
 | v :: l => v.ren ρ :: V.renL ρ l
end
mutual
def V.shares : V → Bool
 | .sl _ _ | .emp _ _ | .rod _ _ _ | .rodA _ _ | .fn _ _ _ | .iface _ _ => true
 | .agg l | .tuple l => V.sharesL l
 | _ => false
def V.sharesL : List V → Bool
 | [] => false
 | v :: l => v.shares || V.sharesL l
end
def Ob.ids : Ob → List Nat
 | .var l => V.idsL l
 | .loop _ fr _ => V.idsL (fr.map (·.2))
 | .miter m _ _ _ _ _ _ => [m]
 | .emap j _ _ _ _ _ _ _ => [j]
 | _ => []
def Ob.calm : Ob → Bool
 | .lmap _ _ _ _ _ _ | .miter _ _ _ _ _ _ _ | .emap _ _ _ _ _ _ _ _ => false
 | _ => true
def Ob.ren (ρ : Nat → Nat) : Ob → Ob
 | .var l => .var (V.renL ρ l)
 | .loop y fr st => .loop y (fr.map fun p => (p.1, p.2.ren ρ)) st
 | .lmap c kr ka vr va es => .lmap (ρ c) kr ka vr va es
 | .miter m kr ka vr va l c => .miter (ρ m) kr ka vr va l c
 | .emap j kr ka vr va es key z => .emap (ρ j) kr ka vr va es key z
 | o => o
def K.leaf : (k : K) → k.Ty → V
 | .int k, n => .int k n
 | .bool, b => .bool b
 | .str, s => .str s
 | .sl r, xs => .sl r xs
def Ks.cells : (r : Ks) → r.Ty → List V
 | .nil, _ => []
 | .cons k .nil, x => [k.leaf x]
 | .cons k (.cons k' r), x => k.leaf x.1 :: Ks.cells (.cons k' r) x.2
def K.close (k : K) (v : V) : Option k.Ty := match k with
 | .int k => match v with
   | .int k' n => if k = k' then some n else none
   | _ => none
 | .bool => match v with
   | .bool b => some b
   | _ => none
 | .str => match v with
   | .str s => some s
   | _ => none
 | .sl r => match v with
   | .sl r' xs => match Ks.eqp r' r with
     | some ⟨h⟩ => some (Ks.cast h xs)
     | none => none
   | .nilsl => some []
   | .emp _ _ => some []
   | _ => none
def Ks.close : (r : Ks) → List V → Option r.Ty
 | .nil, l => match l with
   | [] => some ()
   | _ :: _ => none
 | .cons k .nil, l => match l with
   | [] => none
   | v :: vs => match vs with
     | [] => k.close v
     | _ :: _ => none
 | .cons k (.cons k' r), l => match l with
   | [] => none
   | v :: vs => match k.close v with
     | none => none
     | some x => match Ks.close (.cons k' r) vs with
       | none => none
       | some y => some (x, y)
mutual
def V.plain (h : Nat → Option Ob) : V → Option (V × List Nat)
 | .own i => match h i with
   | some (.arr r xs _) => some (.sl r xs, [i])
   | _ => none
 | .win i w l n => match h i with
   | some (.arr r xs _) => if w = r.len ∧ l + n ≤ xs.length then some (.sl r ((xs.drop l).take n), [i]) else none
   | _ => none
 | .agg l => match V.plainL h l with
   | some (l, is) => some (.agg l, is)
   | none => none
 | .tuple l => match V.plainL h l with
   | some (l, is) => some (.tuple l, is)
   | none => none
 | .fn f a b => match V.plainL h a, V.plainL h b with
   | some (a, is), some (b, js) => some (.fn f a b, is ++ js)
   | _, _ => none
 | v => some (v, [])
def V.plainL (h : Nat → Option Ob) : List V → Option (List V × List Nat)
 | [] => some ([], [])
 | v :: l => match v.plain h, V.plainL h l with
   | some (v, is), some (l, js) => some (v :: l, is ++ js)
   | _, _ => none
end
mutual
def V.plainP (h : Nat → Option Ob) : V → Option (V × List Nat)
 | .own i => match h i with
   | some (.arr r xs _) => if r.len = 1 then some (.own i, []) else some (.sl r xs, [i])
   | _ => none
 | .agg l => match V.plainLP h l with
   | some (l, is) => some (.agg l, is)
   | none => none
 | .tuple l => match V.plainLP h l with
   | some (l, is) => some (.tuple l, is)
   | none => none
 | .fn f a b => match V.plainLP h a, V.plainLP h b with
   | some (a, is), some (b, js) => some (.fn f a b, is ++ js)
   | _, _ => none
 | v => some (v, [])
def V.plainLP (h : Nat → Option Ob) : List V → Option (List V × List Nat)
 | [] => some ([], [])
 | v :: l => match v.plainP h, V.plainLP h l with
   | some (v, is), some (l, js) => some (v :: l, is ++ js)
   | _, _ => none
end
def froze (h : Nat → Option Ob) : List Nat → List (Nat × Ob)
 | [] => []
 | i :: l => match h i with
   | some (.arr r xs _) => (i, .arr r xs true) :: froze h l
   | _ => froze h l
inductive TK where
 | int (k : IntKind) | bool | str | struct | array | slice | map | ptr | func | iface
structure TI where
 tk : TK
 agg : Bool
 size : Nat
 bytes : Nat
 offs : List Nat
 fts : List Nat
 elem : Nat
 row : Ks
 zero : List V
 eqs : Bool
 key : Ks
 ka : Bool
structure RF where
 params : Array Tmp
 assign : Code
 body : Code
 nt : Nat
structure Gl where
 g : Nat → Option (Sigma fun r : Ks => List r.Ty)
 rf : Nat → Option RF
 raw : Nat → Option Value
instance : CoeFun Gl (fun _ => Nat → Option (Sigma fun r : Ks => List r.Ty)) := ⟨Gl.g⟩
structure Env where
 τ : Nat → Option TI
 gl : Gl
 Γ : {R : Type} → Nat → List V → List Ob → (V → List Ob → Option R) → Option R
 mv : Nat → Bool
 hasBody : Nat → Bool
 nd : Bool
def mk1 (ti : TI) (l : List V) : Option V := if ti.agg then some (.agg l) else match l with
 | [v] => some v
 | _ => none
def cellsOf : V → List V
 | .agg l => l
 | v => [v]
def V.cell : V → Bool
 | .agg _ | .tuple _ | .undef => false
 | _ => true
def isAggV : V → Bool
 | .agg _ => true
 | _ => false
def setAt (l : List V) (off : Nat) (vs : List V) : List V := l.take off ++ (vs ++ l.drop (off + vs.length))
def getAt (l : List V) (off n : Nat) : List V := (l.drop off).take n
def bitop (op : BinOp) (k : IntKind) (x y : Int) : Int :=
 let a := BitVec.ofInt k.bits x
 let b := BitVec.ofInt k.bits y
 match op with
 | .and => k.wrap (a &&& b).toNat
 | .or => k.wrap (a ||| b).toNat
 | .xor => k.wrap (a ^^^ b).toNat
 | _ => k.wrap (a &&& ~~~b).toNat
section
variable {R : Type}
def arith (op : BinOp) (k : IntKind) (a b : Int) (kk : V → Option R) : Option R :=
 match op with
 | .add => kk (.int k (k.wrap (a + b)))
 | .sub => kk (.int k (k.wrap (a - b)))
 | .mul => kk (.int k (k.wrap (a * b)))
 | .quo => bif decide (b = 0) then none else kk (.int k (k.wrap (a.tdiv b)))
 | .rem => bif decide (b = 0) then none else kk (.int k (a.tmod b))
 | .lss => kk (.bool (decide (a < b)))
 | .leq => kk (.bool (decide (a ≤ b)))
 | .gtr => kk (.bool (decide (b < a)))
 | .geq => kk (.bool (decide (b ≤ a)))
 | .eql => kk (.bool (decide (a = b)))
 | .neq => kk (.bool (!decide (a = b)))
 | .shl => bif decide (b < 0) then none else kk (.int k (k.wrap (a * 2 ^ (min b.toNat k.bits))))
 | .shr => bif decide (b < 0) then none else kk (.int k (a.fdiv (2 ^ (min b.toNat k.bits))))
 | .and | .or | .xor | .andNot => kk (.int k (bitop op k a b))
abbrev sless := Op.bytesLess
def bytesMost : Nat := 140737488355328
def V.isEmp : V → Bool
 | .emp _ _ => true
 | _ => false
def V.isNilsl : V → Bool
 | .nilsl => true
 | _ => false
def TK.isSlice : TK → Bool
 | .slice => true
 | _ => false
def isnil0 (tk : TK) (h : Nat → Option Ob) (x y : V) (kk : Bool → Option R) : Option R := match tk, x, y with
 | .slice, .nilsl, .nilsl | .ptr, .nilp, .nilp | .func, .nilfn, .nilfn | .map, .nilmap, .nilmap => kk true
 | .iface, .nilif, .iface _ _ | .iface, .iface _ _, .nilif => kk false
 | .ptr, .nilp, .ref _ _ _ _ | .ptr, .ref _ _ _ _, .nilp | .func, .nilfn, .fn _ _ _ | .func, .fn _ _ _, .nilfn | .map, .nilmap, .map _ | .map, .map _, .nilmap => kk false
 | .slice, .sl _ xs, .nilsl | .slice, .nilsl, .sl _ xs => match xs with
   | [] => none
   | _ :: _ => kk false
 | .slice, .own i, .nilsl | .slice, .nilsl, .own i => match h i with
   | some (.arr _ xs _) => match xs with
     | [] => none
     | _ :: _ => kk false
   | _ => none
 | _, _, _ => none
def isnil (tk : TK) (h : Nat → Option Ob) (x y : V) (kk : Bool → Option R) : Option R :=
 bif tk.isSlice && ((x.isEmp && y.isNilsl) || (x.isNilsl && y.isEmp)) then kk false else isnil0 tk h x y kk
def vbin (ti : TI) (op : BinOp) (h : Nat → Option Ob) (x y : V) (kk : V → Option R) : Option R :=
 match x, y with
 | .int k a, .int k' b => match op with
   | .shl | .shr => arith op k a b kk
   | _ => if k = k' then arith op k a b kk else none
 | .str a, .str b => match op with
   | .add => bif decide (a.length + b.length ≤ bytesMost) then kk (.str (a ++ b)) else none
   | .eql => kk (.bool (a == b))
   | .neq => kk (.bool (!(a == b)))
   | .lss => kk (.bool (sless a b))
   | .leq => kk (.bool (sless a b || (a == b)))
   | .gtr => kk (.bool (!(sless a b || (a == b))))
   | .geq => kk (.bool (!sless a b))
   | _ => none
 | .bool a, .bool b => match op, ti.tk with
   | .eql, .bool => kk (.bool (a == b))
   | .neq, .bool => kk (.bool (!(a == b)))
   | _, _ => none
 | .agg l, .agg m => if ti.eqs then match op, Ks.close ti.row l, Ks.close ti.row m with
    | .eql, some a, some b => kk (.bool (ti.row.beq a b))
    | .neq, some a, some b => kk (.bool (!ti.row.beq a b))
    | _, _, _ => none
   else none
 | _, _ => match op with
   | .eql => isnil ti.tk h x y fun b => kk (.bool b)
   | .neq => isnil ti.tk h x y fun b => kk (.bool (!b))
   | _ => none
def loadAt (h : Nat → Option Ob) (n : Nat) (p : V) (kk : List V → Option R) : Option R :=
 match p with
 | .rod r x off => bif decide (off + n ≤ r.len) then kk (getAt (r.cells x) off n) else none
 | .ref i k w off => match h i with
   | some (.var cs) => bif decide (k = 0 ∧ off + n ≤ cs.length) then kk (getAt cs off n) else none
   | some (.arr r xs _) => bif decide (w = r.len ∧ off + n ≤ r.len) then match xs[k]? with
      | some x => kk (getAt (r.cells x) off n)
      | none => none
     else none
   | _ => none
 | .rodA r xs => bif decide (n = xs.length * r.len) then kk (xs.flatMap r.cells) else none
 | _ => none
def storeAt (h : Nat → Option Ob) (p : V) (v : V) (kk : List (Nat × Ob) → Option R) : Option R :=
 match p with
 | .ref i k w off => match h i with
   | some (.var cs) => bif decide (k = 0 ∧ off + (cellsOf v).length ≤ cs.length) then kk [(i, .var (setAt cs off (cellsOf v)))] else none
   | some (.arr r xs false) => match v.plain h with
     | some (v, is) => bif decide (w = r.len ∧ off + (cellsOf v).length ≤ r.len) && !is.contains i then match xs[k]? with
        | some x => match Ks.close r (setAt (r.cells x) off (cellsOf v)) with
          | some y => kk ((i, .arr r (xs.set k y) false) :: froze h is)
          | none => none
        | none => none
       else none
     | none => none
   | _ => none
 | _ => none
def setRows (h : Nat → Option Ob) (r : Ks) : List r.Ty → List (Nat × V) → Option (List r.Ty × List Nat)
 | xs, [] => some (xs, [])
 | xs, (i, v) :: ps => match v.plain h with
   | none => none
   | some (v, is) => match Ks.close r (cellsOf v) with
     | none => none
     | some y => if i < xs.length then match setRows h r (xs.set i y) ps with
        | some (xs, js) => some (xs, is ++ js)
        | none => none
       else none
def rowsFrom (r : Ks) (size : Nat) : Nat → List V → Option (List r.Ty)
 | 0, [] => some []
 | 0, _ => none
 | n + 1, cs => match Ks.close r (cs.take size), rowsFrom r size n (cs.drop size) with
   | some y, some ys => some (y :: ys)
   | _, _ => none
def buildParts (place : Nat → Option (Nat × Nat)) : List V → List (Nat × V) → Option (List V)
 | cs, [] => some cs
 | cs, (i, v) :: ps => match place i with
   | some (o, n) => if (cellsOf v).length = n ∧ o + n ≤ cs.length then buildParts place (setAt cs o (cellsOf v)) ps else none
   | none => none
def findKey {α β : Type} (eq : α → α → Bool) (k : α) : List (α × β) → Option β
 | [] => none
 | (a, b) :: l => if eq k a then some b else findKey eq k l
def setKey {α β : Type} (eq : α → α → Bool) (k : α) (v : β) : List (α × β) → List (α × β)
 | [] => [(k, v)]
 | (a, b) :: l => if eq k a then (k, v) :: l else (a, b) :: setKey eq k v l
end
def constV : Value → Option V
 | .int k n => some (.int k n)
 | .bool b => some (.bool b)
 | .string x => some (.str x.data.toList)
 | .slice none 0 0 => some .nilsl
 | .pointer none => some .nilp
 | .map none => some .nilmap
 | .nilFunc => some .nilfn
 | .nilIface => some .nilif
 | _ => none
section
variable (E : Env)
def ev (fr : Nat → Option V) : Operand → Option V
 | .tmp t => fr t
 | .const v => constV v
 | .global g => match E.gl.g g with
   | some ⟨r, xs⟩ => some (.rodA r xs)
   | none => none
 | .func f => some (.fn f [] [])
def evs (fr : Nat → Option V) : List Operand → Option (List V)
 | [] => some []
 | x :: l => match ev E fr x, evs fr l with
   | some v, some vs => some (v :: vs)
   | _, _ => none
def evps (fr : Nat → Option V) : List (Nat × Operand) → Option (List (Nat × V))
 | [] => some []
 | (i, x) :: l => match ev E fr x, evps fr l with
   | some v, some vs => some ((i, v) :: vs)
   | _, _ => none
def evo (fr : Nat → Option V) : Option Operand → Option (Option V)
 | none => some none
 | some x => match ev E fr x with
   | some v => some (some v)
   | none => none
def reach (h : Nat → Option Ob) : Nat → List Nat → List Nat → Option (List Nat)
 | 0, _, _ => none
 | _ + 1, [], seen => some seen
 | n + 1, i :: todo, seen => if seen.contains i then reach h n todo seen else match h i with
   | some o => reach h n (todo ++ o.ids) (seen ++ [i])
   | none => none
def posIn (L : List Nat) (i : Nat) : Nat := match L with
 | [] => 0
 | j :: L => if j = i then 0 else posIn L i + 1
def obsOf (h : Nat → Option Ob) (ρ : Nat → Nat) : List Nat → Option (List Ob)
 | [] => some []
 | i :: l => match h i, obsOf h ρ l with
   | some o, some os => some (o.ren ρ :: os)
   | _, _ => none
def nodupB : List Nat → Bool
 | [] => true
 | i :: l => !l.contains i && nodupB l
def subB (a b : List Nat) : Bool := a.all b.contains
def closedB (h : Nat → Option Ob) (L : List Nat) : Bool := L.all fun i => match h i with
 | some o => subB o.ids L
 | none => false
def order (h : Nat → Option Ob) (first rest : List Nat) : Option (List Nat) := match reach h 10000 (first ++ rest) [] with
 | some L => if nodupB L && subB rest L && closedB h L && (L.take first.length == first) then some L else none
 | none => none
def zipFrom {α : Type} : Nat → List α → List (Nat × α)
 | _, [] => []
 | n, x :: l => (n, x) :: zipFrom (n + 1) l
def dedup : List Nat → List Nat → List Nat
 | [], acc => acc
 | i :: l, acc => if acc.contains i then dedup l acc else dedup l (acc ++ [i])
def Env.ob (E : Env) (f : Nat) : Bool := E.mv (2000000000 + f)
def Env.stay (E : Env) (f : Nat) : Bool := Nat.ble 1000000000 f || E.mv (3000000000 + f)
def Env.full (E : Env) (f : Nat) : Bool := E.ob f || E.stay f
def lend (h : Nat → Option Ob) (f : Nat) (args : List V) : Option (List V × List Nat) := if E.mv f then some (args, []) else V.plainL h args
def vcall {R : Type} (h : Nat → Option Ob) (base : Nat) (f : Nat) (args : List V) (kk : V → List (Nat × Ob) → Option R) : Option R :=
 match lend E h f args with
 | none => none
 | some (args, lent) =>
   let roots := dedup (V.rootsL args) []
   match order h roots (V.idsL args) with
   | none => none
   | some L => match obsOf h (posIn L) L with
     | none => none
     | some os => if lent.any L.contains || !os.all Ob.calm then none else
       E.Γ f (V.renL (posIn L) args) os fun v os' =>
        let n := bif E.full f then L.length else roots.length
        let ρ := fun j => if j < n then L.getD j 0 else base + j
        if os'.length < n || !v.ids.all (fun j => decide (j < os'.length)) || !os'.all (fun o => o.ids.all fun j => decide (j < os'.length)) || decide (64 < os'.length) || !os'.all Ob.calm || !(List.range os'.length).all (fun j => decide (j < n) || (h (base + j)).isNone) then none else
        kk (v.ren ρ) (((bif E.ob f then (zipFrom 0 os').drop n else zipFrom 0 os').map fun p => (ρ p.1, p.2.ren ρ)) ++ ((L.drop n).map fun i => (i, Ob.dead)) ++
         (if v.shares || !os'.isEmpty then froze h lent else []))
def boundI (d : Int) (x : Option V) : Option Int := match x with
 | none => some d
 | some u => match u with
   | .int _ n => some n
   | _ => none
def bounds {R : Type} (len : Nat) (lo hi mx : Option V) (kk : Nat → Nat → Option R) : Option R :=
 match boundI 0 lo, boundI len hi, boundI len mx with
 | some l, some h, some m => bif (mx.isNone || hi.isSome) && decide (0 ≤ l ∧ l ≤ h ∧ h ≤ m ∧ m ≤ len) then kk l.toNat h.toNat else none
 | _, _, _ => none
abbrev Fr := Nat → Option V
abbrev Hp := Nat → Option Ob
abbrev Kk (R : Type) := V → List (Nat × Ob) → Option R
section
variable {R : Type} (fr : Fr) (h : Hp) (nx : Nat) (dst : Option Nat) (kk : Kk R)
def effNew (ob : Ob) (v : Nat → V) (up : List (Nat × Ob)) : Option R := match dst with
 | some d => match h (nx + 64 * d) with
   | none => kk (v (nx + 64 * d)) ((nx + 64 * d, ob) :: up)
   | some _ => none
 | none => none
def effMove (x : Operand) : Option R := match ev E fr x with
 | some v => kk v []
 | none => none
def effPick (c a b : Operand) : Option R := match ev E fr c with
 | some (.bool t) => bif t then effMove E fr kk a else effMove E fr kk b
 | _ => none
def effAlloc (t : TypeId) : Option R := match E.τ t with
 | some ti => effNew h nx dst kk (.var ti.zero) (fun i => .ref i 0 0 0) []
 | none => none
def effBox (x : Operand) : Option R := match ev E fr x with
 | some v => effNew h nx dst kk (.var (cellsOf v)) (fun i => .ref i 0 0 0) []
 | none => none
def effBuild (t : TypeId) (ps : Array (Nat × Operand)) : Option R := match E.τ t, evps E fr ps.toList with
 | some ti, some ps => match ti.tk with
   | .struct => match buildParts (fun i => match ti.offs[i]?, ti.fts[i]? with
      | some o, some ft => match E.τ ft with
        | some tf => some (o, tf.size)
        | none => none
      | _, _ => none) ti.zero ps with
     | some cs => kk (.agg cs) []
     | none => none
   | .array => match E.τ ti.elem with
     | some te => match buildParts (fun i => some (i * te.size, te.size)) ti.zero ps with
       | some cs => kk (.agg cs) []
       | none => none
     | none => none
   | _ => none
 | _, _ => none
def effBuildSlice (t : TypeId) (n : Nat) (ps : Array (Nat × Operand)) : Option R := match E.τ t, evps E fr ps.toList with
 | some ti, some ps => match ti.tk, E.τ ti.elem with
   | .slice, some te => match Ks.close te.row te.zero with
     | none => none
     | some z => match setRows h te.row (List.replicate n z) ps with
       | some (xs, is) => bif decide (n * te.size ≤ 2 ^ 24) && decide (te.size = te.row.len ∧ 0 < te.size) then effNew h nx dst kk (.arr te.row xs false) .own (froze h is) else none
       | none => none
   | _, _ => none
 | _, _ => none
def effLoad (t : TypeId) (a : Operand) : Option R := match E.τ t, ev E fr a with
 | some ti, some p => loadAt h ti.size p fun l => match mk1 ti l with
   | some v => kk v []
   | none => none
 | _, _ => none
def effStore (t : TypeId) (a x : Operand) : Option R := match E.τ t, ev E fr a, ev E fr x with
 | some ti, some p, some v => bif decide ((cellsOf v).length = ti.size) && (cellsOf v).all V.cell then storeAt h p v fun up => kk .undef up else none
 | _, _, _ => none
def effNil (x : Operand) : Option R := match ev E fr x with
 | some v => match v with
   | .ref _ _ _ _ | .rod _ _ _ | .rodA _ _ => kk v []
   | .fn _ _ _ => kk v []
   | _ => none
 | none => none
def nilnil (ti : TI) (u v : V) (y : Operand) : Bool := match ti.tk, u, v, y with
 | .iface, .nilif, .nilif, .const .nilIface => true
 | _, _, _, _ => false
def effNilnil (op : BinOp) : Option R := match op with
 | .eql => kk (.bool true) []
 | .neq => kk (.bool false) []
 | _ => none
def effBin (op : BinOp) (t : TypeId) (x y : Operand) : Option R := match E.τ t, ev E fr x, ev E fr y with
 | some ti, some a, some b => bif nilnil ti a b y then effNilnil kk op else vbin ti op h a b fun v => kk v []
 | _, _, _ => none
def effUn (op : UnOp) (x : Operand) : Option R := match op, ev E fr x with
 | .not, some (.bool b) => kk (.bool !b) []
 | .neg, some (.int k b) => kk (.int k (k.wrap (0 - b))) []
 | _, _ => none
def effConvert (s t : TypeId) (x : Operand) : Option R := match E.τ s, E.τ t, ev E fr x with
 | some si, some ti, some (.int _ n) => match si.tk, ti.tk with
   | .int _, .int k => kk (.int k (k.wrap n)) []
   | _, _ => none
 | some si, some ti, some (.str s) => match si.tk, ti.tk with
   | .str, .str => kk (.str s) []
   | _, _ => none
 | _, _, _ => none
def effFunc (fn : Fn) (a b : Array Operand) : Option R := match fn with
 | .func f => match evs E fr a.toList, evs E fr b.toList with
   | some a, some b => kk (.fn f a b) []
   | _, _ => none
 | _ => none
def effIface (t : TypeId) (x : Operand) : Option R := match E.τ t, ev E fr x with
 | some ti, some v => match ti.tk with
   | .iface => none
   | _ => kk (.iface t v) []
 | _, _ => none
def effMakeMap (t : TypeId) (r : Option Operand) : Option R := match r, E.τ t with
 | none, some ti => match ti.tk, E.τ ti.elem with
   | .map, some te => effNew h nx dst kk (.map ti.key ti.ka te.row te.agg []) .map []
   | _, _ => none
 | _, _ => none
def effMakeSlice (t : TypeId) (l c : Operand) : Option R := match E.τ t, ev E fr l, ev E fr c with
 | some ti, some (.int _ n), some (.int _ m) => match ti.tk, E.τ ti.elem with
   | .slice, some te => match Ks.close te.row te.zero with
     | some z => bif decide (0 ≤ n ∧ n ≤ m ∧ m * te.bytes ≤ bytesMost ∧ m ≤ bytesMost ∧ te.size = te.row.len ∧ 0 < te.size) then effNew h nx dst kk (.arr te.row (List.replicate n.toNat z) false) .own [] else none
     | none => none
   | _, _ => none
 | _, _, _ => none
def effSlice (t : TypeId) (x : Operand) (lo hi mx : Option Operand) : Option R := match E.τ t, ev E fr x, evo E fr lo, evo E fr hi, evo E fr mx with
 | some ti, some (.str s), some lo, some hi, some mx => match ti.tk, mx with
   | .str, none => bounds s.length lo hi none fun l h => kk (.str ((s.drop l).take (h - l))) []
   | _, _ => none
 | some ti, some (.sl r xs), some lo, some hi, some mx => match ti.tk, E.τ ti.elem with
   | .slice, some te => if te.size = r.len then (match mx, xs with
    | some (.int _ 0), _ :: _ => bounds xs.length lo hi mx fun _ _ => kk (.emp r true) []
    | _, _ => bounds xs.length lo hi mx fun l h => kk (.sl r ((xs.drop l).take (h - l))) []) else none
   | _, _ => none
 | some ti, some (.emp r z), some lo, some hi, some mx => match ti.tk, E.τ ti.elem with
   | .slice, some _ => bounds 0 lo hi mx fun _ _ => kk (.emp r (z || mx.isSome)) []
   | _, _ => none
 | some ti, some .nilsl, some lo, some hi, some mx => match ti.tk, E.τ ti.elem with
   | .slice, some _ => bounds 0 lo hi mx fun _ _ => kk .nilsl []
   | _, _ => none
 | some ti, some (.own i), some lo, some hi, some mx => match ti.tk, E.τ ti.elem, h i with
   | .slice, some te, some (.arr r xs _) => if te.size = r.len then (bif decide (r.len = 1) && decide (0 < xs.length) then bounds xs.length lo hi mx fun l h => kk (.win i r.len l (h - l)) []
    else bounds xs.length lo hi mx fun l h => kk (.sl r ((xs.drop l).take (h - l))) [(i, .arr r xs true)]) else none
   | _, _, _ => none
 | _, _, _, _, _ => none
def effFieldAddr (t : TypeId) (x : Operand) (f : Nat) : Option R := match E.τ t, ev E fr x with
 | some ti, some v => match ti.tk, ti.offs[f]?, ti.fts[f]? with
   | .struct, some o, some ft => match E.τ ft with
     | some tf => if 0 < tf.size then match v with
        | .ref i k w off => kk (.ref i k w (off + o)) []
        | .rod r x off => kk (.rod r x (off + o)) []
        | _ => none
       else none
     | none => none
   | _, _, _ => none
 | _, _ => none
def effField (t : TypeId) (x : Operand) (f : Nat) : Option R := match E.τ t, ev E fr x with
 | some ti, some (.agg cs) => match ti.tk, ti.offs[f]?, ti.fts[f]? with
   | .struct, some o, some ft => match E.τ ft with
     | some tf => if o + tf.size ≤ cs.length then match mk1 tf (getAt cs o tf.size) with
        | some v => kk v []
        | none => none
       else none
     | none => none
   | _, _, _ => none
 | _, _ => none
def effIndexAddr (t : TypeId) (x i : Operand) : Option R := match E.τ t, ev E fr x, ev E fr i with
 | some ti, some v, some (.int _ n) => match E.τ ti.elem with
   | some te => match ti.tk, v with
     | .slice, .sl r xs => if te.size = r.len then match idx xs n with
        | some y => kk (.rod r y 0) []
        | none => none
       else none
     | .array, .rodA r xs => if te.size = r.len ∧ ti.size = xs.length * te.size then match idx xs n with
        | some y => kk (.rod r y 0) []
        | none => none
       else none
     | .slice, .own j => match h j with
       | some (.arr r xs _) => if te.size = r.len then match idx xs n with
          | some _ => kk (.ref j n.toNat r.len 0) []
          | none => none
         else none
       | _ => none
     | .slice, .win j w l m => bif decide (te.size = w ∧ 0 ≤ n ∧ n < (m : Int)) then kk (.ref j (l + n.toNat) w 0) [] else none
     | .array, .ref j k w off => bif decide (0 ≤ n ∧ (n.toNat + 1) * te.size ≤ ti.size ∧ 0 < te.size) then kk (.ref j k w (off + n.toNat * te.size)) [] else none
     | _, _ => none
   | none => none
 | _, _, _ => none
def effIndex (t : TypeId) (x i : Operand) : Option R := match E.τ t, ev E fr x, ev E fr i with
 | some ti, some v, some (.int _ n) => match ti.tk, v with
   | .str, .str s => match idx s n with
     | some b => kk (.int .u8 b.toNat) []
     | none => none
   | .array, .agg cs => match E.τ ti.elem with
     | some te => match rowsFrom te.row te.size (ti.size / te.size) cs with
       | some xs => match idx xs n with
         | some y => match mk1 te (te.row.cells y) with
           | some v => kk v []
           | none => none
         | none => none
       | none => none
     | none => none
   | _, _ => none
 | _, _, _ => none
def effLookup (t : TypeId) (m x : Operand) (ok : Bool) : Option R := match E.τ t, ev E fr m, ev E fr x with
 | some ti, some mv, some kv => match ti.tk, E.τ ti.elem with
   | .map, some te => match mv with
     | .map i => match h i with
       | some (.map kr ka vr va es) => match Ks.close kr (cellsOf kv), Ks.close vr te.zero with
         | some key, some z => bif (Ks.eqp kr ti.key).isSome && (va == te.agg) && (ka == isAggV kv) && ti.ka == ka then match mk1 te (vr.cells ((findKey kr.beq key es).getD z)) with
            | some v => if ok then kk (.tuple [v, .bool (findKey kr.beq key es).isSome]) [] else kk v []
            | none => none
           else none
         | _, _ => none
       | some (.emap _ kr ka vr va es _ z₀) => match Ks.close kr (cellsOf kv), Ks.close vr te.zero with
         | some key, some z => bif (Ks.eqp kr ti.key).isSome && (va == te.agg) && (ka == isAggV kv) && ti.ka == ka && (!ok && vr.cmp && vr.beq z₀ z) then match mk1 te (vr.cells ((findKey kr.beq key es).getD z)) with
            | some v => kk v []
            | none => none
           else none
         | _, _ => none
       | _ => none
     | .nilmap => match Ks.close ti.key (cellsOf kv), mk1 te te.zero with
       | some _, some v => bif ti.ka == isAggV kv then (if ok then kk (.tuple [v, .bool false]) [] else kk v []) else none
       | _, _ => none
     | _ => none
   | _, _ => none
 | _, _, _ => none
def effUpdate (t : TypeId) (m x y : Operand) : Option R := match E.τ t, ev E fr m, ev E fr x, ev E fr y with
 | some ti, some (.map i), some kv, some vv => match ti.tk, h i, vv.plain h with
   | .map, some (.map kr ka vr va es), some (vv, is) => match Ks.close kr (cellsOf kv), Ks.close vr (cellsOf vv) with
     | some key, some v => bif (Ks.eqp kr ti.key).isSome && (ka == isAggV kv) && (va == isAggV vv) && ti.ka == ka then kk .undef ((i, .map kr ka vr va (setKey kr.beq key v es)) :: froze h is) else none
     | _, _ => none
   | _, _, _ => none
 | _, _, _, _ => none
def effMapEntry (t : TypeId) (m x : Operand) : Option R := match E.τ t, ev E fr m, ev E fr x with
 | some ti, some (.map i), some kv => match ti.tk, E.τ ti.elem, h i with
   | .map, some te, some (.map kr ka vr va es) => match Ks.close kr (cellsOf kv), Ks.close vr te.zero with
     | some key, some z => bif (Ks.eqp kr ti.key).isSome && (va == te.agg) && (ka == isAggV kv) && ti.ka == ka && kr.cmp then match mk1 te (vr.cells ((findKey kr.beq key es).getD z)) with
        | some v => effNew h nx dst kk .dead (fun j => .tuple [v, .stamp j]) [(i, .emap (nx + 64 * dst.getD 0) kr ka vr va es key z)]
        | none => none
       else none
     | _, _ => none
   | _, _, _ => none
 | _, _, _ => none
def effEntryStore (m s x : Operand) : Option R := match ev E fr m, ev E fr s, ev E fr x with
 | some (.map i), some (.stamp j), some vv => match h i with
   | some (.emap j' kr ka vr va es key _) => match Ks.close vr (cellsOf vv) with
     | some val => bif decide (j' = j) && (va == isAggV vv) then kk .undef [(i, .map kr ka vr va (setKey kr.beq key val es))] else none
     | none => none
   | _ => none
 | _, _, _ => none
def effRange (t : TypeId) (x : Operand) : Option R := match E.τ t, ev E fr x with
 | some ti, some (.str s) => match ti.tk with
   | .str => effNew h nx dst kk (.iter s 0) (fun i => .ref i 0 0 0) []
   | _ => none
 | some ti, some (.map i) => match ti.tk, h i with
   | .map, some (.map kr ka vr va es) => effNew h nx dst kk (.miter i kr ka vr va es none) (fun i => .ref i 0 0 0) [(i, .lmap (nx + 64 * dst.getD 0) kr ka vr va es)]
   | _, _ => none
 | _, _ => none
def lockB (h : Nat → Option Ob) (m c : Nat) : Bool := match h m with
 | some (.lmap c' _ _ _ _ _) => decide (c' = c)
 | _ => false
def rowV (a : Bool) (r : Ks) (x : r.Ty) : V := bif a then .agg (r.cells x) else (r.cells x).headD .undef
def effEntry (x : Operand) : Option R := match ev E fr x with
 | some (.ref i k w off) => match h i with
   | some (.miter m kr ka vr va _ (some e)) => bif decide (k = 0 ∧ off = 0) && lockB h m i then kk (.tuple [rowV ka kr e.1, rowV va vr e.2]) [] else none
   | _ => none
 | _ => none
def effNext (x : Operand) (text : Bool) : Option R := match ev E fr x with
 | some (.ref i k w off) => match h i with
   | some (.iter s pos) => bif text && decide (k = 0 ∧ off = 0) then
    (bif decide (pos < s.length) then kk (.tuple [.bool true, .int .i64 pos, .int .i32 (Go.Utf8.decode ⟨s.toArray⟩ pos).1]) [(i, .iter s (pos + (Go.Utf8.decode ⟨s.toArray⟩ pos).2))] else kk (.tuple [.bool false]) []) else none
   | _ => none
 | _ => none
def effExtract (t : Operand) (i : Nat) : Option R := match ev E fr t with
 | some (.tuple l) => match l[i]? with
   | some v => kk v []
   | none => none
 | _ => none
def rowsOf0 (h : Hp) (r : Ks) (x : V) : Option (List r.Ty) := match x with
 | .sl r' ys => match Ks.eqp r' r with
   | some ⟨e⟩ => some (Ks.cast e ys)
   | none => none
 | .nilsl => some []
 | .own j => match h j with
   | some (.arr r' ys _) => match Ks.eqp r' r with
     | some ⟨e⟩ => some (Ks.cast e ys)
     | none => none
   | _ => none
 | _ => none
def rowsOf (h : Hp) (r : Ks) (x : V) : Option (List r.Ty) := bif x.isEmp then some [] else rowsOf0 h r x
def effAppend (t : TypeId) (s x : V) : Option R := match E.τ t with
 | some ti => match ti.tk, E.τ ti.elem with
   | .slice, some te => match rowsOf h te.row x with
     | none => none
     | some ys => if te.size = te.row.len ∧ 0 < te.size ∧ 0 < te.bytes then match s with
       | .nilsl => bif decide (ys.length * te.bytes ≤ bytesMost) then effNew h nx dst kk (.arr te.row ys false) .own [] else none
       | .emp r z => bif z then (bif decide (ys.length * te.bytes ≤ bytesMost) then effNew h nx dst kk (.arr te.row ys false) .own [] else none)
         else match ys with
          | [] => kk (.emp r z) []
          | _ :: _ => none
       | .own i => match h i with
         | some (.arr r xs false) => match Ks.eqp r te.row with
           | some ⟨e⟩ => bif decide ((xs.length + ys.length) * te.bytes ≤ bytesMost) then effNew h nx dst kk (.arr te.row (Ks.cast e xs ++ ys) false) .own [(i, .dead)] else none
           | none => none
         | _ => none
       | _ => none
       else none
   | _, _ => none
 | none => none
def effLen (t : TypeId) (x : V) : Option R := match E.τ t with
 | some ti => match ti.tk, x with
   | .slice, .sl _ xs => kk (.int .i64 xs.length) []
   | .slice, .nilsl => kk (.int .i64 0) []
   | .slice, .emp _ _ => kk (.int .i64 0) []
   | .slice, .win _ _ _ n => kk (.int .i64 n) []
   | .slice, .own i => match h i with
     | some (.arr _ xs _) => kk (.int .i64 xs.length) []
     | _ => none
   | .str, .str s => kk (.int .i64 s.length) []
   | .map, .nilmap => kk (.int .i64 0) []
   | .map, .map i => match h i with
     | some (.map _ _ _ _ es) => kk (.int .i64 es.length) []
     | _ => none
   | _, _ => none
 | none => none
def effClear (t : TypeId) (i l n w : Nat) : Option R := match E.τ t with
 | some ti => match ti.tk, E.τ ti.elem, h i with
   | .slice, some te, some (.arr r xs false) => match Ks.eqp r te.row, Ks.close te.row te.zero with
     | some ⟨e⟩, some z => bif decide (l + n ≤ xs.length ∧ te.size = te.row.len ∧ w = te.row.len) then kk .undef [(i, .arr te.row ((Ks.cast e xs).take l ++ (List.replicate n z ++ (Ks.cast e xs).drop (l + n))) false)] else none
     | _, _ => none
   | _, _, _ => none
 | none => none
def effBuiltin (b : Builtin) (ts : Array TypeId) (vs : List V) : Option R := match b, vs with
 | .len, [x] => match ts[0]? with
   | some t => effLen E h kk t x
   | none => none
 | .min, [.int k a, .int k' b] => if k = k' then kk (.int k (if b < a then b else a)) [] else none
 | .max, [.int k a, .int k' b] => if k = k' then kk (.int k (if b > a then b else a)) [] else none
 | .append, [s, x] => match ts[0]?, ts[1]? with
   | some t, some u => match E.τ u with
     | some ui => match ui.tk with
       | .slice => effAppend E h nx dst kk t s x
       | _ => none
     | none => none
   | _, _ => none
 | .clear, [.map i] => match ts[0]? with
   | some t => match E.τ t with
     | some _ => match h i with
       | some (.map kr ka vr va _) => kk .undef [(i, .map kr ka vr va [])]
       | _ => none
     | none => none
   | none => none
 | .clear, [.win i w l n] => match ts[0]? with
   | some t => effClear E h kk t i l n w
   | none => none
 | .clear, [.own i] => match h i, ts[0]? with
   | some (.arr r xs _), some t => effClear E h kk t i 0 xs.length r.len
   | _, _ => none
 | _, _ => none
def effCall (c : Call) : Option R := match c.callee with
 | .builtin b => match evs E fr c.args.toList with
   | some vs => effBuiltin E h nx dst kk b c.argTypes vs
   | none => none
 | .value f => match ev E fr f, evs E fr c.args.toList, dst with
   | some (.fn f a b), some vs, some d => bif decide (f < 1000000000) then vcall E h (nx + 64 * d) f (a ++ vs ++ b) kk else none
   | some (.yld i), some vs, some d => match h i with
     | some (.loop y _ _) => vcall E h (nx + 64 * d) (1000000000 + y) (.yld i :: vs) kk
     | _ => none
   | _, _, _ => none
 | .invoke _ _ => none
end
def veff {R : Type} (fr : Fr) (h : Hp) (nx : Nat) (o : Oper) (kk : Kk R) : Option R :=
 match o.op with
 | .move x | .assign x => effMove E fr kk x
 | .pick c a b => effPick E fr kk c a b
 | .alloc t => effAlloc E h nx o.dst kk t
 | .box _ x => effBox E fr h nx o.dst kk x
 | .build t ps => effBuild E fr kk t ps
 | .buildSlice t n ps => effBuildSlice E fr h nx o.dst kk t n ps
 | .load t a => effLoad E fr h kk t a
 | .store t a x => effStore E fr h kk t a x
 | .nilCheck x => effNil E fr kk x
 | .binOp op t x y _ => effBin E fr h kk op t x y
 | .unOp op _ x => effUn E fr kk op x
 | .convert s t x => effConvert E fr kk s t x
 | .makeFunc fn a b => effFunc E fr kk fn a b
 | .makeInterface t x => effIface E fr kk t x
 | .makeMap t r => effMakeMap E h nx o.dst kk t r
 | .makeSlice t l c => effMakeSlice E fr h nx o.dst kk t l c
 | .slice t x lo hi mx => effSlice E fr h kk t x lo hi mx
 | .fieldAddr t x f => effFieldAddr E fr kk t x f
 | .field t x f => effField E fr kk t x f
 | .indexAddr t x i => effIndexAddr E fr h kk t x i
 | .index t x i => effIndex E fr kk t x i
 | .lookup t m x ok => effLookup E fr h kk t m x ok
 | .mapUpdate t m x y | .insert t m x y => effUpdate E fr h kk t m x y
 | .extract t i => effExtract E fr kk t i
 | .range t x => effRange E fr h nx o.dst kk t x
 | .next x s => effNext E fr h kk x s
 | .entry x => effEntry E fr h kk x
 | .call c => effCall E fr h nx o.dst kk c
 | .mapEntry t m x => effMapEntry E fr h nx o.dst kk t m x
 | .entryStore _ m s x => effEntryStore E fr h kk m s x
 | _ => none
def vids (fr : Nat → Option V) : List Operand → List Nat
 | [] => []
 | x :: l => match ev E fr x with
   | some v => v.ids ++ vids fr l
   | none => vids fr l
def rdsCall (fr : Nat → Option V) (h : Nat → Option Ob) (c : Call) : List Nat := match c.callee with
 | .builtin _ => vids E fr c.args.toList
 | .value f => match ev E fr f, evs E fr c.args.toList with
   | some (.fn f a b), some vs => match lend E h f (a ++ vs ++ b) with
     | some (args, lent) => match order h (dedup (V.rootsL args) []) (V.idsL args) with
       | some L => lent ++ L
       | none => []
     | none => []
   | some (.yld i), some vs => match h i with
     | some (.loop y _ _) => match lend E h (1000000000 + y) (.yld i :: vs) with
       | some (args, lent) => match order h (dedup (V.rootsL args) []) (V.idsL args) with
         | some L => i :: (lent ++ L)
         | none => []
       | none => []
     | _ => []
   | _, _ => []
 | .invoke _ _ => []
def rds (fr : Nat → Option V) (h : Nat → Option Ob) (o : Oper) : List Nat :=
 match o.op with
 | .load _ a => vids E fr [a]
 | .store _ a x => vids E fr [a, x]
 | .buildSlice _ _ ps => vids E fr (ps.toList.map (·.2))
 | .indexAddr _ x _ | .slice _ x _ _ _ => vids E fr [x]
 | .binOp _ _ x y _ => vids E fr [x, y]
 | .lookup _ m _ _ => vids E fr [m]
 | .next x _ => vids E fr [x]
 | .range _ x => vids E fr [x]
 | .entry x => let l := vids E fr [x]; l ++ l.flatMap fun i => match h i with
   | some o => o.ids
   | none => []
 | .mapUpdate _ m _ y | .insert _ m _ y => vids E fr [m, y]
 | .mapEntry _ m _ => vids E fr [m]
 | .entryStore _ m _ _ => vids E fr [m]
 | .call c => rdsCall E fr h c
 | _ => []
def gdst (ops : Array Oper) (g : Nat) : Option Nat := match ops[g]? with
 | some o => o.dst
 | none => none
def putF (fr : List (Nat × V)) (dst : Option Nat) (v : V) : List (Nat × V) := match dst with
 | some d => (d, v) :: fr
 | none => fr
def ancs : List Oper → List Nat → List Nat
 | [], acc => acc
 | o :: l, acc => ancs l (acc ++ [o.after.toList.foldl (fun s e => if Region.binds .any e then s ||| 2 ^ e.on ||| acc.getD e.on 0 else s) 0])
structure Foot where
 i : Nat
 r : List Nat
 w : List Nat
def apartB (a b : Foot) : Bool := !a.w.any (fun x => b.r.contains x || b.w.contains x) && !b.w.any (fun x => a.r.contains x)
def footsOk (an : List Nat) : List Foot → Bool
 | [] => true
 | a :: l => l.all (fun b => (an.getD b.i 0).testBit a.i || apartB a b) && footsOk an l
def vops {R : Type} (all : Array Oper) (draw : Bool) : Nat → List Oper → St → List Foot → (St → List Foot → Option R) → Option R
 | _, [], s, ft, k => k s ft
 | i, o :: l, s, ft, k =>
   let go (fr : List (Nat × V)) : Option R := veff E (look fr) (look s.hp) s.nx o fun v up =>
    vops all draw (i + 1) l ⟨putF fr o.dst v, up ++ s.hp, s.nx⟩ (if draw then ft ++ [⟨i, rds E (look fr) (look s.hp) o, up.map (·.1)⟩] else ft) k
   let skip (fr : List (Nat × V)) : Option R := vops all draw (i + 1) l ⟨putF fr o.dst .undef, s.hp, s.nx⟩ ft k
   match o.guard with
   | none => go s.fr
   | some (g, want) => match gdst all g with
     | none => none
     | some d => match look s.fr d with
       | some (.bool b) => bif b
         then (bif want then go ((d, .bool true) :: s.fr) else skip ((d, .bool true) :: s.fr))
         else (bif want then skip ((d, .bool false) :: s.fr) else go ((d, .bool false) :: s.fr))
       | some .undef => skip s.fr
       | _ => none
def frs (s : St) : List Nat → Option (List (Nat × V))
 | [] => some []
 | t :: l => match look s.fr t, frs s l with
   | some v, some r => some ((t, v) :: r)
   | _, _ => none
def norm (m : Nat) (keep : List Nat) (s : St) : Option St := match frs s keep with
 | none => none
 | some fr => match order (look s.hp) (List.range m) (V.idsL (fr.map (·.2))) with
   | none => none
   | some L => match obsOf (look s.hp) (posIn L) L with
     | none => none
     | some os => some ⟨fr.map fun p => (p.1, p.2.ren (posIn L)), zipFrom 0 os, os.length⟩
def afterB (ops : Array Oper) : Bool := (List.range ops.size).all fun i => match ops[i]? with
 | some o => o.after.toList.all fun e => !Region.binds .any e || decide (e.on < i)
 | none => true
def dstsB (nt : Nat) (ops : Array Oper) : Bool := ops.toList.all fun o => match o.dst with
 | some d => decide (d < nt)
 | none => true
def slotsB (ops : Array Oper) (an : List Nat) : Bool := (List.range ops.size).all fun j => (List.range j).all fun i => match ops[i]?, ops[j]? with
 | some a, some b => (an.getD j 0).testBit i || a.apart ops b
 | _, _ => true
def regionB (nt : Nat) (ops : Array Oper) (draw : Bool) : Bool := dstsB nt ops && (!draw || (afterB ops && Region.noSelect ops && slotsB ops (ancs ops.toList [])))
def codeB (nt : Nat) : Code → Bool
 | .region _ ops draw => regionB nt ops draw
 | .seq a b | .cond _ a b => codeB nt a && codeB nt b
 | .block _ a | .loop a | .scope a => codeB nt a
 | _ => true
def inRound : List Item → Bool
 | [] => false
 | .endRangeFunc _ :: _ => true
 | _ :: t => inRound t
def firstReg : Code → Option Nat
 | .region id _ _ => some id
 | .seq a b | .cond _ a b => match firstReg a with
   | some i => some i
   | none => firstReg b
 | .block _ a | .loop a | .scope a => firstReg a
 | _ => none
noncomputable def allOf {α R : Type} (l : List α) (f : Nat → α → Option R) : Option R :=
 open Classical in if h : ∃ r, ∀ i e, l[i]? = some e → f i e = some r then some h.choose else none
def relab (π : Nat → Nat) (o : Oper) : Oper := { o with after := o.after.map fun e => { e with on := π e.on }, guard := o.guard.map fun g => (π g.1, g.2) }
def edged (x y i : Nat) (o : Oper) : Oper := if i = y then { o with after := o.after.push ⟨x, .data⟩ } else o
def ordOps (ops : Array Oper) (x y : Nat) (τ : List Nat) : Array Oper := (τ.filterMap fun i => (ops[i]?).map fun o => relab (posIn τ) (edged x y i o)).toArray
def permB (n : Nat) (τ : List Nat) : Bool := nodupB τ && decide (τ.length = n) && τ.all fun i => decide (i < n)
noncomputable def both {R : Type} (x y : Option R) : Option R := open Classical in if x = y then x else none
def unlock (h : Nat → Option Ob) (m : Nat) : List (Nat × Ob) := match h m with
 | some (.lmap _ kr ka vr va es) => [(m, .map kr ka vr va es)]
 | _ => []
def nextOf (ops : Array Oper) : Option (Nat × Operand) := match ops[0]? with
 | some o => match o.dst, o.op, o.guard with
   | some d, .next x false, none => some (d, x)
   | _, _, _ => none
 | none => none
abbrev Cuts := Nat → Option (List Nat)
def loopCut (cs : Cuts) (assign body : Code) : Option (List Nat) := match (match firstReg assign with
    | some i => some i
    | none => firstReg body) with
 | none => none
 | some rid => cs (1000000 + rid)
def ordB (ops : Array Oper) : Bool := afterB ops && Region.noSelect ops && slotsB ops (ancs ops.toList [])
def vhalf {R : Type} (ops : Array Oper) (s : St) (k : St → Option R) : Option R :=
 bif ordB ops then vops E ops true 0 ops.toList s [] fun s' ft => bif footsOk (ancs ops.toList []) ft then k s' else none else none
def splitAt (cs : Cuts) (id : Nat) (draw : Bool) : Option (List Nat) := bif draw then cs (2000000 + id) else none
noncomputable def vseg {R : Type} (cs : Cuts) (m : Nat) (J : List Item → St → Option R) (k : St → Option R) : Nat → Bool → List Item → St → Option R
 | 0, _, _, _ => none
 | _ + 1, _, [], s => k s
 | n + 1, first, .code c :: t, s => match c with
   | .skip => vseg cs m J k n first t s
   | .seq a b => vseg cs m J k n first (.code a :: .code b :: t) s
   | .cond x a b => match ev E (look s.fr) x with
     | some (.bool b₁) => bif b₁ then vseg cs m J k n first (.code a :: t) s else vseg cs m J k n first (.code b :: t) s
     | _ => none
   | .block id c => vseg cs m J k n first (.code c :: .inBlock id :: t) s
   | .exit id => match exitTo id t with
     | some t' => vseg cs m J k n first t' s
     | none => bif inRound t then k { s with nx := id + 2 } else none
   | .loop c => vseg cs m J k n first (.code c :: .inLoop c :: t) s
   | .ret => bif inRound t then k { s with nx := 1 } else k s
   | .rangeFunc f _ assign body => match loopCut cs assign body with
    | some (y :: keep) => match ev E (look s.fr) f, frs s keep with
      | some (.fn g a b), some fr0 => bif E.hasBody g && (look s.hp s.nx).isNone then
         vcall E (look ((s.nx, .loop y fr0 0) :: s.hp)) (s.nx + 1) g (a ++ [.yld s.nx] ++ b) fun _ up =>
          match look (up ++ (s.nx, .loop y fr0 0) :: s.hp) s.nx with
          | some (.loop _ fr' st) => match st with
            | 0 => vseg cs m J k n false t ⟨fr', (s.nx, .dead) :: (up ++ (s.nx, .loop y fr0 0) :: s.hp), s.nx + 64000⟩
            | 3 => vseg cs m J k n false (.code .ret :: t) ⟨fr', (s.nx, .dead) :: (up ++ (s.nx, .loop y fr0 0) :: s.hp), s.nx + 64000⟩
            | id + 4 => vseg cs m J k n false (.code (.exit id) :: t) ⟨fr', (s.nx, .dead) :: (up ++ (s.nx, .loop y fr0 0) :: s.hp), s.nx + 64000⟩
            | _ => none
          | _ => none
        else none
      | _, _ => none
    | _ => none
   | .region id ops draw =>
     let run : Option R := match splitAt cs id draw with
      | some (x :: y :: τ) => bif permB ops.size τ && (decide (x < ops.size) && decide (y < ops.size) && decide (x ≠ y)) then
       both (vhalf E (ordOps ops x y (List.range ops.size)) s fun s' => vseg cs m J k n false t { s' with nx := s'.nx + 64000 })
        (vhalf E (ordOps ops y x τ) s fun s' => vseg cs m J k n false t { s' with nx := s'.nx + 64000 }) else none
      | some _ => none
      | none => match (bif E.nd && !draw then nextOf ops else none) with
       | none => vops E ops draw 0 ops.toList s [] fun s' ft =>
         bif !draw || footsOk (ancs ops.toList []) ft then vseg cs m J k n false t { s' with nx := s'.nx + 64000 } else none
       | some (d, x) => match ev E (look s.fr) x with
         | some (.ref j k₀ _ off) => match look s.hp j with
           | some (.miter mm kr ka vr va left cur) => bif decide (k₀ = 0 ∧ off = 0) && lockB (look s.hp) mm j then
              bif decide (left.length = 0) then vops E ops draw 1 (ops.toList.drop 1) ⟨(d, .tuple [.bool false]) :: s.fr, unlock (look s.hp) mm ++ s.hp, s.nx⟩ [] fun s' _ => vseg cs m J k n false t { s' with nx := s'.nx + 64000 }
              else allOf left fun i e => vops E ops draw 1 (ops.toList.drop 1) ⟨(d, .tuple [.bool true, rowV ka kr e.1, rowV va vr e.2]) :: s.fr, (j, .miter mm kr ka vr va (left.eraseIdx i) (some e)) :: s.hp, s.nx⟩ [] fun s' _ => vseg cs m J k n false t { s' with nx := s'.nx + 64000 }
             else none
           | _ => none
         | _ => none
     match cs id with
     | none => run
     | some keep => if first then run else match norm m keep s with
       | some s' => J (.code (.region id ops draw) :: t) s'
       | none => none
   | .scope c => vseg cs m J k n first (.code c :: .inScope c :: t) s
   | .label _ => vseg cs m J k n first t s
   | _ => none
 | n + 1, first, .inBlock _ :: t, s => vseg cs m J k n first t s
 | n + 1, first, .inScope _ :: t, s => vseg cs m J k n first t s
 | n + 1, first, .inLoop c :: t, s => vseg cs m J k n first (.code c :: .inLoop c :: t) s
 | _ + 1, _, .endRangeFunc _ :: _, s => k { s with nx := 0 }
 | n + 1, first, .beginRound :: t, s => match look s.hp 0 with
   | some (.loop y fr st) => bif decide (st = 0) then vseg cs m J k n first t { s with hp := (0, .loop y fr 1) :: s.hp } else none
   | _ => none
 | _, _, _, _ => none
noncomputable def vrun {R : Type} (cs : Cuts) (m : Nat) (F : Nat) (k : St → Option R) : Nat → List Item → St → Option R
 | 0, _, _ => none
 | n + 1, t, s => vseg E cs m (vrun cs m F k n) k F true t s
def vres {R : Type} (s : St) : List ResultVar → (List V → Option R) → Option R
 | [], k => k []
 | .tmp t :: l, k => match look s.fr t with
   | some v => vres s l fun vs => k (v :: vs)
   | none => none
 | .cell a t :: l, k => match E.τ t, look s.fr a with
   | some ti, some p => loadAt (look s.hp) ti.size p fun cs => match mk1 ti cs with
     | some v => vres s l fun vs => k (v :: vs)
     | none => none
   | _, _ => none
def vres1 {R : Type} (rs : List ResultVar) (s : St) (kk : V → Option R) : Option R := vres E s rs fun vs => match vs with
 | [v] => kk v
 | vs => kk (.tuple vs)
def vend {R : Type} (m : Nat) (rs : List ResultVar) (own : Bool) (kk : V → List Ob → Option R) (s : St) : Option R := vres1 E rs s fun v =>
 match (if own then v.plainP (look s.hp) else v.plain (look s.hp)) with
 | none => none
 | some (v, is) => match order (look s.hp) (List.range m) v.ids with
   | none => none
   | some L => match obsOf (look s.hp) (posIn L) L with
     | none => none
     | some os => if is.any L.contains then none else kk (v.ren (posIn L)) os
def vendR {R : Type} (m : Nat) (kk : V → List Ob → Option R) (s : St) : Option R := match look s.hp 0 with
 | some (.loop y fr _) => match order (look ((0, .loop y fr (bif decide (s.nx = 0) then 0 else s.nx + 2)) :: s.hp)) (List.range m) [] with
   | some L => match obsOf (look ((0, .loop y fr (bif decide (s.nx = 0) then 0 else s.nx + 2)) :: s.hp)) (posIn L) L with
     | some os => kk (.bool (decide (s.nx = 0))) os
     | none => none
   | none => none
 | _ => none
def startR (q : RF) (vs : List V) (os : List Ob) : St := match os with
 | .loop _ fr _ :: _ => ⟨(q.params.toList.zip vs).reverse ++ fr, zipFrom 0 os, os.length⟩
 | _ => ⟨[], [], 0⟩
def roundB (q : RF) (n : Nat) : Bool := codeB q.nt q.assign && codeB q.nt q.body && decide (q.params.size = n) && q.params.all (fun p => decide (p < q.nt))
def roundTodo (q : RF) : List Item := [.code q.assign, .beginRound, .code q.body, .endRangeFunc 0]
def rootsN (args : List V) : Nat := (dedup (V.rootsL args) []).length
def start (args : List V) (h : List Ob) : St := ⟨zipFrom 0 args, zipFrom 0 h, h.length⟩
end
end Vm
namespace Vm
open Go
abbrev ASet := Nat → Prop
def CellAt (w : World) (b o : Nat) (v : Value) : Prop := ∃ c T fz, w.heap[b]? = some (.cells c T fz) ∧ c[o]? = some v
theorem CellAt.cell? {w : World} {b o : Nat} {v : Value} (h : CellAt w b o v) : w.cell? ⟨b, o, none⟩ = some v := by
 obtain ⟨c, T, fz, h1, h2⟩ := h
 simp [World.cell?, h1, h2]
theorem CellAt.same {w w' : World} {b o : Nat} {v : Value} (h : CellAt w b o v) (hs : w'.heap[b]? = w.heap[b]?) : CellAt w' b o v := by
 obtain ⟨c, T, fz, h1, h2⟩ := h
 exact ⟨c, T, fz, by rw [hs, h1], h2⟩
mutual
def K.Rep (w : World) (A : ASet) : (k : K) → k.Ty → Value → Prop
 | .int k, n, v => v = .int k n
 | .bool, b, v => v = .bool b
 | .str, s, v => v = .string ⟨List.toArray s⟩
 | .sl r, xs, v => ∃ a cap, v = .slice a (List.length xs) cap ∧ List.length xs ≤ cap ∧ (a = none → cap = 0) ∧
  ∀ ad, a = some ad → 0 < cap → ad.spot = none ∧ A ad.block ∧ ∀ (i : Nat) (x : r.Ty), getElem? (coll := List r.Ty) xs i = some x → Ks.Rep w A r x ad.block (ad.off + i * r.len)
def Ks.Rep (w : World) (A : ASet) : (r : Ks) → r.Ty → Nat → Nat → Prop
 | .nil, _, _, _ => True
 | .cons k .nil, x, b, o => ∃ v, CellAt w b o v ∧ K.Rep w A k x v
 | .cons k (.cons k' r), x, b, o => (∃ v, CellAt w b o v ∧ K.Rep w A k x.1 v) ∧ Ks.Rep w A (.cons k' r) x.2 b (o + 1)
end
mutual
theorem K.Rep.mono {w w' : World} {A A' : ASet} (hA : ∀ b, A b → A' b ∧ w'.heap[b]? = w.heap[b]?) : (k : K) → (x : k.Ty) → (v : Value) → K.Rep w A k x v → K.Rep w' A' k x v
 | .int _, _, _, h => h
 | .bool, _, _, h => h
 | .str, _, _, h => h
 | .sl r, xs, v, h => by
   simp only [K.Rep] at h ⊢
   obtain ⟨a, cap, h1, h2, h3, h4⟩ := h
   refine ⟨a, cap, h1, h2, h3, fun ad had hc => ?_⟩
   obtain ⟨h5, h6, h7⟩ := h4 ad had hc
   exact ⟨h5, (hA _ h6).1, fun i x hx => Ks.Rep.mono hA r x _ _ (hA _ h6).2 (h7 i x hx)⟩
theorem Ks.Rep.mono {w w' : World} {A A' : ASet} (hA : ∀ b, A b → A' b ∧ w'.heap[b]? = w.heap[b]?) : (r : Ks) → (x : r.Ty) → (b o : Nat) → w'.heap[b]? = w.heap[b]? → Ks.Rep w A r x b o → Ks.Rep w' A' r x b o
 | .nil, _, _, _, _, _ => by simp only [Ks.Rep]
 | .cons k .nil, x, b, o, hb, h => by
   simp only [Ks.Rep] at h ⊢
   obtain ⟨v, h1, h2⟩ := h
   exact ⟨v, h1.same hb, K.Rep.mono hA k x v h2⟩
 | .cons k (.cons k' r), x, b, o, hb, h => by
   simp only [Ks.Rep] at h ⊢
   obtain ⟨⟨v, h1, h2⟩, h3⟩ := h
   exact ⟨⟨v, h1.same hb, K.Rep.mono hA k x.1 v h2⟩, Ks.Rep.mono hA (.cons k' r) x.2 b (o + 1) hb h3⟩
end
theorem Ks.Rep.cells {w w' : World} {A A' : ASet} (hA : ∀ b, A b → A' b ∧ w'.heap[b]? = w.heap[b]?) : (r : Ks) → (x : r.Ty) → (b o b' o' : Nat) →
  (∀ j v, j < r.len → CellAt w b (o + j) v → CellAt w' b' (o' + j) v) → Ks.Rep w A r x b o → Ks.Rep w' A' r x b' o'
 | .nil, _, _, _, _, _, _, _ => by simp only [Ks.Rep]
 | .cons k .nil, x, b, o, b', o', hc, h => by
   simp only [Ks.Rep] at h ⊢
   obtain ⟨v, h1, h2⟩ := h
   exact ⟨v, hc 0 v (by simp [Ks.len]) h1, K.Rep.mono hA k x v h2⟩
 | .cons k (.cons k' r), x, b, o, b', o', hc, h => by
   simp only [Ks.Rep] at h ⊢
   obtain ⟨⟨v, h1, h2⟩, h3⟩ := h
   refine ⟨⟨v, hc 0 v (by simp [Ks.len]) h1, K.Rep.mono hA k x.1 v h2⟩, Ks.Rep.cells hA (.cons k' r) x.2 b (o + 1) b' (o' + 1) (fun j v hj hv => ?_) h3⟩
   have := hc (j + 1) v (by simp only [Ks.len] at hj ⊢; omega) (by rw [show o + (j + 1) = o + 1 + j from by omega]; exact hv)
   rwa [show o' + (j + 1) = o' + 1 + j from by omega] at this
def OwnIs (w : World) (η : Nat → Option Nat) (i : Nat) (r : Ks) (xs : List r.Ty) (v : Value) : Prop :=
 (η i = none ∧ xs = [] ∧ ∃ ad, v = .slice ad 0 0) ∨
 ∃ b cap c T, η i = some b ∧ v = .slice (some ⟨b, 0, none⟩) xs.length cap ∧ xs.length ≤ cap ∧ w.heap[b]? = some (.cells c T (0, 0)) ∧ cap * r.len ≤ c.size
def OwnRep (w : World) (η : Nat → Option Nat) (h : Nat → Option Ob) (i : Nat) (v : Value) : Prop :=
 match h i with
 | some (.arr r xs _) => OwnIs w η i r xs v
 | _ => ∃ ad n k, v = .slice ad n k
mutual
def V.Rep (w : World) (A : ASet) (η : Nat → Option Nat) (h : Nat → Option Ob) : V → Value → Prop
 | .int k n, v => v = .int k n
 | .bool b, v => v = .bool b
 | .str s, v => v = .string ⟨s.toArray⟩
 | .sl r xs, v => K.Rep w A (.sl r) xs v
 | .emp _ z, v => ∃ ad cap, v = .slice (some ad) 0 cap ∧ (z = true → cap = 0) ∧ (0 < cap → ad.spot = none ∧ A ad.block)
 | .nilsl, v => v = .slice none 0 0
 | .nilp, v => v = .pointer none
 | .nilfn, v => v = .nilFunc
 | .nilif, v => v = .nilIface
 | .nilmap, v => v = .map none
 | .undef, v => v = Go.undef
 | .agg l, v => ∃ cs, v = .agg cs ∧ V.RepL w A η h l cs.toList
 | .tuple l, v => ∃ cs, v = .tuple cs ∧ V.RepL w A η h l cs.toList
 | .ref i k n off, v => ∃ b, η i = some b ∧ v = .pointer (some ⟨b, k * n + off, none⟩)
 | .win i w l n, v => ∃ b o cap, η i = some b ∧ v = .slice (some ⟨b, o, none⟩) n cap ∧ n ≤ cap ∧ (0 < n → o = l * w)
 | .rod r x off, v => ∃ b o, A b ∧ v = .pointer (some ⟨b, o + off, none⟩) ∧ Ks.Rep w A r x b o
 | .rodA r xs, v => ∃ b o, A b ∧ v = .pointer (some ⟨b, o, none⟩) ∧ ∀ (i : Nat) x, xs[i]? = some x → Ks.Rep w A r x b (o + i * r.len)
 | .own i, v => OwnRep w η h i v
 | .map i, v => ∃ b, η i = some b ∧ v = .map (some b)
 | .yld i, v => ∃ b, η i = some b ∧ v = .func (.yield b) #[] #[]
 | .stamp i, v => ∃ n, η i = some n ∧ v = goInt n
 | .fn f a c, v => ∃ x y, v = .func (.func f) x y ∧ V.RepL w A η h a x.toList ∧ V.RepL w A η h c y.toList
 | .iface t x, v => ∃ u, v = .iface t u ∧ V.Rep w A η h x u
def V.RepL (w : World) (A : ASet) (η : Nat → Option Nat) (h : Nat → Option Ob) : List V → List Value → Prop
 | [], l => l = []
 | v :: vs, l => ∃ c cs, l = c :: cs ∧ V.Rep w A η h v c ∧ V.RepL w A η h vs cs
end
structure Still (w w' : World) (A A' : ASet) (η η' : Nat → Option Nat) (h h' : Nat → Option Ob) (I : Nat → Prop) : Prop where
 imm : ∀ b, A b → A' b ∧ w'.heap[b]? = w.heap[b]?
 at_ : ∀ i, I i → η' i = η i
 own : ∀ i v, I i → OwnRep w η h i v → OwnRep w' η' h' i v
mutual
theorem V.Rep.mono {w w' : World} {A A' : ASet} {η η' : Nat → Option Nat} {h h' : Nat → Option Ob} {I : Nat → Prop} (hs : Still w w' A A' η η' h h' I) :
  (v : V) → (c : Value) → (∀ i ∈ v.ids, I i) → V.Rep w A η h v c → V.Rep w' A' η' h' v c
 | .int _ _, _, _, hr => by simp only [V.Rep] at hr ⊢; exact hr
 | .bool _, _, _, hr => by simp only [V.Rep] at hr ⊢; exact hr
 | .str _, _, _, hr => by simp only [V.Rep] at hr ⊢; exact hr
 | .sl r xs, c, _, hr => by simp only [V.Rep] at hr ⊢; exact K.Rep.mono hs.imm _ _ _ hr
 | .emp _ _, _, _, hr => by
   simp only [V.Rep] at hr ⊢
   obtain ⟨ad, cap, h1, h2, h3⟩ := hr
   exact ⟨ad, cap, h1, h2, fun hc => ⟨(h3 hc).1, (hs.imm _ (h3 hc).2).1⟩⟩
 | .nilsl, _, _, hr => by simp only [V.Rep] at hr ⊢; exact hr
 | .nilp, _, _, hr => by simp only [V.Rep] at hr ⊢; exact hr
 | .nilfn, _, _, hr => by simp only [V.Rep] at hr ⊢; exact hr
 | .nilif, _, _, hr => by simp only [V.Rep] at hr ⊢; exact hr
 | .nilmap, _, _, hr => by simp only [V.Rep] at hr ⊢; exact hr
 | .undef, _, _, hr => by simp only [V.Rep] at hr ⊢; exact hr
 | .agg l, c, hi, hr => by
   simp only [V.Rep] at hr ⊢
   obtain ⟨cs, rfl, hl⟩ := hr
   exact ⟨cs, rfl, V.RepL.mono hs l _ (by simpa [V.ids] using hi) hl⟩
 | .tuple l, c, hi, hr => by
   simp only [V.Rep] at hr ⊢
   obtain ⟨cs, rfl, hl⟩ := hr
   exact ⟨cs, rfl, V.RepL.mono hs l _ (by simpa [V.ids] using hi) hl⟩
 | .win i _ _ _, c, hi, hr => by
   simp only [V.Rep] at hr ⊢
   obtain ⟨b, o, cap, hb, hc⟩ := hr
   exact ⟨b, o, cap, by rw [hs.at_ i (hi i (by simp [V.ids]))]; exact hb, hc⟩
 | .ref i k n o, c, hi, hr => by
   simp only [V.Rep] at hr ⊢
   obtain ⟨b, hb, rfl⟩ := hr
   exact ⟨b, by rw [hs.at_ i (hi i (by simp [V.ids]))]; exact hb, rfl⟩
 | .rod r x o, c, _, hr => by
   simp only [V.Rep] at hr ⊢
   obtain ⟨b, p, hA, rfl, hx⟩ := hr
   exact ⟨b, p, (hs.imm b hA).1, rfl, Ks.Rep.mono hs.imm r x b p (hs.imm b hA).2 hx⟩
 | .rodA r xs, c, _, hr => by
   simp only [V.Rep] at hr ⊢
   obtain ⟨b, p, hA, rfl, hx⟩ := hr
   exact ⟨b, p, (hs.imm b hA).1, rfl, fun i x hi => Ks.Rep.mono hs.imm r x b _ (hs.imm b hA).2 (hx i x hi)⟩
 | .own i, c, hi, hr => by
   simp only [V.Rep] at hr ⊢
   exact hs.own i c (hi i (by simp [V.ids])) hr
 | .map i, c, hi, hr => by
   simp only [V.Rep] at hr ⊢
   obtain ⟨b, hb, rfl⟩ := hr
   exact ⟨b, by rw [hs.at_ i (hi i (by simp [V.ids]))]; exact hb, rfl⟩
 | .yld i, c, hi, hr => by
   simp only [V.Rep] at hr ⊢
   obtain ⟨b, hb, rfl⟩ := hr
   exact ⟨b, by rw [hs.at_ i (hi i (by simp [V.ids]))]; exact hb, rfl⟩
 | .stamp i, c, hi, hr => by
   simp only [V.Rep] at hr ⊢
   obtain ⟨b, hb, rfl⟩ := hr
   exact ⟨b, by rw [hs.at_ i (hi i (by simp [V.ids]))]; exact hb, rfl⟩
 | .fn f a b, c, hi, hr => by
   simp only [V.Rep] at hr ⊢
   obtain ⟨x, y, rfl, h1, h2⟩ := hr
   exact ⟨x, y, rfl, V.RepL.mono hs a _ (fun i h => hi i (by simp [V.ids, h])) h1, V.RepL.mono hs b _ (fun i h => hi i (by simp [V.ids, h])) h2⟩
 | .iface t x, c, hi, hr => by
   simp only [V.Rep] at hr ⊢
   obtain ⟨u, rfl, hu⟩ := hr
   exact ⟨u, rfl, V.Rep.mono hs x u (by simpa [V.ids] using hi) hu⟩
theorem V.RepL.mono {w w' : World} {A A' : ASet} {η η' : Nat → Option Nat} {h h' : Nat → Option Ob} {I : Nat → Prop} (hs : Still w w' A A' η η' h h' I) :
  (l : List V) → (cs : List Value) → (∀ i ∈ V.idsL l, I i) → V.RepL w A η h l cs → V.RepL w' A' η' h' l cs
 | [], _, _, hr => by simp only [V.RepL] at hr ⊢; exact hr
 | v :: l, cs, hi, hr => by
   simp only [V.RepL] at hr ⊢
   obtain ⟨c, cs, rfl, h1, h2⟩ := hr
   exact ⟨c, cs, rfl, V.Rep.mono hs v c (fun i h => hi i (by simp [V.idsL, h])) h1, V.RepL.mono hs l cs (fun i h => hi i (by simp [V.idsL, h])) h2⟩
end
theorem V.RepL.length {w : World} {A : ASet} {η : Nat → Option Nat} {h : Nat → Option Ob} : {l : List V} → {cs : List Value} → V.RepL w A η h l cs → l.length = cs.length
 | [], _, hr => by simp only [V.RepL] at hr; rw [hr]; rfl
 | v :: l, cs, hr => by
   simp only [V.RepL] at hr
   obtain ⟨c, cs, rfl, _, h2⟩ := hr
   simp [V.RepL.length h2]
theorem V.RepL.get {w : World} {A : ASet} {η : Nat → Option Nat} {h : Nat → Option Ob} : {l : List V} → {cs : List Value} → V.RepL w A η h l cs → ∀ {i : Nat} {v : V}, l[i]? = some v → ∃ c, cs[i]? = some c ∧ V.Rep w A η h v c
 | [], _, _, i, v, hv => by simp at hv
 | u :: l, cs, hr, i, v, hv => by
   simp only [V.RepL] at hr
   obtain ⟨c, cs, rfl, h1, h2⟩ := hr
   cases i with
   | zero => simp at hv; subst hv; exact ⟨c, by simp, h1⟩
   | succ i => simp at hv; obtain ⟨d, hd, h3⟩ := V.RepL.get h2 hv; exact ⟨d, by simpa using hd, h3⟩
theorem V.RepL.of_get {w : World} {A : ASet} {η : Nat → Option Nat} {h : Nat → Option Ob} : {l : List V} → {cs : List Value} → l.length = cs.length → (∀ (i : Nat) v c, l[i]? = some v → cs[i]? = some c → V.Rep w A η h v c) → V.RepL w A η h l cs
 | [], cs, hl, _ => by simp only [V.RepL]; exact List.length_eq_zero_iff.1 hl.symm
 | v :: l, [], hl, _ => by simp at hl
 | v :: l, c :: cs, hl, hg => by
   simp only [V.RepL]
   exact ⟨c, cs, rfl, hg 0 v c rfl rfl, V.RepL.of_get (by simpa using hl) fun i v c h1 h2 => hg (i + 1) v c (by simpa using h1) (by simpa using h2)⟩
theorem V.RepL.append {w : World} {A : ASet} {η : Nat → Option Nat} {h : Nat → Option Ob} : {l : List V} → {cs : List Value} → {m : List V} → {ds : List Value} → V.RepL w A η h l cs → V.RepL w A η h m ds → V.RepL w A η h (l ++ m) (cs ++ ds)
 | [], cs, m, ds, h1, h2 => by simp only [V.RepL] at h1; subst h1; simpa using h2
 | v :: l, cs, m, ds, h1, h2 => by
   simp only [V.RepL] at h1
   obtain ⟨c, cs, rfl, h3, h4⟩ := h1
   simp only [List.cons_append, V.RepL]
   exact ⟨c, cs ++ ds, rfl, h3, V.RepL.append h4 h2⟩
theorem V.RepL.take {w : World} {A : ASet} {η : Nat → Option Nat} {h : Nat → Option Ob} {l : List V} {cs : List Value} (hr : V.RepL w A η h l cs) (n : Nat) : V.RepL w A η h (l.take n) (cs.take n) := by
 refine V.RepL.of_get (by simp [hr.length]) fun i v c h1 h2 => ?_
 rw [List.getElem?_take] at h1 h2
 split at h1
 ·obtain ⟨d, hd, h3⟩ := hr.get h1
  rw [if_pos (by assumption), hd] at h2
  cases h2; exact h3
 ·cases h1
theorem V.RepL.drop {w : World} {A : ASet} {η : Nat → Option Nat} {h : Nat → Option Ob} {l : List V} {cs : List Value} (hr : V.RepL w A η h l cs) (n : Nat) : V.RepL w A η h (l.drop n) (cs.drop n) := by
 refine V.RepL.of_get (by simp [hr.length]) fun i v c h1 h2 => ?_
 rw [List.getElem?_drop] at h1 h2
 obtain ⟨d, hd, h3⟩ := hr.get h1
 rw [hd] at h2; cases h2; exact h3
theorem K.leaf_rep {w : World} {A : ASet} {η : Nat → Option Nat} {h : Nat → Option Ob} : (k : K) → (x : k.Ty) → (v : Value) → K.Rep w A k x v ↔ V.Rep w A η h (k.leaf x) v
 | .int _, _, _ => by simp only [K.Rep, K.leaf, V.Rep]
 | .bool, _, _ => by simp only [K.Rep, K.leaf, V.Rep]
 | .str, _, _ => by simp only [K.Rep, K.leaf, V.Rep]
 | .sl _, _, _ => by simp only [K.leaf, V.Rep]
theorem Ks.cells_length : (r : Ks) → (x : r.Ty) → (r.cells x).length = r.len
 | .nil, _ => rfl
 | .cons _ .nil, _ => rfl
 | .cons _ (.cons k' r), x => by simp only [Ks.cells, List.length_cons, Ks.len]; rw [Ks.cells_length (.cons k' r) x.2]; rfl
theorem Ks.Rep.get {w : World} {A : ASet} {η : Nat → Option Nat} {h : Nat → Option Ob} : (r : Ks) → (x : r.Ty) → (b o : Nat) → Ks.Rep w A r x b o → ∀ (j : Nat) u, (r.cells x)[j]? = some u → ∃ v, CellAt w b (o + j) v ∧ V.Rep w A η h u v
 | .nil, _, _, _, _, j, u, hu => by simp [Ks.cells] at hu
 | .cons k .nil, x, b, o, hr, j, u, hu => by
   simp only [Ks.Rep] at hr
   obtain ⟨v, h1, h2⟩ := hr
   cases j with
   | zero => simp [Ks.cells] at hu; subst hu; exact ⟨v, h1, (K.leaf_rep k x v).1 h2⟩
   | succ j => simp [Ks.cells] at hu
 | .cons k (.cons k' r), x, b, o, hr, j, u, hu => by
   simp only [Ks.Rep] at hr
   obtain ⟨⟨v, h1, h2⟩, h3⟩ := hr
   cases j with
   | zero => simp [Ks.cells] at hu; subst hu; exact ⟨v, h1, (K.leaf_rep k x.1 v).1 h2⟩
   | succ j =>
     simp [Ks.cells] at hu
     obtain ⟨v', h4, h5⟩ := Ks.Rep.get (.cons k' r) x.2 b (o + 1) h3 j u hu
     exact ⟨v', by rwa [show o + (j + 1) = o + 1 + j from by omega], h5⟩
theorem K.close_rep {w : World} {A : ASet} {η : Nat → Option Nat} {h : Nat → Option Ob} (k : K) (v : V) (x : k.Ty) (hc : k.close v = some x) {c : Value} (hr : V.Rep w A η h v c) : K.Rep w A k x c := by
 cases k with
 | int k =>
   simp only [K.close] at hc
   split at hc
   ·split at hc
    ·rename_i hk; cases hc; subst hk; simp only [V.Rep] at hr; simp only [K.Rep]; exact hr
    ·cases hc
   ·cases hc
 | bool =>
   simp only [K.close] at hc
   split at hc
   ·cases hc; simp only [V.Rep] at hr; simp only [K.Rep]; exact hr
   ·cases hc
 | str =>
   simp only [K.close] at hc
   split at hc
   ·cases hc; simp only [V.Rep] at hr; simp only [K.Rep]; exact hr
   ·cases hc
 | sl r =>
   simp only [K.close] at hc
   split at hc
   ·split at hc
    ·rename_i e _
     cases hc; subst e; simp only [V.Rep] at hr; exact hr
    ·cases hc
   ·cases hc
    simp only [V.Rep] at hr
    subst hr
    simp only [K.Rep]
    exact ⟨none, 0, rfl, Nat.le_refl _, fun _ => rfl, fun ad had => by cases had⟩
   ·cases hc
    simp only [V.Rep] at hr
    obtain ⟨ad, cap, rfl, h2, h3⟩ := hr
    simp only [K.Rep]
    exact ⟨some ad, cap, rfl, Nat.zero_le _, fun e => (by cases e), fun a e hc => (by cases e; exact ⟨(h3 hc).1, (h3 hc).2, fun i x hx => by simp at hx⟩)⟩
   ·cases hc
theorem Ks.close_one {k : K} {l : List V} {x : (Ks.cons k .nil).Ty} (hc : Ks.close (.cons k .nil) l = some x) : ∃ v, l = [v] ∧ k.close v = some x := by
 match l, hc with
 | [v], hc => exact ⟨v, rfl, hc⟩
theorem Ks.close_cons {k k' : K} {r : Ks} {l : List V} {x : (Ks.cons k (.cons k' r)).Ty} (hc : Ks.close (.cons k (.cons k' r)) l = some x) :
  ∃ v vs, l = v :: vs ∧ k.close v = some x.1 ∧ Ks.close (.cons k' r) vs = some x.2 := by
 match l, hc with
 | v :: vs, hc =>
   rw [Ks.close] at hc
   split at hc
   ·cases hc
   ·rename_i x1 h1
    split at hc
    ·cases hc
    ·rename_i x2 h2
     cases hc
     exact ⟨v, vs, rfl, h1, h2⟩
theorem Ks.close_rep {w : World} {A : ASet} {η : Nat → Option Nat} {h : Nat → Option Ob} : (r : Ks) → (l : List V) → (x : r.Ty) → Ks.close r l = some x → (b o : Nat) →
  (∀ (j : Nat) u, l[j]? = some u → ∃ v, CellAt w b (o + j) v ∧ V.Rep w A η h u v) → Ks.Rep w A r x b o
 | .nil, _, _, _, _, _, _ => by simp only [Ks.Rep]
 | .cons k .nil, l, x, hc, b, o, hg => by
   obtain ⟨v, rfl, hc⟩ := Ks.close_one hc
   obtain ⟨c, h1, h2⟩ := hg 0 v rfl
   simp only [Ks.Rep]
   exact ⟨c, h1, K.close_rep k v x hc h2⟩
 | .cons k (.cons k' r), l, x, hc, b, o, hg => by
   obtain ⟨v, vs, rfl, h1, h2⟩ := Ks.close_cons hc
   obtain ⟨c, h3, h4⟩ := hg 0 v rfl
   simp only [Ks.Rep]
   refine ⟨⟨c, h3, K.close_rep k v x.1 h1 h4⟩, Ks.close_rep (η := η) (h := h) (.cons k' r) vs x.2 h2 b (o + 1) fun j u hu => ?_⟩
   obtain ⟨c', h5, h6⟩ := hg (j + 1) u (by simpa using hu)
   exact ⟨c', by rwa [show o + 1 + j = o + (j + 1) from by omega], h6⟩
end Vm
namespace Vm
open Go
def RowVals (w : World) (A : ASet) : (r : Ks) → r.Ty → List Value → Prop
 | .nil, _, l => l = []
 | .cons k .nil, x, l => ∃ v, l = [v] ∧ K.Rep w A k x v
 | .cons k (.cons k' r), x, l => ∃ v vs, l = v :: vs ∧ K.Rep w A k x.1 v ∧ RowVals w A (.cons k' r) x.2 vs
def RowVal (w : World) (A : ASet) (agg : Bool) (r : Ks) (x : r.Ty) (v : Value) : Prop :=
 if agg then ∃ cs, v = .agg cs ∧ RowVals w A r x cs.toList else (∀ cs, v ≠ .agg cs) ∧ RowVals w A r x [v]
def EntsRep (w : World) (A : ASet) (kr : Ks) (ka : Bool) (vr : Ks) (va : Bool) : List (kr.Ty × vr.Ty) → List MapEntry → Prop
 | [], l => l = []
 | (k, v) :: es, l => ∃ e l', l = e :: l' ∧ RowVal w A ka kr k e.key ∧ RowVal w A va vr v e.val ∧ EntsRep w A kr ka vr va es l'
def Stamped (l : List MapEntry) (clk : Nat) : Prop := (∀ e ∈ l, e.born < clk) ∧ l.Pairwise fun a b => a.born ≠ b.born
theorem Stamped.push {l : List MapEntry} {clk : Nat} (h : Stamped l clk) (e : MapEntry) (he : e.born = clk) : Stamped (l ++ [e]) (clk + 1) := by
 refine ⟨fun x hx => ?_, List.pairwise_append.2 ⟨h.2, by simp, fun a ha b hb => ?_⟩⟩
 ·rcases List.mem_append.1 hx with hx | hx
  ·have := h.1 x hx; omega
  ·simp only [List.mem_singleton] at hx; subst hx; omega
 ·simp only [List.mem_singleton] at hb; subst hb; have := h.1 a ha; omega
theorem Stamped.modify {l : List MapEntry} {clk : Nat} (h : Stamped l clk) (j : Nat) (f : MapEntry → MapEntry) (hf : ∀ e, (f e).born = e.born) : Stamped (l.modify j f) clk := by
 have e : (l.modify j f).map (·.born) = l.map (·.born) := by
  apply List.ext_getElem?
  intro i
  simp only [List.getElem?_map, List.getElem?_modify]
  cases l[i]? with
  | none => rfl
  | some x => by_cases hj : j = i <;> simp [hj, hf]
 have p1 : ∀ (m : List MapEntry), (∀ x ∈ m, x.born < clk) ↔ ∀ n ∈ m.map (·.born), n < clk := fun m => by simp
 have p2 : ∀ (m : List MapEntry), m.Pairwise (fun a b => a.born ≠ b.born) ↔ (m.map (·.born)).Pairwise (· ≠ ·) := fun m => by rw [List.pairwise_map]
 exact ⟨(p1 _).2 (by rw [e]; exact (p1 _).1 h.1), (p2 _).2 (by rw [e]; exact (p2 _).1 h.2)⟩
def LState : Nat → Loop → Prop
 | 0, r => r.state = .ready ∧ r.pending = none
 | 1, r => r.state = .busy
 | 2, _ => True
 | 3, r => r.state = .done ∧ r.pending = some .ret
 | id + 4, r => r.state = .done ∧ r.pending = some (.exit id)
def Lock (h : Nat → Option Ob) (j c : Nat) : Prop := ∃ kr ka vr va es, h j = some (.lmap c kr ka vr va es)
def Gl.none : Gl := ⟨fun _ => Option.none, fun _ => Option.none, fun _ => Option.none⟩
def ObRep (gl : Gl) (w : World) (A : ASet) (η : Nat → Option Nat) (h : Nat → Option Ob) (i : Nat) : Ob → Prop
 | .var l => ∃ b c T, η i = some b ∧ w.heap[b]? = some (.cells c T (0, 0)) ∧ V.RepL w A η h l c.toList
 | .arr r xs fz => (η i = none ∧ xs = []) ∨ ∃ b c T, η i = some b ∧ w.heap[b]? = some (.cells c T (0, 0)) ∧ xs.length * r.len ≤ c.size ∧ (fz = true → A b) ∧
  ∀ (k : Nat) x, xs[k]? = some x → Ks.Rep w A r x b (k * r.len)
 | .map kr ka vr va es => ∃ b ents clk, η i = some b ∧ w.heap[b]? = some (.map ents clk) ∧ EntsRep w A kr ka vr va es ents.toList ∧ Stamped ents.toList clk
 | .lmap _ kr ka vr va es => ∃ b ents clk, η i = some b ∧ w.heap[b]? = some (.map ents clk) ∧ EntsRep w A kr ka vr va es ents.toList ∧ Stamped ents.toList clk
 | .emap j kr ka vr va es key z => ∃ b ents clk n es' p e x, η i = some b ∧ w.heap[b]? = some (.map ents clk) ∧ η j = some n ∧ Stamped ents.toList clk ∧ EntsRep w A kr ka vr va es' ents.toList ∧ ents.toList[p]? = some e ∧ e.born = n ∧
  es'[p]? = some (key, x) ∧ (∀ y, es'.set p (key, y) = setKey kr.beq key y es) ∧ ∀ k, (findKey kr.beq k es').getD z = (findKey kr.beq k es).getD z
 | .iter s pos => ∃ b, η i = some b ∧ w.heap[b]? = some (.stringIter ⟨s.toArray⟩ pos)
 | .miter m kr ka vr va left cur => ∃ c b clk since seen, η i = some c ∧ w.heap[c]? = some (.mapIter (some b) since seen clk) ∧ η m = some b ∧ (Lock h m i → ∃ ents, w.heap[b]? = some (.map ents clk) ∧ (∀ e ∈ ents.toList, e.born < since) ∧ Stamped ents.toList clk ∧
  EntsRep w A kr ka vr va left (ents.toList.filter fun e => !seen.contains e.born) ∧
  ∀ x, cur = some x → ∃ stamp e, seen.back? = some stamp ∧ ents.find? (fun e => e.born == stamp) = some e ∧ RowVal w A ka kr x.1 e.key ∧ RowVal w A va vr x.2 e.val)
 | .loop y fr st => ∃ b rec q, η i = some b ∧ w.heap[b]? = some (.loop rec) ∧ gl.rf y = some q ∧ (rec.params = q.params ∧ rec.tmps.size = q.nt) ∧ rec.assign = q.assign ∧ rec.body = q.body ∧ LState st rec ∧
  ∀ p ∈ fr, ∃ c, rec.tmps[p.1]? = some c ∧ V.Rep w A η h p.2 c
 | .dead => True
def Mut (h : Nat → Option Ob) (i : Nat) : Prop := match h i with
 | some .dead | none => False
 | some (.arr _ _ true) => False
 | _ => True
def GlobOk (gl : Gl) (w : World) (A : ASet) : Prop := (∀ g r xs, gl g = some ⟨r, xs⟩ → A g ∧ ∀ (i : Nat) x, xs[i]? = some x → Ks.Rep w A r x g (i * r.len)) ∧ ∀ g v, gl.raw g = some v → A g ∧ CellAt w g 0 v
theorem GlobOk.mono {gl : Gl} {w w' : World} {A A' : ASet} (h : GlobOk gl w A) (hA : ∀ b, A b → A' b ∧ w'.heap[b]? = w.heap[b]?) : GlobOk gl w' A' :=
 ⟨fun g r xs hg => ⟨(hA g (h.1 g r xs hg).1).1, fun i x hx => Ks.Rep.mono hA r x g _ (hA g (h.1 g r xs hg).1).2 ((h.1 g r xs hg).2 i x hx)⟩,
   fun g v hv => ⟨(hA g (h.2 g v hv).1).1, (h.2 g v hv).2.same (hA g (h.2 g v hv).1).2⟩⟩
structure HeapOk (gl : Gl) (w : World) (A : ASet) (η : Nat → Option Nat) (h : Nat → Option Ob) : Prop where
 ob : ∀ i o, h i = some o → ObRep gl w A η h i o
 inj : ∀ i j b, Mut h i → Mut h j → η i = some b → η j = some b → i = j
 imm : ∀ b, A b → b < w.heap.size
 apart : ∀ i b, Mut h i → η i = some b → ¬ A b
 dom : ∀ i o, h i = some o → ∀ j ∈ o.ids, h j ≠ none
 glob : GlobOk gl w A
def Owned (η : Nat → Option Nat) (h : Nat → Option Ob) (b : Nat) : Prop := ∃ i, Mut h i ∧ η i = some b
structure Trans (m : Nat) (w w' : World) (A A' : ASet) (η η' : Nat → Option Nat) (h h' : Nat → Option Ob) : Prop where
 size : w.heap.size ≤ w'.heap.size
 kept : ∀ b, b < w.heap.size → ¬ Owned η h b → w'.heap[b]? = w.heap[b]?
 immA : ∀ b, A b → A' b
 newA : ∀ b, A' b → A b ∨ Owned η h b ∨ w.heap.size ≤ b
 newM : ∀ b, Owned η' h' b → Owned η h b ∨ w.heap.size ≤ b
 roots : ∀ i, i < m → η' i = η i
 rest : w'.os = w.os ∧ w'.tape = w.tape ∧ w'.output = w.output
 frz : ∀ (b : Nat) c T fz, w'.heap[b]? = some (.cells c T fz) → fz = (0, 0) ∨ ∃ c' T', w.heap[b]? = some (.cells c' T' fz)
 tie : ∀ (b : Nat) rec, w.heap[b]? = some (.loop rec) → ∃ rec' : Loop, w'.heap[b]? = some (.loop rec') ∧ rec'.tmps = rec.tmps
def Tied (w : World) (b : Nat) (x : Obj) : Prop := ∀ rec, w.heap[b]? = some (.loop rec) → ∃ rec' : Loop, x = .loop rec' ∧ rec'.tmps = rec.tmps
theorem Tied.of {w : World} {b : Nat} {x y : Obj} (h : w.heap[b]? = some y) (hy : ∀ rec, y ≠ .loop rec) : Tied w b x := fun rec e => by rw [h] at e; cases e; exact (hy rec rfl).elim
theorem tie_set {w : World} {i : Nat} {x : Obj} (hx : Tied w i x) (b : Nat) (rec : Loop) (h : w.heap[b]? = some (.loop rec)) :
  ∃ rec' : Loop, ({ w with heap := w.heap.setIfInBounds i x } : World).heap[b]? = some (.loop rec') ∧ rec'.tmps = rec.tmps := by
 by_cases e : i = b
 ·subst e
  obtain ⟨rec', rfl, h2⟩ := hx rec h
  exact ⟨rec', by simp [(Array.getElem?_eq_some_iff.1 h).1], h2⟩
 ·exact ⟨rec, by simp only [Array.getElem?_setIfInBounds_ne e]; exact h, rfl⟩
theorem tie_push {w : World} {x : Obj} (b : Nat) (rec : Loop) (h : w.heap[b]? = some (.loop rec)) :
  ∃ rec' : Loop, ({ w with heap := w.heap.push x } : World).heap[b]? = some (.loop rec') ∧ rec'.tmps = rec.tmps := by
 have := (Array.getElem?_eq_some_iff.1 h).1
 exact ⟨rec, by simp only [Array.getElem?_push]; rw [if_neg (by omega)]; exact h, rfl⟩
def Soft (x : Obj) : Prop := ∀ c T fz, x = .cells c T fz → fz = (0, 0)
theorem frz_set {x : Obj} (hx : Soft x) (w : World) {i : Nat} (b : Nat) (c : Array Value) (T : TypeId) (fz : Nat × Nat) (h : ({ w with heap := w.heap.setIfInBounds i x } : World).heap[b]? = some (.cells c T fz)) :
  fz = (0, 0) ∨ ∃ c' T', w.heap[b]? = some (.cells c' T' fz) := by
 simp only [Array.getElem?_setIfInBounds] at h
 split at h
 ·split at h
  ·cases h; exact .inl (hx _ _ _ rfl)
  ·cases h
 ·exact .inr ⟨c, T, h⟩
theorem frz_push {x : Obj} (hx : Soft x) (w : World) (b : Nat) (c : Array Value) (T : TypeId) (fz : Nat × Nat) (h : ({ w with heap := w.heap.push x } : World).heap[b]? = some (.cells c T fz)) :
  fz = (0, 0) ∨ ∃ c' T', w.heap[b]? = some (.cells c' T' fz) := by
 simp only [Array.getElem?_push] at h
 split at h
 ·cases h; exact .inl (hx _ _ _ rfl)
 ·exact .inr ⟨c, T, h⟩
theorem Trans.refl (m : Nat) (w : World) (A : ASet) (η : Nat → Option Nat) (h : Nat → Option Ob) : Trans m w w A A η η h h :=
 ⟨Nat.le_refl _, fun _ _ _ => rfl, fun _ h => h, fun _ h => .inl h, fun _ h => .inl h, fun _ _ => rfl, ⟨rfl, rfl, rfl⟩, fun b c T fz hb => .inr ⟨c, T, hb⟩, fun b rec hb => ⟨rec, hb, rfl⟩⟩
theorem Trans.trans {m : Nat} {w w₁ w₂ : World} {A A₁ A₂ : ASet} {η η₁ η₂ : Nat → Option Nat} {h h₁ h₂ : Nat → Option Ob}
  (a : Trans m w w₁ A A₁ η η₁ h h₁) (b : Trans m w₁ w₂ A₁ A₂ η₁ η₂ h₁ h₂) : Trans m w w₂ A A₂ η η₂ h h₂ where
 size := Nat.le_trans a.size b.size
 kept := fun x hx hn => by
  rw [b.kept x (Nat.lt_of_lt_of_le hx a.size) (fun ho => by rcases a.newM x ho with h | h; exact hn h; omega), a.kept x hx hn]
 immA := fun x hx => b.immA x (a.immA x hx)
 newA := fun x hx => by
  rcases b.newA x hx with h | h | h
  ·exact a.newA x h
  ·exact .inr (a.newM x h)
  ·exact .inr (.inr (Nat.le_trans a.size h))
 newM := fun x hx => by
  rcases b.newM x hx with h | h
  ·exact a.newM x h
  ·exact .inr (Nat.le_trans a.size h)
 roots := fun i hi => by rw [b.roots i hi, a.roots i hi]
 rest := ⟨b.rest.1.trans a.rest.1, b.rest.2.1.trans a.rest.2.1, b.rest.2.2.trans a.rest.2.2⟩
 frz := fun x c T fz hx => (b.frz x c T fz hx).elim .inl fun ⟨c', T', h⟩ => a.frz x c' T' fz h
 tie := fun x rec hx => by
  obtain ⟨r1, h1, h2⟩ := a.tie x rec hx
  obtain ⟨r2, h3, h4⟩ := b.tie x r1 h1
  exact ⟨r2, h3, h4.trans h2⟩
def LkKept (w w' : World) (η : Nat → Option Nat) (h h' : Nat → Option Ob) : Prop :=
 ∀ j c, h j ≠ none → h c ≠ none → Lock h' j c → Lock h j c ∧ ∀ b, η j = some b → w'.heap[b]? = w.heap[b]?
structure HStep (gl : Gl) (m : Nat) (w : World) (A : ASet) (η : Nat → Option Nat) (h : Nat → Option Ob) (w' : World) (A' : ASet) (η' : Nat → Option Nat) (h' : Nat → Option Ob) : Prop where
 ok : HeapOk gl w' A' η' h'
 still : Still w w' A A' η η' h h' (fun i => h i ≠ none)
 trans : Trans m w w' A A' η η' h h'
 dom : ∀ i, h i ≠ none → h' i ≠ none
 lk : LkKept w w' η h h'
theorem Lock.mut {h : Nat → Option Ob} {j c : Nat} (hl : Lock h j c) : Mut h j := by
 obtain ⟨kr, ka, vr, va, es, e⟩ := hl
 unfold Mut; rw [e]; trivial
theorem LkKept.same {w w' : World} {η : Nat → Option Nat} {h : Nat → Option Ob} (hb : ∀ j b, Mut h j → η j = some b → w'.heap[b]? = w.heap[b]?) : LkKept w w' η h h :=
 fun j _ _ _ hl => ⟨hl, fun b => hb j b hl.mut⟩
section
variable {gl : Gl} {m : Nat} {w w' w₁ w₂ : World} {A A' A₁ A₂ : ASet} {η η' η₁ η₂ : Nat → Option Nat} {h h' h₁ h₂ : Nat → Option Ob}
theorem HStep.refl (ok : HeapOk gl w A η h) : HStep gl m w A η h w A η h :=
 ⟨ok, ⟨fun _ hb => ⟨hb, rfl⟩, fun _ _ => rfl, fun _ _ _ h => h⟩, .refl _ _ _ _ _, fun _ h => h, .same fun _ _ _ _ => rfl⟩
theorem HStep.trans' (a : HStep gl m w A η h w₁ A₁ η₁ h₁) (b : HStep gl m w₁ A₁ η₁ h₁ w₂ A₂ η₂ h₂) : HStep gl m w A η h w₂ A₂ η₂ h₂ :=
 ⟨b.ok, ⟨fun x hx => ⟨(b.still.imm x (a.still.imm x hx).1).1, by rw [(b.still.imm x (a.still.imm x hx).1).2, (a.still.imm x hx).2]⟩,
     fun i hi => by rw [b.still.at_ i (a.dom i hi), a.still.at_ i hi], fun i v hi hv => b.still.own i v (a.dom i hi) (a.still.own i v hi hv)⟩,
   a.trans.trans b.trans, fun i hi => b.dom i (a.dom i hi), fun j c hj hc hl => by
    obtain ⟨h1, h2⟩ := b.lk j c (a.dom j hj) (a.dom c hc) hl
    obtain ⟨h3, h4⟩ := a.lk j c hj hc h1
    exact ⟨h3, fun x hx => by rw [h2 x (by rw [a.still.at_ j hj]; exact hx), h4 x hx]⟩⟩
theorem HStep.rep (a : HStep gl m w A η h w₁ A₁ η₁ h₁) {v : V} {c : Value} (hd : ∀ i ∈ v.ids, h i ≠ none) (hr : V.Rep w A η h v c) : V.Rep w₁ A₁ η₁ h₁ v c :=
 V.Rep.mono a.still v c hd hr
theorem HStep.repL (a : HStep gl m w A η h w₁ A₁ η₁ h₁) {l : List V} {cs : List Value} (hd : ∀ i ∈ V.idsL l, h i ≠ none) (hr : V.RepL w A η h l cs) : V.RepL w₁ A₁ η₁ h₁ l cs :=
 V.RepL.mono a.still l cs hd hr
theorem RowVals.mono (hA : ∀ b, A b → A' b ∧ w'.heap[b]? = w.heap[b]?) : (r : Ks) → (x : r.Ty) → (l : List Value) → RowVals w A r x l → RowVals w' A' r x l
 | .nil, _, _, hr => hr
 | .cons k .nil, x, l, hr => by
   simp only [RowVals] at hr ⊢
   obtain ⟨v, rfl, hv⟩ := hr
   exact ⟨v, rfl, K.Rep.mono hA k x v hv⟩
 | .cons k (.cons k' r), x, l, hr => by
   simp only [RowVals] at hr ⊢
   obtain ⟨v, vs, rfl, hv, hvs⟩ := hr
   exact ⟨v, vs, rfl, K.Rep.mono hA k x.1 v hv, RowVals.mono hA (.cons k' r) x.2 vs hvs⟩
theorem RowVal.mono (hA : ∀ b, A b → A' b ∧ w'.heap[b]? = w.heap[b]?) {agg : Bool} {r : Ks} {x : r.Ty} {v : Value} (hr : RowVal w A agg r x v) : RowVal w' A' agg r x v := by
 unfold RowVal at *
 split at hr
 ·rename_i ha
  obtain ⟨cs, rfl, hl⟩ := hr
  rw [if_pos ha]
  exact ⟨cs, rfl, RowVals.mono hA r x _ hl⟩
 ·rename_i ha
  rw [if_neg ha]
  exact ⟨hr.1, RowVals.mono hA r x _ hr.2⟩
theorem EntsRep.mono (hA : ∀ b, A b → A' b ∧ w'.heap[b]? = w.heap[b]?) {kr : Ks} {ka : Bool} {vr : Ks} {va : Bool} : (es : List (kr.Ty × vr.Ty)) → (l : List MapEntry) → EntsRep w A kr ka vr va es l → EntsRep w' A' kr ka vr va es l
 | [], _, hr => hr
 | (k, v) :: es, l, hr => by
   simp only [EntsRep] at hr ⊢
   obtain ⟨e, l', rfl, h1, h2, h3⟩ := hr
   exact ⟨e, l', rfl, h1.mono hA, h2.mono hA, EntsRep.mono hA es l' h3⟩
theorem idsL_mem {l : List V} {v : V} (hv : v ∈ l) : ∀ i ∈ v.ids, i ∈ V.idsL l := by
 induction l with
 | nil => cases hv
 | cons u l ih =>
   intro i hi
   simp only [V.idsL, List.mem_append]
   rcases List.mem_cons.1 hv with rfl | hv
   ·exact .inl hi
   ·exact .inr (ih hv i hi)
theorem ObRep.mono (hs : Still w w' A A' η η' h h' (fun i => h i ≠ none)) (hlk : LkKept w w' η h h') {i : Nat} {o : Ob} (hi : h i = some o) (hd : ∀ j ∈ o.ids, h j ≠ none)
  (hb : ∀ b, η i = some b → w'.heap[b]? = w.heap[b]?) (ho : ObRep gl w A η h i o) : ObRep gl w' A' η' h' i o := by
 have he : η' i = η i := hs.at_ i (by rw [hi]; simp)
 cases o with
 | var l =>
   obtain ⟨b, c, T, h1, h2, h3⟩ := ho
   exact ⟨b, c, T, by rw [he, h1], by rw [hb b h1, h2], V.RepL.mono hs l _ hd h3⟩
 | arr r xs fz =>
   rcases ho with ⟨h1, h2⟩ | ⟨b, c, T, h1, h2, h3, h4, h5⟩
   ·exact .inl ⟨by rw [he, h1], h2⟩
   ·exact .inr ⟨b, c, T, by rw [he, h1], by rw [hb b h1, h2], h3, fun hf => (hs.imm b (h4 hf)).1, fun k x hx => Ks.Rep.mono hs.imm r x b _ (hb b h1) (h5 k x hx)⟩
 | map kr ka vr va es =>
   obtain ⟨b, ents, clk, h1, h2, h3, h4⟩ := ho
   exact ⟨b, ents, clk, by rw [he, h1], by rw [hb b h1, h2], EntsRep.mono hs.imm _ _ h3, h4⟩
 | lmap _ kr ka vr va es =>
   obtain ⟨b, ents, clk, h1, h2, h3, h4⟩ := ho
   exact ⟨b, ents, clk, by rw [he, h1], by rw [hb b h1, h2], EntsRep.mono hs.imm _ _ h3, h4⟩
 | emap k kr ka vr va es key z =>
   obtain ⟨b, ents, clk, n, es', p, e, x, h1, h2, h3, h4, h5, h6⟩ := ho
   exact ⟨b, ents, clk, n, es', p, e, x, by rw [he, h1], by rw [hb b h1, h2], by rw [hs.at_ k (hd k (by simp [Ob.ids])), h3], h4, EntsRep.mono hs.imm _ _ h5, h6⟩
 | iter s pos =>
   obtain ⟨b, h1, h2⟩ := ho
   exact ⟨b, by rw [he, h1], by rw [hb b h1, h2]⟩
 | miter m kr ka vr va left cur =>
   obtain ⟨c, b, clk, since, seen, h1, h2, h3, h4⟩ := ho
   have hm : h m ≠ none := hd m (by simp [Ob.ids])
   refine ⟨c, b, clk, since, seen, by rw [he, h1], by rw [hb c h1, h2], by rw [hs.at_ m hm, h3], fun hl => ?_⟩
   obtain ⟨hl, hk⟩ := hlk m i hm (by rw [hi]; simp) hl
   obtain ⟨ents, h4, h5, h6, h7, h8⟩ := h4 hl
   exact ⟨ents, by rw [hk b h3, h4], h5, h6, EntsRep.mono hs.imm _ _ h7, fun x hx => by
    obtain ⟨stamp, e, g1, g2, g3, g4⟩ := h8 x hx
    exact ⟨stamp, e, g1, g2, g3.mono hs.imm, g4.mono hs.imm⟩⟩
 | loop y fr st =>
   obtain ⟨b, rec, q, h1, h2, h3, h4, h5, h6, h7, h8⟩ := ho
   exact ⟨b, rec, q, by rw [he, h1], by rw [hb b h1, h2], h3, h4, h5, h6, h7, fun p hp => by
    obtain ⟨c, g1, g2⟩ := h8 p hp
    exact ⟨c, g1, V.Rep.mono hs p.2 c (fun i hi => hd i (idsL_mem (List.mem_map.2 ⟨p, hp, rfl⟩) i hi)) g2⟩⟩
 | dead => trivial
theorem HeapOk.block (ok : HeapOk gl w A η h) {i b : Nat} (hm : Mut h i) (hi : η i = some b) : b < w.heap.size := by
 unfold Mut at hm
 cases ho : h i with
 | none => rw [ho] at hm; exact hm.elim
 | some o =>
   have hr := ok.ob i o ho
   have lt : ∀ x, w.heap[b]? = some x → b < w.heap.size := fun x hx => (Array.getElem?_eq_some_iff.1 hx).1
   cases o with
   | var l => obtain ⟨b', c, T, h1, h2, _⟩ := hr; rw [h1] at hi; cases hi; exact lt _ h2
   | arr r xs fz =>
     rcases hr with ⟨h1, _⟩ | ⟨b', c, T, h1, h2, _⟩
     ·rw [h1] at hi; cases hi
     ·rw [h1] at hi; cases hi; exact lt _ h2
   | map kr ka vr va es => obtain ⟨b', ents, clk, h1, h2, _⟩ := hr; rw [h1] at hi; cases hi; exact lt _ h2
   | lmap _ kr ka vr va es => obtain ⟨b', ents, clk, h1, h2, _⟩ := hr; rw [h1] at hi; cases hi; exact lt _ h2
   | emap _ _ _ _ _ _ _ _ => obtain ⟨b', ents, clk, n, es', p, e, x, h1, h2, _⟩ := hr; rw [h1] at hi; cases hi; exact lt _ h2
   | iter s pos => obtain ⟨b', h1, h2⟩ := hr; rw [h1] at hi; cases hi; exact lt _ h2
   | miter m kr ka vr va left cur => obtain ⟨b', _, _, _, _, h1, h2, _⟩ := hr; rw [h1] at hi; cases hi; exact lt _ h2
   | loop y fr st => obtain ⟨b', _, _, h1, h2, _⟩ := hr; rw [h1] at hi; cases hi; exact lt _ h2
   | dead => rw [ho] at hm; exact hm.elim
theorem HStep.drew (ok : HeapOk gl w A η h) (n : Nat) : HStep gl m w A η h { w with drawn := n } A η h := by
 have hA : ∀ b, A b → A b ∧ ({ w with drawn := n } : World).heap[b]? = w.heap[b]? := fun _ hb => ⟨hb, rfl⟩
 have st : Still w { w with drawn := n } A A η η h h (fun i => h i ≠ none) := ⟨hA, fun _ _ => rfl, fun _ _ _ hv => hv⟩
 have lk : LkKept w { w with drawn := n } η h h := .same fun _ _ _ _ => rfl
 exact ⟨⟨fun i o hi => (ok.ob i o hi).mono st lk hi (ok.dom i o hi) (fun _ _ => rfl), ok.inj, ok.imm, ok.apart, ok.dom,
   ok.glob.mono hA⟩, st,
  ⟨Nat.le_refl _, fun _ _ _ => rfl, fun _ hb => hb, fun _ hb => .inl hb, fun _ hb => .inl hb, fun _ _ => rfl, ⟨rfl, rfl, rfl⟩, fun b c T fz hb => .inr ⟨c, T, hb⟩, fun b rec hb => ⟨rec, hb, rfl⟩⟩, fun _ hi => hi, lk⟩
def ovr (h : Nat → Option Ob) (i : Nat) (o : Ob) : Nat → Option Ob := fun j => if i = j then some o else h j
theorem ovr_same (h : Nat → Option Ob) (i : Nat) (o : Ob) : ovr h i o i = some o := by simp [ovr]
theorem ovr_ne (h : Nat → Option Ob) {i j : Nat} (o : Ob) (hn : i ≠ j) : ovr h i o j = h j := by simp [ovr, hn]
theorem ovr_dom {h : Nat → Option Ob} {i : Nat} {o : Ob} {j : Nat} (hj : h j ≠ none) : ovr h i o j ≠ none := by
 unfold ovr; split <;> simp [hj]
theorem Mut.ovr {h : Nat → Option Ob} {i : Nat} {o : Ob} {j : Nat} (hm : Mut (ovr h i o) j) : j = i ∨ Mut h j := by
 by_cases hj : i = j
 ·exact .inl hj.symm
 ·right; unfold Mut at *; rwa [ovr_ne h o hj] at hm
theorem HStep.turn (ok : HeapOk gl w A η h) {i b : Nat} {o o' : Ob} {x : Obj} (htie : Tied w b x) (hx : Soft x) (hi : h i = some o) (hm : Mut h i) (hb : η i = some b)
  (hown : ∀ v, OwnRep w η h i v → OwnRep { w with heap := w.heap.setIfInBounds b x } η (ovr h i o') i v)
  (hd : ∀ j ∈ o'.ids, h j ≠ none)
  (hr : Still w { w with heap := w.heap.setIfInBounds b x } A A η η h (ovr h i o') (fun i => h i ≠ none) → ObRep gl { w with heap := w.heap.setIfInBounds b x } A η (ovr h i o') i o')
  (hlo : ∀ c kr ka vr va es, o' = .lmap c kr ka vr va es → h c = none := by intro c kr ka vr va es e; cases e) :
  HStep gl m w A η h { w with heap := w.heap.setIfInBounds b x } A η (ovr h i o') := by
 have hne : ∀ j b', j ≠ i → Mut h j → η j = some b' → b' ≠ b := fun j b' hj hmj hbj e => hj (ok.inj j i b hmj hm (e ▸ hbj) hb)
 have hAb : ¬ A b := ok.apart i b hm hb
 have get : ∀ b', b' ≠ b → (w.heap.setIfInBounds b x)[b']? = w.heap[b']? := fun b' hn => Array.getElem?_setIfInBounds_ne (Ne.symm hn)
 have hA : ∀ b', A b' → A b' ∧ ({ w with heap := w.heap.setIfInBounds b x } : World).heap[b']? = w.heap[b']? :=
  fun b' hb' => ⟨hb', get b' (fun e => hAb (e ▸ hb'))⟩
 have blk : ∀ j o₁, h j = some o₁ → j ≠ i → ∀ b', η j = some b' → o₁ ≠ .dead → b' ≠ b := by
  intro j o₁ hj hji b' hbj hnd
  by_cases hmj : Mut h j
  ·exact hne j b' hji hmj hbj
  ·unfold Mut at hmj
   rw [hj] at hmj
   cases o₁ with
   | var l => exact (hmj trivial).elim
   | map kr ka vr va es => exact (hmj trivial).elim
   | lmap _ kr ka vr va es => exact (hmj trivial).elim
   | emap _ _ _ _ _ _ _ _ => exact (hmj trivial).elim
   | iter s pos => exact (hmj trivial).elim
   | miter _ _ _ _ _ _ _ => exact (hmj trivial).elim
   | loop _ _ _ => exact (hmj trivial).elim
   | dead => exact (hnd rfl).elim
   | arr r xs fz =>
     cases fz with
     | false => exact (hmj trivial).elim
     | true =>
       rcases ok.ob j _ hj with ⟨h1, _⟩ | ⟨b₁, c, T, h1, _, _, h4, _⟩
       ·rw [h1] at hbj; cases hbj
       ·rw [h1] at hbj; cases hbj; exact fun e => hAb (e ▸ h4 rfl)
 have own : ∀ j v, h j ≠ none → OwnRep w η h j v → OwnRep { w with heap := w.heap.setIfInBounds b x } η (ovr h i o') j v := by
  intro j v hj hv
  by_cases hji : j = i
  ·subst hji; exact hown v hv
  ·unfold OwnRep at *
   rw [ovr_ne h o' (Ne.symm hji)]
   cases hoj : h j with
   | none => exact (hj hoj).elim
   | some o₁ =>
     rw [hoj] at hv
     cases o₁ with
     | arr r xs fz =>
       dsimp only at hv ⊢
       rcases hv with h1 | ⟨b', cap, c, T, h1, h2, h3, h4, h5⟩
       ·exact .inl h1
       ·exact .inr ⟨b', cap, c, T, h1, h2, h3, (get b' (blk j _ hoj hji b' h1 (by simp))).trans h4, h5⟩
     | _ => exact hv
 have st : Still w { w with heap := w.heap.setIfInBounds b x } A A η η h (ovr h i o') (fun i => h i ≠ none) := ⟨hA, fun _ _ => rfl, own⟩
 have lk : LkKept w { w with heap := w.heap.setIfInBounds b x } η h (ovr h i o') := fun j c hj hc ⟨kr, ka, vr, va, es, e⟩ => by
  by_cases hji : i = j
  ·subst hji; rw [ovr_same] at e
   exact (hc (hlo c kr ka vr va es (Option.some.inj e))).elim
  ·rw [ovr_ne h o' hji] at e
   have hl : Lock h j c := ⟨kr, ka, vr, va, es, e⟩
   exact ⟨hl, fun b' hb' => get b' (hne j b' (Ne.symm hji) hl.mut hb')⟩
 have mut' : ∀ j, Mut (ovr h i o') j → Mut h j := fun j hj => by
  rcases hj.ovr with rfl | h'
  ·exact hm
  ·exact h'
 refine ⟨⟨fun j o₁ hj => ?_, fun j k b' hj hk => ok.inj j k b' (mut' j hj) (mut' k hk), fun b' hb' => by simpa using ok.imm b' hb', fun j b' hj => ok.apart j b' (mut' j hj), fun j o₁ hj k hk => ?_,
  ok.glob.mono hA⟩, st,
  ⟨by simp, fun b' _ hn => get b' (fun e => hn ⟨i, hm, e ▸ hb⟩), fun _ hb => hb, fun _ hb => .inl hb, fun b' ⟨j, hj, hbj⟩ => .inl ⟨j, mut' j hj, hbj⟩, fun _ _ => rfl, ⟨rfl, rfl, rfl⟩, frz_set hx w, tie_set htie⟩, fun j hj => ovr_dom hj, lk⟩
 ·by_cases hji : i = j
  ·subst hji; rw [ovr_same] at hj; cases hj; exact hr st
  ·rw [ovr_ne h o' hji] at hj
   by_cases hdd : o₁ = .dead
   ·subst hdd; trivial
   ·exact (ok.ob j o₁ hj).mono st lk hj (ok.dom j o₁ hj) fun b' hb' => get b' (blk j o₁ hj (Ne.symm hji) b' hb' hdd)
 ·by_cases hji : i = j
  ·subst hji; rw [ovr_same] at hj; cases hj; exact ovr_dom (hd k hk)
  ·rw [ovr_ne h o' hji] at hj; exact ovr_dom (ok.dom j o₁ hj k hk)
theorem HStep.kill (ok : HeapOk gl w A η h) (i : Nat) : HStep gl m w A η h w A η (ovr h i .dead) := by
 have hA : ∀ b, A b → A b ∧ w.heap[b]? = w.heap[b]? := fun _ hb => ⟨hb, rfl⟩
 have st : Still w w A A η η h (ovr h i .dead) (fun i => h i ≠ none) := ⟨hA, fun _ _ => rfl, fun j v hj hv => by
  unfold OwnRep at *
  by_cases hji : i = j
  ·subst hji; rw [ovr_same]
   cases hoj : h i with
   | none => exact (hj hoj).elim
   | some o₁ =>
     rw [hoj] at hv
     cases o₁ with
     | arr r xs fz => rcases hv with ⟨_, _, _, e⟩ | ⟨_, _, _, _, _, e, _⟩ <;> exact ⟨_, _, _, e⟩
     | _ => exact hv
  ·rwa [ovr_ne h _ hji]⟩
 have lk : LkKept w w η h (ovr h i .dead) := fun j c hj hc ⟨kr, ka, vr, va, es, e⟩ => by
  by_cases hji : i = j
  ·subst hji; rw [ovr_same] at e; cases e
  ·rw [ovr_ne h _ hji] at e
   exact ⟨⟨kr, ka, vr, va, es, e⟩, fun _ _ => rfl⟩
 have mut' : ∀ j, Mut (ovr h i .dead) j → Mut h j := fun j hj => by
  rcases hj.ovr with rfl | h'
  ·unfold Mut at hj; rw [ovr_same] at hj; exact hj.elim
  ·exact h'
 refine ⟨⟨fun j o₁ hj => ?_, fun j k b' hj hk => ok.inj j k b' (mut' j hj) (mut' k hk), ok.imm, fun j b' hj => ok.apart j b' (mut' j hj), fun j o₁ hj k hk => ?_, ok.glob⟩, st,
  ⟨Nat.le_refl _, fun _ _ _ => rfl, fun _ hb => hb, fun _ hb => .inl hb, fun b' ⟨j, hj, hbj⟩ => .inl ⟨j, mut' j hj, hbj⟩, fun _ _ => rfl, ⟨rfl, rfl, rfl⟩, fun b c T fz hb => .inr ⟨c, T, hb⟩, fun b rec hb => ⟨rec, hb, rfl⟩⟩, fun j hj => ovr_dom hj, lk⟩
 ·by_cases hji : i = j
  ·subst hji; rw [ovr_same] at hj; cases hj; trivial
  ·rw [ovr_ne h _ hji] at hj
   exact (ok.ob j o₁ hj).mono st lk hj (ok.dom j o₁ hj) fun _ _ => rfl
 ·by_cases hji : i = j
  ·subst hji; rw [ovr_same] at hj; cases hj; simp [Ob.ids] at hk
  ·rw [ovr_ne h _ hji] at hj; exact ovr_dom (ok.dom j o₁ hj k hk)
theorem HStep.freeze (ok : HeapOk gl w A η h) {i : Nat} {r : Ks} {xs : List r.Ty} {fz : Bool} (hi : h i = some (.arr r xs fz)) :
  HStep gl m w A η h w (fun b => A b ∨ η i = some b) η (ovr h i (.arr r xs true)) := by
 have hA : ∀ b, A b → (A b ∨ η i = some b) ∧ w.heap[b]? = w.heap[b]? := fun _ hb => ⟨.inl hb, rfl⟩
 have st : Still w w A (fun b => A b ∨ η i = some b) η η h (ovr h i (.arr r xs true)) (fun i => h i ≠ none) := ⟨hA, fun _ _ => rfl, fun j v hj hv => by
  unfold OwnRep at *
  by_cases hji : i = j
  ·subst hji; rw [ovr_same]; rw [hi] at hv; exact hv
  ·rwa [ovr_ne h _ hji]⟩
 have lk : LkKept w w η h (ovr h i (.arr r xs true)) := fun j c hj hc ⟨kr, ka, vr, va, es, e⟩ => by
  by_cases hji : i = j
  ·subst hji; rw [ovr_same] at e; cases e
  ·rw [ovr_ne h _ hji] at e
   exact ⟨⟨kr, ka, vr, va, es, e⟩, fun _ _ => rfl⟩
 have mut' : ∀ j, Mut (ovr h i (.arr r xs true)) j → Mut h j ∧ j ≠ i := fun j hj => by
  rcases hj.ovr with rfl | h'
  ·unfold Mut at hj; rw [ovr_same] at hj; exact hj.elim
  ·refine ⟨h', fun e => ?_⟩
   subst e; unfold Mut at hj; rw [ovr_same] at hj; exact hj.elim
 have lt : ∀ b, η i = some b → b < w.heap.size := fun b hb => by
  rcases ok.ob i _ hi with ⟨h1, _⟩ | ⟨b', c, T, h1, h2, _⟩
  ·rw [h1] at hb; cases hb
  ·rw [h1] at hb; cases hb; exact (Array.getElem?_eq_some_iff.1 h2).1
 refine ⟨⟨fun j o₁ hj => ?_, fun j k b' hj hk => ok.inj j k b' (mut' j hj).1 (mut' k hk).1, fun b hb => hb.elim (ok.imm b) (lt b), fun j b' hj hbj hb => ?_, fun j o₁ hj k hk => ?_,
   ok.glob.mono hA⟩, st,
  ⟨Nat.le_refl _, fun _ _ _ => rfl, fun _ hb => .inl hb, fun b hb => ?_, fun b' ⟨j, hj, hbj⟩ => .inl ⟨j, (mut' j hj).1, hbj⟩, fun _ _ => rfl, ⟨rfl, rfl, rfl⟩, fun b c T fz hb => .inr ⟨c, T, hb⟩, fun b rec hb => ⟨rec, hb, rfl⟩⟩, fun j hj => ovr_dom hj, lk⟩
 ·by_cases hji : i = j
  ·subst hji; rw [ovr_same] at hj; cases hj
   rcases ok.ob i _ hi with h1 | ⟨b', c, T, h1, h2, h3, h4, h5⟩
   ·exact .inl h1
   ·exact .inr ⟨b', c, T, h1, h2, h3, fun _ => .inr h1, fun k x hx => Ks.Rep.mono hA r x b' _ rfl (h5 k x hx)⟩
  ·rw [ovr_ne h _ hji] at hj
   exact (ok.ob j o₁ hj).mono st lk hj (ok.dom j o₁ hj) fun _ _ => rfl
 ·rcases hb with hb | hb
  ·exact ok.apart j b' (mut' j hj).1 hbj hb
  ·
   by_cases hf : fz = true
   ·subst hf
    rcases ok.ob i _ hi with ⟨h1, _⟩ | ⟨b₁, c, T, h1, _, _, h4, _⟩
    ·rw [h1] at hb; cases hb
    ·rw [h1] at hb; cases hb; exact ok.apart j _ (mut' j hj).1 hbj (h4 rfl)
   ·have hm : Mut h i := by unfold Mut; rw [hi]; cases fz <;> simp_all
    exact (mut' j hj).2 (ok.inj j i b' (mut' j hj).1 hm hbj hb)
 ·by_cases hji : i = j
  ·subst hji; rw [ovr_same] at hj; cases hj; simp [Ob.ids] at hk
  ·rw [ovr_ne h _ hji] at hj; exact ovr_dom (ok.dom j o₁ hj k hk)
 ·rcases hb with hb | hb
  ·exact .inl hb
  ·by_cases hf : fz = true
   ·subst hf
    rcases ok.ob i _ hi with ⟨h1, _⟩ | ⟨b₁, c, T, h1, _, _, h4, _⟩
    ·rw [h1] at hb; cases hb
    ·rw [h1] at hb; cases hb; exact .inl (h4 rfl)
   ·exact .inr (.inl ⟨i, by unfold Mut; rw [hi]; cases fz <;> simp_all, hb⟩)
def upd (η : Nat → Option Nat) (i : Nat) (b : Option Nat) : Nat → Option Nat := fun j => if i = j then b else η j
theorem upd_same (η : Nat → Option Nat) (i : Nat) (b : Option Nat) : upd η i b i = b := by simp [upd]
theorem upd_ne (η : Nat → Option Nat) {i j : Nat} (b : Option Nat) (hn : i ≠ j) : upd η i b j = η j := by simp [upd, hn]
theorem HStep.new (ok : HeapOk gl w A η h) {i : Nat} {o : Ob} {x : Obj} (hx : Soft x) (hi : h i = none) (hmi : m ≤ i) (hd : ∀ j ∈ o.ids, h j ≠ none)
  (hr : Still w { w with heap := w.heap.push x } A A η (upd η i (some w.heap.size)) h (ovr h i o) (fun i => h i ≠ none) →
    ObRep gl { w with heap := w.heap.push x } A (upd η i (some w.heap.size)) (ovr h i o) i o) :
  HStep gl m w A η h { w with heap := w.heap.push x } A (upd η i (some w.heap.size)) (ovr h i o) := by
 have get : ∀ b, b < w.heap.size → (w.heap.push x)[b]? = w.heap[b]? := fun b hb => by
  rw [Array.getElem?_push]; rw [if_neg (by omega)]
 have get' : ∀ b y, w.heap[b]? = some y → (w.heap.push x)[b]? = some y := fun b y hy => by
  rw [get b (Array.getElem?_eq_some_iff.1 hy).1, hy]
 have hA : ∀ b, A b → A b ∧ ({ w with heap := w.heap.push x } : World).heap[b]? = w.heap[b]? := fun b hb => ⟨hb, get b (ok.imm b hb)⟩
 have ne : ∀ j, h j ≠ none → i ≠ j := fun j hj e => hj (e ▸ hi)
 have et : ∀ j, h j ≠ none → upd η i (some w.heap.size) j = η j := fun j hj => upd_ne η _ (ne j hj)
 have st : Still w { w with heap := w.heap.push x } A A η (upd η i (some w.heap.size)) h (ovr h i o) (fun i => h i ≠ none) := ⟨hA, et, fun j v hj hv => by
  unfold OwnRep at *
  rw [ovr_ne h _ (ne j hj)]
  cases hoj : h j with
  | none => exact (hj hoj).elim
  | some o₁ =>
    rw [hoj] at hv
    cases o₁ with
    | arr r xs fz =>
      dsimp only at hv ⊢
      rcases hv with ⟨h1, h2⟩ | ⟨b', cap, c, T, h1, h2, h3, h4, h5⟩
      ·exact .inl ⟨by rw [et j hj]; exact h1, h2⟩
      ·exact .inr ⟨b', cap, c, T, by rw [et j hj]; exact h1, h2, h3, get' _ _ h4, h5⟩
    | _ => exact hv⟩
 have lk : LkKept w { w with heap := w.heap.push x } η h (ovr h i o) := fun j c hj hc ⟨kr, ka, vr, va, es, e⟩ => by
  rw [ovr_ne h _ (ne j hj)] at e
  have hl : Lock h j c := ⟨kr, ka, vr, va, es, e⟩
  exact ⟨hl, fun b' hb' => get b' (ok.block hl.mut hb')⟩
 have mut' : ∀ j, Mut (ovr h i o) j → j ≠ i → Mut h j ∧ h j ≠ none := fun j hj hn => by
  rcases hj.ovr with rfl | h'
  ·exact (hn rfl).elim
  ·exact ⟨h', fun e => by unfold Mut at h'; rw [e] at h'; exact h'.elim⟩
 refine ⟨⟨fun j o₁ hj => ?_, fun j k b' hj hk hbj hbk => ?_, fun b hb => by simp; have := ok.imm b hb; omega, fun j b' hj hbj hb => ?_, fun j o₁ hj k hk => ?_,
   ok.glob.mono hA⟩, st,
  ⟨by simp, fun b hb _ => get b hb, fun _ hb => hb, fun b hb => .inl hb, fun b' ⟨j, hj, hbj⟩ => ?_, fun j hj => upd_ne _ _ (by omega), ⟨rfl, rfl, rfl⟩, frz_push hx w, tie_push⟩, fun j hj => ovr_dom hj, lk⟩
 ·by_cases hji : i = j
  ·subst hji; rw [ovr_same] at hj; cases hj; exact hr st
  ·rw [ovr_ne h _ hji] at hj
   by_cases hdd : o₁ = .dead
   ·subst hdd; trivial
   ·refine (ok.ob j o₁ hj).mono st lk hj (ok.dom j o₁ hj) fun b hb => get b ?_
    cases o₁ with
    | dead => exact (hdd rfl).elim
    | var l => exact ok.block (by unfold Mut; rw [hj]; trivial) hb
    | map kr ka vr va es => exact ok.block (by unfold Mut; rw [hj]; trivial) hb
    | lmap _ kr ka vr va es => exact ok.block (by unfold Mut; rw [hj]; trivial) hb
    | emap _ _ _ _ _ _ _ _ => exact ok.block (by unfold Mut; rw [hj]; trivial) hb
    | iter s pos => exact ok.block (by unfold Mut; rw [hj]; trivial) hb
    | miter _ _ _ _ _ _ _ => exact ok.block (by unfold Mut; rw [hj]; trivial) hb
    | loop _ _ _ => exact ok.block (by unfold Mut; rw [hj]; trivial) hb
    | arr r xs fz =>
      rcases ok.ob j _ hj with ⟨h1, _⟩ | ⟨b', c, T, h1, h2, _⟩
      ·rw [h1] at hb; cases hb
      ·rw [h1] at hb; cases hb; exact (Array.getElem?_eq_some_iff.1 h2).1
 ·by_cases hji : j = i
  ·by_cases hki : k = i
   ·rw [hji, hki]
   ·obtain ⟨h1, h2⟩ := mut' k hk hki
    rw [upd_ne _ _ (Ne.symm hki)] at hbk
    rw [← hji, upd_same] at hbj
    have := ok.block h1 hbk
    cases hbj; omega
  ·obtain ⟨h1, h2⟩ := mut' j hj hji
   rw [upd_ne _ _ (Ne.symm hji)] at hbj
   by_cases hki : k = i
   ·rw [← hki, upd_same] at hbk
    have := ok.block h1 hbj
    cases hbk; omega
   ·obtain ⟨h3, h4⟩ := mut' k hk hki
    rw [upd_ne _ _ (Ne.symm hki)] at hbk
    exact ok.inj j k b' h1 h3 hbj hbk
 ·by_cases hji : j = i
  ·rw [← hji, upd_same] at hbj; have := ok.imm b' hb; cases hbj; omega
  ·rw [upd_ne _ _ (Ne.symm hji)] at hbj; exact ok.apart j b' (mut' j hj hji).1 hbj hb
 ·by_cases hji : i = j
  ·subst hji; rw [ovr_same] at hj; cases hj; exact ovr_dom (hd k hk)
  ·rw [ovr_ne h _ hji] at hj; exact ovr_dom (ok.dom j o₁ hj k hk)
 ·by_cases hji : j = i
  ·rw [← hji, upd_same] at hbj; cases hbj; exact .inr (Nat.le_refl _)
  ·rw [upd_ne _ _ (Ne.symm hji)] at hbj; exact .inl ⟨j, (mut' j hj hji).1, hbj⟩
theorem HStep.newNil (ok : HeapOk gl w A η h) {i : Nat} {r : Ks} (hi : h i = none) (hmi : m ≤ i) :
  HStep gl m w A η h w A (upd η i none) (ovr h i (.arr r [] false)) := by
 have hA : ∀ b, A b → A b ∧ w.heap[b]? = w.heap[b]? := fun b hb => ⟨hb, rfl⟩
 have ne : ∀ j, h j ≠ none → i ≠ j := fun j hj e => hj (e ▸ hi)
 have et : ∀ j, h j ≠ none → upd η i none j = η j := fun j hj => upd_ne η _ (ne j hj)
 have st : Still w w A A η (upd η i none) h (ovr h i (.arr r [] false)) (fun i => h i ≠ none) := ⟨hA, et, fun j v hj hv => by
  unfold OwnRep at *
  rw [ovr_ne h _ (ne j hj)]
  cases hoj : h j with
  | none => exact (hj hoj).elim
  | some o₁ =>
    rw [hoj] at hv
    cases o₁ with
    | arr r xs fz =>
      dsimp only at hv ⊢
      rcases hv with ⟨h1, h2⟩ | ⟨b', cap, c, T, h1, h2⟩
      ·exact .inl ⟨by rw [et j hj]; exact h1, h2⟩
      ·exact .inr ⟨b', cap, c, T, by rw [et j hj]; exact h1, h2⟩
    | _ => exact hv⟩
 have lk : LkKept w w η h (ovr h i (.arr r [] false)) := fun j c hj hc ⟨kr, ka, vr, va, es, e⟩ => by
  rw [ovr_ne h _ (ne j hj)] at e
  have hl : Lock h j c := ⟨kr, ka, vr, va, es, e⟩
  exact ⟨hl, fun b' hb' => rfl⟩
 have mut' : ∀ j, Mut (ovr h i (.arr r [] false)) j → j ≠ i → Mut h j := fun j hj hn => by
  rcases hj.ovr with rfl | h'
  ·exact (hn rfl).elim
  ·exact h'
 refine ⟨⟨fun j o₁ hj => ?_, fun j k b' hj hk hbj hbk => ?_, ok.imm, fun j b' hj hbj hb => ?_, fun j o₁ hj k hk => ?_, ok.glob⟩, st,
  ⟨Nat.le_refl _, fun _ _ _ => rfl, fun _ hb => hb, fun b hb => .inl hb, fun b' ⟨j, hj, hbj⟩ => ?_, fun j hj => upd_ne _ _ (by omega), ⟨rfl, rfl, rfl⟩, fun b c T fz hb => .inr ⟨c, T, hb⟩, fun b rec hb => ⟨rec, hb, rfl⟩⟩, fun j hj => ovr_dom hj, lk⟩
 ·by_cases hji : i = j
  ·subst hji; rw [ovr_same] at hj; cases hj; exact .inl ⟨upd_same _ _ _, rfl⟩
  ·rw [ovr_ne h _ hji] at hj
   exact (ok.ob j o₁ hj).mono st lk hj (ok.dom j o₁ hj) fun _ _ => rfl
 ·by_cases hji : j = i
  ·rw [← hji, upd_same] at hbj; cases hbj
  ·by_cases hki : k = i
   ·rw [← hki, upd_same] at hbk; cases hbk
   ·rw [upd_ne _ _ (Ne.symm hji)] at hbj; rw [upd_ne _ _ (Ne.symm hki)] at hbk
    exact ok.inj j k b' (mut' j hj hji) (mut' k hk hki) hbj hbk
 ·by_cases hji : j = i
  ·rw [← hji, upd_same] at hbj; cases hbj
  ·rw [upd_ne _ _ (Ne.symm hji)] at hbj; exact ok.apart j b' (mut' j hj hji) hbj hb
 ·by_cases hji : i = j
  ·subst hji; rw [ovr_same] at hj; cases hj; simp [Ob.ids] at hk
  ·rw [ovr_ne h _ hji] at hj; exact ovr_dom (ok.dom j o₁ hj k hk)
 ·by_cases hji : j = i
  ·rw [← hji, upd_same] at hbj; cases hbj
  ·rw [upd_ne _ _ (Ne.symm hji)] at hbj; exact .inl ⟨j, mut' j hj hji, hbj⟩
theorem HStep.move (ok : HeapOk gl w A η h) {i j b : Nat} {o o' : Ob} {x : Obj} (htie : Tied w b x) (hx : Soft x) (hi : h i = some o) (hm : Mut h i) (hb : η i = some b) (hj : h j = none) (hmj : m ≤ j)
  (hd : ∀ k ∈ o'.ids, h k ≠ none)
  (hr : Still w { w with heap := w.heap.setIfInBounds b x } A A η (upd η j (some b)) h (ovr (ovr h i .dead) j o') (fun i => h i ≠ none) →
    ObRep gl { w with heap := w.heap.setIfInBounds b x } A (upd η j (some b)) (ovr (ovr h i .dead) j o') j o') :
  HStep gl m w A η h { w with heap := w.heap.setIfInBounds b x } A (upd η j (some b)) (ovr (ovr h i .dead) j o') := by
 have hij : i ≠ j := fun e => by rw [e, hj] at hi; cases hi
 have hAb : ¬ A b := ok.apart i b hm hb
 have get : ∀ b', b' ≠ b → (w.heap.setIfInBounds b x)[b']? = w.heap[b']? := fun b' hn => Array.getElem?_setIfInBounds_ne (Ne.symm hn)
 have hA : ∀ b', A b' → A b' ∧ ({ w with heap := w.heap.setIfInBounds b x } : World).heap[b']? = w.heap[b']? :=
  fun b' hb' => ⟨hb', get b' (fun e => hAb (e ▸ hb'))⟩
 have blk : ∀ k o₁, h k = some o₁ → k ≠ i → ∀ b', η k = some b' → o₁ ≠ .dead → b' ≠ b := by
  intro k o₁ hk hki b' hbk hnd
  by_cases hmk : Mut h k
  ·exact fun e => hki (ok.inj k i b hmk hm (e ▸ hbk) hb)
  ·unfold Mut at hmk
   rw [hk] at hmk
   cases o₁ with
   | var l => exact (hmk trivial).elim
   | map kr ka vr va es => exact (hmk trivial).elim
   | lmap _ kr ka vr va es => exact (hmk trivial).elim
   | emap _ _ _ _ _ _ _ _ => exact (hmk trivial).elim
   | iter s pos => exact (hmk trivial).elim
   | miter _ _ _ _ _ _ _ => exact (hmk trivial).elim
   | loop _ _ _ => exact (hmk trivial).elim
   | dead => exact (hnd rfl).elim
   | arr r xs fz =>
     cases fz with
     | false => exact (hmk trivial).elim
     | true =>
       rcases ok.ob k _ hk with ⟨h1, _⟩ | ⟨b₁, c, T, h1, _, _, h4, _⟩
       ·rw [h1] at hbk; cases hbk
       ·rw [h1] at hbk; cases hbk; exact fun e => hAb (e ▸ h4 rfl)
 have ne : ∀ k, h k ≠ none → j ≠ k := fun k hk e => hk (e ▸ hj)
 have et : ∀ k, h k ≠ none → upd η j (some b) k = η k := fun k hk => upd_ne η _ (ne k hk)
 have at' : ∀ k, k ≠ i → h k ≠ none → ovr (ovr h i .dead) j o' k = h k := fun k hki hk => by
  rw [ovr_ne _ _ (ne k hk), ovr_ne _ _ (Ne.symm hki)]
 have st : Still w { w with heap := w.heap.setIfInBounds b x } A A η (upd η j (some b)) h (ovr (ovr h i .dead) j o') (fun i => h i ≠ none) := ⟨hA, et, fun k v hk hv => by
  unfold OwnRep at *
  by_cases hki : k = i
  ·subst hki; rw [ovr_ne _ _ (ne k hk), ovr_same]
   rw [hi] at hv
   cases o with
   | arr r xs fz => rcases hv with ⟨_, _, _, e⟩ | ⟨_, _, _, _, _, e, _⟩ <;> exact ⟨_, _, _, e⟩
   | _ => exact hv
  ·rw [at' k hki hk]
   cases hok : h k with
   | none => exact (hk hok).elim
   | some o₁ =>
     rw [hok] at hv
     cases o₁ with
     | arr r xs fz =>
       dsimp only at hv ⊢
       rcases hv with ⟨h1, h2⟩ | ⟨b', cap, c, T, h1, h2, h3, h4, h5⟩
       ·exact .inl ⟨by rw [et k hk]; exact h1, h2⟩
       ·exact .inr ⟨b', cap, c, T, by rw [et k hk]; exact h1, h2, h3, (get b' (blk k _ hok hki b' h1 (by simp))).trans h4, h5⟩
     | _ => exact hv⟩
 have lk : LkKept w { w with heap := w.heap.setIfInBounds b x } η h (ovr (ovr h i .dead) j o') := fun k c hk hc ⟨kr, ka, vr, va, es, e⟩ => by
  rw [ovr_ne _ _ (ne k hk)] at e
  by_cases hki : i = k
  ·subst hki; rw [ovr_same] at e; cases e
  ·rw [ovr_ne _ _ hki] at e
   have hl : Lock h k c := ⟨kr, ka, vr, va, es, e⟩
   exact ⟨hl, fun b' hb' => get b' fun e' => hki (ok.inj i k b hm hl.mut hb (e' ▸ hb'))⟩
 have mut' : ∀ k, Mut (ovr (ovr h i .dead) j o') k → k ≠ j → Mut h k ∧ k ≠ i ∧ h k ≠ none := fun k hk hn => by
  rcases hk.ovr with rfl | h'
  ·exact (hn rfl).elim
  ·rcases h'.ovr with rfl | h''
   ·unfold Mut at h'; rw [ovr_same] at h'; exact h'.elim
   ·refine ⟨h'', fun e => ?_, fun e => by unfold Mut at h''; rw [e] at h''; exact h''.elim⟩
    subst e; unfold Mut at h'; rw [ovr_same] at h'; exact h'.elim
 have dom' : ∀ k, h k ≠ none → ovr (ovr h i .dead) j o' k ≠ none := fun k hk => ovr_dom (ovr_dom hk)
 refine ⟨⟨fun k o₁ hk => ?_, fun k l b' hk hl hbk hbl => ?_, fun b' hb' => by simpa using ok.imm b' hb', fun k b' hk hbk hb' => ?_, fun k o₁ hk l hl => ?_,
   ok.glob.mono hA⟩, st,
  ⟨by simp, fun b' _ hn => get b' (fun e => hn ⟨i, hm, e ▸ hb⟩), fun _ hb => hb, fun _ hb => .inl hb, fun b' ⟨k, hk, hbk⟩ => ?_, fun k hk => upd_ne _ _ (by omega), ⟨rfl, rfl, rfl⟩, frz_set hx w, tie_set htie⟩, dom', lk⟩
 ·by_cases hkj : j = k
  ·subst hkj; rw [ovr_same] at hk; cases hk; exact hr st
  ·rw [ovr_ne _ _ hkj] at hk
   by_cases hki : i = k
   ·subst hki; rw [ovr_same] at hk; cases hk; trivial
   ·rw [ovr_ne _ _ hki] at hk
    by_cases hdd : o₁ = .dead
    ·subst hdd; trivial
    ·exact (ok.ob k o₁ hk).mono st lk hk (ok.dom k o₁ hk) fun b' hb' => get b' (blk k o₁ hk (Ne.symm hki) b' hb' hdd)
 ·by_cases hkj : k = j
  ·by_cases hlj : l = j
   ·rw [hkj, hlj]
   ·obtain ⟨h1, h2, h3⟩ := mut' l hl hlj
    rw [hkj, upd_same] at hbk
    rw [upd_ne _ _ (Ne.symm hlj)] at hbl
    cases hbk
    exact (h2 (ok.inj l i b h1 hm hbl hb)).elim
  ·obtain ⟨h1, h2, h3⟩ := mut' k hk hkj
   rw [upd_ne _ _ (Ne.symm hkj)] at hbk
   by_cases hlj : l = j
   ·rw [hlj, upd_same] at hbl
    cases hbl
    exact (h2 (ok.inj k i b h1 hm hbk hb)).elim
   ·obtain ⟨h4, h5, h6⟩ := mut' l hl hlj
    rw [upd_ne _ _ (Ne.symm hlj)] at hbl
    exact ok.inj k l b' h1 h4 hbk hbl
 ·by_cases hkj : k = j
  ·rw [hkj, upd_same] at hbk; cases hbk; exact hAb hb'
  ·rw [upd_ne _ _ (Ne.symm hkj)] at hbk; exact ok.apart k b' (mut' k hk hkj).1 hbk hb'
 ·by_cases hkj : j = k
  ·subst hkj; rw [ovr_same] at hk; cases hk; exact dom' l (hd l hl)
  ·rw [ovr_ne _ _ hkj] at hk
   by_cases hki : i = k
   ·subst hki; rw [ovr_same] at hk; cases hk; simp [Ob.ids] at hl
   ·rw [ovr_ne _ _ hki] at hk; exact dom' l (ok.dom k o₁ hk l hl)
 ·by_cases hkj : k = j
  ·rw [hkj, upd_same] at hbk; cases hbk; exact .inl ⟨i, hm, hb⟩
  ·rw [upd_ne _ _ (Ne.symm hkj)] at hbk; exact .inl ⟨k, (mut' k hk hkj).1, hbk⟩
theorem HStep.other (ok : HeapOk gl w A η h) {b : Nat} {x : Obj} (htie : Tied w b x) (hx : Soft x) (hb : ¬ Owned η h b) (hA : ¬ A b) :
  (∀ b', b' ≠ b → ({ w with heap := w.heap.setIfInBounds b x } : World).heap[b']? = w.heap[b']?) ∧ HeapOk gl { w with heap := w.heap.setIfInBounds b x } A η h ∧
    Still w { w with heap := w.heap.setIfInBounds b x } A A η η h h (fun i => h i ≠ none) := by
 have get : ∀ b', b' ≠ b → (w.heap.setIfInBounds b x)[b']? = w.heap[b']? := fun b' hn => Array.getElem?_setIfInBounds_ne (Ne.symm hn)
 have hAA : ∀ b', A b' → A b' ∧ ({ w with heap := w.heap.setIfInBounds b x } : World).heap[b']? = w.heap[b']? := fun b' hb' => ⟨hb', get b' (fun e => hA (e ▸ hb'))⟩
 have blk : ∀ j o₁, h j = some o₁ → ∀ b', η j = some b' → o₁ ≠ .dead → b' ≠ b := by
  intro j o₁ hj b' hbj hnd
  by_cases hmj : Mut h j
  ·exact fun e => hb ⟨j, hmj, e ▸ hbj⟩
  ·unfold Mut at hmj
   rw [hj] at hmj
   cases o₁ with
   | var l => exact (hmj trivial).elim
   | map kr ka vr va es => exact (hmj trivial).elim
   | lmap _ kr ka vr va es => exact (hmj trivial).elim
   | emap _ _ _ _ _ _ _ _ => exact (hmj trivial).elim
   | iter s pos => exact (hmj trivial).elim
   | miter _ _ _ _ _ _ _ => exact (hmj trivial).elim
   | loop _ _ _ => exact (hmj trivial).elim
   | dead => exact (hnd rfl).elim
   | arr r xs fz =>
     cases fz with
     | false => exact (hmj trivial).elim
     | true =>
       rcases ok.ob j _ hj with ⟨h1, _⟩ | ⟨b₁, c, T, h1, _, _, h4, _⟩
       ·rw [h1] at hbj; cases hbj
       ·rw [h1] at hbj; cases hbj; exact fun e => hA (e ▸ h4 rfl)
 have st : Still w { w with heap := w.heap.setIfInBounds b x } A A η η h h (fun i => h i ≠ none) := ⟨hAA, fun _ _ => rfl, fun j v hj hv => by
  unfold OwnRep at *
  cases hoj : h j with
  | none => exact (hj hoj).elim
  | some o₁ =>
    rw [hoj] at hv
    cases o₁ with
    | arr r xs fz =>
      dsimp only at hv ⊢
      rcases hv with h1 | ⟨b', cap, c, T, h1, h2, h3, h4, h5⟩
      ·exact .inl h1
      ·exact .inr ⟨b', cap, c, T, h1, h2, h3, (get b' (blk j _ hoj b' h1 (by simp))).trans h4, h5⟩
    | _ => exact hv⟩
 have lk : LkKept w { w with heap := w.heap.setIfInBounds b x } η h h := .same fun j b' hm hb' => get b' fun e => hb ⟨j, hm, e ▸ hb'⟩
 refine ⟨get, ⟨fun j o₁ hj => ?_, ok.inj, fun b' hb' => by simpa using ok.imm b' hb', ok.apart, ok.dom,
  ok.glob.mono hAA⟩, st⟩
 by_cases hdd : o₁ = .dead
 ·subst hdd; trivial
 ·exact (ok.ob j o₁ hj).mono st lk hj (ok.dom j o₁ hj) fun b' hb' => get b' (blk j o₁ hj b' hb' hdd)
theorem HStep.push (ok : HeapOk gl w A η h) {x : Obj} (hx : Soft x) : HStep gl m w A η h { w with heap := w.heap.push x } A η h := by
 have get : ∀ b, b < w.heap.size → (w.heap.push x)[b]? = w.heap[b]? := fun b hb => by
  rw [Array.getElem?_push]; rw [if_neg (by omega)]
 have get' : ∀ b y, w.heap[b]? = some y → (w.heap.push x)[b]? = some y := fun b y hy => by
  rw [get b (Array.getElem?_eq_some_iff.1 hy).1, hy]
 have hA : ∀ b, A b → A b ∧ ({ w with heap := w.heap.push x } : World).heap[b]? = w.heap[b]? := fun b hb => ⟨hb, get b (ok.imm b hb)⟩
 have st : Still w { w with heap := w.heap.push x } A A η η h h (fun i => h i ≠ none) := ⟨hA, fun _ _ => rfl, fun j v hj hv => by
  unfold OwnRep at *
  cases hoj : h j with
  | none => exact (hj hoj).elim
  | some o₁ =>
    rw [hoj] at hv
    cases o₁ with
    | arr r xs fz =>
      dsimp only at hv ⊢
      rcases hv with ⟨h1, h2⟩ | ⟨b', cap, c, T, h1, h2, h3, h4, h5⟩
      ·exact .inl ⟨h1, h2⟩
      ·exact .inr ⟨b', cap, c, T, h1, h2, h3, get' _ _ h4, h5⟩
    | _ => exact hv⟩
 have lk : LkKept w { w with heap := w.heap.push x } η h h := .same fun j b' hm hb' => get b' (ok.block hm hb')
 refine ⟨⟨fun j o₁ hj => ?_, ok.inj, fun b hb => by simp; have := ok.imm b hb; omega, ok.apart, ok.dom,
   ok.glob.mono hA⟩, st,
  ⟨by simp, fun b hb _ => get b hb, fun _ hb => hb, fun b hb => .inl hb, fun b hb => .inl hb, fun _ _ => rfl, ⟨rfl, rfl, rfl⟩, frz_push hx w, tie_push⟩, fun _ hj => hj, lk⟩
 by_cases hdd : o₁ = .dead
 ·subst hdd; trivial
 ·refine (ok.ob j o₁ hj).mono st lk hj (ok.dom j o₁ hj) fun b hb => get b ?_
  cases o₁ with
  | dead => exact (hdd rfl).elim
  | arr r xs fz =>
    rcases ok.ob j _ hj with ⟨h1, _⟩ | ⟨b', c, T, h1, h2, _⟩
    ·rw [h1] at hb; cases hb
    ·rw [h1] at hb; cases hb; exact (Array.getElem?_eq_some_iff.1 h2).1
  | _ => exact ok.block (by unfold Mut; rw [hj]; trivial) hb
theorem HStep.newDead (ok : HeapOk gl w A η h) {i : Nat} (n : Nat) (hi : h i = none) (hmi : m ≤ i) :
  HStep gl m w A η h w A (upd η i (some n)) (ovr h i .dead) := by
 have hA : ∀ b, A b → A b ∧ w.heap[b]? = w.heap[b]? := fun b hb => ⟨hb, rfl⟩
 have ne : ∀ j, h j ≠ none → i ≠ j := fun j hj e => hj (e ▸ hi)
 have et : ∀ j, h j ≠ none → upd η i (some n) j = η j := fun j hj => upd_ne η _ (ne j hj)
 have st : Still w w A A η (upd η i (some n)) h (ovr h i .dead) (fun i => h i ≠ none) := ⟨hA, et, fun j v hj hv => by
  unfold OwnRep at *
  rw [ovr_ne h _ (ne j hj)]
  cases hoj : h j with
  | none => exact (hj hoj).elim
  | some o₁ =>
    rw [hoj] at hv
    cases o₁ with
    | arr r xs fz =>
      dsimp only at hv ⊢
      rcases hv with ⟨h1, h2⟩ | ⟨b', cap, c, T, h1, h2⟩
      ·exact .inl ⟨by rw [et j hj]; exact h1, h2⟩
      ·exact .inr ⟨b', cap, c, T, by rw [et j hj]; exact h1, h2⟩
    | _ => exact hv⟩
 have lk : LkKept w w η h (ovr h i .dead) := fun j c hj hc ⟨kr, ka, vr, va, es, e⟩ => by
  rw [ovr_ne h _ (ne j hj)] at e
  exact ⟨⟨kr, ka, vr, va, es, e⟩, fun b' hb' => rfl⟩
 have mut' : ∀ j, Mut (ovr h i .dead) j → Mut h j ∧ j ≠ i := fun j hj => by
  rcases hj.ovr with rfl | h'
  ·unfold Mut at hj; rw [ovr_same] at hj; exact hj.elim
  ·refine ⟨h', fun e => ?_⟩
   subst e; unfold Mut at h'; rw [hi] at h'; exact h'.elim
 refine ⟨⟨fun j o₁ hj => ?_, fun j k b' hj hk hbj hbk => ?_, ok.imm, fun j b' hj hbj hb => ?_, fun j o₁ hj k hk => ?_, ok.glob⟩, st,
  ⟨Nat.le_refl _, fun _ _ _ => rfl, fun _ hb => hb, fun b hb => .inl hb, fun b' ⟨j, hj, hbj⟩ => ?_, fun j hj => upd_ne _ _ (by omega), ⟨rfl, rfl, rfl⟩, fun b c T fz hb => .inr ⟨c, T, hb⟩, fun b rec hb => ⟨rec, hb, rfl⟩⟩, fun j hj => ovr_dom hj, lk⟩
 ·by_cases hji : i = j
  ·subst hji; rw [ovr_same] at hj; cases hj; trivial
  ·rw [ovr_ne h _ hji] at hj
   exact (ok.ob j o₁ hj).mono st lk hj (ok.dom j o₁ hj) fun _ _ => rfl
 ·obtain ⟨h1, h2⟩ := mut' j hj
  obtain ⟨h3, h4⟩ := mut' k hk
  rw [upd_ne _ _ (Ne.symm h2)] at hbj; rw [upd_ne _ _ (Ne.symm h4)] at hbk
  exact ok.inj j k b' h1 h3 hbj hbk
 ·obtain ⟨h1, h2⟩ := mut' j hj
  rw [upd_ne _ _ (Ne.symm h2)] at hbj; exact ok.apart j b' h1 hbj hb
 ·by_cases hji : i = j
  ·subst hji; rw [ovr_same] at hj; cases hj; simp [Ob.ids] at hk
  ·rw [ovr_ne h _ hji] at hj; exact ovr_dom (ok.dom j o₁ hj k hk)
 ·obtain ⟨h1, h2⟩ := mut' j hj
  rw [upd_ne _ _ (Ne.symm h2)] at hbj; exact .inl ⟨j, h1, hbj⟩
theorem set_same {α : Type} {a : Array α} {b : Nat} {x : α} (h : a[b]? = some x) : a.setIfInBounds b x = a := by
 apply Array.ext_getElem?
 intro j
 rw [Array.getElem?_setIfInBounds]
 split
 ·rename_i e; subst e
  split
  ·exact h.symm
  ·rename_i hn; rw [Array.getElem?_eq_none (by omega)]
 ·rfl
theorem HStep.lock (ok : HeapOk gl w A η h) {i c : Nat} {kr : Ks} {ka : Bool} {vr : Ks} {va : Bool} {es : List (kr.Ty × vr.Ty)} (hi : h i = some (.map kr ka vr va es)) (hc : h c = none) :
  HStep gl m w A η h w A η (ovr h i (.lmap c kr ka vr va es)) := by
 obtain ⟨b, ents, clk, h1, h2, h3, h4⟩ := ok.ob i _ hi
 have st := HStep.turn (gl := gl) (m := m) (o' := .lmap c kr ka vr va es) (x := .map ents clk) ok (.of h2 (by intro rec e; cases e)) (by intro c T fz e; cases e) hi (by unfold Mut; rw [hi]; trivial) h1
  (fun v hv => by unfold OwnRep at hv ⊢; rw [ovr_same]; rw [hi] at hv; exact hv) (by simp [Ob.ids])
  (fun st => ⟨b, ents, clk, h1, by simp [(Array.getElem?_eq_some_iff.1 h2).1], EntsRep.mono st.imm _ _ h3, h4⟩)
  (by intro c' kr ka vr va es e; cases e; exact hc)
 rwa [show ({ w with heap := w.heap.setIfInBounds b (.map ents clk) } : World) = w from by rw [set_same h2]] at st
theorem HStep.unlock (ok : HeapOk gl w A η h) {i c : Nat} {kr : Ks} {ka : Bool} {vr : Ks} {va : Bool} {es : List (kr.Ty × vr.Ty)} (hi : h i = some (.lmap c kr ka vr va es)) :
  HStep gl m w A η h w A η (ovr h i (.map kr ka vr va es)) := by
 obtain ⟨b, ents, clk, h1, h2, h3, h4⟩ := ok.ob i _ hi
 have st := HStep.turn (gl := gl) (m := m) (o' := .map kr ka vr va es) (x := .map ents clk) ok (.of h2 (by intro rec e; cases e)) (by intro c T fz e; cases e) hi (by unfold Mut; rw [hi]; trivial) h1
  (fun v hv => by unfold OwnRep at hv ⊢; rw [ovr_same]; rw [hi] at hv; exact hv) (by simp [Ob.ids])
  (fun st => ⟨b, ents, clk, h1, by simp [(Array.getElem?_eq_some_iff.1 h2).1], EntsRep.mono st.imm _ _ h3, h4⟩)
 rwa [show ({ w with heap := w.heap.setIfInBounds b (.map ents clk) } : World) = w from by rw [set_same h2]] at st
theorem lockB_lock {h : Nat → Option Ob} {m c : Nat} (hl : lockB h m c = true) : Lock h m c := by
 unfold lockB at hl
 split at hl
 ·rename_i e
  rw [of_decide_eq_true hl] at e
  exact ⟨_, _, _, _, _, e⟩
 ·cases hl
end
end Vm
namespace Vm
open Go
def zeroV : V → Value → Bool
 | .int k n, .int k' n' => decide (k = k') && decide (n = n')
 | .bool b, .bool b' => b == b'
 | .str [], .string s => s.size == 0
 | .nilsl, .slice none 0 0 => true
 | .nilp, .pointer none => true
 | .nilfn, .nilFunc => true
 | .nilif, .nilIface => true
 | .nilmap, .map none => true
 | _, _ => false
def zeroL : List V → List Value → Bool
 | [], [] => true
 | v :: l, c :: cs => zeroV v c && zeroL l cs
 | _, _ => false
def aggTK : TK → Bool
 | .struct | .array => true
 | _ => false
def tkOk (P : Program) (t : TypeId) (ti : TI) : Bool := match ti.tk, P.underlying t with
 | .int k, some (.int k') => decide (k = k')
 | .bool, some .bool => true
 | .str, some .string => true
 | .struct, some (.struct fs) => ti.offs == fs.toList.map (·.offset) && ti.fts == fs.toList.map (·.type) && fs.toList.all (fun f => (P.info? f.type).isSome)
 | .array, some (.array n e) => decide (e = ti.elem) && (match P.info? e with
   | some i => decide (ti.size = n * i.size) && decide (0 < i.size)
   | none => false)
 | .slice, some (.slice e) => decide (e = ti.elem)
 | .map, some (.map _ e) => decide (e = ti.elem)
 | .ptr, some (.pointer _) => true
 | .func, some (.func _ _ _) => true
 | .iface, some (.interface _) => true
 | _, _ => false
def tyOk (P : Program) (t : TypeId) (ti : TI) : Bool := (ti.agg == aggTK ti.tk) && decide (ti.zero.length = ti.size) && tkOk P t ti && (match P.info? t with
 | some i => decide (i.size = ti.size) && decide (i.bytes = ti.bytes) && (match i.zero with
   | some (.agg cs) => ti.agg && zeroL ti.zero cs.toList
   | some z => !ti.agg && zeroL ti.zero [z]
   | none => false)
 | none => false)
theorem zeroV_rep {w : World} {A : ASet} {η : Nat → Option Nat} {h : Nat → Option Ob} {v : V} {c : Value} (hz : zeroV v c = true) : V.Rep w A η h v c ∧ v.ids = [] := by
 unfold zeroV at hz
 split at hz <;> first | (cases hz; done) | skip
 case h_3 => rename_i s; cases s with | mk a => simp only [ByteArray.size, beq_iff_eq] at hz; simp only [V.Rep, V.ids, and_true]; rw [Array.eq_empty_of_size_eq_zero hz]
 all_goals simp_all [V.Rep, V.ids]
theorem zeroL_rep {w : World} {A : ASet} {η : Nat → Option Nat} {h : Nat → Option Ob} : {l : List V} → {cs : List Value} → zeroL l cs = true → V.RepL w A η h l cs ∧ V.idsL l = []
 | [], [], _ => ⟨by simp [V.RepL], rfl⟩
 | [], _ :: _, hz => by simp [zeroL] at hz
 | _ :: _, [], hz => by simp [zeroL] at hz
 | v :: l, c :: cs, hz => by
   simp only [zeroL, Bool.and_eq_true] at hz
   obtain ⟨h1, h2⟩ := zeroV_rep (w := w) (A := A) (η := η) (h := h) hz.1
   obtain ⟨h3, h4⟩ := zeroL_rep (w := w) (A := A) (η := η) (h := h) hz.2
   exact ⟨by simp only [V.RepL]; exact ⟨c, cs, rfl, h1, h3⟩, by simp [V.idsL, h2, h4]⟩
def EqOk (P : Program) (t : TypeId) (row : Ks) : Prop := (∀ (w : World) (A : ASet) (k k' : row.Ty) (xs ys : Array Value), RowVals w A row k xs.toList → RowVals w A row k' ys.toList → (Op.equal t (.agg xs) (.agg ys)).run P w = .ok (row.beq k k') w) ∧
 P.eqGuardType P.depth t = false
structure KeyOk (P : Program) (kt : TypeId) (kr : Ks) (ka : Bool) : Prop where
 kind : ∃ d, P.underlying kt = some d
 check : ∀ (w : World) (A : ASet) (k : kr.Ty) (v : Value) (e : Bool), RowVal w A ka kr k v → (Instr.checkKey e 10000 kt v).run P w = .ok () w
 eq : ∀ (w : World) (A : ASet) (k k' : kr.Ty) (v v' : Value), RowVal w A ka kr k v → RowVal w A ka kr k' v' → (Op.equal kt v v').run P w = .ok (kr.beq k k') w
 now : ∀ (w : World) (A : ASet) (d : TypeDesc) (k k' : kr.Ty) (v v' : Value), P.underlying kt = some d → RowVal w A ka kr k v → RowVal w A ka kr k' v' → Instr.sameNow d v v' = none ∨ Instr.sameNow d v v' = some (kr.beq k k')
 bits : ∀ (w : World) (A : ASet) (k k' : kr.Ty) (v v' : Value), RowVal w A ka kr k v → RowVal w A ka kr k' v' → kr.beq k k' = true → Instr.sameBits 10000 v' v = true
structure EnvOk (P : Program) (E : Env) : Prop where
 ty : ∀ t ti, E.τ t = some ti → tyOk P t ti = true
 eqs : ∀ t ti, E.τ t = some ti → ti.eqs = true → EqOk P t ti.row
 key : ∀ t ti kt et, E.τ t = some ti → ti.tk = .map → P.underlying t = some (.map kt et) → KeyOk P kt ti.key ti.ka
section types
variable {P : Program} {E : Env} (henv : EnvOk P E) {t : TypeId} {ti : TI} (ht : E.τ t = some ti)
include henv ht
theorem EnvOk.info : ∃ i, P.info? t = some i ∧ i.size = ti.size ∧ i.bytes = ti.bytes := by
 have := henv.ty t ti ht
 unfold tyOk at this
 simp only [Bool.and_eq_true] at this
 obtain ⟨_, h⟩ := this
 split at h
 ·rename_i i hi
  simp only [Bool.and_eq_true, decide_eq_true_eq] at h
  exact ⟨i, hi, h.1.1, h.1.2⟩
 ·cases h
theorem EnvOk.agg : ti.agg = aggTK ti.tk := by
 have := henv.ty t ti ht
 unfold tyOk at this
 simp only [Bool.and_eq_true, beq_iff_eq] at this
 exact this.1.1.1
theorem EnvOk.zlen : ti.zero.length = ti.size := by
 have := henv.ty t ti ht
 unfold tyOk at this
 simp only [Bool.and_eq_true, decide_eq_true_eq] at this
 exact this.1.1.2
theorem EnvOk.tk : tkOk P t ti = true := by
 have := henv.ty t ti ht
 unfold tyOk at this
 simp only [Bool.and_eq_true] at this
 exact this.1.2
theorem EnvOk.zero : ∃ z, (∀ w, (zeroValue t).run P w = .ok z w) ∧ (if ti.agg then ∃ cs, z = .agg cs ∧ zeroL ti.zero cs.toList = true else (∀ cs, z ≠ .agg cs) ∧ zeroL ti.zero [z] = true) := by
 have := henv.ty t ti ht
 unfold tyOk at this
 simp only [Bool.and_eq_true] at this
 obtain ⟨_, h⟩ := this
 split at h
 ·rename_i i hi
  simp only [Bool.and_eq_true] at h
  obtain ⟨_, h⟩ := h
  have run : ∀ z, i.zero = some z → ∀ w, (zeroValue t).run P w = .ok z w := fun z hz w => by
   simp [zeroValue, typeInfo, hi, hz]
  split at h
  ·rename_i cs hz
   simp only [Bool.and_eq_true] at h
   exact ⟨.agg cs, run _ hz, by rw [if_pos h.1]; exact ⟨cs, rfl, h.2⟩⟩
  ·rename_i z hn hz
   simp only [Bool.and_eq_true, Bool.not_eq_true'] at h
   refine ⟨z, run _ hz, ?_⟩
   rw [if_neg (by simp [h.1])]
   exact ⟨fun cs e => hn cs e, h.2⟩
  ·cases h
 ·cases h
theorem EnvOk.run_size (w : World) : (Go.sizeOf t).run P w = .ok ti.size w := by
 obtain ⟨i, hi, hs, _⟩ := henv.info ht
 simp [Go.sizeOf, typeInfo, hi, hs]
theorem EnvOk.run_isAgg (w : World) : (isAgg t).run P w = .ok ti.agg w := by
 have h := henv.tk ht
 rw [henv.agg ht]
 unfold tkOk at h
 split at h <;> first | (cases h; done) | skip
 all_goals (rename_i h1 h2; simp only [isAgg, Sem.run_bind, run_underlying h2, Result.andThen_ok, h1, aggTK]; rfl)
end types
structure SOk (gl : Gl) (w : World) (A : ASet) (η : Nat → Option Nat) (fr : Nat → Option V) (h : Nat → Option Ob) (tm : Array Value) : Prop where
 heap : HeapOk gl w A η h
 fr : ∀ t v, fr t = some v → (∃ c, tm[t]? = some c ∧ V.Rep w A η h v c) ∧ ∀ i ∈ v.ids, h i ≠ none
theorem constV_rep {w : World} {A : ASet} {η : Nat → Option Nat} {h : Nat → Option Ob} {c : Value} {v : V} (hc : constV c = some v) : V.Rep w A η h v c ∧ v.ids = [] := by
 unfold constV at hc
 split at hc <;> first | (cases hc; done) | skip
 all_goals (cases hc; simp [V.Rep, V.ids])
section ops
variable {P : Program} {E : Env} {gl : Gl} {m : Nat} {w : World} {A : ASet} {η : Nat → Option Nat} {fr : Nat → Option V} {h : Nat → Option Ob} {a : Act}
theorem ev_rep (hgl : E.gl = gl) (hs : SOk gl w A η fr h a.tmps) {x : Operand} {v : V} (hv : ev E fr x = some v) : V.Rep w A η h v (a.eval x) ∧ ∀ i ∈ v.ids, h i ≠ none := by
 cases x with
 | tmp t =>
   obtain ⟨⟨c, hc, hr⟩, hd⟩ := hs.fr t v hv
   refine ⟨?_, hd⟩
   simp only [Act.eval, Array.getD_eq_getD_getElem?, hc, Option.getD_some]
   exact hr
 | const c =>
   obtain ⟨h1, h2⟩ := constV_rep (w := w) (A := A) (η := η) (h := h) hv
   exact ⟨h1, by simp [h2]⟩
 | global g =>
   simp only [ev] at hv
   split at hv
   ·rename_i r xs hg
    cases hv
    rw [hgl] at hg
    obtain ⟨h1, h2⟩ := hs.heap.glob.1 g r xs hg
    refine ⟨?_, by simp [V.ids]⟩
    simp only [V.Rep, Act.eval]
    exact ⟨g, 0, h1, rfl, fun i x hx => by simpa using h2 i x hx⟩
   ·cases hv
 | func f =>
   simp only [ev, Option.some.injEq] at hv
   subst hv
   refine ⟨?_, by simp [V.ids, V.idsL]⟩
   simp only [V.Rep, Act.eval]
   exact ⟨#[], #[], rfl, by simp [V.RepL], by simp [V.RepL]⟩
theorem evs_rep (hgl : E.gl = gl) (hs : SOk gl w A η fr h a.tmps) : {l : List Operand} → {vs : List V} → evs E fr l = some vs → V.RepL w A η h vs (l.map a.eval) ∧ ∀ i ∈ V.idsL vs, h i ≠ none
 | [], vs, hv => by simp only [evs, Option.some.injEq] at hv; subst hv; exact ⟨by simp [V.RepL], by simp [V.idsL]⟩
 | x :: l, vs, hv => by
   simp only [evs] at hv
   split at hv
   ·rename_i v vs' h1 h2
    cases hv
    obtain ⟨h3, h4⟩ := ev_rep hgl hs h1
    obtain ⟨h5, h6⟩ := evs_rep hgl hs h2
    refine ⟨by simp only [List.map_cons, V.RepL]; exact ⟨_, _, rfl, h3, h5⟩, fun i hi => ?_⟩
    simp only [V.idsL, List.mem_append] at hi
    exact hi.elim (h4 i) (h6 i)
   ·cases hv
def ups (up : List (Nat × Ob)) (h : Nat → Option Ob) : Nat → Option Ob := fun i => match look up i with
 | some o => some o
 | none => h i
theorem ups_nil (h : Nat → Option Ob) : ups [] h = h := rfl
theorem ups_cons (i : Nat) (o : Ob) (up : List (Nat × Ob)) (h : Nat → Option Ob) : ups ((i, o) :: up) h = ovr (ups up h) i o := by
 funext j
 unfold ups ovr
 simp only [look]
 by_cases hij : i = j
 ·rw [if_pos hij, if_pos hij]
 ·rw [if_neg hij, if_neg hij]
theorem look_append {α : Type} (a b : List (Nat × α)) (j : Nat) : look (a ++ b) j = match look a j with
 | some o => some o
 | none => look b j := by
 induction a with
 | nil => rfl
 | cons x a ih =>
   obtain ⟨i, o⟩ := x
   simp only [List.cons_append, look]
   by_cases hij : i = j
   ·rw [if_pos hij, if_pos hij]
   ·rw [if_neg hij, if_neg hij, ih]
theorem ups_look (up hp : List (Nat × Ob)) : ups up (look hp) = look (up ++ hp) := by
 funext j; rw [look_append]; unfold ups; cases look up j <;> rfl
def Yields (P : Program) (gl : Gl) (m : Nat) (w : World) (A : ASet) (η : Nat → Option Nat) (h : Nat → Option Ob) (a : Act) (o : Oper) (v : V) (up : List (Nat × Ob)) : Prop :=
 ∃ n c w' A' η', (execOp a.eval o).run P w = .ok n w' ∧ (n = .value c ∨ (n = .skip ∧ c = Go.undef)) ∧ HStep gl m w A η h w' A' η' (ups up h) ∧
   V.Rep w' A' η' (ups up h) v c ∧ ∀ i ∈ v.ids, ups up h i ≠ none
theorem Yields.pure (hs : SOk gl w A η fr h a.tmps) {o : Oper} {v : V} {c : Value} (hr : (execOp a.eval o).run P w = .ok (.value c) w) (hv : V.Rep w A η h v c) (hd : ∀ i ∈ v.ids, h i ≠ none) :
  Yields P gl m w A η h a o v [] :=
 ⟨_, c, w, A, η, hr, .inl rfl, .refl hs.heap, hv, hd⟩
variable {R : Type} {kk : Kk R} {r : R}
theorem move_yields (hgl : E.gl = gl) (hs : SOk gl w A η fr h a.tmps) {o : Oper} {x : Operand} (ho : o.op = .move x ∨ o.op = .assign x) (hv : effMove E fr kk x = some r) :
  ∃ v up, (∀ (S : Type) (kk : Kk S), effMove E fr kk x = kk v up) ∧ Yields P gl m w A η h a o v up := by
 unfold effMove at hv
 split at hv
 ·rename_i v hx
  obtain ⟨h1, h2⟩ := ev_rep hgl hs hx
  refine ⟨v, [], fun S kk => by simp only [effMove, hx], .pure hs (c := a.eval x) ?_ h1 h2⟩
  rcases ho with e | e <;> simp [execOp, e]
 ·cases hv
end ops
end Vm
namespace Vm
open Go
section ops
variable {P : Program} {E : Env} {gl : Gl} {m : Nat} {w : World} {A : ASet} {η : Nat → Option Nat} {fr : Nat → Option V} {h : Nat → Option Ob} {a : Act}
variable {R : Type} {kk : Kk R} {r : R}
abbrev Goal (P : Program) (gl : Gl) (m : Nat) (w : World) (A : ASet) (η : Nat → Option Nat) (h : Nat → Option Ob) (a : Act) (o : Oper) (eff : (S : Type) → Kk S → Option S) : Prop :=
 ∃ v up, (∀ (S : Type) (kk : Kk S), eff S kk = kk v up) ∧ Yields P gl m w A η h a o v up
theorem pick_yields (hgl : E.gl = gl) (hs : SOk gl w A η fr h a.tmps) {o : Oper} {c x y : Operand} (ho : o.op = .pick c x y) (hv : effPick E fr kk c x y = some r) :
  Goal P gl m w A η h a o fun S kk => effPick E fr kk c x y := by
 unfold effPick at hv
 split at hv
 ·rename_i t hc
  have hb : a.eval c = .bool t := by have := (ev_rep hgl hs hc).1; simpa only [V.Rep] using this
  cases t
  ·unfold effMove at hv
   simp only [cond_false] at hv
   split at hv
   ·rename_i v hx
    obtain ⟨h1, h2⟩ := ev_rep hgl hs hx
    exact ⟨v, [], fun S kk => by simp only [effPick, hc, cond_false, effMove, hx], .pure hs (c := a.eval y) (by simp [execOp, ho, hb, asBool]) h1 h2⟩
   ·cases hv
  ·unfold effMove at hv
   simp only [cond_true] at hv
   split at hv
   ·rename_i v hx
    obtain ⟨h1, h2⟩ := ev_rep hgl hs hx
    exact ⟨v, [], fun S kk => by simp only [effPick, hc, cond_true, effMove, hx], .pure hs (c := a.eval x) (by simp [execOp, ho, hb, asBool]) h1 h2⟩
   ·cases hv
 ·cases hv
theorem nil_yields (hgl : E.gl = gl) (hs : SOk gl w A η fr h a.tmps) {o : Oper} {x : Operand} (ho : o.op = .nilCheck x) (hv : effNil E fr kk x = some r) :
  Goal P gl m w A η h a o fun S kk => effNil E fr kk x := by
 unfold effNil at hv
 split at hv
 ·rename_i v hx
  obtain ⟨h1, h2⟩ := ev_rep hgl hs hx
  have key : ∀ c, a.eval x = c → (∀ S (kk : Kk S), effNil E fr kk x = kk v []) → (execOp a.eval o).run P w = .ok (.value c) w → Goal P gl m w A η h a o fun S kk => effNil E fr kk x := fun c hc hk hr =>
   ⟨v, [], hk, .pure hs hr (hc ▸ h1) h2⟩
  split at hv
  ·have := h1; simp only [V.Rep] at this; obtain ⟨b, _, e⟩ := this
   exact key _ e (fun S kk => by simp only [effNil, hx]) (by simp [execOp, ho, e])
  ·have := h1; simp only [V.Rep] at this; obtain ⟨b, p, _, e, _⟩ := this
   exact key _ e (fun S kk => by simp only [effNil, hx]) (by simp [execOp, ho, e])
  ·have := h1; simp only [V.Rep] at this; obtain ⟨b, p, _, e, _⟩ := this
   exact key _ e (fun S kk => by simp only [effNil, hx]) (by simp [execOp, ho, e])
  ·have := h1; simp only [V.Rep] at this; obtain ⟨p, q, e, _⟩ := this
   exact key _ e (fun S kk => by simp only [effNil, hx]) (by simp [execOp, ho, e])
  ·cases hv
 ·cases hv
theorem un_yields (hgl : E.gl = gl) (hs : SOk gl w A η fr h a.tmps) {o : Oper} {op : UnOp} {t : TypeId} {x : Operand} (ho : o.op = .unOp op t x) (hv : effUn E fr kk op x = some r) :
  Goal P gl m w A η h a o fun S kk => effUn E fr kk op x := by
 unfold effUn at hv
 split at hv
 ·rename_i b hx
  obtain ⟨h1, _⟩ := ev_rep hgl hs hx
  simp only [V.Rep] at h1
  exact ⟨.bool !b, [], fun S kk => by simp only [effUn, hx], .pure hs (c := .bool !b) (by simp [execOp, ho, h1, Op.unary]) (by simp [V.Rep]) (by simp [V.ids])⟩
 ·rename_i k b hx
  obtain ⟨h1, _⟩ := ev_rep hgl hs hx
  simp only [V.Rep] at h1
  exact ⟨.int k (k.wrap (0 - b)), [], fun S kk => by simp only [effUn, hx], .pure hs (c := .int k (k.wrap (0 - b))) (by simp [execOp, ho, h1, Op.unary, Op.intArith]) (by simp [V.Rep]) (by simp [V.ids])⟩
 ·cases hv
theorem tk_int (henv : EnvOk P E) {t : TypeId} {ti : TI} (ht : E.τ t = some ti) {k : IntKind} (hk : ti.tk = .int k) : P.underlying t = some (.int k) := by
 have := henv.tk ht
 unfold tkOk at this
 rw [hk] at this
 split at this <;> first | (cases this; done) | skip
 all_goals simp_all
theorem tk_str (henv : EnvOk P E) {t : TypeId} {ti : TI} (ht : E.τ t = some ti) (hk : ti.tk = .str) : P.underlying t = some .string := by
 have := henv.tk ht
 unfold tkOk at this
 rw [hk] at this
 split at this <;> first | (cases this; done) | skip
 all_goals simp_all
theorem tk_bool (henv : EnvOk P E) {t : TypeId} {ti : TI} (ht : E.τ t = some ti) (hk : ti.tk = .bool) : P.underlying t = some .bool := by
 have := henv.tk ht
 unfold tkOk at this
 rw [hk] at this
 split at this <;> first | (cases this; done) | skip
 all_goals simp_all
theorem tk_slice (henv : EnvOk P E) {t : TypeId} {ti : TI} (ht : E.τ t = some ti) (hk : ti.tk = .slice) : P.underlying t = some (.slice ti.elem) := by
 have := henv.tk ht
 unfold tkOk at this
 rw [hk] at this
 split at this <;> first | (cases this; done) | skip
 all_goals simp_all
theorem tk_array (henv : EnvOk P E) {t : TypeId} {ti : TI} (ht : E.τ t = some ti) (hk : ti.tk = .array) : ∃ n i, P.underlying t = some (.array n ti.elem) ∧ P.info? ti.elem = some i ∧ ti.size = n * i.size ∧ 0 < i.size := by
 have := henv.tk ht
 unfold tkOk at this
 rw [hk] at this
 split at this <;> first | (cases this; done) | skip
 all_goals simp_all
 rename_i n e h1 h2
 obtain ⟨rfl, h3⟩ := this
 split at h3
 ·rename_i i hi
  simp only [Bool.and_eq_true, decide_eq_true_eq] at h3
  exact ⟨i, hi, h3⟩
 ·cases h3
theorem tk_struct (henv : EnvOk P E) {t : TypeId} {ti : TI} (ht : E.τ t = some ti) (hk : ti.tk = .struct) : ∃ fs, P.underlying t = some (.struct fs) ∧ ti.offs = fs.toList.map (·.offset) ∧ ti.fts = fs.toList.map (·.type) := by
 have := henv.tk ht
 unfold tkOk at this
 rw [hk] at this
 split at this <;> first | (cases this; done) | skip
 all_goals simp_all
theorem tk_map (henv : EnvOk P E) {t : TypeId} {ti : TI} (ht : E.τ t = some ti) (hk : ti.tk = .map) : ∃ kt, P.underlying t = some (.map kt ti.elem) := by
 have := henv.tk ht
 unfold tkOk at this
 rw [hk] at this
 split at this <;> first | (cases this; done) | skip
 all_goals simp_all
theorem tk_ptr (henv : EnvOk P E) {t : TypeId} {ti : TI} (ht : E.τ t = some ti) (hk : ti.tk = .ptr) : ∃ e, P.underlying t = some (.pointer e) := by
 have := henv.tk ht
 unfold tkOk at this
 rw [hk] at this
 split at this <;> first | (cases this; done) | skip
 all_goals simp_all
theorem tk_func (henv : EnvOk P E) {t : TypeId} {ti : TI} (ht : E.τ t = some ti) (hk : ti.tk = .func) : ∃ x y z, P.underlying t = some (.func x y z) := by
 have := henv.tk ht
 unfold tkOk at this
 rw [hk] at this
 split at this <;> first | (cases this; done) | skip
 all_goals simp_all
theorem tk_iface (henv : EnvOk P E) {t : TypeId} {ti : TI} (ht : E.τ t = some ti) (hk : ti.tk = .iface) : ∃ x, P.underlying t = some (.interface x) := by
 have := henv.tk ht
 unfold tkOk at this
 rw [hk] at this
 split at this <;> first | (cases this; done) | skip
 all_goals simp_all
theorem tk_not_iface (henv : EnvOk P E) {t : TypeId} {ti : TI} (ht : E.τ t = some ti) (hk : ti.tk ≠ .iface) : ∃ d, P.underlying t = some d ∧ ∀ x, d ≠ .interface x := by
 have := henv.tk ht
 unfold tkOk at this
 split at this <;> first | (cases this; done) | skip
 all_goals (rename_i h1 h2; first | (exact absurd h1 hk) | exact ⟨_, h2, by simp⟩)
theorem convert_yields (henv : EnvOk P E) (hgl : E.gl = gl) (hs : SOk gl w A η fr h a.tmps) {o : Oper} {s t : TypeId} {x : Operand} (ho : o.op = .convert s t x) (hv : effConvert E fr kk s t x = some r) :
  Goal P gl m w A η h a o fun S kk => effConvert E fr kk s t x := by
 unfold effConvert at hv
 split at hv
 ·rename_i si ti k₀ n h1 h2 hx
  split at hv
  ·rename_i k1 k hk1 hk
   have hr := (ev_rep hgl hs hx).1
   simp only [V.Rep] at hr
   refine ⟨.int k (k.wrap n), [], fun S kk => by simp only [effConvert, h1, h2, hx, hk1, hk], .pure hs (c := .int k (k.wrap n)) ?_ (by simp [V.Rep]) (by simp [V.ids])⟩
   simp [execOp, ho, hr, convert, run_underlying (tk_int henv h1 hk1), run_underlying (tk_int henv h2 hk), Conv.intToInt]
  ·cases hv
 ·rename_i si ti s₀ h1 h2 hx
  split at hv
  ·rename_i hk1 hk
   have hr := (ev_rep hgl hs hx).1
   simp only [V.Rep] at hr
   refine ⟨.str s₀, [], fun S kk => by simp only [effConvert, h1, h2, hx, hk1, hk], .pure hs (c := .string ⟨s₀.toArray⟩) ?_ (by simp [V.Rep]) (by simp [V.ids])⟩
   simp [execOp, ho, hr, convert, run_underlying (tk_str henv h1 hk1), run_underlying (tk_str henv h2 hk)]
  ·cases hv
 ·cases hv
theorem func_yields (hgl : E.gl = gl) (hs : SOk gl w A η fr h a.tmps) {o : Oper} {fn : Fn} {x y : Array Operand} (ho : o.op = .makeFunc fn x y) (hv : effFunc E fr kk fn x y = some r) :
  Goal P gl m w A η h a o fun S kk => effFunc E fr kk fn x y := by
 unfold effFunc at hv
 split at hv
 ·rename_i f
  split at hv
  ·rename_i u v h1 h2
   obtain ⟨r1, d1⟩ := evs_rep hgl hs h1
   obtain ⟨r2, d2⟩ := evs_rep hgl hs h2
   refine ⟨.fn f u v, [], fun S kk => by simp only [effFunc, h1, h2], .pure hs (c := .func (.func f) (x.map a.eval) (y.map a.eval)) (by simp [execOp, ho, Instr.makeFunc]) ?_ ?_⟩
   ·simp only [V.Rep]; exact ⟨_, _, rfl, by simpa using r1, by simpa using r2⟩
   ·intro i hi; simp only [V.ids, List.mem_append] at hi; exact hi.elim (d1 i) (d2 i)
  ·cases hv
 ·cases hv
theorem iface_yields (henv : EnvOk P E) (hgl : E.gl = gl) (hs : SOk gl w A η fr h a.tmps) {o : Oper} {t : TypeId} {x : Operand} (ho : o.op = .makeInterface t x) (hv : effIface E fr kk t x = some r) :
  Goal P gl m w A η h a o fun S kk => effIface E fr kk t x := by
 unfold effIface at hv
 split at hv
 ·rename_i ti v h1 hx
  by_cases hk : ti.tk = .iface
  ·rw [hk] at hv; cases hv
  ·obtain ⟨d, hd, hn⟩ := tk_not_iface henv h1 hk
   obtain ⟨r1, d1⟩ := ev_rep hgl hs hx
   refine ⟨.iface t v, [], fun S kk => by simp only [effIface, h1, hx], .pure hs (c := .iface t (a.eval x)) ?_ ?_ (by simpa [V.ids] using d1)⟩
   ·cases d <;> first | exact absurd rfl (hn _) | simp [execOp, ho, Instr.makeInterface, run_underlying hd]
   ·simp only [V.Rep]; exact ⟨_, rfl, r1⟩
 ·cases hv
theorem extract_yields (hgl : E.gl = gl) (hs : SOk gl w A η fr h a.tmps) {o : Oper} {x : Operand} {i : Nat} (ho : o.op = .extract x i) (hv : effExtract E fr kk x i = some r) :
  Goal P gl m w A η h a o fun S kk => effExtract E fr kk x i := by
 unfold effExtract at hv
 split at hv
 ·rename_i l hx
  split at hv
  ·rename_i v hl
   obtain ⟨r1, d1⟩ := ev_rep hgl hs hx
   simp only [V.Rep] at r1
   obtain ⟨cs, hc, hcs⟩ := r1
   obtain ⟨c, h1, h2⟩ := hcs.get hl
   refine ⟨v, [], fun S kk => by simp only [effExtract, hx, hl], .pure hs (c := c) ?_ h2 fun j hj => d1 j ?_⟩
   ·simp only [Array.getElem?_toList] at h1
    simp [execOp, ho, hc, Instr.extract, h1]
   ·simp only [V.ids]
    have mem : ∀ (l : List V) (i : Nat), l[i]? = some v → j ∈ V.idsL l := by
     intro l
     induction l with
     | nil => intro i hi; simp at hi
     | cons u l ih =>
       intro i hi
       simp only [V.idsL, List.mem_append]
       cases i with
       | zero => simp at hi; subst hi; exact .inl hj
       | succ i => exact .inr (ih i (by simpa using hi))
    exact mem l i hl
  ·cases hv
 ·cases hv
end ops
end Vm
namespace Vm
open Go
section ops
variable {P : Program} {E : Env} {gl : Gl} {m : Nat} {w : World} {A : ASet} {η : Nat → Option Nat} {fr : Nat → Option V} {h : Nat → Option Ob} {a : Act}
variable {R : Type} {kk : Kk R} {r : R}
theorem add_plain (b o n : Nat) : (⟨b, o, none⟩ : Addr).add n = ⟨b, o + n, none⟩ := by
 unfold Addr.add
 split
 ·rename_i h; subst h; rfl
 ·rfl
theorem get_map {α β : Type} {f : α → β} {l : List α} {i : Nat} {y : β} (h : (l.map f)[i]? = some y) : ∃ x, l[i]? = some x ∧ f x = y := by
 simpa [Option.map_eq_some_iff] using h
theorem fieldAddr_yields (henv : EnvOk P E) (hgl : E.gl = gl) (hs : SOk gl w A η fr h a.tmps) {o : Oper} {t : TypeId} {x : Operand} {f : Nat} (ho : o.op = .fieldAddr t x f) (hv : effFieldAddr E fr kk t x f = some r) :
  Goal P gl m w A η h a o fun S kk => effFieldAddr E fr kk t x f := by
 unfold effFieldAddr at hv
 split at hv
 ·rename_i ti v h1 hx
  split at hv
  ·rename_i o₁ ft hk h2 h3
   split at hv
   ·rename_i tf h4
    split at hv
    ·rename_i h0
     obtain ⟨fs, hu, ho1, ho2⟩ := tk_struct henv h1 hk
     rw [ho1] at h2; rw [ho2] at h3
     obtain ⟨fd, hf, rfl⟩ := get_map h2
     obtain ⟨fd', hf', rfl⟩ := get_map h3
     rw [hf] at hf'; cases hf'
     have hf2 : fs[f]? = some fd := by simpa using hf
     have run : ∀ b p, a.eval x = .pointer (some ⟨b, p, none⟩) → (execOp a.eval o).run P w = .ok (.value (.pointer (some ⟨b, p + fd.offset, none⟩))) w := fun b p e => by
      have hne : ¬ tf.size = 0 := by omega
      simp [execOp, ho, Instr.fieldAt, run_underlying hu, hf2, e, Instr.sureAddr, fieldPlace, henv.run_size h4, hne, add_plain]
     obtain ⟨r1, d1⟩ := ev_rep hgl hs hx
     split at hv
     ·rename_i i k n off
      simp only [V.Rep] at r1
      obtain ⟨b, hb, e⟩ := r1
      refine ⟨.ref i k n (off + fd.offset), [], fun S kk => by simp only [effFieldAddr, h1, hx, hk, ho1, ho2, List.getElem?_map, hf, Option.map_some, h4, if_pos h0], .pure hs (run _ _ e) ?_ (by simpa [V.ids] using d1)⟩
      simp only [V.Rep]; exact ⟨b, hb, by rw [Nat.add_assoc]⟩
     ·rename_i r₀ y off
      simp only [V.Rep] at r1
      obtain ⟨b, p, hA, e, hrow⟩ := r1
      refine ⟨.rod r₀ y (off + fd.offset), [], fun S kk => by simp only [effFieldAddr, h1, hx, hk, ho1, ho2, List.getElem?_map, hf, Option.map_some, h4, if_pos h0], .pure hs (run _ _ e) ?_ (by simp [V.ids])⟩
      simp only [V.Rep]; exact ⟨b, p, hA, by rw [Nat.add_assoc], hrow⟩
     ·cases hv
    ·cases hv
   ·cases hv
  ·cases hv
 ·cases hv
theorem mk1_rep (henv : EnvOk P E) {t : TypeId} {ti : TI} (ht : E.τ t = some ti) {l : List V} {v : V} (hv : mk1 ti l = some v) {cs : List Value} (hr : V.RepL w A η h l cs) :
  ∃ c, V.Rep w A η h v c ∧ (if ti.agg then c = .agg cs.toArray else cs = [c]) ∧ ∀ i, i ∈ v.ids ↔ i ∈ V.idsL l := by
 unfold mk1 at hv
 split at hv
 ·rename_i ha
  cases hv
  exact ⟨.agg cs.toArray, by simp only [V.Rep]; exact ⟨_, rfl, by simpa using hr⟩, by rw [if_pos ha], fun i => by simp [V.ids]⟩
 ·rename_i ha
  split at hv
  ·rename_i u
   cases hv
   simp only [V.RepL] at hr
   obtain ⟨c, cs', rfl, h1, rfl⟩ := hr
   exact ⟨c, h1, by rw [if_neg ha], fun i => by simp [V.idsL]⟩
  ·cases hv
theorem run_part (henv : EnvOk P E) {t : TypeId} {ti : TI} (ht : E.τ t = some ti) {l : List V} {cs : Array Value} {off : Nat} {v : V} (hl : off + ti.size ≤ l.length) (hr : V.RepL w A η h l cs.toList) (hv : mk1 ti (getAt l off ti.size) = some v) :
  ∃ c, (part t cs off).run P w = .ok c w ∧ V.Rep w A η h v c ∧ ∀ i ∈ v.ids, i ∈ V.idsL l := by
 have hr2 : V.RepL w A η h (getAt l off ti.size) ((cs.toList.drop off).take ti.size) := (hr.drop off).take ti.size
 obtain ⟨c, h1, h2, h3⟩ := mk1_rep henv ht hv hr2
 refine ⟨c, ?_, h1, fun i hi => ?_⟩
 ·simp only [part, Sem.run_bind, henv.run_isAgg ht, Result.andThen_ok]
  split at h2
  ·rename_i ha
   rw [if_pos ha]
   simp only [Sem.run_bind, henv.run_size ht, Result.andThen_ok, Sem.run_pure, h2]
   congr 2
   apply Array.ext'
   simp [List.extract_eq_take_drop, Array.toList_extract]
  ·rename_i ha
   rw [if_neg ha]
   have e : cs[off]? = some c := by
    have : ((cs.toList.drop off).take ti.size)[0]? = some c := by rw [h2]; rfl
    rw [List.getElem?_take] at this
    split at this
    ·simpa using this
    ·cases this
   rw [e]; simp
 ·have : i ∈ V.idsL (getAt l off ti.size) := (h3 i).1 hi
  have sub : ∀ (l : List V) (n : Nat), i ∈ V.idsL (l.take n) → i ∈ V.idsL l := by
   intro l
   induction l with
   | nil => intro n; simp
   | cons u l ih =>
     intro n
     cases n with
     | zero => simp [V.idsL]
     | succ n => simp only [List.take_succ_cons, V.idsL, List.mem_append]; exact fun h => h.imp id (ih n)
  have sub2 : ∀ (l : List V) (n : Nat), i ∈ V.idsL (l.drop n) → i ∈ V.idsL l := by
   intro l
   induction l with
   | nil => intro n; simp
   | cons u l ih =>
     intro n
     cases n with
     | zero => simp
     | succ n => simp only [List.drop_succ_cons, V.idsL, List.mem_append]; exact fun h => .inr (ih n h)
  exact sub2 _ _ (sub _ _ this)
theorem field_yields (henv : EnvOk P E) (hgl : E.gl = gl) (hs : SOk gl w A η fr h a.tmps) {o : Oper} {t : TypeId} {x : Operand} {f : Nat} (ho : o.op = .field t x f) (hv : effField E fr kk t x f = some r) :
  Goal P gl m w A η h a o fun S kk => effField E fr kk t x f := by
 unfold effField at hv
 split at hv
 ·rename_i ti cs h1 hx
  split at hv
  ·rename_i o₁ ft hk h2 h3
   split at hv
   ·rename_i tf h4
    split at hv
    ·rename_i hle
     split at hv
     ·rename_i v hm
      obtain ⟨fs, hu, ho1, ho2⟩ := tk_struct henv h1 hk
      rw [ho1] at h2; rw [ho2] at h3
      obtain ⟨fd, hf, rfl⟩ := get_map h2
      obtain ⟨fd', hf', rfl⟩ := get_map h3
      rw [hf] at hf'; cases hf'
      have hf2 : fs[f]? = some fd := by simpa using hf
      obtain ⟨r1, d1⟩ := ev_rep hgl hs hx
      simp only [V.Rep] at r1
      obtain ⟨ds, e, hr⟩ := r1
      obtain ⟨c, hp, hc, hi⟩ := run_part henv h4 hle hr hm
      refine ⟨v, [], fun S kk => by simp only [effField, h1, hx, hk, ho1, ho2, List.getElem?_map, hf, Option.map_some, h4, if_pos hle, hm], .pure hs (c := c) ?_ hc fun i hi' => d1 i (by simpa [V.ids] using hi i hi')⟩
      simp [execOp, ho, Instr.field, run_underlying hu, hf2, e, asAgg, hp]
     ·cases hv
    ·cases hv
   ·cases hv
  ·cases hv
 ·cases hv
theorem run_loadVar (henv : EnvOk P E) {t : TypeId} {ti : TI} (ht : E.τ t = some ti) {b o : Nat} {l : List V} {v : V} (hlen : l.length = ti.size) (hm : mk1 ti l = some v)
  (hg : ∀ (j : Nat) u, l[j]? = some u → ∃ c, CellAt w b (o + j) c ∧ V.Rep w A η h u c) : ∃ c, (loadVar t ⟨b, o, none⟩).run P w = .ok c w ∧ V.Rep w A η h v c ∧ ∀ i, i ∈ v.ids ↔ i ∈ V.idsL l := by
 have ex : ∃ cs : List Value, cs.length = l.length ∧ (∀ (j : Nat) c, cs[j]? = some c → CellAt w b (o + j) c) ∧ V.RepL w A η h l cs := by
  clear hlen hm
  induction l generalizing o with
  | nil => exact ⟨[], rfl, by simp, by simp [V.RepL]⟩
  | cons u l ih =>
    obtain ⟨c, h1, h2⟩ := hg 0 u rfl
    obtain ⟨cs, h3, h4, h5⟩ := ih (o := o + 1) (fun j u hu => by have := hg (j + 1) u (by simpa using hu); rwa [show o + (j + 1) = o + 1 + j from by omega] at this)
    refine ⟨c :: cs, by simp [h3], fun j d hd => ?_, by simp only [V.RepL]; exact ⟨c, cs, rfl, h2, h5⟩⟩
    cases j with
    | zero => simp at hd; subst hd; exact h1
    | succ j => have := h4 j d (by simpa using hd); rwa [show o + (j + 1) = o + 1 + j from by omega]
 obtain ⟨cs, h1, h2, h3⟩ := ex
 obtain ⟨c, h4, h5, h6⟩ := mk1_rep henv ht hm h3
 refine ⟨c, ?_, h4, h6⟩
 simp only [loadVar, Sem.run_bind, henv.run_isAgg ht, Result.andThen_ok]
 split at h5
 ·rename_i ha
  rw [if_pos ha]
  have hl := run_loadCells_list (P := P) w ⟨b, o, none⟩ cs (fun j v hj => by rw [add_plain]; exact (h2 j v hj).cell?)
  rw [h1, hlen] at hl
  simp only [Sem.run_bind, henv.run_size ht, Result.andThen_ok, hl, Sem.run_pure, h5]
 ·rename_i ha
  rw [if_neg ha]
  have hc : CellAt w b o c := by have := h2 0 c (by rw [h5]; rfl); simpa using this
  simp [hc.cell?]
theorem loadAt_cells {S : Type} (hok : HeapOk gl w A η h) {n : Nat} {p : V} {c : Value} (hp : V.Rep w A η h p c) {k : List V → Option S} {s : S} (hl : loadAt h n p k = some s) :
  ∃ l b o, (∀ (S : Type) (k : List V → Option S), loadAt h n p k = k l) ∧ l.length = n ∧ c = .pointer (some ⟨b, o, none⟩) ∧ (∀ (j : Nat) u, l[j]? = some u → ∃ c, CellAt w b (o + j) c ∧ V.Rep w A η h u c) ∧
    ∀ i ∈ V.idsL l, h i ≠ none := by
 have leaf : ∀ (r : Ks) (x : r.Ty), V.idsL (r.cells x) = [] := by
  intro r
  have : ∀ (k : K) (x : k.Ty), (k.leaf x).ids = [] := fun k x => by cases k <;> simp [K.leaf, V.ids]
  exact Ks.rec (motive_1 := fun _ => True) (motive_2 := fun r => ∀ x : r.Ty, V.idsL (r.cells x) = []) (fun _ => trivial) trivial trivial (fun _ _ => trivial)
   (fun _ => rfl) (fun k r _ ih x => by
     cases r with
     | nil => show (k.leaf x).ids ++ [] = []; rw [List.append_nil]; exact this k x
     | cons k' r => show (k.leaf x.1).ids ++ V.idsL (Ks.cells (.cons k' r) x.2) = []; rw [this k x.1, ih x.2]; rfl) r
 have sub : ∀ (l : List V) (n : Nat) (i : Nat), i ∈ V.idsL (l.take n) → i ∈ V.idsL l := by
  intro l
  induction l with
  | nil => intro n; simp
  | cons u l ih =>
    intro n i
    cases n with
    | zero => simp [V.idsL]
    | succ n => simp only [List.take_succ_cons, V.idsL, List.mem_append]; exact fun h => h.imp id (ih n i)
 have sub2 : ∀ (l : List V) (n : Nat) (i : Nat), i ∈ V.idsL (l.drop n) → i ∈ V.idsL l := by
  intro l
  induction l with
  | nil => intro n; simp
  | cons u l ih =>
    intro n i
    cases n with
    | zero => simp
    | succ n => simp only [List.drop_succ_cons, V.idsL, List.mem_append]; exact fun h => .inr (ih n i h)
 have row : ∀ (r : Ks) (x : r.Ty) (b o off : Nat), Ks.Rep w A r x b o → ∀ (j : Nat) u, (getAt (r.cells x) off n)[j]? = some u → ∃ c, CellAt w b (o + off + j) c ∧ V.Rep w A η h u c := by
  intro r x b o off hr j u hu
  unfold getAt at hu
  rw [List.getElem?_take] at hu
  split at hu
  ·rw [List.getElem?_drop] at hu
   have := Ks.Rep.get (η := η) (h := h) r x b o hr _ u hu
   rwa [← Nat.add_assoc] at this
  ·cases hu
 unfold loadAt at hl
 split at hl
 ·rename_i r x off
  simp only [V.Rep] at hp
  obtain ⟨b, o, hA, rfl, hr⟩ := hp
  by_cases hle : off + n ≤ r.len
  ·refine ⟨getAt (r.cells x) off n, b, o + off, fun S k => by simp only [loadAt, hle, decide_true, cond_true], ?_, rfl, row r x b o off hr, fun i hi => ?_⟩
   ·have := Ks.cells_length r x; simp [getAt]; omega
   ·have := sub2 _ _ _ (sub _ _ _ hi); rw [leaf] at this; cases this
  ·simp [hle] at hl
 ·rename_i i k wd off
  simp only [V.Rep] at hp
  obtain ⟨b, hb, rfl⟩ := hp
  split at hl
  ·rename_i cs hi
   obtain ⟨b', c, T, h1, h2, h3⟩ := hok.ob i _ hi
   rw [hb] at h1; cases h1
   by_cases hle : k = 0 ∧ off + n ≤ cs.length
   ·refine ⟨getAt cs off n, b, off, fun S k => by simp [loadAt, hi, hle], by simp [getAt]; omega, by simp [hle.1], fun j u hu => ?_, fun j hj => ?_⟩
    ·unfold getAt at hu
     rw [List.getElem?_take] at hu
     split at hu
     ·rw [List.getElem?_drop] at hu
      obtain ⟨d, hd, hr⟩ := h3.get hu
      exact ⟨d, ⟨c, T, (0, 0), h2, by simpa using hd⟩, hr⟩
     ·cases hu
    ·exact hok.dom i _ hi j (by simp only [Ob.ids]; exact sub2 _ _ _ (sub _ _ _ hj))
   ·simp [hle] at hl
  ·rename_i r xs fz hi
   by_cases hle : wd = r.len ∧ off + n ≤ r.len
   ·simp only [hle, and_self, decide_true, cond_true] at hl
    split at hl
    ·rename_i x hx
     rcases hok.ob i _ hi with ⟨h1, h2⟩ | ⟨b', c, T, h1, h2, h3, h4, h5⟩
     ·rw [hb] at h1; cases h1
     ·rw [hb] at h1; cases h1
      refine ⟨getAt (r.cells x) off n, b, k * wd + off, fun S k => by simp [loadAt, hi, hle, hx], ?_, rfl, ?_, fun j hj => ?_⟩
      ·have := Ks.cells_length r x; simp [getAt]; omega
      ·rw [hle.1]; exact row r x b _ off (h5 k x hx)
      ·have := sub2 _ _ _ (sub _ _ _ hj); rw [leaf] at this; cases this
    ·cases hl
   ·simp [hle] at hl
  ·cases hl
 ·rename_i r xs
  simp only [V.Rep] at hp
  obtain ⟨b, o, hA, rfl, hr⟩ := hp
  by_cases hle : n = xs.length * r.len
  ·refine ⟨xs.flatMap r.cells, b, o, fun S k => by simp [loadAt, hle], ?_, rfl, ?_, fun i hi => ?_⟩
   ·rw [hle]; clear hr hle hl; induction xs with
    | nil => simp
    | cons x xs ih => simp only [List.flatMap_cons, List.length_append, Ks.cells_length, ih, List.length_cons]; rw [Nat.succ_mul]; omega
   ·clear hle hl
    induction xs generalizing o with
    | nil => intro j u hu; simp at hu
    | cons x xs ih =>
      intro j u hu
      simp only [List.flatMap_cons] at hu
      rw [List.getElem?_append] at hu
      split at hu
      ·have := Ks.Rep.get (η := η) (h := h) r x b o (by have := hr 0 x rfl; simpa using this) j u hu
       exact this
      ·rename_i hj
       rw [Ks.cells_length] at hu hj
       have := ih (o := o + r.len) (fun i y hy => by have := hr (i + 1) y (by simpa using hy); rwa [show o + (i + 1) * r.len = o + r.len + i * r.len from by rw [Nat.succ_mul]; omega] at this) (j - r.len) u hu
       rwa [show o + r.len + (j - r.len) = o + j from by omega] at this
   ·clear hle hl hr
    induction xs with
    | nil => simp [V.idsL] at hi
    | cons x xs ih =>
      have app : ∀ (a b : List V), V.idsL (a ++ b) = V.idsL a ++ V.idsL b := by
       intro a b; induction a with
       | nil => rfl
       | cons u a ih => simp [V.idsL, ih]
      simp only [List.flatMap_cons, app, leaf, List.nil_append] at hi
      exact ih hi
  ·simp [hle] at hl
 ·cases hl
theorem load_yields (henv : EnvOk P E) (hgl : E.gl = gl) (hs : SOk gl w A η fr h a.tmps) {o : Oper} {t : TypeId} {x : Operand} (ho : o.op = .load t x) (hv : effLoad E fr h kk t x = some r) :
  Goal P gl m w A η h a o fun S kk => effLoad E fr h kk t x := by
 unfold effLoad at hv
 split at hv
 ·rename_i ti p h1 hx
  obtain ⟨r1, _⟩ := ev_rep hgl hs hx
  obtain ⟨l, b, q, hk, hlen, hp, hg, hd⟩ := loadAt_cells hs.heap r1 hv
  rw [hk] at hv
  split at hv
  ·rename_i v hm
   obtain ⟨c, hc, hr, hi⟩ := run_loadVar henv h1 hlen hm hg
   refine ⟨v, [], fun S kk => by simp only [effLoad, h1, hx, hk, hm], .pure hs (c := c) ?_ hr fun i hi' => hd i ((hi i).1 hi')⟩
   simp [execOp, ho, Instr.loadAt, hp, Instr.sureAddr, hc]
  ·cases hv
 ·cases hv
end ops
end Vm
namespace Vm
open Go
section ops
variable {P : Program} {E : Env} {gl : Gl} {m : Nat} {w : World} {A : ASet} {η : Nat → Option Nat} {fr : Nat → Option V} {h : Nat → Option Ob} {a : Act}
variable {R : Type} {kk : Kk R} {r : R}
theorem idx_some {α : Type} {xs : List α} {n : Int} {y : α} (hi : idx xs n = some y) : 0 ≤ n ∧ xs[n.toNat]? = some y ∧ n < xs.length := by
 unfold idx at hi
 split at hi
 ·rename_i h0
  refine ⟨h0, hi, ?_⟩
  have := (List.getElem?_eq_some_iff.1 hi).1
  omega
 ·cases hi
theorem indexAddr_yields (henv : EnvOk P E) (hgl : E.gl = gl) (hs : SOk gl w A η fr h a.tmps) {o : Oper} {t : TypeId} {x i : Operand} (ho : o.op = .indexAddr t x i) (hv : effIndexAddr E fr h kk t x i = some r) :
  Goal P gl m w A η h a o fun S kk => effIndexAddr E fr h kk t x i := by
 unfold effIndexAddr at hv
 split at hv
 ·rename_i ti v k n h1 hx hi
  have ri := (ev_rep hgl hs hi).1
  simp only [V.Rep] at ri
  obtain ⟨r1, d1⟩ := ev_rep hgl hs hx
  split at hv
  ·rename_i te h2
   split at hv
   ·
    rename_i r₀ xs hk
    split at hv
    ·rename_i hsz
     split at hv
     ·rename_i y hy
      obtain ⟨h0, hget, hlt⟩ := idx_some hy
      simp only [V.Rep, K.Rep] at r1
      obtain ⟨ad, cap, e, hc, hz, hr⟩ := r1
      have hne : ad ≠ none := by
       rintro rfl
       have := hz rfl
       omega
      obtain ⟨ad, rfl⟩ := Option.ne_none_iff_exists'.1 hne
      obtain ⟨h3, h4, h5⟩ := hr ad rfl (by omega)
      obtain ⟨b, p, sp⟩ := ad
      simp only at h3; subst h3
      refine ⟨.rod r₀ y 0, [], fun S kk => by simp only [effIndexAddr, h1, hx, hi, h2, hk, if_pos hsz, hy], .pure hs (c := .pointer (some ⟨b, p + n.toNat * te.size, none⟩)) ?_ ?_ (by simp [V.ids])⟩
      ·simp [execOp, ho, Instr.indexAt, ri, asIntOf, run_underlying (tk_slice henv h1 hk), e, h0, hlt, henv.run_size h2, add_plain]
      ·simp only [V.Rep]
       exact ⟨b, p + n.toNat * te.size, h4, rfl, by rw [hsz]; exact h5 _ _ hget⟩
     ·cases hv
    ·cases hv
   ·
    rename_i r₀ xs hk
    split at hv
    ·rename_i hsz
     split at hv
     ·rename_i y hy
      obtain ⟨h0, hget, hlt⟩ := idx_some hy
      obtain ⟨N, inf, hu, hinf, hsize, hpos⟩ := tk_array henv h1 hk
      obtain ⟨inf', hinf', hs', _⟩ := henv.info h2
      rw [hinf] at hinf'; cases hinf'
      have hN : N = xs.length := by
       have : N * inf.size = xs.length * inf.size := by rw [← hsize, hsz.2, hs']
       exact Nat.eq_of_mul_eq_mul_right hpos this
      simp only [V.Rep] at r1
      obtain ⟨b, p, hA, e, hr⟩ := r1
      refine ⟨.rod r₀ y 0, [], fun S kk => by simp only [effIndexAddr, h1, hx, hi, h2, hk, if_pos hsz, hy], .pure hs (c := .pointer (some ⟨b, p + n.toNat * te.size, none⟩)) ?_ ?_ (by simp [V.ids])⟩
      ·simp [execOp, ho, Instr.indexAt, ri, asIntOf, run_underlying hu, e, h0, hN, hlt, henv.run_size h2, add_plain, Instr.sureAddr]
      ·simp only [V.Rep]
       exact ⟨b, p + n.toNat * te.size, hA, rfl, by rw [hsz.1]; exact hr _ _ hget⟩
     ·cases hv
    ·cases hv
   ·
    rename_i j hk
    split at hv
    ·rename_i r₀ xs fz hj
     split at hv
     ·rename_i hsz
      split at hv
      ·rename_i y hy
       obtain ⟨h0, hget, hlt⟩ := idx_some hy
       simp only [V.Rep, OwnRep, hj] at r1
       rcases r1 with ⟨_, h3, _⟩ | ⟨b, cap, c, T, h3, e, h4, h5, h6⟩
       ·subst h3; simp at hget
       ·refine ⟨.ref j n.toNat r₀.len 0, [], fun S kk => by simp only [effIndexAddr, h1, hx, hi, h2, hk, hj, if_pos hsz, hy], .pure hs (c := .pointer (some ⟨b, 0 + n.toNat * te.size, none⟩)) ?_ ?_ (by simpa [V.ids] using d1)⟩
        ·simp [execOp, ho, Instr.indexAt, ri, asIntOf, run_underlying (tk_slice henv h1 hk), e, h0, hlt, henv.run_size h2, add_plain]
        ·simp only [V.Rep]; exact ⟨b, h3, by rw [hsz]; simp⟩
      ·cases hv
     ·cases hv
    ·cases hv
   ·
    rename_i j wd l m hk
    by_cases hc : te.size = wd ∧ 0 ≤ n ∧ n < (m : Int)
    ·simp only [V.Rep] at r1
     obtain ⟨b, o₁, cap, hb, e, _, ho₁⟩ := r1
     rw [ho₁ (by omega)] at e
     refine ⟨.ref j (l + n.toNat) wd 0, [], fun S kk => by simp [effIndexAddr, h1, hx, hi, h2, hk, hc], .pure hs (c := .pointer (some ⟨b, l * wd + n.toNat * te.size, none⟩)) ?_ ?_ (by simpa [V.ids] using d1)⟩
     ·simp [execOp, ho, Instr.indexAt, ri, asIntOf, run_underlying (tk_slice henv h1 hk), e, hc.2.1, hc.2.2, henv.run_size h2, add_plain]
     ·simp only [V.Rep]; exact ⟨b, hb, by rw [hc.1, Nat.add_mul]; rfl⟩
    ·simp [hc] at hv
   ·
    rename_i j k₀ wd off hk
    by_cases hc : 0 ≤ n ∧ (n.toNat + 1) * te.size ≤ ti.size ∧ 0 < te.size
    ·obtain ⟨N, inf, hu, hinf, hsize, hpos⟩ := tk_array henv h1 hk
     obtain ⟨inf', hinf', hs', _⟩ := henv.info h2
     rw [hinf] at hinf'; cases hinf'
     have hlt : n < N := by
      have : (n.toNat + 1) * inf.size ≤ N * inf.size := by rw [← hsize, hs']; exact hc.2.1
      have := Nat.le_of_mul_le_mul_right this hpos
      omega
     simp only [V.Rep] at r1
     obtain ⟨b, hb, e⟩ := r1
     refine ⟨.ref j k₀ wd (off + n.toNat * te.size), [], fun S kk => by simp [effIndexAddr, h1, hx, hi, h2, hk, hc], .pure hs (c := .pointer (some ⟨b, k₀ * wd + off + n.toNat * te.size, none⟩)) ?_ ?_ (by simpa [V.ids] using d1)⟩
     ·simp [execOp, ho, Instr.indexAt, ri, asIntOf, run_underlying hu, e, hc.1, hlt, henv.run_size h2, add_plain, Instr.sureAddr]
     ·simp only [V.Rep]; exact ⟨b, hb, by rw [Nat.add_assoc]⟩
    ·simp [hc] at hv
   ·cases hv
  ·cases hv
 ·cases hv
theorem K.close_leaf_rep {k : K} {v : V} {x : k.Ty} (hc : k.close v = some x) {c : Value} (hr : V.Rep w A η h v c) : V.Rep w A η h (k.leaf x) c :=
 (K.leaf_rep k x c).1 (K.close_rep k v x hc hr)
theorem Ks.close_repL : (r : Ks) → (l : List V) → (x : r.Ty) → Ks.close r l = some x → (cs : List Value) → V.RepL w A η h l cs → V.RepL w A η h (r.cells x) cs
 | .nil, l, x, hc, cs, hr => by
   match l, hc with
   | [], _ => exact hr
 | .cons k .nil, l, x, hc, cs, hr => by
   obtain ⟨v, rfl, hc⟩ := Ks.close_one hc
   simp only [V.RepL] at hr
   obtain ⟨c, cs', rfl, h1, rfl⟩ := hr
   simp only [Ks.cells, V.RepL]
   exact ⟨c, [], rfl, K.close_leaf_rep hc h1, rfl⟩
 | .cons k (.cons k' r), l, x, hc, cs, hr => by
   obtain ⟨v, vs, rfl, h1, h2⟩ := Ks.close_cons hc
   simp only [V.RepL] at hr
   obtain ⟨c, cs', rfl, h3, h4⟩ := hr
   simp only [Ks.cells, V.RepL]
   exact ⟨c, cs', rfl, K.close_leaf_rep h1 h3, Ks.close_repL (.cons k' r) vs x.2 h2 cs' h4⟩
theorem K.leaf_ids (k : K) (x : k.Ty) : (k.leaf x).ids = [] := by cases k <;> simp [K.leaf, V.ids]
theorem Ks.cells_ids : (r : Ks) → (x : r.Ty) → V.idsL (r.cells x) = []
 | .nil, _ => rfl
 | .cons k .nil, x => by show (k.leaf x).ids ++ [] = []; rw [List.append_nil]; exact K.leaf_ids k x
 | .cons k (.cons k' r), x => by show (k.leaf x.1).ids ++ V.idsL (Ks.cells (.cons k' r) x.2) = []; rw [K.leaf_ids, Ks.cells_ids (.cons k' r) x.2]; rfl
theorem rowsFrom_get {r : Ks} {size : Nat} : (n : Nat) → (cs : List V) → (xs : List r.Ty) → rowsFrom r size n cs = some xs → xs.length = n ∧ ∀ (i : Nat) x, xs[i]? = some x → Ks.close r ((cs.drop (i * size)).take size) = some x
 | 0, cs, xs, hx => by
   cases cs with
   | nil => simp [rowsFrom] at hx; subst hx; simp
   | cons c cs => simp [rowsFrom] at hx
 | n + 1, cs, xs, hx => by
   simp only [rowsFrom] at hx
   split at hx
   ·rename_i y ys h1 h2
    cases hx
    obtain ⟨h3, h4⟩ := rowsFrom_get n _ ys h2
    refine ⟨by simp [h3], fun i x hi => ?_⟩
    cases i with
    | zero => simp at hi; subst hi; simpa using h1
    | succ i =>
      have := h4 i x (by simpa using hi)
      rwa [List.drop_drop, show size + i * size = (i + 1) * size from by rw [Nat.succ_mul]; omega] at this
   ·cases hx
theorem run_part' (henv : EnvOk P E) {t : TypeId} {ti : TI} (ht : E.τ t = some ti) {l : List V} {cs : Array Value} {off : Nat} {v : V} (hr2 : V.RepL w A η h l ((cs.toList.drop off).take ti.size)) (hv : mk1 ti l = some v) :
  ∃ c, (part t cs off).run P w = .ok c w ∧ V.Rep w A η h v c := by
 obtain ⟨c, h1, h2, h3⟩ := mk1_rep henv ht hv hr2
 refine ⟨c, ?_, h1⟩
 simp only [part, Sem.run_bind, henv.run_isAgg ht, Result.andThen_ok]
 split at h2
 ·rename_i ha
  rw [if_pos ha]
  simp only [Sem.run_bind, henv.run_size ht, Result.andThen_ok, Sem.run_pure, h2]
  congr 2
  apply Array.ext'
  simp [List.extract_eq_take_drop, Array.toList_extract]
 ·rename_i ha
  rw [if_neg ha]
  have e : cs[off]? = some c := by
   have : ((cs.toList.drop off).take ti.size)[0]? = some c := by rw [h2]; rfl
   rw [List.getElem?_take] at this
   split at this
   ·simpa using this
   ·cases this
  rw [e]; simp
theorem index_yields (henv : EnvOk P E) (hgl : E.gl = gl) (hs : SOk gl w A η fr h a.tmps) {o : Oper} {t : TypeId} {x i : Operand} (ho : o.op = .index t x i) (hv : effIndex E fr kk t x i = some r) :
  Goal P gl m w A η h a o fun S kk => effIndex E fr kk t x i := by
 unfold effIndex at hv
 split at hv
 ·rename_i ti v k n h1 hx hi
  have ri := (ev_rep hgl hs hi).1
  simp only [V.Rep] at ri
  obtain ⟨r1, d1⟩ := ev_rep hgl hs hx
  split at hv
  ·rename_i s hk
   split at hv
   ·rename_i b hb
    obtain ⟨h0, hget, hlt⟩ := idx_some hb
    simp only [V.Rep] at r1
    refine ⟨.int .u8 b.toNat, [], fun S kk => by simp only [effIndex, h1, hx, hi, hk, hb], .pure hs (c := .int .u8 b.toNat) ?_ (by simp [V.Rep]) (by simp [V.ids])⟩
    have e : getElem? (coll := ByteArray) ⟨s.toArray⟩ n.toNat = some b := by
     have hsz : n.toNat < (⟨s.toArray⟩ : ByteArray).size := by simp [ByteArray.size]; have := (List.getElem?_eq_some_iff.1 hget).1; exact this
     rw [getElem?_pos (⟨s.toArray⟩ : ByteArray) n.toNat hsz]
     simp only [ByteArray.getElem_eq_getElem_data, List.getElem_toArray, Option.some.injEq]
     exact (List.getElem?_eq_some_iff.1 hget).2
    simp [execOp, ho, Instr.index, ri, asIntOf, run_underlying (tk_str henv h1 hk), r1, h0, e]
   ·cases hv
  ·rename_i cs hk
   split at hv
   ·rename_i te h2
    split at hv
    ·rename_i xs hxs
     split at hv
     ·rename_i y hy
      split at hv
      ·rename_i v hm
       obtain ⟨h0, hget, hlt⟩ := idx_some hy
       obtain ⟨N, inf, hu, hinf, hsize, hpos⟩ := tk_array henv h1 hk
       obtain ⟨inf', hinf', hs', _⟩ := henv.info h2
       rw [hinf] at hinf'; cases hinf'
       obtain ⟨hlen, hrow⟩ := rowsFrom_get _ _ _ hxs
       have hN : ti.size / te.size = N := by rw [hsize, ← hs']; exact Nat.mul_div_cancel _ hpos
       simp only [V.Rep] at r1
       obtain ⟨ds, e, hr⟩ := r1
       have hc := hrow _ _ hget
       have hr2 := Ks.close_repL _ _ _ hc _ ((hr.drop (n.toNat * te.size)).take te.size)
       obtain ⟨c, hp, hrep⟩ := run_part' henv h2 hr2 hm
       refine ⟨v, [], fun S kk => by simp only [effIndex, h1, hx, hi, hk, h2, hxs, hy, hm], .pure hs (c := c) ?_ hrep fun j hj => ?_⟩
       ·have hlt' : n < N := by omega
        simp [execOp, ho, Instr.index, ri, asIntOf, run_underlying hu, e, h0, hlt', henv.run_size h2, hp]
       ·obtain ⟨_, _, _, hids⟩ := mk1_rep henv h2 hm hr2
        have := (hids j).1 hj; rw [Ks.cells_ids] at this; cases this
      ·cases hv
     ·cases hv
    ·cases hv
   ·cases hv
  ·cases hv
 ·cases hv
theorem evo_rep (hgl : E.gl = gl) (hs : SOk gl w A η fr h a.tmps) {x : Option Operand} {v : Option V} (hv : evo E fr x = some v) :
  (x = none ∧ v = none) ∨ ∃ y u, x = some y ∧ v = some u ∧ V.Rep w A η h u (a.eval y) := by
 cases x with
 | none => simp only [evo, Option.some.injEq] at hv; exact .inl ⟨rfl, hv.symm⟩
 | some y =>
   simp only [evo] at hv
   split at hv
   ·rename_i u hu
    cases hv
    exact .inr ⟨y, u, rfl, rfl, (ev_rep hgl hs hu).1⟩
   ·cases hv
theorem boundI_rep (hgl : E.gl = gl) (hs : SOk gl w A η fr h a.tmps) {x : Option Operand} {v : Option V} (hv : evo E fr x = some v) {d n : Int} (hb : boundI d v = some n) :
  (x = none ∧ v = none ∧ n = d) ∨ ∃ y k, x = some y ∧ v.isSome = true ∧ a.eval y = .int k n := by
 rcases evo_rep hgl hs hv with ⟨rfl, rfl⟩ | ⟨y, u, rfl, rfl, hr⟩
 ·simp only [boundI, Option.some.injEq] at hb; exact .inl ⟨rfl, rfl, hb.symm⟩
 ·simp only [boundI] at hb
  split at hb
  ·cases hb; simp only [V.Rep] at hr; exact .inr ⟨y, _, rfl, rfl, hr⟩
  ·cases hb
theorem bounds_run (P : Program) (hgl : E.gl = gl) (hs : SOk gl w A η fr h a.tmps) {lo hi mx : Option Operand} {l u x : Option V} (h1 : evo E fr lo = some l) (h2 : evo E fr hi = some u) (h3 : evo E fr mx = some x)
  {len cap : Nat} (hc : len ≤ cap) {S : Type} {k : Nat → Nat → Option S} {s : S} (hb : bounds len l u x k = some s) :
  ∃ p q c, (∀ (S : Type) (k : Nat → Nat → Option S), bounds len l u x k = k p q) ∧ p ≤ q ∧ q ≤ len ∧ q ≤ c ∧ c ≤ cap ∧ (∀ k M, x = some (.int k M) → c = M.toNat) ∧ ∀ isS,
    (Instr.sliceBounds isS len cap (lo.map a.eval) (hi.map a.eval) (mx.map a.eval)).run P w = .ok (p, q, c) w := by
 unfold bounds at hb
 split at hb
 ·rename_i L H M b1 b2 b3
  by_cases hq : ((x.isNone || u.isSome) && decide (0 ≤ L ∧ L ≤ H ∧ H ≤ M ∧ M ≤ len)) = true
  ·rw [hq, cond_true] at hb
   have hk : ∀ (S : Type) (k : Nat → Nat → Option S), bounds len l u x k = k L.toNat H.toNat := fun S k => by simp only [bounds, b1, b2, b3, hq, cond_true]
   simp only [Bool.and_eq_true, decide_eq_true_eq] at hq
   obtain ⟨hxu, q1, q2, q3, q4⟩ := hq
   have sb : ∀ (k : IntKind) (n : Int) (y : Nat) (code : BoundsCode), 0 ≤ n → n ≤ y → (Instr.sliceBound (.int k n) y code).run P w = .ok n.toNat w := by
    intro k n y code h0 hy
    simp [Instr.sliceBound, asIntOf, h0, hy]
   rcases boundI_rep hgl hs h3 b3 with ⟨rfl, rfl, rfl⟩ | ⟨y3, k3, rfl, ex3, e3⟩
   ·refine ⟨L.toNat, H.toNat, cap, hk, by omega, by omega, by omega, Nat.le_refl _, fun k M e => (by cases e), fun isS => ?_⟩
    rcases boundI_rep hgl hs h2 b2 with ⟨rfl, rfl, rfl⟩ | ⟨y2, k2, rfl, _, e2⟩ <;> rcases boundI_rep hgl hs h1 b1 with ⟨rfl, rfl, rfl⟩ | ⟨y1, k1, rfl, _, e1⟩
    ·simp [Instr.sliceBounds]
    ·have := sb k1 L len .sliceB q1 q2
     simp [Instr.sliceBounds, e1, this]
    ·have := sb k2 H cap (if isS then .sliceAcap else .sliceAlen) (by omega) (by omega)
     simp [Instr.sliceBounds, e2, this]
    ·have := sb k2 H cap (if isS then .sliceAcap else .sliceAlen) (by omega) (by omega)
     have := sb k1 L H.toNat .sliceB q1 (by omega)
     simp [Instr.sliceBounds, *]
   ·rcases boundI_rep hgl hs h2 b2 with ⟨rfl, rfl, rfl⟩ | ⟨y2, k2, rfl, _, e2⟩
    ·simp at hxu; rcases boundI_rep hgl hs h3 b3 with ⟨h, _⟩ | ⟨_, _, _, h, _⟩
     ·cases h
     ·subst hxu; cases h
    ·refine ⟨L.toNat, H.toNat, M.toNat, hk, by omega, by omega, by omega, by omega, fun k M' e => (by subst e; simp only [boundI, Option.some.injEq] at b3; rw [b3]), fun isS => ?_⟩
     have g1 := sb k3 M cap (if isS then .slice3Acap else .slice3Alen) (by omega) (by omega)
     have g2 := sb k2 H M.toNat .slice3B (by omega) (by omega)
     rcases boundI_rep hgl hs h1 b1 with ⟨rfl, rfl, rfl⟩ | ⟨y1, k1, rfl, _, e1⟩
     ·simp [Instr.sliceBounds, e3, e2, g1, g2]
     ·have g3 := sb k1 L H.toNat .slice3C q1 (by omega)
      simp [Instr.sliceBounds, e3, e2, e1, g1, g2, g3]
  ·rw [Bool.not_eq_true] at hq; rw [hq, cond_false] at hb; cases hb
 ·cases hb
end ops
end Vm
namespace Vm
open Go
section ops
variable {P : Program} {E : Env} {gl : Gl} {m : Nat} {w : World} {A : ASet} {η : Nat → Option Nat} {fr : Nat → Option V} {h : Nat → Option Ob} {a : Act}
variable {R : Type} {kk : Kk R} {r : R}
theorem extract_str (s : List UInt8) (l h : Nat) : (⟨s.toArray⟩ : ByteArray).extract l h = ⟨((s.drop l).take (h - l)).toArray⟩ := by
 apply ByteArray.ext
 rw [ByteArray.data_extract]
 apply Array.ext'
 simp [List.extract_eq_take_drop]
theorem sl_part {r₀ : Ks} {xs : List r₀.Ty} {ad : Option Addr} {cap p q c sz : Nat} (hsz : sz = r₀.len) (hpq : p ≤ q) (hq : q ≤ xs.length) (hqc : q ≤ c) (hcc : c ≤ cap) (hcap : xs.length ≤ cap)
  (hz : ad = none → cap = 0) (hr : ∀ x, ad = some x → 0 < cap → x.spot = none ∧ A x.block ∧ ∀ (i : Nat) (y : r₀.Ty), xs[i]? = some y → Ks.Rep w A r₀ y x.block (x.off + i * r₀.len)) :
  K.Rep w A (.sl r₀) ((xs.drop p).take (q - p)) (.slice (if c = p then ad else ad.map (·.add (p * sz))) (q - p) (c - p)) := by
 simp only [K.Rep]
 have hl : ((xs.drop p).take (q - p)).length = q - p := by simp; omega
 refine ⟨if c = p then ad else ad.map (·.add (p * sz)), c - p, ?_, ?_, ?_, ?_⟩
 ·rw [hl]
 ·rw [hl]; omega
 ·intro hn
  split at hn
  ·omega
  ·have : ad = none := by cases ad with
     | none => rfl
     | some x => cases hn
   have := hz this; omega
 ·intro x hx hc0
  split at hx
  ·rename_i hcp
   omega
  ·cases ad with
   | none => cases hx
   | some x₀ =>
     simp only [Option.map_some, Option.some.injEq] at hx
     obtain ⟨h1, h2, h3⟩ := hr x₀ rfl (by omega)
     obtain ⟨b, o, sp⟩ := x₀
     simp only at h1; subst h1
     rw [add_plain] at hx; subst hx
     refine ⟨rfl, h2, fun i y hy => ?_⟩
     rw [List.getElem?_take] at hy
     split at hy
     ·rw [List.getElem?_drop] at hy
      have := h3 (p + i) y hy
      rw [hsz]
      rwa [show o + p * r₀.len + i * r₀.len = o + (p + i) * r₀.len from by rw [Nat.add_mul]; omega]
     ·cases hy
theorem slice_yields (henv : EnvOk P E) (hgl : E.gl = gl) (hs : SOk gl w A η fr h a.tmps) {o : Oper} {t : TypeId} {x : Operand} {lo hi mx : Option Operand} (ho : o.op = .slice t x lo hi mx)
  (hv : effSlice E fr h kk t x lo hi mx = some r) : Goal P gl m w A η h a o fun S kk => effSlice E fr h kk t x lo hi mx := by
 unfold effSlice at hv
 split at hv
 ·
  rename_i ti s l u x₀ h1 hx e1 e2 e3
  split at hv
  ·rename_i hk
   obtain ⟨p, q, c, hkk, hpq, hq, _, _, _, run⟩ := bounds_run P hgl hs e1 e2 e3 (Nat.le_refl _) hv
   have hmx : mx = none := by
    rcases evo_rep hgl hs e3 with ⟨h, _⟩ | ⟨_, _, _, h, _⟩
    ·exact h
    ·cases h
   subst hmx
   have r1 := (ev_rep hgl hs hx).1
   simp only [V.Rep] at r1
   refine ⟨.str ((s.drop p).take (q - p)), [], fun S kk => by simp only [effSlice, h1, hx, e1, e2, e3, hk]; exact hkk _ _, .pure hs (c := .string ⟨((s.drop p).take (q - p)).toArray⟩) ?_ (by simp [V.Rep]) (by simp [V.ids])⟩
   have run' := run false
   simp only [Option.map_none] at run'
   have hsz : (⟨s.toArray⟩ : ByteArray).size = s.length := by simp [ByteArray.size]
   simp [execOp, ho, Instr.sliceAt, Instr.slice, run_underlying (tk_str henv h1 hk), r1, hsz, run', extract_str]
  ·cases hv
 ·
  rename_i ti r₀ xs l u x₀ h1 hx e1 e2 e3
  split at hv
  ·rename_i te hk h2
   split at hv
   ·rename_i hsz
    have r1 := (ev_rep hgl hs hx).1
    simp only [V.Rep, K.Rep] at r1
    obtain ⟨ad, cap, e, hcap, hz, hr⟩ := r1
    have fin : ∀ (p q c : Nat), p ≤ q → q ≤ xs.length → q ≤ c → c ≤ cap → (∀ isS, (Instr.sliceBounds isS xs.length cap (lo.map a.eval) (hi.map a.eval) (mx.map a.eval)).run P w = .ok (p, q, c) w) →
      (execOp a.eval o).run P w = .ok (.value (.slice (if c = p then ad else ad.map (·.add (p * te.size))) (q - p) (c - p))) w := fun p q c hpq hq hqc hcc run => by
     simp [execOp, ho, Instr.sliceAt, Instr.slice, run_underlying (tk_slice henv h1 hk), e, run true, henv.run_size h2]
    split at hv
    ·rename_i km y ys
     obtain ⟨p, q, c, hkk, hpq, hq, hqc, hcc, hcm, run⟩ := bounds_run P hgl hs e1 e2 e3 hcap hv
     have hc0 : c = 0 := hcm _ _ rfl
     subst hc0
     obtain rfl : q = 0 := by omega
     obtain rfl : p = 0 := by omega
     have hrun := fin 0 0 0 hpq hq hqc hcc run
     simp only [if_true, Nat.sub_self] at hrun
     obtain ⟨ad', rfl⟩ : ∃ ad', ad = some ad' := by
      cases ad with
      | some ad' => exact ⟨ad', rfl⟩
      | none => have := hz rfl; simp at hcap; omega
     obtain ⟨g1, g2, _⟩ := hr ad' rfl (by simp at hcap; omega)
     refine ⟨.emp r₀ true, [], fun S kk => by simp only [effSlice, h1, hx, e1, e2, e3, hk, h2, if_pos hsz]; exact hkk _ _, .pure hs hrun ?_ (by simp [V.ids])⟩
     simp only [V.Rep]
     exact ⟨ad', 0, rfl, fun _ => rfl, fun _ => ⟨g1, g2⟩⟩
    ·rename_i hno
     obtain ⟨p, q, c, hkk, hpq, hq, hqc, hcc, hcm, run⟩ := bounds_run P hgl hs e1 e2 e3 hcap hv
     refine ⟨.sl r₀ ((xs.drop p).take (q - p)), [], fun S kk => ?_,
      .pure hs (c := .slice (if c = p then ad else ad.map (·.add (p * te.size))) (q - p) (c - p)) (fin p q c hpq hq hqc hcc run) ?_ (by simp [V.ids])⟩
     ·simp only [effSlice, h1, hx, e1, e2, e3, hk, h2, if_pos hsz]
      exact hkk _ _
     ·simp only [V.Rep]; exact sl_part hsz hpq hq hqc hcc hcap hz hr
   ·cases hv
  ·cases hv
 ·
  rename_i ti r₀ z l u x₀ h1 hx e1 e2 e3
  split at hv
  ·rename_i te hk h2
   have r1 := (ev_rep hgl hs hx).1
   simp only [V.Rep] at r1
   obtain ⟨ad, cap, e, hz, hsA⟩ := r1
   obtain ⟨p, q, c, hkk, hpq, hq, hqc, hcc, hcm, run⟩ := bounds_run P hgl hs e1 e2 e3 (Nat.zero_le cap) hv
   obtain rfl : q = 0 := by omega
   obtain rfl : p = 0 := by omega
   refine ⟨.emp r₀ (z || x₀.isSome), [], fun S kk => by simp only [effSlice, h1, hx, e1, e2, e3, hk, h2]; exact hkk _ _, .pure hs (c := .slice (if c = 0 then some ad else (some ad).map (·.add (0 * te.size))) (0 - 0) (c - 0)) ?_ ?_ (by simp [V.ids])⟩
   ·simp [execOp, ho, Instr.sliceAt, Instr.slice, run_underlying (tk_slice henv h1 hk), e, run true, henv.run_size h2]
   ·simp only [V.Rep]
    have hz' : (z || x₀.isSome) = true → c = 0 := fun hzz => by
     cases z with
     | true => have := hz rfl; omega
     | false =>
       cases x₀ with
       | none => cases hzz
       | some x₁ =>
         unfold bounds at hv
         have : ∃ k n, x₁ = .int k n := by
          cases x₁ <;> simp [boundI] at hv
          exact ⟨_, _, rfl⟩
         obtain ⟨k, n, rfl⟩ := this
         rw [hcm k n rfl]
         split at hv
         ·rename_i L H M b1 b2 b3
          simp only [boundI, Option.some.injEq] at b3
          subst b3
          cases hq' : ((some (V.int k n)).isNone || u.isSome) && decide (0 ≤ L ∧ L ≤ H ∧ H ≤ n ∧ n ≤ ((0 : Nat) : Int)) with
          | true => simp only [Bool.and_eq_true, decide_eq_true_eq] at hq'; omega
          | false => rw [hq', cond_false] at hv; cases hv
         ·cases hv
    by_cases hc0 : c = 0
    ·subst hc0
     exact ⟨ad, 0, by simp, fun _ => rfl, fun h => (by omega)⟩
    ·obtain ⟨hsp, hA⟩ := hsA (by omega)
     obtain ⟨ab, ao, asp⟩ := ad
     simp only at hsp
     subst hsp
     refine ⟨⟨ab, ao, none⟩, c, by rw [if_neg hc0]; simp [add_plain], hz', fun _ => ⟨rfl, hA⟩⟩
  ·cases hv
 ·
  rename_i ti l u x₀ h1 hx e1 e2 e3
  split at hv
  ·rename_i te hk h2
   have r1 := (ev_rep hgl hs hx).1
   simp only [V.Rep] at r1
   obtain ⟨p, q, c, hkk, hpq, hq, hqc, hcc, hcm, run⟩ := bounds_run P hgl hs e1 e2 e3 (Nat.le_refl 0) hv
   obtain rfl : p = 0 := by omega
   obtain rfl : q = 0 := by omega
   obtain rfl : c = 0 := by omega
   refine ⟨.nilsl, [], fun S kk => by simp only [effSlice, h1, hx, e1, e2, e3, hk, h2]; exact hkk _ _, .pure hs (c := .slice none 0 0) ?_ (by simp [V.Rep]) (by simp [V.ids])⟩
   simp [execOp, ho, Instr.sliceAt, Instr.slice, run_underlying (tk_slice henv h1 hk), r1, run true, henv.run_size h2]
  ·cases hv
 ·
  rename_i ti i l u x₀ h1 hx e1 e2 e3
  split at hv
  ·rename_i te r₀ xs fz hk h2 hi'
   split at hv
   ·rename_i hsz
    obtain ⟨r1, d1⟩ := ev_rep hgl hs hx
    simp only [V.Rep, OwnRep, hi'] at r1
    have ex : ∃ ad cap, a.eval x = .slice ad xs.length cap ∧ xs.length ≤ cap ∧ (ad = none → cap = 0) ∧ ∀ y, ad = some y → 0 < cap → y.spot = none ∧ η i = some y.block ∧ y.off = 0 := by
     rcases r1 with ⟨h3, h4, ad, h5⟩ | ⟨b, cap, c, T, h3, h4, h5, h6, h7⟩
     ·exact ⟨ad, 0, by rw [h5, h4]; rfl, by simp [h4], fun _ => rfl, fun y hy hc => absurd hc (by simp)⟩
     ·exact ⟨some ⟨b, 0, none⟩, cap, h4, h5, fun e => (by cases e), fun y hy _ => by cases hy; exact ⟨rfl, h3, rfl⟩⟩
    obtain ⟨ad, cap, e, hcap, hz, had⟩ := ex
    cases hd2 : (decide (r₀.len = 1) && decide (0 < xs.length)) with
    | true =>
      rw [hd2, cond_true] at hv
      have hd1 : r₀.len = 1 ∧ 0 < xs.length := by simpa only [Bool.and_eq_true, decide_eq_true_eq] using hd2
      obtain ⟨p, q, c, hkk, hpq, hq, hqc, hcc, hcm, run⟩ := bounds_run P hgl hs e1 e2 e3 hcap hv
      refine ⟨.win i r₀.len p (q - p), [], fun S kk => by simp only [effSlice, h1, hx, e1, e2, e3, hk, h2, hi', if_pos hsz, hd2, cond_true]; exact hkk _ _, .pure hs (c := .slice (if c = p then ad else ad.map (·.add (p * te.size))) (q - p) (c - p)) ?_ ?_ (by simpa [V.ids] using d1)⟩
      ·simp [execOp, ho, Instr.sliceAt, Instr.slice, run_underlying (tk_slice henv h1 hk), e, run true, henv.run_size h2]
      ·simp only [V.Rep]
       cases ad with
       | none => have := hz rfl; omega
       | some y =>
         obtain ⟨g1, g2, g3⟩ := had y rfl (by omega)
         obtain ⟨yb, yo, ys⟩ := y
         simp only at g1 g2 g3
         subst g1; subst g3
         by_cases hcp : c = p
         ·exact ⟨yb, 0, c - p, g2, by rw [if_pos hcp], by omega, fun hh => by omega⟩
         ·exact ⟨yb, p * te.size, c - p, g2, by rw [if_neg hcp]; simp [add_plain], by omega, fun _ => by rw [hsz]⟩
    | false =>
      rw [hd2, cond_false] at hv
      obtain ⟨p, q, c, hkk, hpq, hq, hqc, hcc, hcm, run⟩ := bounds_run P hgl hs e1 e2 e3 hcap hv
      have st := HStep.freeze (m := m) hs.heap hi'
      refine ⟨.sl r₀ ((xs.drop p).take (q - p)), [(i, .arr r₀ xs true)], fun S kk => by simp only [effSlice, h1, hx, e1, e2, e3, hk, h2, hi', if_pos hsz, hd2, cond_false]; exact hkk _ _, _, .slice (if c = p then ad else ad.map (·.add (p * te.size))) (q - p) (c - p), w, (fun b => A b ∨ η i = some b), η, ?_, .inl rfl, ?_, ?_, by simp [V.ids]⟩
      ·simp [execOp, ho, Instr.sliceAt, Instr.slice, run_underlying (tk_slice henv h1 hk), e, run true, henv.run_size h2]
      ·rw [ups_cons, ups_nil]; exact st
      ·simp only [V.Rep]
       refine sl_part hsz hpq hq hqc hcc hcap hz fun y hy hcp => ?_
       obtain ⟨h3, h4, h5⟩ := had y hy (by omega)
       refine ⟨h3, .inr h4, fun k z hz => ?_⟩
       rcases st.ok.ob i _ (ovr_same _ _ _) with ⟨h6, h7⟩ | ⟨b', c', T', h6, h7, h8, h9, h10⟩
       ·rw [h6] at h4; cases h4
       ·rw [h6] at h4; cases h4
        rw [h5, Nat.zero_add]; exact h10 k z hz
   ·cases hv
  ·cases hv
 ·cases hv
theorem len_yields (henv : EnvOk P E) (hs : SOk gl w A η fr h a.tmps) {o : Oper} {c : Call} {t : TypeId} {x : V} {y : Value} (ho : o.op = .call c) (hc : c.callee = .builtin .len) (hts : c.argTypes[0]? = some t)
  (hargs : c.args.map a.eval = #[y]) (hy : V.Rep w A η h x y) (hv : effLen E h kk t x = some r) : Goal P gl m w A η h a o fun S kk => effLen E h kk t x := by
 have run : ∀ (n : Nat) d, P.underlying t = some d → (match d, y with | .slice _, .slice _ k _ => some k | .string, .string s => some s.size | .map _ _, .map none => some 0 | .map _ _, .map (some r) => (match w.heap[r]? with | some (.map es _) => some es.size | _ => none) | _, _ => none) = some n →
   (execOp a.eval o).run P w = .ok (.value (.int .i64 n)) w := by
  intro n d hd hm
  simp only [execOp, ho, resolve, hc, hargs, Sem.run_bind, Sem.run_pure, Result.andThen_ok, invoke, builtin, Builtin.len_, hts]
  simp only [List.getElem?_toArray, List.getElem?_cons_zero, Sem.run_bind, run_underlying hd, Result.andThen_ok]
  split at hm <;> first | (cases hm; done) | skip
  ·cases hm; simp [goInt]
  ·cases hm; simp [goInt]
  ·cases hm; simp [goInt]
  ·split at hm
   ·rename_i rr _ _ _ _ es clk hr
    cases hm
    have : ∀ rr, w.heap[rr]? = some (.map es clk) → (getObj rr).run P w = .ok (.map es clk) w := fun rr hr => by simp [getObj, Sem.run, hr]
    simp [this _ hr, goInt]
   ·cases hm
 have fin : ∀ (n : Nat), (∀ (S : Type) (kk : Kk S), effLen E h kk t x = kk (.int .i64 n) []) → (execOp a.eval o).run P w = .ok (.value (.int .i64 n)) w → Goal P gl m w A η h a o fun S kk => effLen E h kk t x :=
  fun n hk hr => ⟨.int .i64 n, [], hk, .pure hs hr (by simp [V.Rep]) (by simp [V.ids])⟩
 unfold effLen at hv
 split at hv
 ·rename_i ti ht
  split at hv
  ·rename_i r₀ xs hk
   simp only [V.Rep, K.Rep] at hy
   obtain ⟨ad, cap, rfl, _⟩ := hy
   exact fin _ (fun S kk => by simp only [effLen, ht, hk]) (run _ _ (tk_slice henv ht hk) rfl)
  ·rename_i hk
   simp only [V.Rep] at hy
   subst hy
   exact fin 0 (fun S kk => by simp only [effLen, ht, hk]; rfl) (run 0 _ (tk_slice henv ht hk) rfl)
  ·rename_i hk
   simp only [V.Rep] at hy
   obtain ⟨ad, cap, rfl, _⟩ := hy
   exact fin 0 (fun S kk => by simp only [effLen, ht, hk]; rfl) (run 0 _ (tk_slice henv ht hk) rfl)
  ·rename_i n₁ hk
   simp only [V.Rep] at hy
   obtain ⟨b, o₁, cap, _, rfl, _⟩ := hy
   exact fin n₁ (fun S kk => by simp only [effLen, ht, hk]) (run _ _ (tk_slice henv ht hk) rfl)
  ·rename_i i hk
   split at hv
   ·rename_i r₀ xs fz hi
    simp only [V.Rep, OwnRep, hi] at hy
    have : ∃ ad cap, y = .slice ad xs.length cap := by
     rcases hy with ⟨_, h2, ad, h3⟩ | ⟨b, cap, c, T, _, h3, _⟩
     ·exact ⟨ad, 0, by rw [h3, h2]; rfl⟩
     ·exact ⟨_, _, h3⟩
    obtain ⟨ad, cap, rfl⟩ := this
    exact fin _ (fun S kk => by simp only [effLen, ht, hk, hi]) (run _ _ (tk_slice henv ht hk) rfl)
   ·cases hv
  ·rename_i s hk
   simp only [V.Rep] at hy
   subst hy
   exact fin s.length (fun S kk => by simp only [effLen, ht, hk]) (run _ _ (tk_str henv ht hk) (by simp [ByteArray.size]))
  ·rename_i hk
   obtain ⟨kt, hu⟩ := tk_map henv ht hk
   simp only [V.Rep] at hy
   subst hy
   exact fin 0 (fun S kk => by simp only [effLen, ht, hk]; rfl) (run 0 _ hu rfl)
  ·rename_i i hk
   obtain ⟨kt, hu⟩ := tk_map henv ht hk
   split at hv
   ·rename_i kr ka vr va es hi
    simp only [V.Rep] at hy
    obtain ⟨b, hb, rfl⟩ := hy
    obtain ⟨b', ents, clk, h1, h2, h3⟩ := hs.heap.ob i _ hi
    rw [hb] at h1; cases h1
    have hlen : ∀ (es : List (kr.Ty × vr.Ty)) (l : List MapEntry), EntsRep w A kr ka vr va es l → es.length = l.length := by
     intro es
     induction es with
     | nil => intro l hl; simp only [EntsRep] at hl; subst hl; rfl
     | cons p es ih => intro l hl; obtain ⟨k, v⟩ := p; simp only [EntsRep] at hl; obtain ⟨e, l', rfl, _, _, h4⟩ := hl; simp [ih l' h4]
    exact fin es.length (fun S kk => by simp only [effLen, ht, hk, hi]) (run _ _ hu (by simp [h2, hlen _ _ h3.1]))
   ·cases hv
  ·cases hv
 ·cases hv
end ops
end Vm
