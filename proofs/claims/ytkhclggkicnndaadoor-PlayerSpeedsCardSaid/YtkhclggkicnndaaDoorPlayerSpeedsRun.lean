/- The statement, as a run of the value machine. -/
import Derived.Test.YtkhclggkicnndaaDoorLawE
import Derived.Test.YtkhclggkicnndaaDoorVmE
import Derived.KernelRfl
import Derived.Test.YtkhclggkicnndaaDoorWords
import Derived.Test.YtkhclggkicnndaaDoorEnv
import Derived.Lay
import Derived.LaidHandle
import Derived.Handed
import Derived.LaidLaws
import Derived.Test.YtkhclggkicnndaaDoorRows
set_option maxRecDepth 100000
open Go Go.Proofs Go.IntKind
namespace Vm.S14
variable {R : Type} (J : List Item → St → Option R) (kk : V → List Ob → Option R)
noncomputable abbrev f6cuts : Cuts := look [(15, [1, 2, 3, 9, 10, 12, 15, 17, 18, 19, 20])]
noncomputable abbrev f6t15 : List Item := itemsAt (fb Tryd.f6).2 15
def f6s0 (m a b : Int) (l : List Nt) (n1 n2 n3 n4 n5 n6 n7 : Int) (b8 : Bool) (n9 n10 n11 n12 n13 n14 : Int) (b15 : Bool) (l16 : List Nt) (l17 : List Bool) (e18 : Cn) (l19 : List Nt) (l20 : List Bool) (e21 : Cn) : St := St.mk [(1, V.int i64 (if (1000000 : Int) < if (0 : Int) > m then (0 : Int) else m then (1000000 : Int) else if (0 : Int) > m then (0 : Int) else m)), (2, V.int i64 (if (100 : Int) < if (1 : Int) > a then (1 : Int) else a then (100 : Int) else if (1 : Int) > a then (1 : Int) else a)), (3, V.int i64 (if (100 : Int) < if (1 : Int) > b then (1 : Int) else b then (100 : Int) else if (1 : Int) > b then (1 : Int) else b)), (9, V.bool true), (10, V.ref 0 0 0 0), (12, V.ref 1 0 0 0), (15, V.int i64 (0 : Int)), (17, V.int i64 (0 : Int)), (18, V.int i64 ((PS.mk (PS.new (List.take (30 : Nat) l)).place (PS.new (List.take (30 : Nat) l)).left (PS.new (List.take (30 : Nat) l)).num (PS.new (List.take (30 : Nat) l)).den (PS.new (List.take (30 : Nat) l)).from_ (PS.new (List.take (30 : Nat) l)).to_ (PS.new (List.take (30 : Nat) l)).notes (PS.new (List.take (30 : Nat) l)).down (PS.new (List.take (30 : Nat) l)).cnt true).speed (if (100 : Int) < if (1 : Int) > a then (1 : Int) else a then (100 : Int) else if (1 : Int) > a then (1 : Int) else a) (if (100 : Int) < if (1 : Int) > b then (1 : Int) else b then (100 : Int) else if (1 : Int) > b then (1 : Int) else b)).fst), (19, V.nilsl), (20, V.int i64 n1)] [(0, Ob.var [V.int i64 n2, V.int i64 n3, V.int i64 n4, V.int i64 n5, V.int i64 n6, V.int i64 n7, V.own 2, V.own 3, V.map 4, V.bool b8]), (1, Ob.var [V.int i64 n9, V.int i64 n10, V.int i64 n11, V.int i64 n12, V.int i64 n13, V.int i64 n14, V.own 5, V.own 6, V.map 7, V.bool b15]), (2, Ob.arr rNote l16 false), (3, Ob.arr rB l17 false), (4, Ob.map rK2 true rI false e18), (5, Ob.arr rNote l19 false), (6, Ob.arr rB l20 false), (7, Ob.map rK2 true rI false e21)] 8
def f6s1 (m a b : Int) (l : List Nt) (n22 n23 n24 n25 n26 n27 n28 : Int) (b29 : Bool) (n30 n31 n32 n33 n34 n35 : Int) (b36 : Bool) (l37 : List Sg) (l38 : List Nt) (l39 : List Bool) (e40 : Cn) (l41 : List Nt) (l42 : List Bool) (e43 : Cn) : St := St.mk [(1, V.int i64 (if (1000000 : Int) < if (0 : Int) > m then (0 : Int) else m then (1000000 : Int) else if (0 : Int) > m then (0 : Int) else m)), (2, V.int i64 (if (100 : Int) < if (1 : Int) > a then (1 : Int) else a then (100 : Int) else if (1 : Int) > a then (1 : Int) else a)), (3, V.int i64 (if (100 : Int) < if (1 : Int) > b then (1 : Int) else b then (100 : Int) else if (1 : Int) > b then (1 : Int) else b)), (9, V.bool true), (10, V.ref 0 0 0 0), (12, V.ref 1 0 0 0), (15, V.int i64 (0 : Int)), (17, V.int i64 (0 : Int)), (18, V.int i64 ((PS.mk (PS.new (List.take (30 : Nat) l)).place (PS.new (List.take (30 : Nat) l)).left (PS.new (List.take (30 : Nat) l)).num (PS.new (List.take (30 : Nat) l)).den (PS.new (List.take (30 : Nat) l)).from_ (PS.new (List.take (30 : Nat) l)).to_ (PS.new (List.take (30 : Nat) l)).notes (PS.new (List.take (30 : Nat) l)).down (PS.new (List.take (30 : Nat) l)).cnt true).speed (if (100 : Int) < if (1 : Int) > a then (1 : Int) else a then (100 : Int) else if (1 : Int) > a then (1 : Int) else a) (if (100 : Int) < if (1 : Int) > b then (1 : Int) else b then (100 : Int) else if (1 : Int) > b then (1 : Int) else b)).fst), (19, V.own 2), (20, V.int i64 n22)] [(0, Ob.var [V.int i64 n23, V.int i64 n24, V.int i64 n25, V.int i64 n26, V.int i64 n27, V.int i64 n28, V.own 3, V.own 4, V.map 5, V.bool b29]), (1, Ob.var [V.int i64 n30, V.int i64 n31, V.int i64 n32, V.int i64 n33, V.int i64 n34, V.int i64 n35, V.own 6, V.own 7, V.map 8, V.bool b36]), (2, Ob.arr rSig l37 false), (3, Ob.arr rNote l38 false), (4, Ob.arr rB l39 false), (5, Ob.map rK2 true rI false e40), (6, Ob.arr rNote l41 false), (7, Ob.arr rB l42 false), (8, Ob.map rK2 true rI false e43)] 9
noncomputable abbrev k6 {Q : Type} (k : V → List Ob → Option Q) := vend (E32 8) 0 (fb Tryd.f6).1.results.toList false k
theorem f6_go (l : List Nt) (m a b : Int) :
 vseg (E32 8) f6cuts 0 J (k6 kk) 100000 true [.code (fb Tryd.f6).2] (start ([V.sl rNote l, V.int i64 m, V.int i64 a, V.int i64 b]) ([])) =
 (bif decide ((List.take (30 : Nat) l).length ≤ 100) then
 (bif !(List.take (30 : Nat) l).all Nt.right then
 (bif decide ((List.take (30 : Nat) l).length ≤ 100) then
 (bif !(List.take (30 : Nat) l).all Nt.right then
 kk (V.bool true) ([])
 else kk (V.bool false) ([]))
 else none)
 else (bif decide ((List.take (30 : Nat) l).length ≤ 100) then
 (bif !(List.take (30 : Nat) l).all Nt.right then
 kk (V.bool false) ([])
 else J f6t15 (f6s0 m a b l (0 : Int) (((PS.mk (PS.new (List.take (30 : Nat) l)).place (PS.new (List.take (30 : Nat) l)).left (PS.new (List.take (30 : Nat) l)).num (PS.new (List.take (30 : Nat) l)).den (PS.new (List.take (30 : Nat) l)).from_ (PS.new (List.take (30 : Nat) l)).to_ (PS.new (List.take (30 : Nat) l)).notes (PS.new (List.take (30 : Nat) l)).down (PS.new (List.take (30 : Nat) l)).cnt true).speed (if (100 : Int) < if (1 : Int) > a then (1 : Int) else a then (100 : Int) else if (1 : Int) > a then (1 : Int) else a) (if (100 : Int) < if (1 : Int) > b then (1 : Int) else b then (100 : Int) else if (1 : Int) > b then (1 : Int) else b)).snd.place) (((PS.mk (PS.new (List.take (30 : Nat) l)).place (PS.new (List.take (30 : Nat) l)).left (PS.new (List.take (30 : Nat) l)).num (PS.new (List.take (30 : Nat) l)).den (PS.new (List.take (30 : Nat) l)).from_ (PS.new (List.take (30 : Nat) l)).to_ (PS.new (List.take (30 : Nat) l)).notes (PS.new (List.take (30 : Nat) l)).down (PS.new (List.take (30 : Nat) l)).cnt true).speed (if (100 : Int) < if (1 : Int) > a then (1 : Int) else a then (100 : Int) else if (1 : Int) > a then (1 : Int) else a) (if (100 : Int) < if (1 : Int) > b then (1 : Int) else b then (100 : Int) else if (1 : Int) > b then (1 : Int) else b)).snd.left) (((PS.mk (PS.new (List.take (30 : Nat) l)).place (PS.new (List.take (30 : Nat) l)).left (PS.new (List.take (30 : Nat) l)).num (PS.new (List.take (30 : Nat) l)).den (PS.new (List.take (30 : Nat) l)).from_ (PS.new (List.take (30 : Nat) l)).to_ (PS.new (List.take (30 : Nat) l)).notes (PS.new (List.take (30 : Nat) l)).down (PS.new (List.take (30 : Nat) l)).cnt true).speed (if (100 : Int) < if (1 : Int) > a then (1 : Int) else a then (100 : Int) else if (1 : Int) > a then (1 : Int) else a) (if (100 : Int) < if (1 : Int) > b then (1 : Int) else b then (100 : Int) else if (1 : Int) > b then (1 : Int) else b)).snd.num) (((PS.mk (PS.new (List.take (30 : Nat) l)).place (PS.new (List.take (30 : Nat) l)).left (PS.new (List.take (30 : Nat) l)).num (PS.new (List.take (30 : Nat) l)).den (PS.new (List.take (30 : Nat) l)).from_ (PS.new (List.take (30 : Nat) l)).to_ (PS.new (List.take (30 : Nat) l)).notes (PS.new (List.take (30 : Nat) l)).down (PS.new (List.take (30 : Nat) l)).cnt true).speed (if (100 : Int) < if (1 : Int) > a then (1 : Int) else a then (100 : Int) else if (1 : Int) > a then (1 : Int) else a) (if (100 : Int) < if (1 : Int) > b then (1 : Int) else b then (100 : Int) else if (1 : Int) > b then (1 : Int) else b)).snd.den) (((PS.mk (PS.new (List.take (30 : Nat) l)).place (PS.new (List.take (30 : Nat) l)).left (PS.new (List.take (30 : Nat) l)).num (PS.new (List.take (30 : Nat) l)).den (PS.new (List.take (30 : Nat) l)).from_ (PS.new (List.take (30 : Nat) l)).to_ (PS.new (List.take (30 : Nat) l)).notes (PS.new (List.take (30 : Nat) l)).down (PS.new (List.take (30 : Nat) l)).cnt true).speed (if (100 : Int) < if (1 : Int) > a then (1 : Int) else a then (100 : Int) else if (1 : Int) > a then (1 : Int) else a) (if (100 : Int) < if (1 : Int) > b then (1 : Int) else b then (100 : Int) else if (1 : Int) > b then (1 : Int) else b)).snd.from_) (((PS.mk (PS.new (List.take (30 : Nat) l)).place (PS.new (List.take (30 : Nat) l)).left (PS.new (List.take (30 : Nat) l)).num (PS.new (List.take (30 : Nat) l)).den (PS.new (List.take (30 : Nat) l)).from_ (PS.new (List.take (30 : Nat) l)).to_ (PS.new (List.take (30 : Nat) l)).notes (PS.new (List.take (30 : Nat) l)).down (PS.new (List.take (30 : Nat) l)).cnt true).speed (if (100 : Int) < if (1 : Int) > a then (1 : Int) else a then (100 : Int) else if (1 : Int) > a then (1 : Int) else a) (if (100 : Int) < if (1 : Int) > b then (1 : Int) else b then (100 : Int) else if (1 : Int) > b then (1 : Int) else b)).snd.to_) (((PS.mk (PS.new (List.take (30 : Nat) l)).place (PS.new (List.take (30 : Nat) l)).left (PS.new (List.take (30 : Nat) l)).num (PS.new (List.take (30 : Nat) l)).den (PS.new (List.take (30 : Nat) l)).from_ (PS.new (List.take (30 : Nat) l)).to_ (PS.new (List.take (30 : Nat) l)).notes (PS.new (List.take (30 : Nat) l)).down (PS.new (List.take (30 : Nat) l)).cnt true).speed (if (100 : Int) < if (1 : Int) > a then (1 : Int) else a then (100 : Int) else if (1 : Int) > a then (1 : Int) else a) (if (100 : Int) < if (1 : Int) > b then (1 : Int) else b then (100 : Int) else if (1 : Int) > b then (1 : Int) else b)).snd.on) ((PS.new (List.take (30 : Nat) l)).place) ((PS.new (List.take (30 : Nat) l)).left) ((PS.new (List.take (30 : Nat) l)).num) ((PS.new (List.take (30 : Nat) l)).den) ((PS.new (List.take (30 : Nat) l)).from_) ((PS.new (List.take (30 : Nat) l)).to_) (true) (((PS.mk (PS.new (List.take (30 : Nat) l)).place (PS.new (List.take (30 : Nat) l)).left (PS.new (List.take (30 : Nat) l)).num (PS.new (List.take (30 : Nat) l)).den (PS.new (List.take (30 : Nat) l)).from_ (PS.new (List.take (30 : Nat) l)).to_ (PS.new (List.take (30 : Nat) l)).notes (PS.new (List.take (30 : Nat) l)).down (PS.new (List.take (30 : Nat) l)).cnt true).speed (if (100 : Int) < if (1 : Int) > a then (1 : Int) else a then (100 : Int) else if (1 : Int) > a then (1 : Int) else a) (if (100 : Int) < if (1 : Int) > b then (1 : Int) else b then (100 : Int) else if (1 : Int) > b then (1 : Int) else b)).snd.notes) (((PS.mk (PS.new (List.take (30 : Nat) l)).place (PS.new (List.take (30 : Nat) l)).left (PS.new (List.take (30 : Nat) l)).num (PS.new (List.take (30 : Nat) l)).den (PS.new (List.take (30 : Nat) l)).from_ (PS.new (List.take (30 : Nat) l)).to_ (PS.new (List.take (30 : Nat) l)).notes (PS.new (List.take (30 : Nat) l)).down (PS.new (List.take (30 : Nat) l)).cnt true).speed (if (100 : Int) < if (1 : Int) > a then (1 : Int) else a then (100 : Int) else if (1 : Int) > a then (1 : Int) else a) (if (100 : Int) < if (1 : Int) > b then (1 : Int) else b then (100 : Int) else if (1 : Int) > b then (1 : Int) else b)).snd.down) (((PS.mk (PS.new (List.take (30 : Nat) l)).place (PS.new (List.take (30 : Nat) l)).left (PS.new (List.take (30 : Nat) l)).num (PS.new (List.take (30 : Nat) l)).den (PS.new (List.take (30 : Nat) l)).from_ (PS.new (List.take (30 : Nat) l)).to_ (PS.new (List.take (30 : Nat) l)).notes (PS.new (List.take (30 : Nat) l)).down (PS.new (List.take (30 : Nat) l)).cnt true).speed (if (100 : Int) < if (1 : Int) > a then (1 : Int) else a then (100 : Int) else if (1 : Int) > a then (1 : Int) else a) (if (100 : Int) < if (1 : Int) > b then (1 : Int) else b then (100 : Int) else if (1 : Int) > b then (1 : Int) else b)).snd.cnt) ((PS.new (List.take (30 : Nat) l)).notes) ((PS.new (List.take (30 : Nat) l)).down) ((PS.new (List.take (30 : Nat) l)).cnt)))
 else none))
 else none) := by kernel_rfl
theorem f6_0 (m a b : Int) (l : List Nt) (n1 n2 n3 n4 n5 n6 n7 : Int) (b8 : Bool) (n9 n10 n11 n12 n13 n14 : Int) (b15 : Bool) (l16 : List Nt) (l17 : List Bool) (e18 : Cn) (l19 : List Nt) (l20 : List Bool) (e21 : Cn) :
 vseg (E32 8) f6cuts 0 J (k6 kk) 100000 true f6t15 (f6s0 m a b l n1 n2 n3 n4 n5 n6 n7 b8 n9 n10 n11 n12 n13 n14 b15 l16 l17 e18 l19 l20 e21) =
 (bif decide (n1 < if (100 : Int) < if (1 : Int) > b then (1 : Int) else b then (100 : Int) else if (1 : Int) > b then (1 : Int) else b) then
 (bif pokB (PS.mk n2 n3 n4 n5 n6 n7 l16 l17 e18 b8) then
 (bif !decide (((PS.mk n2 n3 n4 n5 n6 n7 l16 l17 e18 b8).tick (if (1000000 : Int) < if (0 : Int) > m then (0 : Int) else m then (1000000 : Int) else if (0 : Int) > m then (0 : Int) else m)).fst.snd = 0) then
 kk (V.bool false) ([])
 else (bif decide (((PS.mk n2 n3 n4 n5 n6 n7 l16 l17 e18 b8).tick (if (1000000 : Int) < if (0 : Int) > m then (0 : Int) else m then (1000000 : Int) else if (0 : Int) > m then (0 : Int) else m)).fst.fst.length * 40 ≤ bytesMost) then
 J f6t15 (f6s1 m a b l (i64.wrap (n1 + 1)) (((PS.mk n2 n3 n4 n5 n6 n7 l16 l17 e18 b8).tick (if (1000000 : Int) < if (0 : Int) > m then (0 : Int) else m then (1000000 : Int) else if (0 : Int) > m then (0 : Int) else m)).snd.place) (((PS.mk n2 n3 n4 n5 n6 n7 l16 l17 e18 b8).tick (if (1000000 : Int) < if (0 : Int) > m then (0 : Int) else m then (1000000 : Int) else if (0 : Int) > m then (0 : Int) else m)).snd.left) (((PS.mk n2 n3 n4 n5 n6 n7 l16 l17 e18 b8).tick (if (1000000 : Int) < if (0 : Int) > m then (0 : Int) else m then (1000000 : Int) else if (0 : Int) > m then (0 : Int) else m)).snd.num) (((PS.mk n2 n3 n4 n5 n6 n7 l16 l17 e18 b8).tick (if (1000000 : Int) < if (0 : Int) > m then (0 : Int) else m then (1000000 : Int) else if (0 : Int) > m then (0 : Int) else m)).snd.den) (((PS.mk n2 n3 n4 n5 n6 n7 l16 l17 e18 b8).tick (if (1000000 : Int) < if (0 : Int) > m then (0 : Int) else m then (1000000 : Int) else if (0 : Int) > m then (0 : Int) else m)).snd.from_) (((PS.mk n2 n3 n4 n5 n6 n7 l16 l17 e18 b8).tick (if (1000000 : Int) < if (0 : Int) > m then (0 : Int) else m then (1000000 : Int) else if (0 : Int) > m then (0 : Int) else m)).snd.to_) (((PS.mk n2 n3 n4 n5 n6 n7 l16 l17 e18 b8).tick (if (1000000 : Int) < if (0 : Int) > m then (0 : Int) else m then (1000000 : Int) else if (0 : Int) > m then (0 : Int) else m)).snd.on) n9 n10 n11 n12 n13 n14 b15 (((PS.mk n2 n3 n4 n5 n6 n7 l16 l17 e18 b8).tick (if (1000000 : Int) < if (0 : Int) > m then (0 : Int) else m then (1000000 : Int) else if (0 : Int) > m then (0 : Int) else m)).fst.fst) (((PS.mk n2 n3 n4 n5 n6 n7 l16 l17 e18 b8).tick (if (1000000 : Int) < if (0 : Int) > m then (0 : Int) else m then (1000000 : Int) else if (0 : Int) > m then (0 : Int) else m)).snd.notes) (((PS.mk n2 n3 n4 n5 n6 n7 l16 l17 e18 b8).tick (if (1000000 : Int) < if (0 : Int) > m then (0 : Int) else m then (1000000 : Int) else if (0 : Int) > m then (0 : Int) else m)).snd.down) (((PS.mk n2 n3 n4 n5 n6 n7 l16 l17 e18 b8).tick (if (1000000 : Int) < if (0 : Int) > m then (0 : Int) else m then (1000000 : Int) else if (0 : Int) > m then (0 : Int) else m)).snd.cnt) l19 l20 e21)
 else none))
 else none)
 else (bif pokB (PS.mk n9 n10 n11 n12 n13 n14 l19 l20 e21 b15) then
 (bif decide (((PS.mk (PS.new (List.take (30 : Nat) l)).place (PS.new (List.take (30 : Nat) l)).left (PS.new (List.take (30 : Nat) l)).num (PS.new (List.take (30 : Nat) l)).den (PS.new (List.take (30 : Nat) l)).from_ (PS.new (List.take (30 : Nat) l)).to_ (PS.new (List.take (30 : Nat) l)).notes (PS.new (List.take (30 : Nat) l)).down (PS.new (List.take (30 : Nat) l)).cnt true).speed (if (100 : Int) < if (1 : Int) > a then (1 : Int) else a then (100 : Int) else if (1 : Int) > a then (1 : Int) else a) (if (100 : Int) < if (1 : Int) > b then (1 : Int) else b then (100 : Int) else if (1 : Int) > b then (1 : Int) else b)).fst = 0) then
 (bif decide (((PS.mk n9 n10 n11 n12 n13 n14 l19 l20 e21 b15).tick (i64.wrap ((if (1000000 : Int) < if (0 : Int) > m then (0 : Int) else m then (1000000 : Int) else if (0 : Int) > m then (0 : Int) else m) * if (100 : Int) < if (1 : Int) > a then (1 : Int) else a then (100 : Int) else if (1 : Int) > a then (1 : Int) else a))).fst.snd = 0) then
 (bif decide ([] = ((PS.mk n9 n10 n11 n12 n13 n14 l19 l20 e21 b15).tick (i64.wrap ((if (1000000 : Int) < if (0 : Int) > m then (0 : Int) else m then (1000000 : Int) else if (0 : Int) > m then (0 : Int) else m) * if (100 : Int) < if (1 : Int) > a then (1 : Int) else a then (100 : Int) else if (1 : Int) > a then (1 : Int) else a))).fst.fst) then
 kk (V.bool (decide (n2 = ((PS.mk n9 n10 n11 n12 n13 n14 l19 l20 e21 b15).tick (i64.wrap ((if (1000000 : Int) < if (0 : Int) > m then (0 : Int) else m then (1000000 : Int) else if (0 : Int) > m then (0 : Int) else m) * if (100 : Int) < if (1 : Int) > a then (1 : Int) else a then (100 : Int) else if (1 : Int) > a then (1 : Int) else a))).snd.place))) ([])
 else kk (V.bool false) ([]))
 else kk (V.bool false) ([]))
 else kk (V.bool false) ([]))
 else none)) := by kernel_rfl
theorem f6_1 (m a b : Int) (l : List Nt) (n22 n23 n24 n25 n26 n27 n28 : Int) (b29 : Bool) (n30 n31 n32 n33 n34 n35 : Int) (b36 : Bool) (l37 : List Sg) (l38 : List Nt) (l39 : List Bool) (e40 : Cn) (l41 : List Nt) (l42 : List Bool) (e43 : Cn) :
 vseg (E32 8) f6cuts 0 J (k6 kk) 100000 true f6t15 (f6s1 m a b l n22 n23 n24 n25 n26 n27 n28 b29 n30 n31 n32 n33 n34 n35 b36 l37 l38 l39 e40 l41 l42 e43) =
 (bif decide (n22 < if (100 : Int) < if (1 : Int) > b then (1 : Int) else b then (100 : Int) else if (1 : Int) > b then (1 : Int) else b) then
 (bif pokB (PS.mk n23 n24 n25 n26 n27 n28 l38 l39 e40 b29) then
 (bif !decide (((PS.mk n23 n24 n25 n26 n27 n28 l38 l39 e40 b29).tick (if (1000000 : Int) < if (0 : Int) > m then (0 : Int) else m then (1000000 : Int) else if (0 : Int) > m then (0 : Int) else m)).fst.snd = 0) then
 kk (V.bool false) ([])
 else (bif decide ((l37.length + ((PS.mk n23 n24 n25 n26 n27 n28 l38 l39 e40 b29).tick (if (1000000 : Int) < if (0 : Int) > m then (0 : Int) else m then (1000000 : Int) else if (0 : Int) > m then (0 : Int) else m)).fst.fst.length) * 40 ≤ bytesMost) then
 J f6t15 (f6s1 m a b l (i64.wrap (n22 + 1)) (((PS.mk n23 n24 n25 n26 n27 n28 l38 l39 e40 b29).tick (if (1000000 : Int) < if (0 : Int) > m then (0 : Int) else m then (1000000 : Int) else if (0 : Int) > m then (0 : Int) else m)).snd.place) (((PS.mk n23 n24 n25 n26 n27 n28 l38 l39 e40 b29).tick (if (1000000 : Int) < if (0 : Int) > m then (0 : Int) else m then (1000000 : Int) else if (0 : Int) > m then (0 : Int) else m)).snd.left) (((PS.mk n23 n24 n25 n26 n27 n28 l38 l39 e40 b29).tick (if (1000000 : Int) < if (0 : Int) > m then (0 : Int) else m then (1000000 : Int) else if (0 : Int) > m then (0 : Int) else m)).snd.num) (((PS.mk n23 n24 n25 n26 n27 n28 l38 l39 e40 b29).tick (if (1000000 : Int) < if (0 : Int) > m then (0 : Int) else m then (1000000 : Int) else if (0 : Int) > m then (0 : Int) else m)).snd.den) (((PS.mk n23 n24 n25 n26 n27 n28 l38 l39 e40 b29).tick (if (1000000 : Int) < if (0 : Int) > m then (0 : Int) else m then (1000000 : Int) else if (0 : Int) > m then (0 : Int) else m)).snd.from_) (((PS.mk n23 n24 n25 n26 n27 n28 l38 l39 e40 b29).tick (if (1000000 : Int) < if (0 : Int) > m then (0 : Int) else m then (1000000 : Int) else if (0 : Int) > m then (0 : Int) else m)).snd.to_) (((PS.mk n23 n24 n25 n26 n27 n28 l38 l39 e40 b29).tick (if (1000000 : Int) < if (0 : Int) > m then (0 : Int) else m then (1000000 : Int) else if (0 : Int) > m then (0 : Int) else m)).snd.on) n30 n31 n32 n33 n34 n35 b36 (l37 ++ ((PS.mk n23 n24 n25 n26 n27 n28 l38 l39 e40 b29).tick (if (1000000 : Int) < if (0 : Int) > m then (0 : Int) else m then (1000000 : Int) else if (0 : Int) > m then (0 : Int) else m)).fst.fst) (((PS.mk n23 n24 n25 n26 n27 n28 l38 l39 e40 b29).tick (if (1000000 : Int) < if (0 : Int) > m then (0 : Int) else m then (1000000 : Int) else if (0 : Int) > m then (0 : Int) else m)).snd.notes) (((PS.mk n23 n24 n25 n26 n27 n28 l38 l39 e40 b29).tick (if (1000000 : Int) < if (0 : Int) > m then (0 : Int) else m then (1000000 : Int) else if (0 : Int) > m then (0 : Int) else m)).snd.down) (((PS.mk n23 n24 n25 n26 n27 n28 l38 l39 e40 b29).tick (if (1000000 : Int) < if (0 : Int) > m then (0 : Int) else m then (1000000 : Int) else if (0 : Int) > m then (0 : Int) else m)).snd.cnt) l41 l42 e43)
 else none))
 else none)
 else (bif pokB (PS.mk n30 n31 n32 n33 n34 n35 l41 l42 e43 b36) then
 (bif decide (((PS.mk (PS.new (List.take (30 : Nat) l)).place (PS.new (List.take (30 : Nat) l)).left (PS.new (List.take (30 : Nat) l)).num (PS.new (List.take (30 : Nat) l)).den (PS.new (List.take (30 : Nat) l)).from_ (PS.new (List.take (30 : Nat) l)).to_ (PS.new (List.take (30 : Nat) l)).notes (PS.new (List.take (30 : Nat) l)).down (PS.new (List.take (30 : Nat) l)).cnt true).speed (if (100 : Int) < if (1 : Int) > a then (1 : Int) else a then (100 : Int) else if (1 : Int) > a then (1 : Int) else a) (if (100 : Int) < if (1 : Int) > b then (1 : Int) else b then (100 : Int) else if (1 : Int) > b then (1 : Int) else b)).fst = 0) then
 (bif decide (((PS.mk n30 n31 n32 n33 n34 n35 l41 l42 e43 b36).tick (i64.wrap ((if (1000000 : Int) < if (0 : Int) > m then (0 : Int) else m then (1000000 : Int) else if (0 : Int) > m then (0 : Int) else m) * if (100 : Int) < if (1 : Int) > a then (1 : Int) else a then (100 : Int) else if (1 : Int) > a then (1 : Int) else a))).fst.snd = 0) then
 (bif decide (l37.length < 4611686018427387904) then
 (bif decide (l37 = ((PS.mk n30 n31 n32 n33 n34 n35 l41 l42 e43 b36).tick (i64.wrap ((if (1000000 : Int) < if (0 : Int) > m then (0 : Int) else m then (1000000 : Int) else if (0 : Int) > m then (0 : Int) else m) * if (100 : Int) < if (1 : Int) > a then (1 : Int) else a then (100 : Int) else if (1 : Int) > a then (1 : Int) else a))).fst.fst) then
 kk (V.bool (decide (n23 = ((PS.mk n30 n31 n32 n33 n34 n35 l41 l42 e43 b36).tick (i64.wrap ((if (1000000 : Int) < if (0 : Int) > m then (0 : Int) else m then (1000000 : Int) else if (0 : Int) > m then (0 : Int) else m) * if (100 : Int) < if (1 : Int) > a then (1 : Int) else a then (100 : Int) else if (1 : Int) > a then (1 : Int) else a))).snd.place))) ([])
 else kk (V.bool false) ([]))
 else none)
 else kk (V.bool false) ([]))
 else kk (V.bool false) ([]))
 else none)) := by kernel_rfl
end Vm.S14
open Go Go.Proofs
namespace Vm.S14
def clamp1 (x : Int) : Int := if 100 < (if 1 > x then 1 else x) then 100 else if 1 > x then 1 else x
theorem clamp1_bd (x : Int) : 1 ≤ clamp1 x ∧ clamp1 x ≤ 100 := by
 unfold clamp1
 split <;> split <;> omega
section
variable {R : Type} (kk : V → List Ob → Option R) (m a b : Int) (l : List Nt)
noncomputable abbrev V6 (k : Nat) (s : St) : Option R := vrun (E32 8) f6cuts 0 100000 (k6 kk) k f6t15 s
abbrev s6 (own : Bool) (p q : PS) (i : Int) (s : List Sg) : St :=
 if own then f6s1 m a b l i p.place p.left p.num p.den p.from_ p.to_ p.on q.place q.left q.num q.den q.from_ q.to_ q.on s p.notes p.down p.cnt q.notes q.down q.cnt
 else f6s0 m a b l i p.place p.left p.num p.den p.from_ p.to_ p.on q.place q.left q.num q.den q.from_ q.to_ q.on p.notes p.down p.cnt q.notes q.down q.cnt
theorem f6_step (N : Nat) (own : Bool) (p q : PS) (i : Nat) (s : List Sg) (ho : own = false → s = []) (hi : (i : Int) < clamp1 b) (hp : POk p) (h0 : (p.tick (clampT m)).1.2 = 0) (hb : (s.length + (p.tick (clampT m)).1.1.length) * 40 ≤ bytesMost) :
  V6 kk (N + 1) (s6 m a b l own p q i s) = V6 kk N (s6 m a b l true (p.tick (clampT m)).2 q ((i + 1 : Nat) : Int) (s ++ (p.tick (clampT m)).1.1)) := by
 have e0 : (!decide ((p.tick (clampT m)).1.2 = 0)) = false := by rw [h0]; rfl
 have hc := clamp1_bd b
 have w2 : IntKind.wrap .i64 ((i : Int) + 1) = ((i + 1 : Nat) : Int) := by rw [wrap64 (by omega) (by omega)]; push_cast; rfl
 unfold V6
 rw [vrun_succ]
 cases own with
 | false =>
   have := ho rfl
   subst this
   refine (f6_0 _ kk m a b l i p.place p.left p.num p.den p.from_ p.to_ p.on q.place q.left q.num q.den q.from_ q.to_ q.on p.notes p.down p.cnt q.notes q.down q.cnt).trans ?_
   refine (bif_pos (by exact decide_eq_true hi)).trans ?_
   refine (bif_pos (by exact pokB_eq hp)).trans ?_
   refine (bif_neg (by exact e0)).trans ?_
   have hb' : (p.tick (clampT m)).1.1.length * 40 ≤ bytesMost := by simpa using hb
   refine (bif_pos (by exact decide_eq_true hb')).trans ?_
   rw [w2]
   rfl
 | true =>
   refine (f6_1 _ kk m a b l i p.place p.left p.num p.den p.from_ p.to_ p.on q.place q.left q.num q.den q.from_ q.to_ q.on s p.notes p.down p.cnt q.notes q.down q.cnt).trans ?_
   refine (bif_pos (by exact decide_eq_true hi)).trans ?_
   refine (bif_pos (by exact pokB_eq hp)).trans ?_
   refine (bif_neg (by exact e0)).trans ?_
   refine (bif_pos (by exact decide_eq_true hb)).trans ?_
   rw [w2]
   rfl
theorem f6_end (N : Nat) (p q : PS) (i : Nat) (s : List Sg) (hi : ¬ (i : Int) < clamp1 b) (hq : POk q) (h0 : (q.tick (clampT m * clamp1 a)).1.2 = 0) (h1 : s = (q.tick (clampT m * clamp1 a)).1.1) (h2 : p.place = (q.tick (clampT m * clamp1 a)).2.place)
  (hs : s.length < 4611686018427387904) : V6 kk (N + 1) (s6 m a b l true p q i s) = kk (.bool true) [] := by
 have c1 := clampT_bd m
 have c2 := clamp1_bd a
 have hmn : 0 ≤ clampT m * clamp1 a := Int.mul_nonneg c1.1 (by omega)
 have hmn2 : clampT m * clamp1 a ≤ 1000000 * 100 := Int.mul_le_mul c1.2 c2.2 (by omega) (by omega)
 have w1 : IntKind.wrap .i64 (clampT m * clamp1 a) = clampT m * clamp1 a := wrap64 (by omega) (by omega)
 have hsp : ((PS.new (l.take 30)).play.speed (clamp1 a) (clamp1 b)).1 = 0 := by unfold PS.speed; rw [if_pos ⟨c2, clamp1_bd b⟩]
 unfold V6
 rw [vrun_succ]
 refine (f6_1 _ kk m a b l i p.place p.left p.num p.den p.from_ p.to_ p.on q.place q.left q.num q.den q.from_ q.to_ q.on s p.notes p.down p.cnt q.notes q.down q.cnt).trans ?_
 refine (bif_neg (by exact decide_eq_false hi)).trans ?_
 refine (bif_pos (by exact pokB_eq hq)).trans ?_
 refine (bif_pos (by exact decide_eq_true hsp)).trans ?_
 show (bif decide ((q.tick (IntKind.wrap .i64 (clampT m * clamp1 a))).1.2 = 0) then (bif decide (s.length < 4611686018427387904) then (bif decide (s = (q.tick (IntKind.wrap .i64 (clampT m * clamp1 a))).1.1) then kk (.bool (decide (p.place = (q.tick (IntKind.wrap .i64 (clampT m * clamp1 a))).2.place))) [] else kk (.bool false) []) else none) else kk (.bool false) []) = _
 rw [w1]
 refine (bif_pos (by exact decide_eq_true h0)).trans ?_
 refine (bif_pos (by exact decide_eq_true hs)).trans ?_
 refine (bif_pos (by exact decide_eq_true h1)).trans ?_
 rw [decide_eq_true h2]
theorem f6_loop (q : PS) (hq : POk q) (h0 : (q.tick (clampT m * clamp1 a)).1.2 = 0) : ∀ (j i : Nat) (own : Bool) (p : PS) (s : List Sg), (own = false → s = []) → (own = false → 0 < j) → (i : Int) + j = clamp1 b → POk p → p.on = true → p.to_ = 0 → p.place ≤ 100000100 * i → s.length ≤ 20000020000 * i →
  (ticksF p s (List.replicate j (clampT m))).2 = (q.tick (clampT m * clamp1 a)).1.1 → (ticksF p s (List.replicate j (clampT m))).1.place = (q.tick (clampT m * clamp1 a)).2.place →
  ∃ N, V6 kk N (s6 m a b l own p q i s) = kk (.bool true) []
 | 0, i, own, p, s, ho, ho2, hi, hp, hon, ht, hpl, hs, h1, h2 => by
   have hc := clamp1_bd b
   cases own with
   | false => exact absurd (ho2 rfl) (by omega)
   | true =>
     refine ⟨1, f6_end kk m a b l 0 p q i s (by omega) hq h0 h1 h2 ?_⟩
     omega
 | j + 1, i, own, p, s, ho, ho2, hi, hp, hon, ht, hpl, hs, h1, h2 => by
   have hc := clamp1_bd b
   obtain ⟨c0, c1⟩ := clampT_bd m
   have hpl0 := hp.pl0
   have hq0 : 0 ≤ p.tickN (clampT m) := (hp.tickN c0 (by omega)).1
   have hq1 : p.tickN (clampT m) ≤ 100000100 := by
    have b1 := hp.l0; have b2 := hp.l1; have b3 := hp.n0; have b4 := hp.n1; have b5 := hp.d1; have b6 := hp.d0
    have e1 : 0 ≤ clampT m * p.num := Int.mul_nonneg c0 (by omega)
    have e2 : clampT m * p.num ≤ 1000000 * 100 := Int.mul_le_mul c1 (by omega) (by omega) (by omega)
    have := Int.ediv_le_self p.den (show 0 ≤ p.left + clampT m * p.num by omega)
    unfold PS.tickN
    omega
   have e := tick_on (p := p) (n := clampT m) c0 (by omega) hon (far_free ht (by omega))
   have hwl := walk_len hp ht hq0 100000100 hq1
   have hplace : (p.walk (p.tickN (clampT m))).1 = p.place + p.tickN (clampT m) := by
    unfold PS.walk
    rw [runs_many p.notes p.from_ p.to_ _ _ (.inl (by omega)), many_place]; dsimp only; omega
   simp only [List.replicate_succ, ticksF] at h1 h2
   obtain ⟨N, hN⟩ := f6_loop q hq h0 j (i + 1) true (p.tick (clampT m)).2 (s ++ (p.tick (clampT m)).1.1) (fun h => by cases h) (fun h => by cases h) (by push_cast at hi ⊢; omega) (hp.tick _) (by rw [e]; exact hon) (by rw [e]; exact ht)
    (by rw [e]; show (p.walk (p.tickN (clampT m))).1 ≤ _; rw [hplace]; push_cast; omega)
    (by rw [e, List.length_append]; show s.length + (p.walk (p.tickN (clampT m))).2.2.2.length ≤ _; omega) h1 h2
   refine ⟨N + 1, ?_⟩
   rw [f6_step kk m a b l N own p q i s ho (by omega) hp (by rw [e]) (by rw [e]; show (s.length + (p.walk (p.tickN (clampT m))).2.2.2.length) * 40 ≤ _; unfold bytesMost; omega)]
   exact hN
theorem f6_run : ∃ N, vrun (E32 8) f6cuts 0 100000 (k6 kk) N [.code (fb Tryd.f6).2] (start [.sl rNote l, .int .i64 m, .int .i64 a, .int .i64 b] []) = kk (.bool true) [] := by
 have hl30 : (l.take 30).length ≤ 100 := by rw [List.length_take]; omega
 cases hr : (l.take 30).all Nt.right with
 | false =>
   refine ⟨1, ?_⟩
   rw [vrun_succ]
   refine (f6_go _ kk l m a b).trans ?_
   rw [bif_pos (by exact decide_eq_true hl30), hr]
   refine (bif_pos rfl).trans ?_
   rw [bif_pos (by exact decide_eq_true hl30)]
   exact bif_pos rfl
 | true =>
   have hq : POk (PS.new (l.take 30)).play := POk.play (POk.new hl30 hr)
   have hp : POk ((PS.new (l.take 30)).play.speed (clamp1 a) (clamp1 b)).2 := hq.speed _ _
   have ca := clamp1_bd a
   have cb := clamp1_bd b
   have cm := clampT_bd m
   have hmn : 0 ≤ clampT m * clamp1 a := Int.mul_nonneg cm.1 (by omega)
   have hmn2 : clampT m * clamp1 a ≤ 1000000 * 100 := Int.mul_le_mul cm.2 ca.2 (by omega) (by omega)
   have esp : (PS.new (l.take 30)).play.speed (clamp1 a) (clamp1 b) = (0, { (PS.new (l.take 30)).play with num := clamp1 a, den := clamp1 b, left := 0 }) := by unfold PS.speed; rw [if_pos ⟨ca, cb⟩]
   have e2 := tick_first (p := (PS.new (l.take 30)).play) (n := clampT m * clamp1 a) hmn (by omega) rfl rfl rfl rfl rfl (by show (0 : Int) + _ ≤ _; omega)
   obtain ⟨p', g1, g2, g3, g4, g5⟩ := ticks_speed (clampT m) cm.1 cm.2 (List.replicate (l.take 30).length false) (stabN (l.take 30)) (clamp1 a) (clamp1 b) ca.1 ca.2 cb.1 cb.2 (clamp1 b).toNat 0 ((PS.new (l.take 30)).play.speed (clamp1 a) (clamp1 b)).2 []
    (by push_cast; omega) (by rw [esp]; rfl) (by rw [esp]; rfl) (by rw [esp]) (by rw [esp]) (by rw [esp]; rfl) (by rw [esp]; exact Int.le_refl _) (by rw [esp]; show (0 : Int) < clamp1 b; omega) (by rw [esp]; exact Int.le_refl _) (by rw [esp]; show (0 : Int) * clamp1 b + 0 = _; simp) (by rw [esp]; rfl)
   obtain ⟨g6, g7⟩ := speed_sum cb.1 g2 g3 (show p'.place * clamp1 b + p'.left = clamp1 b * (clampT m * clamp1 a) by rw [g5]; push_cast; congr 1; omega)
   have efrom : ((PS.new (l.take 30)).play.speed (clamp1 a) (clamp1 b)).2.from_ = 0 := by rw [esp]; rfl
   rw [g6, efrom] at g1
   obtain ⟨N, hN⟩ := f6_loop kk m a b l (PS.new (l.take 30)).play hq (by rw [e2]) (clamp1 b).toNat 0 false ((PS.new (l.take 30)).play.speed (clamp1 a) (clamp1 b)).2 [] (fun _ => rfl) (fun _ => by omega) (by push_cast; omega) hp (by rw [esp]; rfl) (by rw [esp]; rfl) (by rw [esp]; exact Int.le_refl _) (by simp)
    (by rw [g1, e2]; rfl)
    (by
      rw [g1, e2]
      show p'.place = (runs _ _ _ _ _).1
      rw [runs_many _ _ _ _ _ (.inl (by show (0 : Int) ≤ 0; omega)), many_place, g6]
      show _ = (0 : Int) + _
      omega)
   refine ⟨N + 1, ?_⟩
   rw [vrun_succ]
   refine (f6_go _ kk l m a b).trans ?_
   rw [bif_pos (by exact decide_eq_true hl30), hr]
   refine (bif_neg rfl).trans ?_
   rw [bif_pos (by exact decide_eq_true hl30)]
   refine (bif_neg rfl).trans ?_
   exact hN
end
end Vm.S14
namespace Go.Proofs.YtkhclggkicnndaaDoor
open Go.ChangeShapes Go.WideShapes Go.ChangeAt Go.WideMaps Go.WideElems Go.RowKit Vm
theorem own : ownKnob Tryd.prog.godebug = none := by kernel_rfl
theorem laidOut : laidOutB Tryd.prog = true := by kernel_rfl
theorem et : Tryd.prog.globalNamed "errors.errorType" = some 0 := by kernel_rfl
theorem rt : (Tryd.prog.cutTypes.find? (·.1 == "internal/reflectlite.rtype")).map (·.2) = some 117 := by kernel_rfl
theorem oneRow : ((List.range 177).filter fun t => Tryd.prog.rowNamed t [101, 114, 114, 111, 114]) = [76] := by kernel_rfl
theorem tsize : Tryd.prog.types.size = 177 := by kernel_rfl
abbrev theLaid : List (String × DataW Unit) := [("errors.errorType", Rows.laid_errors_errorType)]
theorem handle_of_laid {W : World} (h : laidMetH Tryd.prog theLaid W) : W.cell? ⟨0, 0, none⟩ = some (.iface 117 (.agg #[.pointer (some ⟨1, 76, none⟩)])) := by
 have h' : laidMet Tryd.prog [] W ∧ handlesMet Tryd.prog theLaid W := h
 obtain ⟨name, u, ty, e1, e2, e3, e4, e5⟩ := h'.2 _ (List.mem_singleton.2 rfl)
 have en : name = [101, 114, 114, 111, 114] := (Option.some.inj e1).symm
 subst en
 obtain rfl := Option.some.inj (rt.symm.trans e2)
 have hm : ty ∈ (List.range 177).filter fun t => Tryd.prog.rowNamed t [101, 114, 114, 111, 114] := List.mem_filter.2 ⟨List.mem_range.2 (by rw [← tsize]; exact e3), e4⟩
 rw [oneRow] at hm
 obtain rfl := List.mem_singleton.1 hm
 have hh : typeHandle Tryd.prog 76 = .pointer (some ⟨1, 76, none⟩) := by kernel_rfl
 rw [hh] at e5
 simpa using World.var?_cell et e5 0
theorem globs {W : World} (h : laidMetH Tryd.prog theLaid W) : GlobOk S14.gls W (allOld W) := by
 refine ⟨(fun g r xs hg => (by cases hg)), fun g v hv => ?_⟩
 have hv' : (if g = 0 then some (Value.iface 117 (.agg #[.pointer (some ⟨1, 76, none⟩)])) else none) = some v := hv
 split at hv'
 ·rename_i e
  subst e
  cases hv'
  have hc := handle_of_laid h
  unfold World.cell? at hc
  split at hc
  ·rename_i cs T fz hb
   have hb' : W.heap[0]? = some (.cells cs T fz) := hb
   refine ⟨(Array.getElem?_eq_some_iff.1 hb').1, cs, T, fz, hb', ?_⟩
   simpa using hc
  ·cases hc
 ·cases hv'
noncomputable def W0 (os : Os) : World :=
 let w0 := World.holding Tryd.prog os ⟨#[], #[], []⟩
 { w0 with heap := w0.heap.modify 0 fun
     | .cells _ t frozen => .cells #[.iface 117 (.agg #[.pointer (some ⟨1, 76, none⟩)])] t frozen
     | o => o }
theorem laid_met (os : Os) (args : Array Value) : laidMetH Tryd.prog theLaid ((W0 os).forCall (fun _ _ => 0) ⟨#[], args, []⟩).memory :=
 laidMetH_of_parts (laidMet_nil _ _) (by kernel_rfl)
end Go.Proofs.YtkhclggkicnndaaDoor
