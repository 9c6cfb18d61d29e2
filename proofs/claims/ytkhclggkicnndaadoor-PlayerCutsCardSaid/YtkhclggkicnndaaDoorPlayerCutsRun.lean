/- The statement, as a run of the value machine. -/
import Derived.Test.YtkhclggkicnndaaDoorLawE
import Derived.Test.YtkhclggkicnndaaDoorVmE
import Derived.KernelRfl
import Derived.Test.YtkhclggkicnndaaDoorWords
import Derived.Test.YtkhclggkicnndaaDoorEnv
import Derived.Lay
import Derived.LaidHandle
import Derived.Handed
import Derived.LaidLaws
import Derived.Test.YtkhclggkicnndaaDoorRows
set_option maxRecDepth 100000
open Go Go.Proofs Go.IntKind
namespace Vm.S14
variable {R : Type} (J : List Item → St → Option R) (kk : V → List Ob → Option R)
noncomputable abbrev f3cuts : Cuts := look [(12, [1, 5, 6, 8, 11, 13, 14, 15, 16])]
noncomputable abbrev f3t12 : List Item := itemsAt (fb Tryd.f3).2 12
def f3s0 (t : List Int) (n1 n2 n3 n4 n5 n6 n7 n8 : Int) (b9 : Bool) (n10 n11 n12 n13 n14 n15 : Int) (b16 : Bool) (l17 : List (Nt)) (l18 : List Bool) (e19 : Cn) (l20 : List (Nt)) (l21 : List Bool) (e22 : Cn) : St := St.mk [(1, V.sl rI t), (5, V.bool true), (6, V.ref 0 0 0 0), (8, V.ref 1 0 0 0), (11, V.int i64 (0 : Int)), (13, V.int i64 (0 : Int)), (14, V.int i64 n1), (15, V.nilsl), (16, V.int i64 n2)] [(0, Ob.var [V.int i64 n3, V.int i64 n4, V.int i64 n5, V.int i64 n6, V.int i64 n7, V.int i64 n8, V.own 2, V.own 3, V.map 4, V.bool b9]), (1, Ob.var [V.int i64 n10, V.int i64 n11, V.int i64 n12, V.int i64 n13, V.int i64 n14, V.int i64 n15, V.own 5, V.own 6, V.map 7, V.bool b16]), (2, Ob.arr rNote l17 false), (3, Ob.arr rB l18 false), (4, Ob.map rK2 true rI false e19), (5, Ob.arr rNote l20 false), (6, Ob.arr rB l21 false), (7, Ob.map rK2 true rI false e22)] 8
def f3s1 (t : List Int) (n24 n25 n26 n27 n28 n29 n30 n31 : Int) (b32 : Bool) (n33 n34 n35 n36 n37 n38 : Int) (b39 : Bool) (l40 : List (Sg)) (l41 : List (Nt)) (l42 : List Bool) (e43 : Cn) (l44 : List (Nt)) (l45 : List Bool) (e46 : Cn) : St := St.mk [(1, V.sl rI t), (5, V.bool true), (6, V.ref 0 0 0 0), (8, V.ref 1 0 0 0), (11, V.int i64 (0 : Int)), (13, V.int i64 (0 : Int)), (14, V.int i64 n24), (15, V.own 2), (16, V.int i64 n25)] [(0, Ob.var [V.int i64 n26, V.int i64 n27, V.int i64 n28, V.int i64 n29, V.int i64 n30, V.int i64 n31, V.own 3, V.own 4, V.map 5, V.bool b32]), (1, Ob.var [V.int i64 n33, V.int i64 n34, V.int i64 n35, V.int i64 n36, V.int i64 n37, V.int i64 n38, V.own 6, V.own 7, V.map 8, V.bool b39]), (2, Ob.arr rSig l40 false), (3, Ob.arr rNote l41 false), (4, Ob.arr rB l42 false), (5, Ob.map rK2 true rI false e43), (6, Ob.arr rNote l44 false), (7, Ob.arr rB l45 false), (8, Ob.map rK2 true rI false e46)] 9
noncomputable abbrev k3 {Q : Type} (k : V → List Ob → Option Q) := vend (E32 8) 0 (fb Tryd.f3).1.results.toList false k
theorem f3_go (l : List (Nt)) (t : List Int) :
 vseg (E32 8) f3cuts 0 J (k3 kk) 100000 true [.code (fb Tryd.f3).2] (start ([V.sl rNote l, V.sl rI t]) ([])) =
 (bif decide ((List.take (30 : Nat) l).length ≤ (100 : Nat)) then
 (bif !(List.take (30 : Nat) l).all Nt.right then
 (bif decide ((List.take (30 : Nat) l).length ≤ (100 : Nat)) then
 (bif !(List.take (30 : Nat) l).all Nt.right then
 kk (V.bool true) ([])
 else kk (V.bool false) ([]))
 else none)
 else (bif decide ((List.take (30 : Nat) l).length ≤ (100 : Nat)) then
 (bif !(List.take (30 : Nat) l).all Nt.right then
 kk (V.bool false) ([])
 else J f3t12 (f3s0 t (0 : Int) (0 : Int) ((PS.new (List.take (30 : Nat) l)).place) ((PS.new (List.take (30 : Nat) l)).left) ((PS.new (List.take (30 : Nat) l)).num) ((PS.new (List.take (30 : Nat) l)).den) ((PS.new (List.take (30 : Nat) l)).from_) ((PS.new (List.take (30 : Nat) l)).to_) (true) ((PS.new (List.take (30 : Nat) l)).place) ((PS.new (List.take (30 : Nat) l)).left) ((PS.new (List.take (30 : Nat) l)).num) ((PS.new (List.take (30 : Nat) l)).den) ((PS.new (List.take (30 : Nat) l)).from_) ((PS.new (List.take (30 : Nat) l)).to_) (true) ((PS.new (List.take (30 : Nat) l)).notes) ((PS.new (List.take (30 : Nat) l)).down) ((PS.new (List.take (30 : Nat) l)).cnt) ((PS.new (List.take (30 : Nat) l)).notes) ((PS.new (List.take (30 : Nat) l)).down) ((PS.new (List.take (30 : Nat) l)).cnt)))
 else none))
 else none) := by kernel_rfl
theorem f3_0 (t : List Int) (n1 n2 n3 n4 n5 n6 n7 n8 : Int) (b9 : Bool) (n10 n11 n12 n13 n14 n15 : Int) (b16 : Bool) (l17 : List (Nt)) (l18 : List Bool) (e19 : Cn) (l20 : List (Nt)) (l21 : List Bool) (e22 : Cn) :
 vseg (E32 8) f3cuts 0 J (k3 kk) 100000 true f3t12 (f3s0 t n1 n2 n3 n4 n5 n6 n7 n8 b9 n10 n11 n12 n13 n14 n15 b16 l17 l18 e19 l20 l21 e22) =
 (bif decide (n2 < (↑t.length : Int)) then
 (bif decide (n2 < (12 : Int)) then
 (match idx t n2 with
 | some y23 => (bif pokB (PS.mk n3 n4 n5 n6 n7 n8 l17 l18 e19 b9) then
 (bif !decide (((PS.mk n3 n4 n5 n6 n7 n8 l17 l18 e19 b9).tick (if (1000000 : Int) < if (0 : Int) > y23 then (0 : Int) else y23 then (1000000 : Int) else if (0 : Int) > y23 then (0 : Int) else y23)).fst.snd = (0 : Int)) then
 kk (V.bool false) ([])
 else (bif decide (((PS.mk n3 n4 n5 n6 n7 n8 l17 l18 e19 b9).tick (if (1000000 : Int) < if (0 : Int) > y23 then (0 : Int) else y23 then (1000000 : Int) else if (0 : Int) > y23 then (0 : Int) else y23)).fst.fst.length * (40 : Nat) ≤ bytesMost) then
 J f3t12 (f3s1 t (i64.wrap (n1 + if (1000000 : Int) < if (0 : Int) > y23 then (0 : Int) else y23 then (1000000 : Int) else if (0 : Int) > y23 then (0 : Int) else y23)) (i64.wrap (n2 + (1 : Int))) (((PS.mk n3 n4 n5 n6 n7 n8 l17 l18 e19 b9).tick (if (1000000 : Int) < if (0 : Int) > y23 then (0 : Int) else y23 then (1000000 : Int) else if (0 : Int) > y23 then (0 : Int) else y23)).snd.place) (((PS.mk n3 n4 n5 n6 n7 n8 l17 l18 e19 b9).tick (if (1000000 : Int) < if (0 : Int) > y23 then (0 : Int) else y23 then (1000000 : Int) else if (0 : Int) > y23 then (0 : Int) else y23)).snd.left) (((PS.mk n3 n4 n5 n6 n7 n8 l17 l18 e19 b9).tick (if (1000000 : Int) < if (0 : Int) > y23 then (0 : Int) else y23 then (1000000 : Int) else if (0 : Int) > y23 then (0 : Int) else y23)).snd.num) (((PS.mk n3 n4 n5 n6 n7 n8 l17 l18 e19 b9).tick (if (1000000 : Int) < if (0 : Int) > y23 then (0 : Int) else y23 then (1000000 : Int) else if (0 : Int) > y23 then (0 : Int) else y23)).snd.den) (((PS.mk n3 n4 n5 n6 n7 n8 l17 l18 e19 b9).tick (if (1000000 : Int) < if (0 : Int) > y23 then (0 : Int) else y23 then (1000000 : Int) else if (0 : Int) > y23 then (0 : Int) else y23)).snd.from_) (((PS.mk n3 n4 n5 n6 n7 n8 l17 l18 e19 b9).tick (if (1000000 : Int) < if (0 : Int) > y23 then (0 : Int) else y23 then (1000000 : Int) else if (0 : Int) > y23 then (0 : Int) else y23)).snd.to_) (((PS.mk n3 n4 n5 n6 n7 n8 l17 l18 e19 b9).tick (if (1000000 : Int) < if (0 : Int) > y23 then (0 : Int) else y23 then (1000000 : Int) else if (0 : Int) > y23 then (0 : Int) else y23)).snd.on) n10 n11 n12 n13 n14 n15 b16 (((PS.mk n3 n4 n5 n6 n7 n8 l17 l18 e19 b9).tick (if (1000000 : Int) < if (0 : Int) > y23 then (0 : Int) else y23 then (1000000 : Int) else if (0 : Int) > y23 then (0 : Int) else y23)).fst.fst) (((PS.mk n3 n4 n5 n6 n7 n8 l17 l18 e19 b9).tick (if (1000000 : Int) < if (0 : Int) > y23 then (0 : Int) else y23 then (1000000 : Int) else if (0 : Int) > y23 then (0 : Int) else y23)).snd.notes) (((PS.mk n3 n4 n5 n6 n7 n8 l17 l18 e19 b9).tick (if (1000000 : Int) < if (0 : Int) > y23 then (0 : Int) else y23 then (1000000 : Int) else if (0 : Int) > y23 then (0 : Int) else y23)).snd.down) (((PS.mk n3 n4 n5 n6 n7 n8 l17 l18 e19 b9).tick (if (1000000 : Int) < if (0 : Int) > y23 then (0 : Int) else y23 then (1000000 : Int) else if (0 : Int) > y23 then (0 : Int) else y23)).snd.cnt) l20 l21 e22)
 else none))
 else none)
 | none => none)
 else (bif pokB (PS.mk n10 n11 n12 n13 n14 n15 l20 l21 e22 b16) then
 (bif decide (((PS.mk n10 n11 n12 n13 n14 n15 l20 l21 e22 b16).tick n1).fst.snd = (0 : Int)) then
 (bif decide ([] = ((PS.mk n10 n11 n12 n13 n14 n15 l20 l21 e22 b16).tick n1).fst.fst) then
 (bif decide (n3 = n1) then
 (bif decide (((PS.mk n10 n11 n12 n13 n14 n15 l20 l21 e22 b16).tick n1).snd.place = n1) then
 (bif ckK (keysUp e19) && decide (e19.length < (256 : Nat)) then
 (bif ckK (keysUp ((PS.mk n10 n11 n12 n13 n14 n15 l20 l21 e22 b16).tick n1).snd.cnt) && decide (List.length ((PS.mk n10 n11 n12 n13 n14 n15 l20 l21 e22 b16).tick n1).snd.cnt < (256 : Nat)) then
 (bif decide ((keysL e19).length < (4611686018427387904 : Nat)) then
 kk (V.bool (decide (keysL e19 = keysL ((PS.mk n10 n11 n12 n13 n14 n15 l20 l21 e22 b16).tick n1).snd.cnt))) ([])
 else none)
 else none)
 else none)
 else kk (V.bool false) ([]))
 else kk (V.bool false) ([]))
 else kk (V.bool false) ([]))
 else kk (V.bool false) ([]))
 else none))
 else (bif pokB (PS.mk n10 n11 n12 n13 n14 n15 l20 l21 e22 b16) then
 (bif decide (((PS.mk n10 n11 n12 n13 n14 n15 l20 l21 e22 b16).tick n1).fst.snd = (0 : Int)) then
 (bif decide ([] = ((PS.mk n10 n11 n12 n13 n14 n15 l20 l21 e22 b16).tick n1).fst.fst) then
 (bif decide (n3 = n1) then
 (bif decide (((PS.mk n10 n11 n12 n13 n14 n15 l20 l21 e22 b16).tick n1).snd.place = n1) then
 (bif ckK (keysUp e19) && decide (e19.length < (256 : Nat)) then
 (bif ckK (keysUp ((PS.mk n10 n11 n12 n13 n14 n15 l20 l21 e22 b16).tick n1).snd.cnt) && decide (List.length ((PS.mk n10 n11 n12 n13 n14 n15 l20 l21 e22 b16).tick n1).snd.cnt < (256 : Nat)) then
 (bif decide ((keysL e19).length < (4611686018427387904 : Nat)) then
 kk (V.bool (decide (keysL e19 = keysL ((PS.mk n10 n11 n12 n13 n14 n15 l20 l21 e22 b16).tick n1).snd.cnt))) ([])
 else none)
 else none)
 else none)
 else kk (V.bool false) ([]))
 else kk (V.bool false) ([]))
 else kk (V.bool false) ([]))
 else kk (V.bool false) ([]))
 else none)) := by kernel_rfl
theorem f3_1 (t : List Int) (n24 n25 n26 n27 n28 n29 n30 n31 : Int) (b32 : Bool) (n33 n34 n35 n36 n37 n38 : Int) (b39 : Bool) (l40 : List (Sg)) (l41 : List (Nt)) (l42 : List Bool) (e43 : Cn) (l44 : List (Nt)) (l45 : List Bool) (e46 : Cn) :
 vseg (E32 8) f3cuts 0 J (k3 kk) 100000 true f3t12 (f3s1 t n24 n25 n26 n27 n28 n29 n30 n31 b32 n33 n34 n35 n36 n37 n38 b39 l40 l41 l42 e43 l44 l45 e46) =
 (bif decide (n25 < (↑t.length : Int)) then
 (bif decide (n25 < (12 : Int)) then
 (match idx t n25 with
 | some y47 => (bif pokB (PS.mk n26 n27 n28 n29 n30 n31 l41 l42 e43 b32) then
 (bif !decide (((PS.mk n26 n27 n28 n29 n30 n31 l41 l42 e43 b32).tick (if (1000000 : Int) < if (0 : Int) > y47 then (0 : Int) else y47 then (1000000 : Int) else if (0 : Int) > y47 then (0 : Int) else y47)).fst.snd = (0 : Int)) then
 kk (V.bool false) ([])
 else (bif decide ((l40.length + ((PS.mk n26 n27 n28 n29 n30 n31 l41 l42 e43 b32).tick (if (1000000 : Int) < if (0 : Int) > y47 then (0 : Int) else y47 then (1000000 : Int) else if (0 : Int) > y47 then (0 : Int) else y47)).fst.fst.length) * (40 : Nat) ≤ bytesMost) then
 J f3t12 (f3s1 t (i64.wrap (n24 + if (1000000 : Int) < if (0 : Int) > y47 then (0 : Int) else y47 then (1000000 : Int) else if (0 : Int) > y47 then (0 : Int) else y47)) (i64.wrap (n25 + (1 : Int))) (((PS.mk n26 n27 n28 n29 n30 n31 l41 l42 e43 b32).tick (if (1000000 : Int) < if (0 : Int) > y47 then (0 : Int) else y47 then (1000000 : Int) else if (0 : Int) > y47 then (0 : Int) else y47)).snd.place) (((PS.mk n26 n27 n28 n29 n30 n31 l41 l42 e43 b32).tick (if (1000000 : Int) < if (0 : Int) > y47 then (0 : Int) else y47 then (1000000 : Int) else if (0 : Int) > y47 then (0 : Int) else y47)).snd.left) (((PS.mk n26 n27 n28 n29 n30 n31 l41 l42 e43 b32).tick (if (1000000 : Int) < if (0 : Int) > y47 then (0 : Int) else y47 then (1000000 : Int) else if (0 : Int) > y47 then (0 : Int) else y47)).snd.num) (((PS.mk n26 n27 n28 n29 n30 n31 l41 l42 e43 b32).tick (if (1000000 : Int) < if (0 : Int) > y47 then (0 : Int) else y47 then (1000000 : Int) else if (0 : Int) > y47 then (0 : Int) else y47)).snd.den) (((PS.mk n26 n27 n28 n29 n30 n31 l41 l42 e43 b32).tick (if (1000000 : Int) < if (0 : Int) > y47 then (0 : Int) else y47 then (1000000 : Int) else if (0 : Int) > y47 then (0 : Int) else y47)).snd.from_) (((PS.mk n26 n27 n28 n29 n30 n31 l41 l42 e43 b32).tick (if (1000000 : Int) < if (0 : Int) > y47 then (0 : Int) else y47 then (1000000 : Int) else if (0 : Int) > y47 then (0 : Int) else y47)).snd.to_) (((PS.mk n26 n27 n28 n29 n30 n31 l41 l42 e43 b32).tick (if (1000000 : Int) < if (0 : Int) > y47 then (0 : Int) else y47 then (1000000 : Int) else if (0 : Int) > y47 then (0 : Int) else y47)).snd.on) n33 n34 n35 n36 n37 n38 b39 (l40 ++ ((PS.mk n26 n27 n28 n29 n30 n31 l41 l42 e43 b32).tick (if (1000000 : Int) < if (0 : Int) > y47 then (0 : Int) else y47 then (1000000 : Int) else if (0 : Int) > y47 then (0 : Int) else y47)).fst.fst) (((PS.mk n26 n27 n28 n29 n30 n31 l41 l42 e43 b32).tick (if (1000000 : Int) < if (0 : Int) > y47 then (0 : Int) else y47 then (1000000 : Int) else if (0 : Int) > y47 then (0 : Int) else y47)).snd.notes) (((PS.mk n26 n27 n28 n29 n30 n31 l41 l42 e43 b32).tick (if (1000000 : Int) < if (0 : Int) > y47 then (0 : Int) else y47 then (1000000 : Int) else if (0 : Int) > y47 then (0 : Int) else y47)).snd.down) (((PS.mk n26 n27 n28 n29 n30 n31 l41 l42 e43 b32).tick (if (1000000 : Int) < if (0 : Int) > y47 then (0 : Int) else y47 then (1000000 : Int) else if (0 : Int) > y47 then (0 : Int) else y47)).snd.cnt) l44 l45 e46)
 else none))
 else none)
 | none => none)
 else (bif pokB (PS.mk n33 n34 n35 n36 n37 n38 l44 l45 e46 b39) then
 (bif decide (((PS.mk n33 n34 n35 n36 n37 n38 l44 l45 e46 b39).tick n24).fst.snd = (0 : Int)) then
 (bif decide (l40.length < (4611686018427387904 : Nat)) then
 (bif decide (l40 = ((PS.mk n33 n34 n35 n36 n37 n38 l44 l45 e46 b39).tick n24).fst.fst) then
 (bif decide (n26 = n24) then
 (bif decide (((PS.mk n33 n34 n35 n36 n37 n38 l44 l45 e46 b39).tick n24).snd.place = n24) then
 (bif ckK (keysUp e43) && decide (e43.length < (256 : Nat)) then
 (bif ckK (keysUp ((PS.mk n33 n34 n35 n36 n37 n38 l44 l45 e46 b39).tick n24).snd.cnt) && decide (List.length ((PS.mk n33 n34 n35 n36 n37 n38 l44 l45 e46 b39).tick n24).snd.cnt < (256 : Nat)) then
 (bif decide ((keysL e43).length < (4611686018427387904 : Nat)) then
 kk (V.bool (decide (keysL e43 = keysL ((PS.mk n33 n34 n35 n36 n37 n38 l44 l45 e46 b39).tick n24).snd.cnt))) ([])
 else none)
 else none)
 else none)
 else kk (V.bool false) ([]))
 else kk (V.bool false) ([]))
 else kk (V.bool false) ([]))
 else none)
 else kk (V.bool false) ([]))
 else none))
 else (bif pokB (PS.mk n33 n34 n35 n36 n37 n38 l44 l45 e46 b39) then
 (bif decide (((PS.mk n33 n34 n35 n36 n37 n38 l44 l45 e46 b39).tick n24).fst.snd = (0 : Int)) then
 (bif decide (l40.length < (4611686018427387904 : Nat)) then
 (bif decide (l40 = ((PS.mk n33 n34 n35 n36 n37 n38 l44 l45 e46 b39).tick n24).fst.fst) then
 (bif decide (n26 = n24) then
 (bif decide (((PS.mk n33 n34 n35 n36 n37 n38 l44 l45 e46 b39).tick n24).snd.place = n24) then
 (bif ckK (keysUp e43) && decide (e43.length < (256 : Nat)) then
 (bif ckK (keysUp ((PS.mk n33 n34 n35 n36 n37 n38 l44 l45 e46 b39).tick n24).snd.cnt) && decide (List.length ((PS.mk n33 n34 n35 n36 n37 n38 l44 l45 e46 b39).tick n24).snd.cnt < (256 : Nat)) then
 (bif decide ((keysL e43).length < (4611686018427387904 : Nat)) then
 kk (V.bool (decide (keysL e43 = keysL ((PS.mk n33 n34 n35 n36 n37 n38 l44 l45 e46 b39).tick n24).snd.cnt))) ([])
 else none)
 else none)
 else none)
 else kk (V.bool false) ([]))
 else kk (V.bool false) ([]))
 else kk (V.bool false) ([]))
 else none)
 else kk (V.bool false) ([]))
 else none)) := by kernel_rfl
end Vm.S14
open Go Go.Proofs
namespace Vm.S14
section
variable {R : Type} (kk : V → List Ob → Option R) (t : List Int)
noncomputable abbrev V3 (k : Nat) (s : St) : Option R := vrun (E32 8) f3cuts 0 100000 (k3 kk) k f3t12 s
abbrev s3 (own : Bool) (p q : PS) (all i : Int) (a : List Sg) : St :=
 if own then f3s1 t all i p.place p.left p.num p.den p.from_ p.to_ p.on q.place q.left q.num q.den q.from_ q.to_ q.on a p.notes p.down p.cnt q.notes q.down q.cnt
 else f3s0 t all i p.place p.left p.num p.den p.from_ p.to_ p.on q.place q.left q.num q.den q.from_ q.to_ q.on p.notes p.down p.cnt q.notes q.down q.cnt
theorem f3_step (N : Nat) (own : Bool) (p q : PS) (all : Int) (i : Nat) (a : List Sg) (ho : own = false → a = []) (hi : i < t.length) (hi2 : i < 12) (hp : POk p) (h0 : (p.tick (clampT t[i])).1.2 = 0) (hb : (a.length + (p.tick (clampT t[i])).1.1.length) * 40 ≤ bytesMost)
  (ha0 : 0 ≤ all) (ha1 : all ≤ 100000000) :
  V3 kk (N + 1) (s3 t own p q all i a) = V3 kk N (s3 t true (p.tick (clampT t[i])).2 q (all + clampT t[i]) ((i + 1 : Nat) : Int) (a ++ (p.tick (clampT t[i])).1.1)) := by
 have hx : idx t (i : Int) = some t[i] := by rw [idx_nat, List.getElem?_eq_getElem hi]
 have hc := clampT_bd t[i]
 have e0 : (!decide ((p.tick (clampT t[i])).1.2 = 0)) = false := by rw [h0]; rfl
 have w1 : IntKind.wrap .i64 (all + clampT t[i]) = all + clampT t[i] := wrap64 (by omega) (by omega)
 have w2 : IntKind.wrap .i64 ((i : Int) + 1) = ((i + 1 : Nat) : Int) := by rw [wrap64 (by omega) (by omega)]; push_cast; rfl
 unfold V3
 rw [vrun_succ]
 cases own with
 | false =>
   have := ho rfl
   subst this
   refine (f3_0 _ kk t all i p.place p.left p.num p.den p.from_ p.to_ p.on q.place q.left q.num q.den q.from_ q.to_ q.on p.notes p.down p.cnt q.notes q.down q.cnt).trans ?_
   rw [bif_pos (by exact decide_eq_true (by omega)), bif_pos (by exact decide_eq_true (by omega)), hx]
   refine (bif_pos (by exact pokB_eq hp)).trans ?_
   refine (bif_neg (by exact e0)).trans ?_
   have hb' : (p.tick (clampT t[i])).1.1.length * 40 ≤ bytesMost := by simpa using hb
   refine (bif_pos (by exact decide_eq_true hb')).trans ?_
   rw [w2]
   show vrun _ _ _ _ _ _ _ (f3s1 t (IntKind.wrap .i64 (all + clampT t[i])) _ _ _ _ _ _ _ _ _ _ _ _ _ _ _ _ _ _ _ _ _ _) = _
   rw [w1]
   rfl
 | true =>
   refine (f3_1 _ kk t all i p.place p.left p.num p.den p.from_ p.to_ p.on q.place q.left q.num q.den q.from_ q.to_ q.on a p.notes p.down p.cnt q.notes q.down q.cnt).trans ?_
   rw [bif_pos (by exact decide_eq_true (by omega)), bif_pos (by exact decide_eq_true (by omega)), hx]
   refine (bif_pos (by exact pokB_eq hp)).trans ?_
   refine (bif_neg (by exact e0)).trans ?_
   refine (bif_pos (by exact decide_eq_true hb)).trans ?_
   rw [w2]
   show vrun _ _ _ _ _ _ _ (f3s1 t (IntKind.wrap .i64 (all + clampT t[i])) _ _ _ _ _ _ _ _ _ _ _ _ _ _ _ _ _ _ _ _ _ _) = _
   rw [w1]
   rfl
theorem f3_end (N : Nat) (own : Bool) (p q : PS) (all : Int) (i : Nat) (a : List Sg) (ho : own = false → a = []) (hi : ¬ (i < t.length ∧ i < 12)) (hp : POk p) (hq : POk q) (h0 : (q.tick all).1.2 = 0) (h1 : a = (q.tick all).1.1) (h2 : p.place = all) (h3 : (q.tick all).2.place = all)
  (h4 : p.cnt = (q.tick all).2.cnt) (hal : a.length < 4611686018427387904) : V3 kk (N + 1) (s3 t own p q all i a) = kk (.bool true) [] := by
 have hk := pok_guard hp
 have hk2 := pok_guard (hq.tick all)
 have hk3 : (keysL p.cnt).length < 4611686018427387904 := by have := keysL_len hp.inv hp.right; have := hp.few; omega
 unfold V3
 rw [vrun_succ]
 cases own with
 | false =>
   have := ho rfl
   subst this
   have fin : ∀ z : Option R, z = (bif pokB q then (bif decide ((q.tick all).1.2 = 0) then (bif decide ([] = (q.tick all).1.1) then (bif decide (p.place = all) then (bif decide ((q.tick all).2.place = all) then (bif ckK (keysUp p.cnt) && decide (p.cnt.length < 256) then (bif ckK (keysUp (q.tick all).2.cnt) && decide ((q.tick all).2.cnt.length < 256) then (bif decide ((keysL p.cnt).length < 4611686018427387904) then kk (.bool (decide (keysL p.cnt = keysL (q.tick all).2.cnt))) [] else none) else none) else none) else kk (.bool false) []) else kk (.bool false) []) else kk (.bool false) []) else kk (.bool false) []) else none) → z = kk (.bool true) [] := by
    intro z hz
    rw [hz, bif_pos (pokB_eq hq), bif_pos (by exact decide_eq_true h0), bif_pos (by exact decide_eq_true h1), bif_pos (by exact decide_eq_true h2), bif_pos (by exact decide_eq_true h3), bif_pos hk, bif_pos hk2, bif_pos (by exact decide_eq_true hk3), h4, decide_eq_true rfl]
   refine (f3_0 _ kk t all i p.place p.left p.num p.den p.from_ p.to_ p.on q.place q.left q.num q.den q.from_ q.to_ q.on p.notes p.down p.cnt q.notes q.down q.cnt).trans ?_
   by_cases c1 : i < t.length
   ·rw [bif_pos (by exact decide_eq_true (by omega)), bif_neg (by exact decide_eq_false (by omega))]
    exact fin _ rfl
   ·rw [bif_neg (by exact decide_eq_false (by omega))]
    exact fin _ rfl
 | true =>
   have fin : ∀ z : Option R, z = (bif pokB q then (bif decide ((q.tick all).1.2 = 0) then (bif decide (a.length < 4611686018427387904) then (bif decide (a = (q.tick all).1.1) then (bif decide (p.place = all) then (bif decide ((q.tick all).2.place = all) then (bif ckK (keysUp p.cnt) && decide (p.cnt.length < 256) then (bif ckK (keysUp (q.tick all).2.cnt) && decide ((q.tick all).2.cnt.length < 256) then (bif decide ((keysL p.cnt).length < 4611686018427387904) then kk (.bool (decide (keysL p.cnt = keysL (q.tick all).2.cnt))) [] else none) else none) else none) else kk (.bool false) []) else kk (.bool false) []) else kk (.bool false) []) else none) else kk (.bool false) []) else none) → z = kk (.bool true) [] := by
    intro z hz
    rw [hz, bif_pos (pokB_eq hq), bif_pos (by exact decide_eq_true h0), bif_pos (by exact decide_eq_true hal), bif_pos (by exact decide_eq_true h1), bif_pos (by exact decide_eq_true h2), bif_pos (by exact decide_eq_true h3), bif_pos hk, bif_pos hk2, bif_pos (by exact decide_eq_true hk3), h4, decide_eq_true rfl]
   refine (f3_1 _ kk t all i p.place p.left p.num p.den p.from_ p.to_ p.on q.place q.left q.num q.den q.from_ q.to_ q.on a p.notes p.down p.cnt q.notes q.down q.cnt).trans ?_
   by_cases c1 : i < t.length
   ·rw [bif_pos (by exact decide_eq_true (by omega)), bif_neg (by exact decide_eq_false (by omega))]
    exact fin _ rfl
   ·rw [bif_neg (by exact decide_eq_false (by omega))]
    exact fin _ rfl
end
end Vm.S14
open Go Go.Proofs
namespace Vm.S14
section
variable {R : Type} (kk : V → List Ob → Option R) (t : List Int)
theorem f3_loop (q : PS) (hq : POk q) : ∀ (d i : Nat) (own : Bool) (p : PS) (a : List Sg) (all : Int), (own = false → a = []) → i + d = min t.length 12 → POk p → p.on = true → p.to_ = 0 → p.num = 1 → p.den = 1 → p.left = 0 → p.place = all →
  0 ≤ all → all ≤ 1000000 * i → a.length ≤ 200000000 * i →
  ((q.tick (all + (((t.drop i).take d).map clampT).sum)).1.2 = 0 ∧ (ticksF p a (((t.drop i).take d).map clampT)).2 = (q.tick (all + (((t.drop i).take d).map clampT).sum)).1.1 ∧
    (q.tick (all + (((t.drop i).take d).map clampT).sum)).2.place = all + (((t.drop i).take d).map clampT).sum ∧ (ticksF p a (((t.drop i).take d).map clampT)).1.cnt = (q.tick (all + (((t.drop i).take d).map clampT).sum)).2.cnt) →
  ∃ N, V3 kk N (s3 t own p q all i a) = kk (.bool true) []
 | 0, i, own, p, a, all, ho, hi, hp, _, _, _, _, _, hpl, h0, h1, ha, hf => by
   simp only [List.take_zero, List.map_nil, List.sum_nil, Int.add_zero, ticksF] at hf
   obtain ⟨f1, f2, f3, f4⟩ := hf
   exact ⟨1, f3_end kk t 0 own p q all i a ho (by omega) hp hq f1 f2 hpl f3 f4 (by omega)⟩
 | d + 1, i, own, p, a, all, ho, hi, hp, hon, ht, hnum, hden, hl, hpl, h0, h1, ha, hf => by
   have hit : i < t.length := by omega
   have hi12 : i < 12 := by omega
   obtain ⟨c0, c1⟩ := clampT_bd t[i]
   have e := tick_first (p := p) (n := clampT t[i]) c0 (by omega) hon ht hnum hden hl (by omega)
   have hwl := walk_len hp ht c0 1000000 c1
   have hw : (runs p.notes p.from_ p.to_ (clampT t[i]).toNat (p.place, p.down, p.cnt, [])).2.2.2.length ≤ 200000000 := by
    have : (p.walk (clampT t[i])).2.2.2.length ≤ 200000000 := by omega
    exact this
   have hplace : (runs p.notes p.from_ p.to_ (clampT t[i]).toNat (p.place, p.down, p.cnt, [])).1 = all + clampT t[i] := by
    rw [runs_many p.notes p.from_ p.to_ _ _ (.inl (by omega)), many_place]; dsimp only; omega
   have hd : (t.drop i).take (d + 1) = t[i] :: (t.drop (i + 1)).take d := by rw [List.drop_eq_getElem_cons hit, List.take_succ_cons]
   rw [hd] at hf
   simp only [List.map_cons, List.sum_cons, ticksF] at hf
   obtain ⟨N, hN⟩ := f3_loop q hq d (i + 1) true (p.tick (clampT t[i])).2 (a ++ (p.tick (clampT t[i])).1.1) (all + clampT t[i]) (fun h => by cases h) (by omega) (hp.tick _)
    (by rw [e]; exact hon) (by rw [e]; exact ht) (by rw [e]; exact hnum) (by rw [e]; exact hden) (by rw [e]; rfl) (by rw [e]; exact hplace) (by omega) (by push_cast; omega)
    (by rw [e, List.length_append]; show a.length + (runs p.notes p.from_ p.to_ (clampT t[i]).toNat (p.place, p.down, p.cnt, [])).2.2.2.length ≤ 200000000 * (i + 1); omega)
    (by rw [show all + clampT t[i] + (((t.drop (i + 1)).take d).map clampT).sum = all + (clampT t[i] + (((t.drop (i + 1)).take d).map clampT).sum) from by omega]; exact hf)
   refine ⟨N + 1, ?_⟩
   rw [f3_step kk t N own p q all i a ho hit hi12 hp (by rw [e]) (by rw [e]; unfold bytesMost; dsimp only; omega) h0 (by omega)]
   exact hN
theorem f3_run (l : List Nt) :
  ∃ N, vrun (E32 8) f3cuts 0 100000 (k3 kk) N [.code (fb Tryd.f3).2] (start [.sl rNote l, .sl rI t] []) = kk (.bool true) [] := by
 have hl30 : (l.take 30).length ≤ 100 := by rw [List.length_take]; omega
 cases hr : (l.take 30).all Nt.right with
 | false =>
   refine ⟨1, ?_⟩
   rw [vrun_succ]
   refine (f3_go _ kk l t).trans ?_
   rw [bif_pos (by exact decide_eq_true hl30), hr]
   refine (bif_pos rfl).trans ?_
   rw [bif_pos (by exact decide_eq_true hl30)]
   exact bif_pos rfl
 | true =>
   have hp : POk (PS.new (l.take 30)).play := POk.play (POk.new hl30 hr)
   have hns : ∀ n ∈ ((t.take 12).map clampT), 0 ≤ n ∧ n ≤ 1000000 := by
    intro n hn
    obtain ⟨y, _, rfl⟩ := List.mem_map.1 hn
    exact clampT_bd y
   have hsum : ∀ (m : List Int), (∀ n ∈ m, 0 ≤ n ∧ n ≤ 1000000) → 0 ≤ m.sum ∧ m.sum ≤ 1000000 * m.length := by
    intro m
    induction m with
    | nil => intro _; simp
    | cons x m ih =>
      intro h
      have h1 := h x List.mem_cons_self
      have h2 := ih fun y hy => h y (List.mem_cons_of_mem _ hy)
      simp only [List.sum_cons, List.length_cons]
      push_cast
      omega
   have h12 : ((t.take 12).map clampT).length ≤ 12 := by rw [List.length_map, List.length_take]; omega
   obtain ⟨g0, g1⟩ := hsum _ hns
   have e1 := ticksF_first (stabN (l.take 30)) (List.replicate (l.take 30).length false) ((t.take 12).map clampT) 0 (PS.new (l.take 30)).play [] hns rfl rfl rfl rfl rfl rfl (by show (0 : Int) + _ ≤ _; omega) rfl
   have e2 := tick_first (p := (PS.new (l.take 30)).play) (n := ((t.take 12).map clampT).sum) g0 (by omega) rfl rfl rfl rfl rfl (by show (0 : Int) + _ ≤ _; omega)
   obtain ⟨N, hN⟩ := f3_loop kk t (PS.new (l.take 30)).play hp (min t.length 12) 0 false (PS.new (l.take 30)).play [] 0 (fun _ => rfl) (by omega) hp rfl rfl rfl rfl rfl rfl (by omega) (by omega) (by simp) (by
    have et : (t.drop 0).take (min t.length 12) = t.take 12 := by
     rw [List.drop_zero]
     rcases Nat.le_total t.length 12 with h | h
     ·rw [Nat.min_eq_left h, List.take_of_length_le (Nat.le_refl _), List.take_of_length_le h]
     ·rw [Nat.min_eq_right h]
    rw [et, Int.zero_add, e1, e2]
    refine ⟨rfl, ?_, ?_, ?_⟩
    ·rw [Nat.zero_add]; rfl
    ·show (runs _ _ _ _ _).1 = _
     rw [runs_many _ _ _ _ _ (.inl (by show (0 : Int) ≤ 0; omega)), many_place]
     show (0 : Int) + _ = _
     omega
    ·rw [Nat.zero_add]; rfl)
   refine ⟨N + 1, ?_⟩
   rw [vrun_succ]
   refine (f3_go _ kk l t).trans ?_
   rw [bif_pos (by exact decide_eq_true hl30), hr]
   refine (bif_neg rfl).trans ?_
   rw [bif_pos (by exact decide_eq_true hl30)]
   refine (bif_neg rfl).trans ?_
   exact hN
end
end Vm.S14
namespace Go.Proofs.YtkhclggkicnndaaDoor
open Go.ChangeShapes Go.WideShapes Go.ChangeAt Go.WideMaps Go.WideElems Go.RowKit Vm
theorem own : ownKnob Tryd.prog.godebug = none := by kernel_rfl
theorem laidOut : laidOutB Tryd.prog = true := by kernel_rfl
theorem et : Tryd.prog.globalNamed "errors.errorType" = some 0 := by kernel_rfl
theorem rt : (Tryd.prog.cutTypes.find? (·.1 == "internal/reflectlite.rtype")).map (·.2) = some 117 := by kernel_rfl
theorem oneRow : ((List.range 177).filter fun t => Tryd.prog.rowNamed t [101, 114, 114, 111, 114]) = [76] := by kernel_rfl
theorem tsize : Tryd.prog.types.size = 177 := by kernel_rfl
abbrev theLaid : List (String × DataW Unit) := [("errors.errorType", Rows.laid_errors_errorType)]
theorem handle_of_laid {W : World} (h : laidMetH Tryd.prog theLaid W) : W.cell? ⟨0, 0, none⟩ = some (.iface 117 (.agg #[.pointer (some ⟨1, 76, none⟩)])) := by
 have h' : laidMet Tryd.prog [] W ∧ handlesMet Tryd.prog theLaid W := h
 obtain ⟨name, u, ty, e1, e2, e3, e4, e5⟩ := h'.2 _ (List.mem_singleton.2 rfl)
 have en : name = [101, 114, 114, 111, 114] := (Option.some.inj e1).symm
 subst en
 obtain rfl := Option.some.inj (rt.symm.trans e2)
 have hm : ty ∈ (List.range 177).filter fun t => Tryd.prog.rowNamed t [101, 114, 114, 111, 114] := List.mem_filter.2 ⟨List.mem_range.2 (by rw [← tsize]; exact e3), e4⟩
 rw [oneRow] at hm
 obtain rfl := List.mem_singleton.1 hm
 have hh : typeHandle Tryd.prog 76 = .pointer (some ⟨1, 76, none⟩) := by kernel_rfl
 rw [hh] at e5
 simpa using World.var?_cell et e5 0
theorem globs {W : World} (h : laidMetH Tryd.prog theLaid W) : GlobOk S14.gls W (allOld W) := by
 refine ⟨(fun g r xs hg => (by cases hg)), fun g v hv => ?_⟩
 have hv' : (if g = 0 then some (Value.iface 117 (.agg #[.pointer (some ⟨1, 76, none⟩)])) else none) = some v := hv
 split at hv'
 ·rename_i e
  subst e
  cases hv'
  have hc := handle_of_laid h
  unfold World.cell? at hc
  split at hc
  ·rename_i cs T fz hb
   have hb' : W.heap[0]? = some (.cells cs T fz) := hb
   refine ⟨(Array.getElem?_eq_some_iff.1 hb').1, cs, T, fz, hb', ?_⟩
   simpa using hc
  ·cases hc
 ·cases hv'
noncomputable def W0 (os : Os) : World :=
 let w0 := World.holding Tryd.prog os ⟨#[], #[], []⟩
 { w0 with heap := w0.heap.modify 0 fun
     | .cells _ t frozen => .cells #[.iface 117 (.agg #[.pointer (some ⟨1, 76, none⟩)])] t frozen
     | o => o }
theorem laid_met (os : Os) (args : Array Value) : laidMetH Tryd.prog theLaid ((W0 os).forCall (fun _ _ => 0) ⟨#[], args, []⟩).memory :=
 laidMetH_of_parts (laidMet_nil _ _) (by kernel_rfl)
end Go.Proofs.YtkhclggkicnndaaDoor
