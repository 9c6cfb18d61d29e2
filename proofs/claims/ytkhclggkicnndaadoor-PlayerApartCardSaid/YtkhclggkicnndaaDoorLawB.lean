/- The sort of keys as runs of the value machine: insertion, partition, heaps. -/
import Derived.Test.YtkhclggkicnndaaDoorLawA
import Derived.Test.YtkhclggkicnndaaDoorVmE
import Derived.KernelRfl
import Derived.Test.YtkhclggkicnndaaDoorWords
set_option maxRecDepth 100000
open Go Go.Proofs Go.IntKind
namespace Vm.S14
variable {R : Type} (J : List Item → St → Option R) (kk : V → List Ob → Option R)
noncomputable abbrev f79cuts : Cuts := fun _ => none
noncomputable abbrev k79 {Q : Type} (k : V → List Ob → Option Q) := vend (E11 8) 0 (fb Tryd.f79).1.results.toList false k
theorem f79_go (n : Int) :
 vseg (E11 8) f79cuts 0 J (k79 kk) 100000 true [.code (fb Tryd.f79).2] (start ([V.int i64 n]) ([])) =
 (bif decide ((4294967296 : Int) ≤ u64.wrap n) then
 (bif decide ((65536 : Int) ≤ (u64.wrap n).fdiv ((2 : Int) ^ min (Int.toNat (32 : Int)) u64.bits)) then
 (bif decide ((256 : Int) ≤ ((u64.wrap n).fdiv ((2 : Int) ^ min (Int.toNat (32 : Int)) u64.bits)).fdiv ((2 : Int) ^ min (Int.toNat (16 : Int)) u64.bits)) then
 (match idx len8tab (u8.wrap ((((u64.wrap n).fdiv ((2 : Int) ^ min (Int.toNat (32 : Int)) u64.bits)).fdiv ((2 : Int) ^ min (Int.toNat (16 : Int)) u64.bits)).fdiv ((2 : Int) ^ min (Int.toNat (8 : Int)) u64.bits))) with
 | some y1 => (bif decide (i64.wrap (i64.wrap (i64.wrap ((32 : Int) + 16) + 8) + i64.wrap (↑y1.toNat : Int)) < 0) then
 none
 else kk (V.int u64 (u64.wrap ((1 : Int) * 2 ^ min (i64.wrap (i64.wrap (i64.wrap ((32 : Int) + 16) + 8) + i64.wrap (↑y1.toNat : Int))).toNat u64.bits))) ([]))
 | none => none)
 else (match idx len8tab (u8.wrap (((u64.wrap n).fdiv ((2 : Int) ^ min (Int.toNat (32 : Int)) u64.bits)).fdiv ((2 : Int) ^ min (Int.toNat (16 : Int)) u64.bits))) with
 | some y2 => (bif decide (i64.wrap (i64.wrap ((32 : Int) + 16) + i64.wrap (↑y2.toNat : Int)) < 0) then
 none
 else kk (V.int u64 (u64.wrap ((1 : Int) * 2 ^ min (i64.wrap (i64.wrap ((32 : Int) + 16) + i64.wrap (↑y2.toNat : Int))).toNat u64.bits))) ([]))
 | none => none))
 else (bif decide ((256 : Int) ≤ (u64.wrap n).fdiv ((2 : Int) ^ min (Int.toNat (32 : Int)) u64.bits)) then
 (match idx len8tab (u8.wrap (((u64.wrap n).fdiv ((2 : Int) ^ min (Int.toNat (32 : Int)) u64.bits)).fdiv ((2 : Int) ^ min (Int.toNat (8 : Int)) u64.bits))) with
 | some y3 => (bif decide (i64.wrap (i64.wrap ((32 : Int) + 8) + i64.wrap (↑y3.toNat : Int)) < 0) then
 none
 else kk (V.int u64 (u64.wrap ((1 : Int) * 2 ^ min (i64.wrap (i64.wrap ((32 : Int) + 8) + i64.wrap (↑y3.toNat : Int))).toNat u64.bits))) ([]))
 | none => none)
 else (match idx len8tab (u8.wrap ((u64.wrap n).fdiv ((2 : Int) ^ min (Int.toNat (32 : Int)) u64.bits))) with
 | some y4 => (bif decide (i64.wrap ((32 : Int) + i64.wrap (↑y4.toNat : Int)) < 0) then
 none
 else kk (V.int u64 (u64.wrap ((1 : Int) * 2 ^ min (i64.wrap ((32 : Int) + i64.wrap (↑y4.toNat : Int))).toNat u64.bits))) ([]))
 | none => none)))
 else (bif decide ((65536 : Int) ≤ u64.wrap n) then
 (bif decide ((256 : Int) ≤ (u64.wrap n).fdiv ((2 : Int) ^ min (Int.toNat (16 : Int)) u64.bits)) then
 (match idx len8tab (u8.wrap (((u64.wrap n).fdiv ((2 : Int) ^ min (Int.toNat (16 : Int)) u64.bits)).fdiv ((2 : Int) ^ min (Int.toNat (8 : Int)) u64.bits))) with
 | some y5 => (bif decide (i64.wrap (i64.wrap (i64.wrap ((0 : Int) + 16) + 8) + i64.wrap (↑y5.toNat : Int)) < 0) then
 none
 else kk (V.int u64 (u64.wrap ((1 : Int) * 2 ^ min (i64.wrap (i64.wrap (i64.wrap ((0 : Int) + 16) + 8) + i64.wrap (↑y5.toNat : Int))).toNat u64.bits))) ([]))
 | none => none)
 else (match idx len8tab (u8.wrap ((u64.wrap n).fdiv ((2 : Int) ^ min (Int.toNat (16 : Int)) u64.bits))) with
 | some y6 => (bif decide (i64.wrap (i64.wrap ((0 : Int) + 16) + i64.wrap (↑y6.toNat : Int)) < 0) then
 none
 else kk (V.int u64 (u64.wrap ((1 : Int) * 2 ^ min (i64.wrap (i64.wrap ((0 : Int) + 16) + i64.wrap (↑y6.toNat : Int))).toNat u64.bits))) ([]))
 | none => none))
 else (bif decide ((256 : Int) ≤ u64.wrap n) then
 (match idx len8tab (u8.wrap ((u64.wrap n).fdiv ((2 : Int) ^ min (Int.toNat (8 : Int)) u64.bits))) with
 | some y7 => (bif decide (i64.wrap (i64.wrap ((0 : Int) + 8) + i64.wrap (↑y7.toNat : Int)) < 0) then
 none
 else kk (V.int u64 (u64.wrap ((1 : Int) * 2 ^ min (i64.wrap (i64.wrap ((0 : Int) + 8) + i64.wrap (↑y7.toNat : Int))).toNat u64.bits))) ([]))
 | none => none)
 else (match idx len8tab (u8.wrap (u64.wrap n)) with
 | some y8 => (bif decide (i64.wrap ((0 : Int) + i64.wrap (↑y8.toNat : Int)) < 0) then
 none
 else kk (V.int u64 (u64.wrap ((1 : Int) * 2 ^ min (i64.wrap ((0 : Int) + i64.wrap (↑y8.toNat : Int))).toNat u64.bits))) ([]))
 | none => none)))) := by kernel_rfl
noncomputable abbrev f80cuts : Cuts := fun _ => none
noncomputable abbrev k80 {Q : Type} (k : V → List Ob → Option Q) := vend (E11 8) 1 (fb Tryd.f80).1.results.toList false k
theorem f80_go (r : Int) :
 vseg (E11 8) f80cuts 1 J (k80 kk) 100000 true [.code (fb Tryd.f80).2] (start ([V.ref (0 : Nat) (0 : Nat) (0 : Nat) (0 : Nat)]) ([Ob.var [V.int u64 r]])) =
 kk (V.int u64 (bitop BinOp.xor u64 (bitop BinOp.xor u64 (bitop BinOp.xor u64 r (u64.wrap (r * 2 ^ min (Int.toNat (13 : Int)) u64.bits))) ((bitop BinOp.xor u64 r (u64.wrap (r * 2 ^ min (Int.toNat (13 : Int)) u64.bits))).fdiv ((2 : Int) ^ min (Int.toNat (7 : Int)) u64.bits))) (u64.wrap (bitop BinOp.xor u64 (bitop BinOp.xor u64 r (u64.wrap (r * 2 ^ min (Int.toNat (13 : Int)) u64.bits))) ((bitop BinOp.xor u64 r (u64.wrap (r * 2 ^ min (Int.toNat (13 : Int)) u64.bits))).fdiv ((2 : Int) ^ min (Int.toNat (7 : Int)) u64.bits)) * 2 ^ min (Int.toNat (17 : Int)) u64.bits)))) ([Ob.var [V.int u64 (bitop BinOp.xor u64 (bitop BinOp.xor u64 (bitop BinOp.xor u64 r (u64.wrap (r * 2 ^ min (Int.toNat (13 : Int)) u64.bits))) ((bitop BinOp.xor u64 r (u64.wrap (r * 2 ^ min (Int.toNat (13 : Int)) u64.bits))).fdiv ((2 : Int) ^ min (Int.toNat (7 : Int)) u64.bits))) (u64.wrap (bitop BinOp.xor u64 (bitop BinOp.xor u64 r (u64.wrap (r * 2 ^ min (Int.toNat (13 : Int)) u64.bits))) ((bitop BinOp.xor u64 r (u64.wrap (r * 2 ^ min (Int.toNat (13 : Int)) u64.bits))).fdiv ((2 : Int) ^ min (Int.toNat (7 : Int)) u64.bits)) * 2 ^ min (Int.toNat (17 : Int)) u64.bits)))]]) := by kernel_rfl
end Vm.S14
open Go Go.Proofs Go.IntKind
namespace Vm.S14
variable {R : Type} (J : List Item → St → Option R) (kk : V → List Ob → Option R)
noncomputable abbrev f67cuts : Cuts := look [(1, [0, 1, 2, 3, 8]), (4, [0, 1, 2, 3, 8, 9])]
noncomputable abbrev f67t4 : List Item := itemsAt (fb Tryd.f67).2 4
noncomputable abbrev f67t1 : List Item := itemsAt (fb Tryd.f67).2 1
def f67s0 (a b n1 : Int) (l2 : List (Int × Int)) : St := { fr := [(0, V.own 0), (1, V.int i64 a), (2, V.int i64 b), (3, V.fn 50 [] []), (8, V.int i64 n1)], hp := [(0, Ob.arr rK2 l2 false)], nx := 1 }
def f67s1 (a b n1 n3 : Int) (l4 : List (Int × Int)) : St := { fr := [(0, V.own 0), (1, V.int i64 a), (2, V.int i64 b), (3, V.fn 50 [] []), (8, V.int i64 n1), (9, V.int i64 n3)], hp := [(0, Ob.arr rK2 l4 false)], nx := 1 }
noncomputable abbrev k67 {Q : Type} (k : V → List Ob → Option Q) := vend (E12 8) 1 (fb Tryd.f67).1.results.toList false k
theorem f67_go (a b : Int) (l : List (Int × Int)) :
 vseg (E12 8) f67cuts 1 J (k67 kk) 100000 true [.code (fb Tryd.f67).2] (start ([V.own (0 : Nat), V.int i64 a, V.int i64 b, V.fn (50 : Nat) [] []]) ([Ob.arr rK2 l false])) =
 J f67t1 (f67s0 a b (i64.wrap (a + 1)) l) := by kernel_rfl
theorem f67_0 (a b n1 : Int) (l2 : List (Int × Int)) :
 vseg (E12 8) f67cuts 1 J (k67 kk) 100000 true f67t1 (f67s0 a b n1 l2) =
 (bif decide (n1 < b) then
 J f67t4 (f67s1 a b n1 n1 l2)
 else kk (V.tuple []) ([Ob.arr rK2 l2 false])) := by kernel_rfl
theorem f67_1 (a b n1 n3 : Int) (l4 : List (Int × Int)) :
 vseg (E12 8) f67cuts 1 J (k67 kk) 100000 true f67t4 (f67s1 a b n1 n3 l4) =
 (bif decide (a < n3) then
 (match idx l4 n3 with
 | some _ => (match l4[n3.toNat]? with
 | some y6 => (match idx l4 (i64.wrap (n3 - 1)) with
 | some _ => (match l4[(i64.wrap (n3 - 1)).toNat]? with
 | some y8 => (bif decide (cmpK y6 y8 < 0) then
 (match idx l4 (i64.wrap (n3 - 1)) with
 | some _ => (match l4[(i64.wrap (n3 - 1)).toNat]? with
 | some y10 => (match idx l4 n3 with
 | some _ => (match l4[n3.toNat]? with
 | some y12 => (match idx l4 n3 with
 | some _ => (match l4[n3.toNat]? with
 | some _ => (match idx (l4.set n3.toNat y10) (i64.wrap (n3 - 1)) with
 | some _ => (match (l4.set n3.toNat y10)[(i64.wrap (n3 - 1)).toNat]? with
 | some _ => J f67t4 (f67s1 a b n1 (i64.wrap (n3 - 1)) ((l4.set n3.toNat y10).set (i64.wrap (n3 - 1)).toNat y12))
 | none => none)
 | none => none)
 | none => none)
 | none => none)
 | none => none)
 | none => none)
 | none => none)
 | none => none)
 else J f67t1 (f67s0 a b (i64.wrap (n1 + 1)) l4))
 | none => none)
 | none => none)
 | none => none)
 | none => none)
 else J f67t1 (f67s0 a b (i64.wrap (n1 + 1)) l4)) := by kernel_rfl
noncomputable abbrev f78cuts : Cuts := look [(1, [0, 2, 3, 4, 10])]
noncomputable abbrev f78t1 : List Item := itemsAt (fb Tryd.f78).2 1
def f78s0 (hi first n1 : Int) (l2 : List (Int × Int)) : St := { fr := [(0, V.own 0), (2, V.int i64 hi), (3, V.int i64 first), (4, V.fn 50 [] []), (10, V.int i64 n1)], hp := [(0, Ob.arr rK2 l2 false)], nx := 1 }
noncomputable abbrev k78 {Q : Type} (k : V → List Ob → Option Q) := vend (E12 8) 1 (fb Tryd.f78).1.results.toList false k
theorem f78_go (lo hi first : Int) (l : List (Int × Int)) :
 vseg (E12 8) f78cuts 1 J (k78 kk) 100000 true [.code (fb Tryd.f78).2] (start ([V.own (0 : Nat), V.int i64 lo, V.int i64 hi, V.int i64 first, V.fn (50 : Nat) [] []]) ([Ob.arr rK2 l false])) =
 J f78t1 (f78s0 (hi) (first) (lo) l) := by kernel_rfl
theorem f78_0 (hi first n1 : Int) (l2 : List (Int × Int)) :
 vseg (E12 8) f78cuts 1 J (k78 kk) 100000 true f78t1 (f78s0 hi first n1 l2) =
 (bif decide (hi ≤ i64.wrap (i64.wrap ((2 : Int) * n1) + 1)) then
 kk (V.tuple []) ([Ob.arr rK2 l2 false])
 else (bif decide (i64.wrap (i64.wrap (i64.wrap ((2 : Int) * n1) + 1) + 1) < hi) then
 (match idx l2 (i64.wrap (first + i64.wrap (i64.wrap ((2 : Int) * n1) + 1))) with
 | some _ => (match l2[(i64.wrap (first + i64.wrap (i64.wrap ((2 : Int) * n1) + 1))).toNat]? with
 | some y4 => (match idx l2 (i64.wrap (i64.wrap (first + i64.wrap (i64.wrap ((2 : Int) * n1) + 1)) + 1)) with
 | some _ => (match l2[(i64.wrap (i64.wrap (first + i64.wrap (i64.wrap ((2 : Int) * n1) + 1)) + 1)).toNat]? with
 | some y6 => (bif decide (cmpK y4 y6 < 0) then
 (match idx l2 (i64.wrap (first + n1)) with
 | some _ => (match l2[(i64.wrap (first + n1)).toNat]? with
 | some y8 => (match idx l2 (i64.wrap (first + i64.wrap (i64.wrap (i64.wrap ((2 : Int) * n1) + 1) + 1))) with
 | some _ => (match l2[(i64.wrap (first + i64.wrap (i64.wrap (i64.wrap ((2 : Int) * n1) + 1) + 1))).toNat]? with
 | some y10 => (bif !decide (cmpK y8 y10 < 0) then
 kk (V.tuple []) ([Ob.arr rK2 l2 false])
 else (match idx l2 (i64.wrap (first + i64.wrap (i64.wrap (i64.wrap ((2 : Int) * n1) + 1) + 1))) with
 | some _ => (match l2[(i64.wrap (first + i64.wrap (i64.wrap (i64.wrap ((2 : Int) * n1) + 1) + 1))).toNat]? with
 | some y12 => (match idx l2 (i64.wrap (first + n1)) with
 | some _ => (match l2[(i64.wrap (first + n1)).toNat]? with
 | some y14 => (match idx l2 (i64.wrap (first + n1)) with
 | some _ => (match l2[(i64.wrap (first + n1)).toNat]? with
 | some _ => (match idx (l2.set (i64.wrap (first + n1)).toNat y12) (i64.wrap (first + i64.wrap (i64.wrap (i64.wrap ((2 : Int) * n1) + 1) + 1))) with
 | some _ => (match (l2.set (i64.wrap (first + n1)).toNat y12)[(i64.wrap (first + i64.wrap (i64.wrap (i64.wrap ((2 : Int) * n1) + 1) + 1))).toNat]? with
 | some _ => J f78t1 (f78s0 (hi) (first) (i64.wrap (i64.wrap (i64.wrap ((2 : Int) * n1) + 1) + 1)) ((l2.set (i64.wrap (first + n1)).toNat y12).set (i64.wrap (first + i64.wrap (i64.wrap (i64.wrap ((2 : Int) * n1) + 1) + 1))).toNat y14))
 | none => none)
 | none => none)
 | none => none)
 | none => none)
 | none => none)
 | none => none)
 | none => none)
 | none => none))
 | none => none)
 | none => none)
 | none => none)
 | none => none)
 else (match idx l2 (i64.wrap (first + n1)) with
 | some _ => (match l2[(i64.wrap (first + n1)).toNat]? with
 | some y20 => (match idx l2 (i64.wrap (first + i64.wrap (i64.wrap ((2 : Int) * n1) + 1))) with
 | some _ => (match l2[(i64.wrap (first + i64.wrap (i64.wrap ((2 : Int) * n1) + 1))).toNat]? with
 | some y22 => (bif !decide (cmpK y20 y22 < 0) then
 kk (V.tuple []) ([Ob.arr rK2 l2 false])
 else (match idx l2 (i64.wrap (first + i64.wrap (i64.wrap ((2 : Int) * n1) + 1))) with
 | some _ => (match l2[(i64.wrap (first + i64.wrap (i64.wrap ((2 : Int) * n1) + 1))).toNat]? with
 | some y24 => (match idx l2 (i64.wrap (first + n1)) with
 | some _ => (match l2[(i64.wrap (first + n1)).toNat]? with
 | some y26 => (match idx l2 (i64.wrap (first + n1)) with
 | some _ => (match l2[(i64.wrap (first + n1)).toNat]? with
 | some _ => (match idx (l2.set (i64.wrap (first + n1)).toNat y24) (i64.wrap (first + i64.wrap (i64.wrap ((2 : Int) * n1) + 1))) with
 | some _ => (match (l2.set (i64.wrap (first + n1)).toNat y24)[(i64.wrap (first + i64.wrap (i64.wrap ((2 : Int) * n1) + 1))).toNat]? with
 | some _ => J f78t1 (f78s0 (hi) (first) (i64.wrap (i64.wrap ((2 : Int) * n1) + 1)) ((l2.set (i64.wrap (first + n1)).toNat y24).set (i64.wrap (first + i64.wrap (i64.wrap ((2 : Int) * n1) + 1))).toNat y26))
 | none => none)
 | none => none)
 | none => none)
 | none => none)
 | none => none)
 | none => none)
 | none => none)
 | none => none))
 | none => none)
 | none => none)
 | none => none)
 | none => none))
 | none => none)
 | none => none)
 | none => none)
 | none => none)
 else (match idx l2 (i64.wrap (first + n1)) with
 | some _ => (match l2[(i64.wrap (first + n1)).toNat]? with
 | some y32 => (match idx l2 (i64.wrap (first + i64.wrap (i64.wrap ((2 : Int) * n1) + 1))) with
 | some _ => (match l2[(i64.wrap (first + i64.wrap (i64.wrap ((2 : Int) * n1) + 1))).toNat]? with
 | some y34 => (bif !decide (cmpK y32 y34 < 0) then
 kk (V.tuple []) ([Ob.arr rK2 l2 false])
 else (match idx l2 (i64.wrap (first + i64.wrap (i64.wrap ((2 : Int) * n1) + 1))) with
 | some _ => (match l2[(i64.wrap (first + i64.wrap (i64.wrap ((2 : Int) * n1) + 1))).toNat]? with
 | some y36 => (match idx l2 (i64.wrap (first + n1)) with
 | some _ => (match l2[(i64.wrap (first + n1)).toNat]? with
 | some y38 => (match idx l2 (i64.wrap (first + n1)) with
 | some _ => (match l2[(i64.wrap (first + n1)).toNat]? with
 | some _ => (match idx (l2.set (i64.wrap (first + n1)).toNat y36) (i64.wrap (first + i64.wrap (i64.wrap ((2 : Int) * n1) + 1))) with
 | some _ => (match (l2.set (i64.wrap (first + n1)).toNat y36)[(i64.wrap (first + i64.wrap (i64.wrap ((2 : Int) * n1) + 1))).toNat]? with
 | some _ => J f78t1 (f78s0 (hi) (first) (i64.wrap (i64.wrap ((2 : Int) * n1) + 1)) ((l2.set (i64.wrap (first + n1)).toNat y36).set (i64.wrap (first + i64.wrap (i64.wrap ((2 : Int) * n1) + 1))).toNat y38))
 | none => none)
 | none => none)
 | none => none)
 | none => none)
 | none => none)
 | none => none)
 | none => none)
 | none => none))
 | none => none)
 | none => none)
 | none => none)
 | none => none))) := by kernel_rfl
noncomputable abbrev f71cuts : Cuts := look [(2, [0, 8, 9])]
noncomputable abbrev f71t2 : List Item := itemsAt (fb Tryd.f71).2 2
def f71s0 (n1 n2 : Int) (l3 : List (Int × Int)) : St := { fr := [(0, V.own 0), (8, V.int i64 n1), (9, V.int i64 n2)], hp := [(0, Ob.arr rK2 l3 false)], nx := 1 }
noncomputable abbrev k71 {Q : Type} (k : V → List Ob → Option Q) := vend (E12 8) 1 (fb Tryd.f71).1.results.toList false k
theorem f71_go (a b : Int) (l : List (Int × Int)) :
 vseg (E12 8) f71cuts 1 J (k71 kk) 100000 true [.code (fb Tryd.f71).2] (start ([V.own (0 : Nat), V.int i64 a, V.int i64 b, V.fn (50 : Nat) [] []]) ([Ob.arr rK2 l false])) =
 J f71t2 (f71s0 a (i64.wrap (b - 1)) l) := by kernel_rfl
theorem f71_0 (n1 n2 : Int) (l3 : List (Int × Int)) :
 vseg (E12 8) f71cuts 1 J (k71 kk) 100000 true f71t2 (f71s0 n1 n2 l3) =
 (bif decide (n1 < n2) then
 (match idx l3 n2 with
 | some _ => (match l3[n2.toNat]? with
 | some y5 => (match idx l3 n1 with
 | some _ => (match l3[n1.toNat]? with
 | some y7 => (match idx l3 n1 with
 | some _ => (match l3[n1.toNat]? with
 | some _ => (match idx (l3.set n1.toNat y5) n2 with
 | some _ => (match (l3.set n1.toNat y5)[n2.toNat]? with
 | some _ => J f71t2 (f71s0 (i64.wrap (n1 + 1)) (i64.wrap (n2 - 1)) ((l3.set n1.toNat y5).set n2.toNat y7))
 | none => none)
 | none => none)
 | none => none)
 | none => none)
 | none => none)
 | none => none)
 | none => none)
 | none => none)
 else kk (V.tuple []) ([Ob.arr rK2 l3 false])) := by kernel_rfl
end Vm.S14
open Go Go.Proofs
namespace Vm.S14
theorem f67_inner {R : Type} (kk : V → List Ob → Option R) (x : Option R) (a b i n : Nat) (hn : n < 1000000000) (hi : i < n) : ∀ (j : Nat) (d : Array KtP), d.size = n → j ≤ i →
  (∃ N, vrun (E12 8) f67cuts 1 100000 (k67 kk) N f67t1 (f67s0 a b ((i + 1 : Nat) : Int) (arL encK (Go.Sort.insInner ltK a j d))) = x) →
  ∃ N, vrun (E12 8) f67cuts 1 100000 (k67 kk) N f67t4 (f67s1 a b i j (arL encK d)) = x := by
 intro j
 induction j with
 | zero =>
   intro d hd _ hN
   obtain ⟨N, hN⟩ := hN
   refine ⟨N + 1, ?_⟩
   rw [vrun_succ, f67_1, bif_neg (by exact decide_eq_false (by omega)), wadd1 (by omega)]
   exact hN
 | succ j ih =>
   intro d hd hj hN
   rw [Go.Sort.insInner] at hN
   by_cases h1 : a < j + 1
   ·cases h2 : ltK d[j + 1]! d[j]! with
    | true =>
      rw [if_pos (by rw [h2, decide_eq_true h1]; rfl)] at hN
      obtain ⟨N, hN⟩ := ih (Go.Sort.swp d (j + 1) j) (by rw [swp_size]; exact hd) (by omega) hN
      refine ⟨N + 1, ?_⟩
      rw [vrun_succ, f67_1, bif_pos (by exact decide_eq_true (by omega))]
      simp (disch := omega) only [wsub1, Nat.add_sub_cancel, idx_nat, Int.toNat_natCast, arL_get, arL_set_get, ltK_fold, h2, cond_true, arL_swp]
      exact hN
    | false =>
      rw [if_neg (by rw [h2, Bool.and_false]; decide)] at hN
      obtain ⟨N, hN⟩ := hN
      refine ⟨N + 1, ?_⟩
      rw [vrun_succ, f67_1, bif_pos (by exact decide_eq_true (by omega))]
      simp (disch := omega) only [wsub1, wadd1, Nat.add_sub_cancel, idx_nat, Int.toNat_natCast, arL_get, ltK_fold, h2, cond_false]
      exact hN
   ·rw [if_neg (by rw [decide_eq_false (show ¬ j + 1 > a from h1), Bool.false_and]; decide)] at hN
    obtain ⟨N, hN⟩ := hN
    refine ⟨N + 1, ?_⟩
    rw [vrun_succ, f67_1, bif_neg (by exact decide_eq_false (by omega)), wadd1 (by omega)]
    exact hN
theorem f67_outer {R : Type} (kk : V → List Ob → Option R) (a b n : Nat) (hn : n < 1000000000) (hb : b ≤ n) : ∀ (k i : Nat) (d : Array KtP), b - i ≤ k → d.size = n →
  ∃ N, vrun (E12 8) f67cuts 1 100000 (k67 kk) N f67t1 (f67s0 a b i (arL encK d)) = kk (.tuple []) [.arr rK2 (arL encK (Go.Sort.insOuter ltK a b i d)) false] := by
 intro k
 induction k with
 | zero =>
   intro i d hk hd
   refine ⟨1, ?_⟩
   rw [vrun_succ, f67_0, bif_neg (by exact decide_eq_false (by omega))]
   unfold Go.Sort.insOuter
   rw [if_neg (by omega)]
   all_goals rfl
 | succ k ih =>
   intro i d hk hd
   unfold Go.Sort.insOuter
   by_cases h : i < b
   ·rw [if_pos h]
    obtain ⟨N, hN⟩ := f67_inner kk _ a b i n hn (by omega) i d hd (Nat.le_refl _) (ih (i + 1) (Go.Sort.insInner ltK a i d) (by omega) (by rw [insInner_size]; exact hd))
    refine ⟨N + 1, ?_⟩
    rw [vrun_succ, f67_0, bif_pos (by exact decide_eq_true (by omega))]
    exact hN
   ·rw [if_neg h]
    refine ⟨1, ?_⟩
    rw [vrun_succ, f67_0, bif_neg (by exact decide_eq_false (by omega))]
    all_goals rfl
theorem f67_run {R : Type} (kk : V → List Ob → Option R) (a b : Nat) (d : Array KtP) (hn : d.size < 1000000000) (hb : b ≤ d.size) (ha : a < 1000000000) :
  ∃ N, vrun (E12 8) f67cuts 1 100000 (k67 kk) N [.code (fb Tryd.f67).2] (start [.own 0, .int .i64 a, .int .i64 b, .fn 50 [] []] [.arr rK2 (arL encK d) false]) = kk (.tuple []) [.arr rK2 (arL encK (Go.Sort.insertionSort ltK d a b)) false] := by
 obtain ⟨N, hN⟩ := f67_outer kk a b d.size hn hb (b - (a + 1)) (a + 1) d (Nat.le_refl _) rfl
 refine ⟨N + 1, ?_⟩
 rw [vrun_succ]
 refine (f67_go _ kk a b _).trans ?_
 rw [wadd1 (by omega)]
 exact hN
theorem f71_loop {R : Type} (kk : V → List Ob → Option R) (n : Nat) (hn : n < 1000000000) : ∀ (k i j : Nat) (d : Array KtP), j - i ≤ k → j < n → d.size = n →
  ∃ N, vrun (E12 8) f71cuts 1 100000 (k71 kk) N f71t2 (f71s0 i j (arL encK d)) = kk (.tuple []) [.arr rK2 (arL encK (Go.Sort.reverseLoop i j d)) false] := by
 intro k
 induction k with
 | zero =>
   intro i j d hk hj hd
   refine ⟨1, ?_⟩
   rw [vrun_succ, f71_0, bif_neg (by exact decide_eq_false (by omega))]
   unfold Go.Sort.reverseLoop
   rw [if_neg (by omega)]
   all_goals rfl
 | succ k ih =>
   intro i j d hk hj hd
   unfold Go.Sort.reverseLoop
   by_cases h : i < j
   ·rw [if_pos h]
    obtain ⟨N, hN⟩ := ih (i + 1) (j - 1) (Go.Sort.swp d i j) (by omega) (by omega) (by rw [swp_size]; exact hd)
    refine ⟨N + 1, ?_⟩
    rw [vrun_succ, f71_0, bif_pos (by exact decide_eq_true (by omega))]
    simp (disch := omega) only [wsub1, wadd1, idx_nat, Int.toNat_natCast, arL_get, arL_set_get, arL_swp]
    exact hN
   ·rw [if_neg h]
    refine ⟨1, ?_⟩
    rw [vrun_succ, f71_0, bif_neg (by exact decide_eq_false (by omega))]
    all_goals rfl
theorem f71_run {R : Type} (kk : V → List Ob → Option R) (a b : Nat) (d : Array KtP) (hn : d.size < 1000000000) (hb : b ≤ d.size) (hb1 : 1 ≤ b) :
  ∃ N, vrun (E12 8) f71cuts 1 100000 (k71 kk) N [.code (fb Tryd.f71).2] (start [.own 0, .int .i64 a, .int .i64 b, .fn 50 [] []] [.arr rK2 (arL encK d) false]) = kk (.tuple []) [.arr rK2 (arL encK (Go.Sort.reverseRange d a b)) false] := by
 obtain ⟨N, hN⟩ := f71_loop kk d.size hn ((b - 1) - a) a (b - 1) d (Nat.le_refl _) (by omega) rfl
 refine ⟨N + 1, ?_⟩
 rw [vrun_succ]
 refine (f71_go _ kk a b _).trans ?_
 rw [wsub1 hb1 (by omega)]
 exact hN
theorem siftDown_size_K (hi first : Nat) : ∀ (k root : Nat) (d : Array KtP), hi - root ≤ k → (Go.Sort.siftDown ltK hi first root d).size = d.size := by
 intro k
 induction k with
 | zero =>
   intro root d hk
   unfold Go.Sort.siftDown
   rw [dif_pos (by omega)]
 | succ k ih =>
   intro root d hk
   unfold Go.Sort.siftDown
   by_cases h : 2 * root + 1 ≥ hi
   ·rw [dif_pos h]
   ·rw [dif_neg h]
    split
    ·split
     ·rfl
     ·split
      ·rw [ih _ _ (by omega), swp_size]
      ·rfl
    ·split
     ·rfl
     ·rw [ih _ _ (by omega), swp_size]
theorem f78_loop {R : Type} (kk : V → List Ob → Option R) (hi first n : Nat) (hn : n < 1000000000) (hf : first + hi ≤ n) : ∀ (k root : Nat) (d : Array KtP), hi - root ≤ k → root < 1000000000 → d.size = n →
  ∃ N, vrun (E12 8) f78cuts 1 100000 (k78 kk) N f78t1 (f78s0 hi first root (arL encK d)) = kk (.tuple []) [.arr rK2 (arL encK (Go.Sort.siftDown ltK hi first root d)) false] := by
 intro k
 induction k with
 | zero =>
   intro root d hk hr hd
   refine ⟨1, ?_⟩
   unfold Go.Sort.siftDown
   rw [vrun_succ, f78_0, wmul2 (by omega), wadd1 (by omega), bif_pos (by exact decide_eq_true (by omega)), dif_pos (by omega)]
   all_goals rfl
 | succ k ih =>
   intro root d hk hr hd
   unfold Go.Sort.siftDown
   by_cases h : 2 * root + 1 ≥ hi
   ·rw [dif_pos h]
    refine ⟨1, ?_⟩
    rw [vrun_succ, f78_0, wmul2 (by omega), wadd1 (by omega), bif_pos (by exact decide_eq_true (by omega))]
    all_goals rfl
   ·rw [dif_neg h]
    by_cases h1 : 2 * root + 1 + 1 < hi
    ·cases h2 : ltK d[first + (2 * root + 1)]! d[first + (2 * root + 1) + 1]! with
     | true =>
       rw [if_pos (by rw [decide_eq_true h1]; rfl)]
       cases h3 : ltK d[first + root]! d[first + (2 * root + 1 + 1)]! with
       | false =>
         rw [if_pos (by rfl)]
         refine ⟨1, ?_⟩
         rw [vrun_succ, f78_0, wmul2 (by omega), wadd1 (by omega), bif_neg (by exact decide_eq_false (by omega)), wadd1 (by omega), bif_pos (by exact decide_eq_true (by omega))]
         simp (disch := omega) only [wadd, wadd1, idx_nat, Int.toNat_natCast, arL_get, ltK_fold, h2, h3, cond_true, Bool.not_false]
         all_goals rfl
       | true =>
         rw [if_neg (by decide), dif_pos (show 2 * root + 2 < hi from h1)]
         obtain ⟨N, hN⟩ := ih (2 * root + 1 + 1) (Go.Sort.swp d (first + root) (first + (2 * root + 1 + 1))) (by omega) (by omega) (by rw [swp_size]; exact hd)
         refine ⟨N + 1, ?_⟩
         rw [vrun_succ, f78_0, wmul2 (by omega), wadd1 (by omega), bif_neg (by exact decide_eq_false (by omega)), wadd1 (by omega), bif_pos (by exact decide_eq_true (by omega))]
         simp (disch := omega) only [wadd, wadd1, idx_nat, Int.toNat_natCast, arL_get, arL_set_get, arL_swp, ltK_fold, h2, h3, cond_true, cond_false, Bool.not_true]
         exact hN
     | false =>
       rw [if_neg (by rw [Bool.and_false]; decide)]
       cases h3 : ltK d[first + root]! d[first + (2 * root + 1)]! with
       | false =>
         rw [if_pos (by rfl)]
         refine ⟨1, ?_⟩
         rw [vrun_succ, f78_0, wmul2 (by omega), wadd1 (by omega), bif_neg (by exact decide_eq_false (by omega)), wadd1 (by omega), bif_pos (by exact decide_eq_true (by omega))]
         simp (disch := omega) only [wadd, wadd1, idx_nat, Int.toNat_natCast, arL_get, ltK_fold, h2, h3, cond_true, cond_false, Bool.not_false]
         all_goals rfl
       | true =>
         rw [if_neg (by decide)]
         obtain ⟨N, hN⟩ := ih (2 * root + 1) (Go.Sort.swp d (first + root) (first + (2 * root + 1))) (by omega) (by omega) (by rw [swp_size]; exact hd)
         refine ⟨N + 1, ?_⟩
         rw [vrun_succ, f78_0, wmul2 (by omega), wadd1 (by omega), bif_neg (by exact decide_eq_false (by omega)), wadd1 (by omega), bif_pos (by exact decide_eq_true (by omega))]
         simp (disch := omega) only [wadd, wadd1, idx_nat, Int.toNat_natCast, arL_get, arL_set_get, arL_swp, ltK_fold, h2, h3, cond_true, cond_false, Bool.not_true]
         exact hN
    ·rw [if_neg (by rw [decide_eq_false h1, Bool.false_and]; decide)]
     cases h3 : ltK d[first + root]! d[first + (2 * root + 1)]! with
     | false =>
       rw [if_pos (by rfl)]
       refine ⟨1, ?_⟩
       rw [vrun_succ, f78_0, wmul2 (by omega), wadd1 (by omega), bif_neg (by exact decide_eq_false (by omega)), wadd1 (by omega), bif_neg (by exact decide_eq_false (by omega))]
       simp (disch := omega) only [wadd, wadd1, idx_nat, Int.toNat_natCast, arL_get, ltK_fold, h3, cond_true, cond_false, Bool.not_false]
       all_goals rfl
     | true =>
       rw [if_neg (by decide)]
       obtain ⟨N, hN⟩ := ih (2 * root + 1) (Go.Sort.swp d (first + root) (first + (2 * root + 1))) (by omega) (by omega) (by rw [swp_size]; exact hd)
       refine ⟨N + 1, ?_⟩
       rw [vrun_succ, f78_0, wmul2 (by omega), wadd1 (by omega), bif_neg (by exact decide_eq_false (by omega)), wadd1 (by omega), bif_neg (by exact decide_eq_false (by omega))]
       simp (disch := omega) only [wadd, wadd1, idx_nat, Int.toNat_natCast, arL_get, arL_set_get, arL_swp, ltK_fold, h3, cond_true, cond_false, Bool.not_true]
       exact hN
theorem f78_run {R : Type} (kk : V → List Ob → Option R) (lo hi first : Nat) (d : Array KtP) (hn : d.size < 1000000000) (hf : first + hi ≤ d.size) (hl : lo < 1000000000) :
  ∃ N, vrun (E12 8) f78cuts 1 100000 (k78 kk) N [.code (fb Tryd.f78).2] (start [.own 0, .int .i64 lo, .int .i64 hi, .int .i64 first, .fn 50 [] []] [.arr rK2 (arL encK d) false]) = kk (.tuple []) [.arr rK2 (arL encK (Go.Sort.siftDown ltK hi first lo d)) false] := by
 obtain ⟨N, hN⟩ := f78_loop kk hi first d.size hn hf (hi - lo) lo d (Nat.le_refl _) hl rfl
 refine ⟨N + 1, ?_⟩
 rw [vrun_succ]
 refine (f78_go _ kk lo hi first _).trans ?_
 exact hN
end Vm.S14
open Go Go.Proofs Go.IntKind
namespace Vm.S14
variable {R : Type} (J : List Item → St → Option R) (kk : V → List Ob → Option R)
noncomputable abbrev f74cuts : Cuts := look [(3, [0, 1, 4, 12, 13]), (5, [0, 1, 4, 12, 13]), (13, [0, 1, 4, 12, 13]), (15, [0, 1, 4, 12, 13])]
noncomputable abbrev f74t15 : List Item := itemsAt (fb Tryd.f74).2 15
noncomputable abbrev f74t13 : List Item := itemsAt (fb Tryd.f74).2 13
noncomputable abbrev f74t5 : List Item := itemsAt (fb Tryd.f74).2 5
noncomputable abbrev f74t3 : List Item := itemsAt (fb Tryd.f74).2 3
def f74s0 (a n9 b : Int) (l10 : List (Int × Int)) : St := { fr := [(0, V.own 0), (1, V.int i64 a), (4, V.fn 50 [] []), (12, V.int i64 n9), (13, V.int i64 (i64.wrap (b - 1)))], hp := [(0, Ob.arr rK2 l10 false)], nx := 1 }
def f74s1 (a n9 n15 : Int) (l16 : List (Int × Int)) : St := { fr := [(0, V.own 0), (1, V.int i64 a), (4, V.fn 50 [] []), (12, V.int i64 n9), (13, V.int i64 n15)], hp := [(0, Ob.arr rK2 l16 false)], nx := 1 }
def f74s2 (a n37 n38 : Int) (l39 : List (Int × Int)) : St := { fr := [(0, V.own 0), (1, V.int i64 a), (4, V.fn 50 [] []), (12, V.int i64 n37), (13, V.int i64 n38)], hp := [(0, Ob.arr rK2 l39 false)], nx := 1 }
def f74s3 (a n37 n60 : Int) (l61 : List (Int × Int)) : St := { fr := [(0, V.own 0), (1, V.int i64 a), (4, V.fn 50 [] []), (12, V.int i64 n37), (13, V.int i64 n60)], hp := [(0, Ob.arr rK2 l61 false)], nx := 1 }
noncomputable abbrev k74 {Q : Type} (k : V → List Ob → Option Q) := vend (E12 8) 1 (fb Tryd.f74).1.results.toList false k
theorem f74_go (a b p : Int) (l : List (Int × Int)) :
 vseg (E12 8) f74cuts 1 J (k74 kk) 100000 true [.code (fb Tryd.f74).2] (start ([V.own (0 : Nat), V.int i64 a, V.int i64 b, V.int i64 p, V.fn (50 : Nat) [] []]) ([Ob.arr rK2 l false])) =
 (match idx l p with
 | some _ => (match l[p.toNat]? with
 | some y2 => (match idx l a with
 | some _ => (match l[a.toNat]? with
 | some y4 => (match idx l a with
 | some _ => (match l[a.toNat]? with
 | some _ => (match idx (l.set a.toNat y2) p with
 | some _ => (match (l.set a.toNat y2)[p.toNat]? with
 | some _ => J f74t3 (f74s0 a (i64.wrap (a + 1)) b ((l.set a.toNat y2).set p.toNat y4))
 | none => none)
 | none => none)
 | none => none)
 | none => none)
 | none => none)
 | none => none)
 | none => none)
 | none => none) := by kernel_rfl
theorem f74_0 (a n9 b : Int) (l10 : List (Int × Int)) :
 vseg (E12 8) f74cuts 1 J (k74 kk) 100000 true f74t3 (f74s0 a n9 b l10) =
 (bif decide (n9 ≤ i64.wrap (b - 1)) then
 (match idx l10 n9 with
 | some _ => (match l10[n9.toNat]? with
 | some y12 => (match idx l10 a with
 | some _ => (match l10[a.toNat]? with
 | some y14 => (bif decide (cmpK y12 y14 < 0) then
 J f74t3 (f74s0 a (i64.wrap (n9 + 1)) b l10)
 else J f74t5 (f74s1 a n9 (i64.wrap (b - 1)) l10))
 | none => none)
 | none => none)
 | none => none)
 | none => none)
 else J f74t5 (f74s1 a n9 (i64.wrap (b - 1)) l10)) := by kernel_rfl
theorem f74_1 (a n9 n15 : Int) (l16 : List (Int × Int)) :
 vseg (E12 8) f74cuts 1 J (k74 kk) 100000 true f74t5 (f74s1 a n9 n15 l16) =
 (bif decide (n9 ≤ n15) then
 (match idx l16 n15 with
 | some _ => (match l16[n15.toNat]? with
 | some y18 => (match idx l16 a with
 | some _ => (match l16[a.toNat]? with
 | some y20 => (bif !decide (cmpK y18 y20 < 0) then
 J f74t5 (f74s1 a n9 (i64.wrap (n15 - 1)) l16)
 else (bif decide (n15 < n9) then
 (match idx l16 a with
 | some _ => (match l16[a.toNat]? with
 | some y22 => (match idx l16 n15 with
 | some _ => (match l16[n15.toNat]? with
 | some y24 => (match idx l16 n15 with
 | some _ => (match l16[n15.toNat]? with
 | some _ => (match idx (l16.set n15.toNat y22) a with
 | some _ => (match (l16.set n15.toNat y22)[a.toNat]? with
 | some _ => kk (V.tuple [V.int i64 n15, V.bool true]) ([Ob.arr rK2 ((l16.set n15.toNat y22).set a.toNat y24) false])
 | none => none)
 | none => none)
 | none => none)
 | none => none)
 | none => none)
 | none => none)
 | none => none)
 | none => none)
 else (match idx l16 n15 with
 | some _ => (match l16[n15.toNat]? with
 | some y30 => (match idx l16 n9 with
 | some _ => (match l16[n9.toNat]? with
 | some y32 => (match idx l16 n9 with
 | some _ => (match l16[n9.toNat]? with
 | some _ => (match idx (l16.set n9.toNat y30) n15 with
 | some _ => (match (l16.set n9.toNat y30)[n15.toNat]? with
 | some _ => J f74t13 (f74s2 a (i64.wrap (n9 + 1)) (i64.wrap (n15 - 1)) ((l16.set n9.toNat y30).set n15.toNat y32))
 | none => none)
 | none => none)
 | none => none)
 | none => none)
 | none => none)
 | none => none)
 | none => none)
 | none => none)))
 | none => none)
 | none => none)
 | none => none)
 | none => none)
 else (bif decide (n15 < n9) then
 (match idx l16 a with
 | some _ => (match l16[a.toNat]? with
 | some y41 => (match idx l16 n15 with
 | some _ => (match l16[n15.toNat]? with
 | some y43 => (match idx l16 n15 with
 | some _ => (match l16[n15.toNat]? with
 | some _ => (match idx (l16.set n15.toNat y41) a with
 | some _ => (match (l16.set n15.toNat y41)[a.toNat]? with
 | some _ => kk (V.tuple [V.int i64 n15, V.bool true]) ([Ob.arr rK2 ((l16.set n15.toNat y41).set a.toNat y43) false])
 | none => none)
 | none => none)
 | none => none)
 | none => none)
 | none => none)
 | none => none)
 | none => none)
 | none => none)
 else (match idx l16 n15 with
 | some _ => (match l16[n15.toNat]? with
 | some y49 => (match idx l16 n9 with
 | some _ => (match l16[n9.toNat]? with
 | some y51 => (match idx l16 n9 with
 | some _ => (match l16[n9.toNat]? with
 | some _ => (match idx (l16.set n9.toNat y49) n15 with
 | some _ => (match (l16.set n9.toNat y49)[n15.toNat]? with
 | some _ => J f74t13 (f74s2 a (i64.wrap (n9 + 1)) (i64.wrap (n15 - 1)) ((l16.set n9.toNat y49).set n15.toNat y51))
 | none => none)
 | none => none)
 | none => none)
 | none => none)
 | none => none)
 | none => none)
 | none => none)
 | none => none))) := by kernel_rfl
theorem f74_2 (a n37 n38 : Int) (l39 : List (Int × Int)) :
 vseg (E12 8) f74cuts 1 J (k74 kk) 100000 true f74t13 (f74s2 a n37 n38 l39) =
 (bif decide (n37 ≤ n38) then
 (match idx l39 n37 with
 | some _ => (match l39[n37.toNat]? with
 | some y57 => (match idx l39 a with
 | some _ => (match l39[a.toNat]? with
 | some y59 => (bif decide (cmpK y57 y59 < 0) then
 J f74t13 (f74s2 a (i64.wrap (n37 + 1)) n38 l39)
 else J f74t15 (f74s3 a n37 n38 l39))
 | none => none)
 | none => none)
 | none => none)
 | none => none)
 else J f74t15 (f74s3 a n37 n38 l39)) := by kernel_rfl
theorem f74_3 (a n37 n60 : Int) (l61 : List (Int × Int)) :
 vseg (E12 8) f74cuts 1 J (k74 kk) 100000 true f74t15 (f74s3 a n37 n60 l61) =
 (bif decide (n37 ≤ n60) then
 (match idx l61 n60 with
 | some _ => (match l61[n60.toNat]? with
 | some y63 => (match idx l61 a with
 | some _ => (match l61[a.toNat]? with
 | some y65 => (bif !decide (cmpK y63 y65 < 0) then
 J f74t15 (f74s3 a n37 (i64.wrap (n60 - 1)) l61)
 else (bif decide (n60 < n37) then
 (match idx l61 a with
 | some _ => (match l61[a.toNat]? with
 | some y67 => (match idx l61 n60 with
 | some _ => (match l61[n60.toNat]? with
 | some y69 => (match idx l61 n60 with
 | some _ => (match l61[n60.toNat]? with
 | some _ => (match idx (l61.set n60.toNat y67) a with
 | some _ => (match (l61.set n60.toNat y67)[a.toNat]? with
 | some _ => kk (V.tuple [V.int i64 n60, V.bool false]) ([Ob.arr rK2 ((l61.set n60.toNat y67).set a.toNat y69) false])
 | none => none)
 | none => none)
 | none => none)
 | none => none)
 | none => none)
 | none => none)
 | none => none)
 | none => none)
 else (match idx l61 n60 with
 | some _ => (match l61[n60.toNat]? with
 | some y75 => (match idx l61 n37 with
 | some _ => (match l61[n37.toNat]? with
 | some y77 => (match idx l61 n37 with
 | some _ => (match l61[n37.toNat]? with
 | some _ => (match idx (l61.set n37.toNat y75) n60 with
 | some _ => (match (l61.set n37.toNat y75)[n60.toNat]? with
 | some _ => J f74t13 (f74s2 a (i64.wrap (n37 + 1)) (i64.wrap (n60 - 1)) ((l61.set n37.toNat y75).set n60.toNat y77))
 | none => none)
 | none => none)
 | none => none)
 | none => none)
 | none => none)
 | none => none)
 | none => none)
 | none => none)))
 | none => none)
 | none => none)
 | none => none)
 | none => none)
 else (bif decide (n60 < n37) then
 (match idx l61 a with
 | some _ => (match l61[a.toNat]? with
 | some y83 => (match idx l61 n60 with
 | some _ => (match l61[n60.toNat]? with
 | some y85 => (match idx l61 n60 with
 | some _ => (match l61[n60.toNat]? with
 | some _ => (match idx (l61.set n60.toNat y83) a with
 | some _ => (match (l61.set n60.toNat y83)[a.toNat]? with
 | some _ => kk (V.tuple [V.int i64 n60, V.bool false]) ([Ob.arr rK2 ((l61.set n60.toNat y83).set a.toNat y85) false])
 | none => none)
 | none => none)
 | none => none)
 | none => none)
 | none => none)
 | none => none)
 | none => none)
 | none => none)
 else (match idx l61 n60 with
 | some _ => (match l61[n60.toNat]? with
 | some y91 => (match idx l61 n37 with
 | some _ => (match l61[n37.toNat]? with
 | some y93 => (match idx l61 n37 with
 | some _ => (match l61[n37.toNat]? with
 | some _ => (match idx (l61.set n37.toNat y91) n60 with
 | some _ => (match (l61.set n37.toNat y91)[n60.toNat]? with
 | some _ => J f74t13 (f74s2 a (i64.wrap (n37 + 1)) (i64.wrap (n60 - 1)) ((l61.set n37.toNat y91).set n60.toNat y93))
 | none => none)
 | none => none)
 | none => none)
 | none => none)
 | none => none)
 | none => none)
 | none => none)
 | none => none))) := by kernel_rfl
noncomputable abbrev f73cuts : Cuts := look [(3, [0, 1, 4, 11, 12]), (5, [0, 1, 4, 11, 12])]
noncomputable abbrev f73t5 : List Item := itemsAt (fb Tryd.f73).2 5
noncomputable abbrev f73t3 : List Item := itemsAt (fb Tryd.f73).2 3
def f73s0 (a n9 n10 : Int) (l11 : List (Int × Int)) : St := { fr := [(0, V.own 0), (1, V.int i64 a), (4, V.fn 50 [] []), (11, V.int i64 n9), (12, V.int i64 n10)], hp := [(0, Ob.arr rK2 l11 false)], nx := 1 }
def f73s1 (a n9 n16 : Int) (l17 : List (Int × Int)) : St := { fr := [(0, V.own 0), (1, V.int i64 a), (4, V.fn 50 [] []), (11, V.int i64 n9), (12, V.int i64 n16)], hp := [(0, Ob.arr rK2 l17 false)], nx := 1 }
noncomputable abbrev k73 {Q : Type} (k : V → List Ob → Option Q) := vend (E12 8) 1 (fb Tryd.f73).1.results.toList false k
theorem f73_go (a b p : Int) (l : List (Int × Int)) :
 vseg (E12 8) f73cuts 1 J (k73 kk) 100000 true [.code (fb Tryd.f73).2] (start ([V.own (0 : Nat), V.int i64 a, V.int i64 b, V.int i64 p, V.fn (50 : Nat) [] []]) ([Ob.arr rK2 l false])) =
 (match idx l p with
 | some _ => (match l[p.toNat]? with
 | some y2 => (match idx l a with
 | some _ => (match l[a.toNat]? with
 | some y4 => (match idx l a with
 | some _ => (match l[a.toNat]? with
 | some _ => (match idx (l.set a.toNat y2) p with
 | some _ => (match (l.set a.toNat y2)[p.toNat]? with
 | some _ => J f73t3 (f73s0 a (i64.wrap (a + 1)) (i64.wrap (b - 1)) ((l.set a.toNat y2).set p.toNat y4))
 | none => none)
 | none => none)
 | none => none)
 | none => none)
 | none => none)
 | none => none)
 | none => none)
 | none => none) := by kernel_rfl
theorem f73_0 (a n9 n10 : Int) (l11 : List (Int × Int)) :
 vseg (E12 8) f73cuts 1 J (k73 kk) 100000 true f73t3 (f73s0 a n9 n10 l11) =
 (bif decide (n9 ≤ n10) then
 (match idx l11 a with
 | some _ => (match l11[a.toNat]? with
 | some y13 => (match idx l11 n9 with
 | some _ => (match l11[n9.toNat]? with
 | some y15 => (bif !decide (cmpK y13 y15 < 0) then
 J f73t3 (f73s0 a (i64.wrap (n9 + 1)) n10 l11)
 else J f73t5 (f73s1 a n9 n10 l11))
 | none => none)
 | none => none)
 | none => none)
 | none => none)
 else J f73t5 (f73s1 a n9 n10 l11)) := by kernel_rfl
theorem f73_1 (a n9 n16 : Int) (l17 : List (Int × Int)) :
 vseg (E12 8) f73cuts 1 J (k73 kk) 100000 true f73t5 (f73s1 a n9 n16 l17) =
 (bif decide (n9 ≤ n16) then
 (match idx l17 a with
 | some _ => (match l17[a.toNat]? with
 | some y19 => (match idx l17 n16 with
 | some _ => (match l17[n16.toNat]? with
 | some y21 => (bif decide (cmpK y19 y21 < 0) then
 J f73t5 (f73s1 a n9 (i64.wrap (n16 - 1)) l17)
 else (bif decide (n16 < n9) then
 kk (V.int i64 n9) ([Ob.arr rK2 l17 false])
 else (match idx l17 n16 with
 | some _ => (match l17[n16.toNat]? with
 | some y23 => (match idx l17 n9 with
 | some _ => (match l17[n9.toNat]? with
 | some y25 => (match idx l17 n9 with
 | some _ => (match l17[n9.toNat]? with
 | some _ => (match idx (l17.set n9.toNat y23) n16 with
 | some _ => (match (l17.set n9.toNat y23)[n16.toNat]? with
 | some _ => J f73t3 (f73s0 a (i64.wrap (n9 + 1)) (i64.wrap (n16 - 1)) ((l17.set n9.toNat y23).set n16.toNat y25))
 | none => none)
 | none => none)
 | none => none)
 | none => none)
 | none => none)
 | none => none)
 | none => none)
 | none => none)))
 | none => none)
 | none => none)
 | none => none)
 | none => none)
 else (bif decide (n16 < n9) then
 kk (V.int i64 n9) ([Ob.arr rK2 l17 false])
 else (match idx l17 n16 with
 | some _ => (match l17[n16.toNat]? with
 | some y31 => (match idx l17 n9 with
 | some _ => (match l17[n9.toNat]? with
 | some y33 => (match idx l17 n9 with
 | some _ => (match l17[n9.toNat]? with
 | some _ => (match idx (l17.set n9.toNat y31) n16 with
 | some _ => (match (l17.set n9.toNat y31)[n16.toNat]? with
 | some _ => J f73t3 (f73s0 a (i64.wrap (n9 + 1)) (i64.wrap (n16 - 1)) ((l17.set n9.toNat y31).set n16.toNat y33))
 | none => none)
 | none => none)
 | none => none)
 | none => none)
 | none => none)
 | none => none)
 | none => none)
 | none => none))) := by kernel_rfl
noncomputable abbrev f72cuts : Cuts := look [(3, [0, 1, 2, 3, 9, 10]), (5, [0, 1, 2, 3, 9, 10]), (14, [0, 1, 2, 3, 9, 10, 11]), (20, [0, 1, 2, 3, 9, 10, 12])]
noncomputable abbrev f72t20 : List Item := itemsAt (fb Tryd.f72).2 20
noncomputable abbrev f72t14 : List Item := itemsAt (fb Tryd.f72).2 14
noncomputable abbrev f72t5 : List Item := itemsAt (fb Tryd.f72).2 5
noncomputable abbrev f72t3 : List Item := itemsAt (fb Tryd.f72).2 3
def f72s0 (a b n1 n2 : Int) (l3 : List (Int × Int)) : St := { fr := [(0, V.own 0), (1, V.int i64 a), (2, V.int i64 b), (3, V.fn 50 [] []), (9, V.int i64 n1), (10, V.int i64 n2)], hp := [(0, Ob.arr rK2 l3 false)], nx := 1 }
def f72s1 (a b n4 n2 : Int) (l5 : List (Int × Int)) : St := { fr := [(0, V.own 0), (1, V.int i64 a), (2, V.int i64 b), (3, V.fn 50 [] []), (9, V.int i64 n4), (10, V.int i64 n2)], hp := [(0, Ob.arr rK2 l5 false)], nx := 1 }
def f72s2 (a b n4 n2 n18 : Int) (l19 : List (Int × Int)) : St := { fr := [(0, V.own 0), (1, V.int i64 a), (2, V.int i64 b), (3, V.fn 50 [] []), (9, V.int i64 n4), (10, V.int i64 n2), (11, V.int i64 n18)], hp := [(0, Ob.arr rK2 l19 false)], nx := 1 }
def f72s3 (a b n4 n2 n20 : Int) (l21 : List (Int × Int)) : St := { fr := [(0, V.own 0), (1, V.int i64 a), (2, V.int i64 b), (3, V.fn 50 [] []), (9, V.int i64 n4), (10, V.int i64 n2), (12, V.int i64 n20)], hp := [(0, Ob.arr rK2 l21 false)], nx := 1 }
noncomputable abbrev k72 {Q : Type} (k : V → List Ob → Option Q) := vend (E12 8) 1 (fb Tryd.f72).1.results.toList false k
theorem f72_go (a b : Int) (l : List (Int × Int)) :
 vseg (E12 8) f72cuts 1 J (k72 kk) 100000 true [.code (fb Tryd.f72).2] (start ([V.own (0 : Nat), V.int i64 a, V.int i64 b, V.fn (50 : Nat) [] []]) ([Ob.arr rK2 l false])) =
 J f72t3 (f72s0 a b (i64.wrap (a + 1)) (0 : Int) l) := by kernel_rfl
theorem f72_0 (a b n1 n2 : Int) (l3 : List (Int × Int)) :
 vseg (E12 8) f72cuts 1 J (k72 kk) 100000 true f72t3 (f72s0 a b n1 n2 l3) =
 (bif decide (n2 < 5) then
 J f72t5 (f72s1 a b n1 n2 l3)
 else kk (V.bool false) ([Ob.arr rK2 l3 false])) := by kernel_rfl
theorem f72_1 (a b n4 n2 : Int) (l5 : List (Int × Int)) :
 vseg (E12 8) f72cuts 1 J (k72 kk) 100000 true f72t5 (f72s1 a b n4 n2 l5) =
 (bif decide (n4 < b) then
 (match idx l5 n4 with
 | some _ => (match l5[n4.toNat]? with
 | some y7 => (match idx l5 (i64.wrap (n4 - 1)) with
 | some _ => (match l5[(i64.wrap (n4 - 1)).toNat]? with
 | some y9 => (bif !decide (cmpK y7 y9 < 0) then
 J f72t5 (f72s1 a b (i64.wrap (n4 + 1)) n2 l5)
 else (bif decide (n4 = b) then
 kk (V.bool true) ([Ob.arr rK2 l5 false])
 else (bif decide (i64.wrap (b - a) < 50) then
 kk (V.bool false) ([Ob.arr rK2 l5 false])
 else (match idx l5 (i64.wrap (n4 - 1)) with
 | some _ => (match l5[(i64.wrap (n4 - 1)).toNat]? with
 | some y11 => (match idx l5 n4 with
 | some _ => (match l5[n4.toNat]? with
 | some y13 => (match idx l5 n4 with
 | some _ => (match l5[n4.toNat]? with
 | some _ => (match idx (l5.set n4.toNat y11) (i64.wrap (n4 - 1)) with
 | some _ => (match (l5.set n4.toNat y11)[(i64.wrap (n4 - 1)).toNat]? with
 | some _ => (bif decide ((2 : Int) ≤ i64.wrap (n4 - a)) then
 J f72t14 (f72s2 a b n4 n2 (i64.wrap (n4 - 1)) ((l5.set n4.toNat y11).set (i64.wrap (n4 - 1)).toNat y13))
 else (bif decide ((2 : Int) ≤ i64.wrap (b - n4)) then
 J f72t20 (f72s3 a b n4 n2 (i64.wrap (n4 + 1)) ((l5.set n4.toNat y11).set (i64.wrap (n4 - 1)).toNat y13))
 else J f72t3 (f72s0 a b n4 (i64.wrap (n2 + 1)) ((l5.set n4.toNat y11).set (i64.wrap (n4 - 1)).toNat y13))))
 | none => none)
 | none => none)
 | none => none)
 | none => none)
 | none => none)
 | none => none)
 | none => none)
 | none => none))))
 | none => none)
 | none => none)
 | none => none)
 | none => none)
 else (bif decide (n4 = b) then
 kk (V.bool true) ([Ob.arr rK2 l5 false])
 else (bif decide (i64.wrap (b - a) < 50) then
 kk (V.bool false) ([Ob.arr rK2 l5 false])
 else (match idx l5 (i64.wrap (n4 - 1)) with
 | some _ => (match l5[(i64.wrap (n4 - 1)).toNat]? with
 | some y23 => (match idx l5 n4 with
 | some _ => (match l5[n4.toNat]? with
 | some y25 => (match idx l5 n4 with
 | some _ => (match l5[n4.toNat]? with
 | some _ => (match idx (l5.set n4.toNat y23) (i64.wrap (n4 - 1)) with
 | some _ => (match (l5.set n4.toNat y23)[(i64.wrap (n4 - 1)).toNat]? with
 | some _ => (bif decide ((2 : Int) ≤ i64.wrap (n4 - a)) then
 J f72t14 (f72s2 a b n4 n2 (i64.wrap (n4 - 1)) ((l5.set n4.toNat y23).set (i64.wrap (n4 - 1)).toNat y25))
 else (bif decide ((2 : Int) ≤ i64.wrap (b - n4)) then
 J f72t20 (f72s3 a b n4 n2 (i64.wrap (n4 + 1)) ((l5.set n4.toNat y23).set (i64.wrap (n4 - 1)).toNat y25))
 else J f72t3 (f72s0 a b n4 (i64.wrap (n2 + 1)) ((l5.set n4.toNat y23).set (i64.wrap (n4 - 1)).toNat y25))))
 | none => none)
 | none => none)
 | none => none)
 | none => none)
 | none => none)
 | none => none)
 | none => none)
 | none => none)))) := by kernel_rfl
theorem f72_2 (a b n4 n2 n18 : Int) (l19 : List (Int × Int)) :
 vseg (E12 8) f72cuts 1 J (k72 kk) 100000 true f72t14 (f72s2 a b n4 n2 n18 l19) =
 (bif decide ((1 : Int) ≤ n18) then
 (match idx l19 n18 with
 | some _ => (match l19[n18.toNat]? with
 | some y31 => (match idx l19 (i64.wrap (n18 - 1)) with
 | some _ => (match l19[(i64.wrap (n18 - 1)).toNat]? with
 | some y33 => (bif !decide (cmpK y31 y33 < 0) then
 (bif decide ((2 : Int) ≤ i64.wrap (b - n4)) then
 J f72t20 (f72s3 a b n4 n2 (i64.wrap (n4 + 1)) l19)
 else J f72t3 (f72s0 a b n4 (i64.wrap (n2 + 1)) l19))
 else (match idx l19 (i64.wrap (n18 - 1)) with
 | some _ => (match l19[(i64.wrap (n18 - 1)).toNat]? with
 | some y35 => (match idx l19 n18 with
 | some _ => (match l19[n18.toNat]? with
 | some y37 => (match idx l19 n18 with
 | some _ => (match l19[n18.toNat]? with
 | some _ => (match idx (l19.set n18.toNat y35) (i64.wrap (n18 - 1)) with
 | some _ => (match (l19.set n18.toNat y35)[(i64.wrap (n18 - 1)).toNat]? with
 | some _ => J f72t14 (f72s2 a b n4 n2 (i64.wrap (n18 - 1)) ((l19.set n18.toNat y35).set (i64.wrap (n18 - 1)).toNat y37))
 | none => none)
 | none => none)
 | none => none)
 | none => none)
 | none => none)
 | none => none)
 | none => none)
 | none => none))
 | none => none)
 | none => none)
 | none => none)
 | none => none)
 else (bif decide ((2 : Int) ≤ i64.wrap (b - n4)) then
 J f72t20 (f72s3 a b n4 n2 (i64.wrap (n4 + 1)) l19)
 else J f72t3 (f72s0 a b n4 (i64.wrap (n2 + 1)) l19))) := by kernel_rfl
theorem f72_3 (a b n4 n2 n20 : Int) (l21 : List (Int × Int)) :
 vseg (E12 8) f72cuts 1 J (k72 kk) 100000 true f72t20 (f72s3 a b n4 n2 n20 l21) =
 (bif decide (n20 < b) then
 (match idx l21 n20 with
 | some _ => (match l21[n20.toNat]? with
 | some y43 => (match idx l21 (i64.wrap (n20 - 1)) with
 | some _ => (match l21[(i64.wrap (n20 - 1)).toNat]? with
 | some y45 => (bif !decide (cmpK y43 y45 < 0) then
 J f72t3 (f72s0 a b n4 (i64.wrap (n2 + 1)) l21)
 else (match idx l21 (i64.wrap (n20 - 1)) with
 | some _ => (match l21[(i64.wrap (n20 - 1)).toNat]? with
 | some y47 => (match idx l21 n20 with
 | some _ => (match l21[n20.toNat]? with
 | some y49 => (match idx l21 n20 with
 | some _ => (match l21[n20.toNat]? with
 | some _ => (match idx (l21.set n20.toNat y47) (i64.wrap (n20 - 1)) with
 | some _ => (match (l21.set n20.toNat y47)[(i64.wrap (n20 - 1)).toNat]? with
 | some _ => J f72t20 (f72s3 a b n4 n2 (i64.wrap (n20 + 1)) ((l21.set n20.toNat y47).set (i64.wrap (n20 - 1)).toNat y49))
 | none => none)
 | none => none)
 | none => none)
 | none => none)
 | none => none)
 | none => none)
 | none => none)
 | none => none))
 | none => none)
 | none => none)
 | none => none)
 | none => none)
 else J f72t3 (f72s0 a b n4 (i64.wrap (n2 + 1)) l21)) := by kernel_rfl
end Vm.S14
open Go Go.Proofs
namespace Vm.S14
theorem scanUp_rng {α : Type} [Inhabited α] (p : α → Bool) (d : Array α) (j : Nat) : ∀ (k i : Nat), j + 1 - i ≤ k → i ≤ Go.Sort.scanUp p d j i ∧ (Go.Sort.scanUp p d j i ≤ j + 1 ∨ Go.Sort.scanUp p d j i = i) := by
 intro k
 induction k with
 | zero =>
   intro i hk
   unfold Go.Sort.scanUp
   rw [if_neg (by rw [decide_eq_false (by omega), Bool.false_and]; decide)]
   exact ⟨Nat.le_refl _, .inr rfl⟩
 | succ k ih =>
   intro i hk
   unfold Go.Sort.scanUp
   split
   ·have := ih (i + 1) (by omega)
    rename_i h
    simp only [Bool.and_eq_true, decide_eq_true_eq] at h
    omega
   ·exact ⟨Nat.le_refl _, .inr rfl⟩
theorem scanDown_le {α : Type} [Inhabited α] (p : α → Bool) (d : Array α) (i : Nat) : ∀ (j : Nat), Go.Sort.scanDown p d i j ≤ j
 | 0 => Nat.le_refl _
 | j + 1 => by
   rw [Go.Sort.scanDown]
   split
   ·have := scanDown_le p d i j; omega
   ·exact Nat.le_refl _
theorem f74_up1 {R : Type} (kk : V → List Ob → Option R) (x : Option R) (a b n : Nat) (d : Array KtP) (hd : d.size = n) (hn : n < 1000000000) (ha : a < n) (hb : b ≤ n) (hb1 : 1 ≤ b) : ∀ (k i : Nat), (b - 1) + 1 - i ≤ k → i ≤ n →
  (∃ N, vrun (E12 8) f74cuts 1 100000 (k74 kk) N f74t5 (f74s1 a (Go.Sort.scanUp (fun x => ltK x d[a]!) d (b - 1) i) ((b - 1 : Nat) : Int) (arL encK d)) = x) → ∃ N, vrun (E12 8) f74cuts 1 100000 (k74 kk) N f74t3 (f74s0 a i b (arL encK d)) = x := by
 intro k
 induction k with
 | zero =>
   intro i hk hi hN
   unfold Go.Sort.scanUp at hN
   rw [if_neg (by rw [decide_eq_false (by omega), Bool.false_and]; decide)] at hN
   obtain ⟨N, hN⟩ := hN
   refine ⟨N + 1, ?_⟩
   rw [vrun_succ, f74_0, wsub1 hb1 (by omega), bif_neg (by exact decide_eq_false (by omega))]
   exact hN
 | succ k ih =>
   intro i hk hi hN
   unfold Go.Sort.scanUp at hN
   by_cases h1 : i ≤ b - 1
   ·cases h2 : ltK d[i]! d[a]! with
    | true =>
      rw [if_pos (by rw [decide_eq_true h1, h2]; rfl)] at hN
      obtain ⟨N, hN⟩ := ih (i + 1) (by omega) (by omega) hN
      refine ⟨N + 1, ?_⟩
      rw [vrun_succ, f74_0, wsub1 hb1 (by omega), bif_pos (by exact decide_eq_true (by omega))]
      simp (disch := omega) only [wadd1, idx_nat, Int.toNat_natCast, arL_get, ltK_fold, h2, cond_true]
      exact hN
    | false =>
      rw [if_neg (by rw [h2, Bool.and_false]; decide)] at hN
      obtain ⟨N, hN⟩ := hN
      refine ⟨N + 1, ?_⟩
      rw [vrun_succ, f74_0, wsub1 hb1 (by omega), bif_pos (by exact decide_eq_true (by omega))]
      simp (disch := omega) only [wadd1, idx_nat, Int.toNat_natCast, arL_get, ltK_fold, h2, cond_false]
      exact hN
   ·rw [if_neg (by rw [decide_eq_false h1, Bool.false_and]; decide)] at hN
    obtain ⟨N, hN⟩ := hN
    refine ⟨N + 1, ?_⟩
    rw [vrun_succ, f74_0, wsub1 hb1 (by omega), bif_neg (by exact decide_eq_false (by omega))]
    exact hN
theorem f74_down1 {R : Type} (kk : V → List Ob → Option R) (x : Option R) (a i n : Nat) (d : Array KtP) (hd : d.size = n) (hn : n < 1000000000) (ha : a < n) (hi : 1 ≤ i) (hi2 : i ≤ n) : ∀ (j : Nat), j < n →
  (∃ N, (if i > Go.Sort.scanDown (fun x => !ltK x d[a]!) d i j then kk (.tuple [.int .i64 (Go.Sort.scanDown (fun x => !ltK x d[a]!) d i j), .bool true]) [.arr rK2 (arL encK (Go.Sort.swp d (Go.Sort.scanDown (fun x => !ltK x d[a]!) d i j) a)) false]
    else vrun (E12 8) f74cuts 1 100000 (k74 kk) N f74t13 (f74s2 a ((i + 1 : Nat) : Int) ((Go.Sort.scanDown (fun x => !ltK x d[a]!) d i j - 1 : Nat) : Int) (arL encK (Go.Sort.swp d i (Go.Sort.scanDown (fun x => !ltK x d[a]!) d i j))))) = x) →
  ∃ N, vrun (E12 8) f74cuts 1 100000 (k74 kk) N f74t5 (f74s1 a i j (arL encK d)) = x := by
 intro j
 induction j with
 | zero =>
   intro hj hN
   rw [Go.Sort.scanDown] at hN
   obtain ⟨N, hN⟩ := hN
   rw [if_pos (by omega)] at hN
   refine ⟨1, ?_⟩
   rw [vrun_succ, f74_1, bif_neg (by exact decide_eq_false (by omega)), bif_pos (by exact decide_eq_true (by omega))]
   simp (disch := omega) only [idx_nat, Int.toNat_natCast, arL_get, arL_set_get, arL_swp]
   exact hN
 | succ j ih =>
   intro hj hN
   rw [Go.Sort.scanDown] at hN
   by_cases h1 : i ≤ j + 1
   ·cases h2 : ltK d[j + 1]! d[a]! with
    | false =>
      rw [if_pos (by rw [decide_eq_true h1, h2]; rfl)] at hN
      obtain ⟨N, hN⟩ := ih (by omega) hN
      refine ⟨N + 1, ?_⟩
      rw [vrun_succ, f74_1, bif_pos (by exact decide_eq_true (by omega))]
      simp (disch := omega) only [wsub1, Nat.add_sub_cancel, idx_nat, Int.toNat_natCast, arL_get, ltK_fold, h2, cond_true, Bool.not_false]
      exact hN
    | true =>
      rw [if_neg (by rw [h2, Bool.not_true, Bool.and_false]; decide)] at hN
      obtain ⟨N, hN⟩ := hN
      rw [if_neg (by omega)] at hN
      refine ⟨N + 1, ?_⟩
      rw [vrun_succ, f74_1, bif_pos (by exact decide_eq_true (by omega))]
      simp (disch := omega) only [wadd1, wsub1, Nat.add_sub_cancel, idx_nat, Int.toNat_natCast, arL_get, arL_set_get, arL_swp, ltK_fold, h2, cond_true, cond_false, Bool.not_true]
      rw [bif_neg (by exact decide_eq_false (by omega))]
      exact hN
   ·rw [if_neg (by rw [decide_eq_false h1, Bool.false_and]; decide)] at hN
    obtain ⟨N, hN⟩ := hN
    rw [if_pos (by omega)] at hN
    refine ⟨1, ?_⟩
    rw [vrun_succ, f74_1, bif_neg (by exact decide_eq_false (by omega)), bif_pos (by exact decide_eq_true (by omega))]
    simp (disch := omega) only [idx_nat, Int.toNat_natCast, arL_get, arL_set_get, arL_swp]
    exact hN
theorem f74_up2 {R : Type} (kk : V → List Ob → Option R) (x : Option R) (a j n : Nat) (d : Array KtP) (hd : d.size = n) (hn : n < 1000000000) (ha : a < n) (hj : j < n) : ∀ (k i : Nat), j + 1 - i ≤ k → i ≤ n →
  (∃ N, vrun (E12 8) f74cuts 1 100000 (k74 kk) N f74t15 (f74s3 a (Go.Sort.scanUp (fun x => ltK x d[a]!) d j i) j (arL encK d)) = x) → ∃ N, vrun (E12 8) f74cuts 1 100000 (k74 kk) N f74t13 (f74s2 a i j (arL encK d)) = x := by
 intro k
 induction k with
 | zero =>
   intro i hk hi hN
   unfold Go.Sort.scanUp at hN
   rw [if_neg (by rw [decide_eq_false (by omega), Bool.false_and]; decide)] at hN
   obtain ⟨N, hN⟩ := hN
   refine ⟨N + 1, ?_⟩
   rw [vrun_succ, f74_2, bif_neg (by exact decide_eq_false (by omega))]
   exact hN
 | succ k ih =>
   intro i hk hi hN
   unfold Go.Sort.scanUp at hN
   by_cases h1 : i ≤ j
   ·cases h2 : ltK d[i]! d[a]! with
    | true =>
      rw [if_pos (by rw [decide_eq_true h1, h2]; rfl)] at hN
      obtain ⟨N, hN⟩ := ih (i + 1) (by omega) (by omega) hN
      refine ⟨N + 1, ?_⟩
      rw [vrun_succ, f74_2, bif_pos (by exact decide_eq_true (by omega))]
      simp (disch := omega) only [wadd1, idx_nat, Int.toNat_natCast, arL_get, ltK_fold, h2, cond_true]
      exact hN
    | false =>
      rw [if_neg (by rw [h2, Bool.and_false]; decide)] at hN
      obtain ⟨N, hN⟩ := hN
      refine ⟨N + 1, ?_⟩
      rw [vrun_succ, f74_2, bif_pos (by exact decide_eq_true (by omega))]
      simp (disch := omega) only [wadd1, idx_nat, Int.toNat_natCast, arL_get, ltK_fold, h2, cond_false]
      exact hN
   ·rw [if_neg (by rw [decide_eq_false h1, Bool.false_and]; decide)] at hN
    obtain ⟨N, hN⟩ := hN
    refine ⟨N + 1, ?_⟩
    rw [vrun_succ, f74_2, bif_neg (by exact decide_eq_false (by omega))]
    exact hN
theorem f74_down2 {R : Type} (kk : V → List Ob → Option R) (x : Option R) (a i n : Nat) (d : Array KtP) (hd : d.size = n) (hn : n < 1000000000) (ha : a < n) (hi : 1 ≤ i) (hi2 : i ≤ n) : ∀ (j : Nat), j < n →
  (∃ N, (if i > Go.Sort.scanDown (fun x => !ltK x d[a]!) d i j then kk (.tuple [.int .i64 (Go.Sort.scanDown (fun x => !ltK x d[a]!) d i j), .bool false]) [.arr rK2 (arL encK (Go.Sort.swp d (Go.Sort.scanDown (fun x => !ltK x d[a]!) d i j) a)) false]
    else vrun (E12 8) f74cuts 1 100000 (k74 kk) N f74t13 (f74s2 a ((i + 1 : Nat) : Int) ((Go.Sort.scanDown (fun x => !ltK x d[a]!) d i j - 1 : Nat) : Int) (arL encK (Go.Sort.swp d i (Go.Sort.scanDown (fun x => !ltK x d[a]!) d i j))))) = x) →
  ∃ N, vrun (E12 8) f74cuts 1 100000 (k74 kk) N f74t15 (f74s3 a i j (arL encK d)) = x := by
 intro j
 induction j with
 | zero =>
   intro hj hN
   rw [Go.Sort.scanDown] at hN
   obtain ⟨N, hN⟩ := hN
   rw [if_pos (by omega)] at hN
   refine ⟨1, ?_⟩
   rw [vrun_succ, f74_3, bif_neg (by exact decide_eq_false (by omega)), bif_pos (by exact decide_eq_true (by omega))]
   simp (disch := omega) only [idx_nat, Int.toNat_natCast, arL_get, arL_set_get, arL_swp]
   exact hN
 | succ j ih =>
   intro hj hN
   rw [Go.Sort.scanDown] at hN
   by_cases h1 : i ≤ j + 1
   ·cases h2 : ltK d[j + 1]! d[a]! with
    | false =>
      rw [if_pos (by rw [decide_eq_true h1, h2]; rfl)] at hN
      obtain ⟨N, hN⟩ := ih (by omega) hN
      refine ⟨N + 1, ?_⟩
      rw [vrun_succ, f74_3, bif_pos (by exact decide_eq_true (by omega))]
      simp (disch := omega) only [wsub1, Nat.add_sub_cancel, idx_nat, Int.toNat_natCast, arL_get, ltK_fold, h2, cond_true, Bool.not_false]
      exact hN
    | true =>
      rw [if_neg (by rw [h2, Bool.not_true, Bool.and_false]; decide)] at hN
      obtain ⟨N, hN⟩ := hN
      rw [if_neg (by omega)] at hN
      refine ⟨N + 1, ?_⟩
      rw [vrun_succ, f74_3, bif_pos (by exact decide_eq_true (by omega))]
      simp (disch := omega) only [wadd1, wsub1, Nat.add_sub_cancel, idx_nat, Int.toNat_natCast, arL_get, arL_set_get, arL_swp, ltK_fold, h2, cond_true, cond_false, Bool.not_true]
      rw [bif_neg (by exact decide_eq_false (by omega))]
      exact hN
   ·rw [if_neg (by rw [decide_eq_false h1, Bool.false_and]; decide)] at hN
    obtain ⟨N, hN⟩ := hN
    rw [if_pos (by omega)] at hN
    refine ⟨1, ?_⟩
    rw [vrun_succ, f74_3, bif_neg (by exact decide_eq_false (by omega)), bif_pos (by exact decide_eq_true (by omega))]
    simp (disch := omega) only [idx_nat, Int.toNat_natCast, arL_get, arL_set_get, arL_swp]
    exact hN
theorem f74_loop {R : Type} (kk : V → List Ob → Option R) (a n : Nat) (hn : n < 1000000000) (ha : a < n) : ∀ (k i j : Nat) (d : Array KtP), j + 1 - i ≤ k → d.size = n → 1 ≤ i → i ≤ n → j < n →
  ∃ N, vrun (E12 8) f74cuts 1 100000 (k74 kk) N f74t13 (f74s2 a i j (arL encK d)) = kk (.tuple [.int .i64 (Go.Sort.partLoop ltK a i j d).1, .bool false]) [.arr rK2 (arL encK (Go.Sort.swp (Go.Sort.partLoop ltK a i j d).2 (Go.Sort.partLoop ltK a i j d).1 a)) false] := by
 intro k
 induction k with
 | zero =>
   intro i j d hk hd hi hi2 hj
   have hu := scanUp_rng (fun x => ltK x d[a]!) d j (j + 1 - i) i (Nat.le_refl _)
   have hl := scanDown_le (fun x => !ltK x d[a]!) d (Go.Sort.scanUp (fun x => ltK x d[a]!) d j i) j
   refine f74_up2 kk _ a j n d hd hn ha hj (j + 1 - i) i (Nat.le_refl _) hi2 ?_
   refine f74_down2 kk _ a _ n d hd hn ha (by omega) (by omega) j hj ?_
   unfold Go.Sort.partLoop
   dsimp only
   rw [if_pos (by omega)]
   exact ⟨0, if_pos (by omega)⟩
 | succ k ih =>
   intro i j d hk hd hi hi2 hj
   have hu := scanUp_rng (fun x => ltK x d[a]!) d j (j + 1 - i) i (Nat.le_refl _)
   have hl := scanDown_le (fun x => !ltK x d[a]!) d (Go.Sort.scanUp (fun x => ltK x d[a]!) d j i) j
   refine f74_up2 kk _ a j n d hd hn ha hj (j + 1 - i) i (Nat.le_refl _) hi2 ?_
   refine f74_down2 kk _ a _ n d hd hn ha (by omega) (by omega) j hj ?_
   unfold Go.Sort.partLoop
   dsimp only
   generalize Go.Sort.scanUp (fun x => ltK x d[a]!) d j i = i2 at *
   generalize Go.Sort.scanDown (fun x => !ltK x d[a]!) d i2 j = j2 at *
   by_cases h : i2 > j2
   ·rw [if_pos h]
    exact ⟨0, if_pos h⟩
   ·rw [if_neg h, dif_pos (by omega)]
    obtain ⟨N, hN⟩ := ih (i2 + 1) (j2 - 1) (Go.Sort.swp d i2 j2) (by omega) (by rw [swp_size]; exact hd) (by omega) (by omega) (by omega)
    exact ⟨N, (if_neg h).trans hN⟩
theorem f74_run {R : Type} (kk : V → List Ob → Option R) (a b p : Nat) (d : Array KtP) (hn : d.size < 1000000000) (ha : a < b) (hb : b ≤ d.size) (hp : p < b) :
  ∃ N, vrun (E12 8) f74cuts 1 100000 (k74 kk) N [.code (fb Tryd.f74).2] (start [.own 0, .int .i64 a, .int .i64 b, .int .i64 p, .fn 50 [] []] [.arr rK2 (arL encK d) false]) = kk (.tuple [.int .i64 (Go.Sort.partition ltK d a b p).1, .bool (Go.Sort.partition ltK d a b p).2.1]) [.arr rK2 (arL encK (Go.Sort.partition ltK d a b p).2.2) false] := by
 obtain ⟨e, he⟩ : ∃ e, Go.Sort.swp d a p = e := ⟨_, rfl⟩
 have hs : e.size = d.size := by rw [← he, swp_size]
 have hu := scanUp_rng (fun x => ltK x e[a]!) e (b - 1) ((b - 1) + 1 - (a + 1)) (a + 1) (Nat.le_refl _)
 have hl := scanDown_le (fun x => !ltK x e[a]!) e (Go.Sort.scanUp (fun x => ltK x e[a]!) e (b - 1) (a + 1)) (b - 1)
 have key : ∃ N, vrun (E12 8) f74cuts 1 100000 (k74 kk) N f74t3 (f74s0 a ((a + 1 : Nat) : Int) b (arL encK e)) = kk (.tuple [.int .i64 (Go.Sort.partition ltK d a b p).1, .bool (Go.Sort.partition ltK d a b p).2.1]) [.arr rK2 (arL encK (Go.Sort.partition ltK d a b p).2.2) false] := by
  refine f74_up1 kk _ a b d.size e hs hn (by omega) hb (by omega) ((b - 1) + 1 - (a + 1)) (a + 1) (Nat.le_refl _) (by omega) ?_
  refine f74_down1 kk _ a _ d.size e hs hn (by omega) (by omega) (by omega) (b - 1) (by omega) ?_
  unfold Go.Sort.partition
  rw [he]
  dsimp only
  generalize Go.Sort.scanUp (fun x => ltK x e[a]!) e (b - 1) (a + 1) = i2 at *
  generalize Go.Sort.scanDown (fun x => !ltK x e[a]!) e i2 (b - 1) = j2 at *
  by_cases h : i2 > j2
  ·rw [if_pos h]
   exact ⟨0, if_pos h⟩
  ·rw [if_neg h]
   obtain ⟨N, hN⟩ := f74_loop kk a d.size hn (by omega) _ (i2 + 1) (j2 - 1) (Go.Sort.swp e i2 j2) (Nat.le_refl _) (by rw [swp_size]; exact hs) (by omega) (by omega) (by omega)
   exact ⟨N, (if_neg h).trans hN⟩
 obtain ⟨N, hN⟩ := key
 refine ⟨N + 1, ?_⟩
 rw [vrun_succ]
 refine (f74_go _ kk a b p (arL encK d)).trans ?_
 simp (disch := omega) only [wadd1, idx_nat, Int.toNat_natCast, arL_get, arL_set_get, arL_swp]
 rw [he]
 exact hN
end Vm.S14
open Go Go.Proofs
namespace Vm.S14
theorem f73_up {R : Type} (kk : V → List Ob → Option R) (x : Option R) (a j n : Nat) (d : Array KtP) (hd : d.size = n) (hn : n < 1000000000) (ha : a < n) (hj : j < n) : ∀ (k i : Nat), j + 1 - i ≤ k → i ≤ n →
  (∃ N, vrun (E12 8) f73cuts 1 100000 (k73 kk) N f73t5 (f73s1 a (Go.Sort.scanUp (fun x => !ltK d[a]! x) d j i) j (arL encK d)) = x) → ∃ N, vrun (E12 8) f73cuts 1 100000 (k73 kk) N f73t3 (f73s0 a i j (arL encK d)) = x := by
 intro k
 induction k with
 | zero =>
   intro i hk hi hN
   unfold Go.Sort.scanUp at hN
   rw [if_neg (by rw [decide_eq_false (by omega), Bool.false_and]; decide)] at hN
   obtain ⟨N, hN⟩ := hN
   refine ⟨N + 1, ?_⟩
   rw [vrun_succ, f73_0, bif_neg (by exact decide_eq_false (by omega))]
   exact hN
 | succ k ih =>
   intro i hk hi hN
   unfold Go.Sort.scanUp at hN
   by_cases h1 : i ≤ j
   ·cases h2 : ltK d[a]! d[i]! with
    | false =>
      rw [if_pos (by rw [decide_eq_true h1, h2]; rfl)] at hN
      obtain ⟨N, hN⟩ := ih (i + 1) (by omega) (by omega) hN
      refine ⟨N + 1, ?_⟩
      rw [vrun_succ, f73_0, bif_pos (by exact decide_eq_true (by omega))]
      simp (disch := omega) only [wadd1, idx_nat, Int.toNat_natCast, arL_get, ltK_fold, h2, cond_true, Bool.not_false]
      exact hN
    | true =>
      rw [if_neg (by rw [h2, Bool.not_true, Bool.and_false]; decide)] at hN
      obtain ⟨N, hN⟩ := hN
      refine ⟨N + 1, ?_⟩
      rw [vrun_succ, f73_0, bif_pos (by exact decide_eq_true (by omega))]
      simp (disch := omega) only [wadd1, idx_nat, Int.toNat_natCast, arL_get, ltK_fold, h2, cond_false, Bool.not_true]
      exact hN
   ·rw [if_neg (by rw [decide_eq_false h1, Bool.false_and]; decide)] at hN
    obtain ⟨N, hN⟩ := hN
    refine ⟨N + 1, ?_⟩
    rw [vrun_succ, f73_0, bif_neg (by exact decide_eq_false (by omega))]
    exact hN
theorem f73_down {R : Type} (kk : V → List Ob → Option R) (x : Option R) (a i n : Nat) (d : Array KtP) (hd : d.size = n) (hn : n < 1000000000) (ha : a < n) (hi : 1 ≤ i) (hi2 : i ≤ n) : ∀ (j : Nat), j < n →
  (∃ N, (if i > Go.Sort.scanDown (fun x => ltK d[a]! x) d i j then kk (.int .i64 i) [.arr rK2 (arL encK d) false]
    else vrun (E12 8) f73cuts 1 100000 (k73 kk) N f73t3 (f73s0 a ((i + 1 : Nat) : Int) ((Go.Sort.scanDown (fun x => ltK d[a]! x) d i j - 1 : Nat) : Int) (arL encK (Go.Sort.swp d i (Go.Sort.scanDown (fun x => ltK d[a]! x) d i j))))) = x) →
  ∃ N, vrun (E12 8) f73cuts 1 100000 (k73 kk) N f73t5 (f73s1 a i j (arL encK d)) = x := by
 intro j
 induction j with
 | zero =>
   intro hj hN
   rw [Go.Sort.scanDown] at hN
   obtain ⟨N, hN⟩ := hN
   rw [if_pos (by omega)] at hN
   refine ⟨1, ?_⟩
   rw [vrun_succ, f73_1, bif_neg (by exact decide_eq_false (by omega)), bif_pos (by exact decide_eq_true (by omega))]
   exact hN
 | succ j ih =>
   intro hj hN
   rw [Go.Sort.scanDown] at hN
   by_cases h1 : i ≤ j + 1
   ·cases h2 : ltK d[a]! d[j + 1]! with
    | true =>
      rw [if_pos (by rw [decide_eq_true h1, h2]; rfl)] at hN
      obtain ⟨N, hN⟩ := ih (by omega) hN
      refine ⟨N + 1, ?_⟩
      rw [vrun_succ, f73_1, bif_pos (by exact decide_eq_true (by omega))]
      simp (disch := omega) only [wsub1, Nat.add_sub_cancel, idx_nat, Int.toNat_natCast, arL_get, ltK_fold, h2, cond_true]
      exact hN
    | false =>
      rw [if_neg (by rw [h2, Bool.and_false]; decide)] at hN
      obtain ⟨N, hN⟩ := hN
      rw [if_neg (by omega)] at hN
      refine ⟨N + 1, ?_⟩
      rw [vrun_succ, f73_1, bif_pos (by exact decide_eq_true (by omega))]
      simp (disch := omega) only [wadd1, wsub1, Nat.add_sub_cancel, idx_nat, Int.toNat_natCast, arL_get, arL_set_get, arL_swp, ltK_fold, h2, cond_false]
      rw [bif_neg (by exact decide_eq_false (by omega))]
      exact hN
   ·rw [if_neg (by rw [decide_eq_false h1, Bool.false_and]; decide)] at hN
    obtain ⟨N, hN⟩ := hN
    rw [if_pos (by omega)] at hN
    refine ⟨1, ?_⟩
    rw [vrun_succ, f73_1, bif_neg (by exact decide_eq_false (by omega)), bif_pos (by exact decide_eq_true (by omega))]
    exact hN
theorem f73_loop {R : Type} (kk : V → List Ob → Option R) (a n : Nat) (hn : n < 1000000000) (ha : a < n) : ∀ (k i j : Nat) (d : Array KtP), j + 1 - i ≤ k → d.size = n → 1 ≤ i → i ≤ n → j < n →
  ∃ N, vrun (E12 8) f73cuts 1 100000 (k73 kk) N f73t3 (f73s0 a i j (arL encK d)) = kk (.int .i64 (Go.Sort.partEqLoop ltK a i j d).1) [.arr rK2 (arL encK (Go.Sort.partEqLoop ltK a i j d).2) false] := by
 intro k
 induction k with
 | zero =>
   intro i j d hk hd hi hi2 hj
   have hu := scanUp_rng (fun x => !ltK d[a]! x) d j (j + 1 - i) i (Nat.le_refl _)
   have hl := scanDown_le (fun x => ltK d[a]! x) d (Go.Sort.scanUp (fun x => !ltK d[a]! x) d j i) j
   refine f73_up kk _ a j n d hd hn ha hj (j + 1 - i) i (Nat.le_refl _) hi2 ?_
   refine f73_down kk _ a _ n d hd hn ha (by omega) (by omega) j hj ?_
   unfold Go.Sort.partEqLoop
   dsimp only
   rw [if_pos (by omega)]
   exact ⟨0, if_pos (by omega)⟩
 | succ k ih =>
   intro i j d hk hd hi hi2 hj
   have hu := scanUp_rng (fun x => !ltK d[a]! x) d j (j + 1 - i) i (Nat.le_refl _)
   have hl := scanDown_le (fun x => ltK d[a]! x) d (Go.Sort.scanUp (fun x => !ltK d[a]! x) d j i) j
   refine f73_up kk _ a j n d hd hn ha hj (j + 1 - i) i (Nat.le_refl _) hi2 ?_
   refine f73_down kk _ a _ n d hd hn ha (by omega) (by omega) j hj ?_
   unfold Go.Sort.partEqLoop
   dsimp only
   generalize Go.Sort.scanUp (fun x => !ltK d[a]! x) d j i = i2 at *
   generalize Go.Sort.scanDown (fun x => ltK d[a]! x) d i2 j = j2 at *
   by_cases h : i2 > j2
   ·rw [if_pos h]
    exact ⟨0, if_pos h⟩
   ·rw [if_neg h, dif_pos (by omega)]
    obtain ⟨N, hN⟩ := ih (i2 + 1) (j2 - 1) (Go.Sort.swp d i2 j2) (by omega) (by rw [swp_size]; exact hd) (by omega) (by omega) (by omega)
    exact ⟨N, (if_neg h).trans hN⟩
theorem f73_run {R : Type} (kk : V → List Ob → Option R) (a b p : Nat) (d : Array KtP) (hn : d.size < 1000000000) (ha : a < b) (hb : b ≤ d.size) (hp : p < b) :
  ∃ N, vrun (E12 8) f73cuts 1 100000 (k73 kk) N [.code (fb Tryd.f73).2] (start [.own 0, .int .i64 a, .int .i64 b, .int .i64 p, .fn 50 [] []] [.arr rK2 (arL encK d) false]) = kk (.int .i64 (Go.Sort.partitionEqual ltK d a b p).1) [.arr rK2 (arL encK (Go.Sort.partitionEqual ltK d a b p).2) false] := by
 obtain ⟨N, hN⟩ := f73_loop kk a d.size hn (by omega) _ (a + 1) (b - 1) (Go.Sort.swp d a p) (Nat.le_refl _) (by rw [swp_size]) (by omega) (by omega) (by omega)
 refine ⟨N + 1, ?_⟩
 rw [vrun_succ]
 refine (f73_go _ kk a b p (arL encK d)).trans ?_
 simp (disch := omega) only [wadd1, wsub1, idx_nat, Int.toNat_natCast, arL_get, arL_set_get, arL_swp]
 exact hN
end Vm.S14
open Go Go.Proofs
namespace Vm.S14
theorem shiftDown_size {α : Type} [Inhabited α] (lt : α → α → Bool) : ∀ (j : Nat) (d : Array α), (Go.Sort.shiftDown lt j d).size = d.size
 | 0, d => rfl
 | j + 1, d => by
   rw [Go.Sort.shiftDown]
   split
   ·rfl
   ·rw [shiftDown_size lt j, swp_size]
theorem shiftUp_size {α : Type} [Inhabited α] (lt : α → α → Bool) (b : Nat) : ∀ (k j : Nat) (d : Array α), b - j ≤ k → (Go.Sort.shiftUp lt b j d).size = d.size := by
 intro k
 induction k with
 | zero => intro j d hk; unfold Go.Sort.shiftUp; rw [if_neg (by omega)]
 | succ k ih =>
   intro j d hk
   unfold Go.Sort.shiftUp
   split
   ·split
    ·rfl
    ·rw [ih _ _ (by omega), swp_size]
   ·rfl
theorem f72_scan {R : Type} (kk : V → List Ob → Option R) (x : Option R) (a b q n : Nat) (d : Array KtP) (hd : d.size = n) (hn : n < 1000000000) (hb : b ≤ n) (hq : q < 10) : ∀ (k i : Nat), b - i ≤ k → a + 1 ≤ i → i ≤ b →
  (∀ i2, i2 = Go.Sort.scanSorted ltK d b i → i ≤ i2 → i2 ≤ b → ∃ N, (if i2 = b then kk (.bool true) [.arr rK2 (arL encK d) false] else if b - a < 50 then kk (.bool false) [.arr rK2 (arL encK d) false] else
    if i2 - a ≥ 2 then vrun (E12 8) f72cuts 1 100000 (k72 kk) N f72t14 (f72s2 a b i2 q ((i2 - 1 : Nat) : Int) (arL encK (Go.Sort.swp d i2 (i2 - 1)))) else
    if b - i2 ≥ 2 then vrun (E12 8) f72cuts 1 100000 (k72 kk) N f72t20 (f72s3 a b i2 q ((i2 + 1 : Nat) : Int) (arL encK (Go.Sort.swp d i2 (i2 - 1)))) else
    vrun (E12 8) f72cuts 1 100000 (k72 kk) N f72t3 (f72s0 a b i2 ((q + 1 : Nat) : Int) (arL encK (Go.Sort.swp d i2 (i2 - 1))))) = x) →
  ∃ N, vrun (E12 8) f72cuts 1 100000 (k72 kk) N f72t5 (f72s1 a b i q (arL encK d)) = x := by
 intro k
 induction k with
 | zero =>
   intro i hk hi hib hN
   obtain ⟨N, hN⟩ := hN i (by unfold Go.Sort.scanSorted; rw [if_neg (by rw [decide_eq_false (by omega), Bool.false_and]; decide)]) (Nat.le_refl _) hib
   rw [if_pos (by omega)] at hN
   refine ⟨1, ?_⟩
   rw [vrun_succ, f72_1, bif_neg (by exact decide_eq_false (by omega)), bif_pos (by exact decide_eq_true (by omega))]
   exact hN
 | succ k ih =>
   intro i hk hi hib hN
   by_cases h1 : i < b
   ·cases h2 : ltK d[i]! d[i - 1]! with
    | false =>
      obtain ⟨N, hN⟩ := ih (i + 1) (by omega) (by omega) (by omega) fun i2 e g1 g2 => hN i2 (by rw [e]; conv => rhs; unfold Go.Sort.scanSorted; rw [if_pos (by rw [decide_eq_true h1, h2]; rfl)]) (by omega) g2
      refine ⟨N + 1, ?_⟩
      rw [vrun_succ, f72_1, bif_pos (by exact decide_eq_true (by omega))]
      simp (disch := omega) only [wadd1, wsub1, idx_nat, Int.toNat_natCast, arL_get, ltK_fold, h2, cond_true, Bool.not_false]
      exact hN
    | true =>
      obtain ⟨N, hN⟩ := hN i (by unfold Go.Sort.scanSorted; rw [if_neg (by rw [h2, Bool.not_true, Bool.and_false]; decide)]) (Nat.le_refl _) hib
      rw [if_neg (by omega)] at hN
      refine ⟨N + 1, ?_⟩
      rw [vrun_succ, f72_1, bif_pos (by exact decide_eq_true (by omega))]
      simp (disch := omega) only [wadd1, wsub1, wsub, idx_nat, Int.toNat_natCast, arL_get, arL_set_get, arL_swp, ltK_fold, h2, cond_false, Bool.not_true]
      rw [bif_neg (by exact decide_eq_false (by omega))]
      by_cases c1 : b - a < 50
      ·rw [if_pos c1] at hN
       rw [bif_pos (by exact decide_eq_true (by omega))]
       exact hN
      ·rw [if_neg c1] at hN
       rw [bif_neg (by exact decide_eq_false (by omega))]
       by_cases c2 : i - a ≥ 2
       ·rw [if_pos c2] at hN
        rw [bif_pos (by exact decide_eq_true (by omega))]
        exact hN
       ·rw [if_neg c2] at hN
        rw [bif_neg (by exact decide_eq_false (by omega))]
        by_cases c3 : b - i ≥ 2
        ·rw [if_pos c3] at hN
         rw [bif_pos (by exact decide_eq_true (by omega))]
         exact hN
        ·rw [if_neg c3] at hN
         rw [bif_neg (by exact decide_eq_false (by omega))]
         exact hN
   ·obtain ⟨N, hN⟩ := hN i (by unfold Go.Sort.scanSorted; rw [if_neg (by rw [decide_eq_false h1, Bool.false_and]; decide)]) (Nat.le_refl _) hib
    rw [if_pos (by omega)] at hN
    refine ⟨1, ?_⟩
    rw [vrun_succ, f72_1, bif_neg (by exact decide_eq_false (by omega)), bif_pos (by exact decide_eq_true (by omega))]
    exact hN
theorem f72_up {R : Type} (kk : V → List Ob → Option R) (x : Option R) (a b i q n : Nat) (hn : n < 1000000000) (hb : b ≤ n) (hq : q < 10) : ∀ (k j : Nat) (d : Array KtP), b - j ≤ k → 1 ≤ j → d.size = n → j < 1000000001 →
  (∃ N, vrun (E12 8) f72cuts 1 100000 (k72 kk) N f72t3 (f72s0 a b i ((q + 1 : Nat) : Int) (arL encK (Go.Sort.shiftUp ltK b j d))) = x) → ∃ N, vrun (E12 8) f72cuts 1 100000 (k72 kk) N f72t20 (f72s3 a b i q j (arL encK d)) = x := by
 intro k
 induction k with
 | zero =>
   intro j d hk hj hd hj2 hN
   unfold Go.Sort.shiftUp at hN
   rw [if_neg (by omega)] at hN
   obtain ⟨N, hN⟩ := hN
   refine ⟨N + 1, ?_⟩
   rw [vrun_succ, f72_3, bif_neg (by exact decide_eq_false (by omega)), wadd1 (by omega)]
   exact hN
 | succ k ih =>
   intro j d hk hj hd hj2 hN
   unfold Go.Sort.shiftUp at hN
   by_cases h1 : j < b
   ·rw [if_pos h1] at hN
    cases h2 : ltK d[j]! d[j - 1]! with
    | false =>
      rw [if_pos (by rw [h2]; rfl)] at hN
      obtain ⟨N, hN⟩ := hN
      refine ⟨N + 1, ?_⟩
      rw [vrun_succ, f72_3, bif_pos (by exact decide_eq_true (by omega))]
      simp (disch := omega) only [wadd1, wsub1, idx_nat, Int.toNat_natCast, arL_get, ltK_fold, h2, cond_true, Bool.not_false]
      exact hN
    | true =>
      rw [if_neg (by rw [h2]; decide)] at hN
      obtain ⟨N, hN⟩ := ih (j + 1) (Go.Sort.swp d j (j - 1)) (by omega) (by omega) (by rw [swp_size]; exact hd) (by omega) hN
      refine ⟨N + 1, ?_⟩
      rw [vrun_succ, f72_3, bif_pos (by exact decide_eq_true (by omega))]
      simp (disch := omega) only [wadd1, wsub1, idx_nat, Int.toNat_natCast, arL_get, arL_set_get, arL_swp, ltK_fold, h2, cond_false, Bool.not_true]
      exact hN
   ·rw [if_neg h1] at hN
    obtain ⟨N, hN⟩ := hN
    refine ⟨N + 1, ?_⟩
    rw [vrun_succ, f72_3, bif_neg (by exact decide_eq_false (by omega)), wadd1 (by omega)]
    exact hN
theorem f72_down {R : Type} (kk : V → List Ob → Option R) (x : Option R) (a b i q n : Nat) (hn : n < 1000000000) (hb : b ≤ n) (hi : i ≤ b) (hq : q < 10) : ∀ (j : Nat) (d : Array KtP), j < n → d.size = n →
  (∃ N, (if b - i ≥ 2 then vrun (E12 8) f72cuts 1 100000 (k72 kk) N f72t20 (f72s3 a b i q ((i + 1 : Nat) : Int) (arL encK (Go.Sort.shiftDown ltK j d))) else vrun (E12 8) f72cuts 1 100000 (k72 kk) N f72t3 (f72s0 a b i ((q + 1 : Nat) : Int) (arL encK (Go.Sort.shiftDown ltK j d)))) = x) →
  ∃ N, vrun (E12 8) f72cuts 1 100000 (k72 kk) N f72t14 (f72s2 a b i q j (arL encK d)) = x := by
 intro j
 induction j with
 | zero =>
   intro d hj hd hN
   obtain ⟨N, hN⟩ := hN
   refine ⟨N + 1, ?_⟩
   rw [vrun_succ, f72_2, bif_neg (by exact decide_eq_false (by omega)), wsub hi (by omega), wadd1 (by omega), wadd1 (by omega)]
   by_cases c3 : b - i ≥ 2
   ·rw [if_pos c3] at hN
    rw [bif_pos (by exact decide_eq_true (by omega))]
    exact hN
   ·rw [if_neg c3] at hN
    rw [bif_neg (by exact decide_eq_false (by omega))]
    exact hN
 | succ j ih =>
   intro d hj hd hN
   rw [Go.Sort.shiftDown] at hN
   cases h2 : ltK d[j + 1]! d[j]! with
   | false =>
     rw [if_pos (by rw [h2]; rfl)] at hN
     obtain ⟨N, hN⟩ := hN
     refine ⟨N + 1, ?_⟩
     rw [vrun_succ, f72_2, bif_pos (by exact decide_eq_true (by omega))]
     simp (disch := omega) only [wadd1, wsub1, wsub, Nat.add_sub_cancel, idx_nat, Int.toNat_natCast, arL_get, ltK_fold, h2, cond_true, Bool.not_false]
     by_cases c3 : b - i ≥ 2
     ·rw [if_pos c3] at hN
      rw [bif_pos (by exact decide_eq_true (by omega))]
      exact hN
     ·rw [if_neg c3] at hN
      rw [bif_neg (by exact decide_eq_false (by omega))]
      exact hN
   | true =>
     rw [if_neg (by rw [h2]; decide)] at hN
     obtain ⟨N, hN⟩ := ih (Go.Sort.swp d (j + 1) j) (by omega) (by rw [swp_size]; exact hd) hN
     refine ⟨N + 1, ?_⟩
     rw [vrun_succ, f72_2, bif_pos (by exact decide_eq_true (by omega))]
     simp (disch := omega) only [wadd1, wsub1, Nat.add_sub_cancel, idx_nat, Int.toNat_natCast, arL_get, arL_set_get, arL_swp, ltK_fold, h2, cond_false, Bool.not_true]
     exact hN
theorem f72_loop {R : Type} (kk : V → List Ob → Option R) (a b n : Nat) (hn : n < 1000000000) (hb : b ≤ n) : ∀ (s q i : Nat) (d : Array KtP), s + q = 5 → d.size = n → a + 1 ≤ i → i ≤ b →
  ∃ N, vrun (E12 8) f72cuts 1 100000 (k72 kk) N f72t3 (f72s0 a b i q (arL encK d)) = kk (.bool (Go.Sort.partialIns ltK a b s i d).2) [.arr rK2 (arL encK (Go.Sort.partialIns ltK a b s i d).1) false] := by
 intro s
 induction s with
 | zero =>
   intro q i d hq hd hi hib
   refine ⟨1, ?_⟩
   rw [vrun_succ, f72_0, bif_neg (by exact decide_eq_false (by omega))]
   rfl
 | succ s ih =>
   intro q i d hq hd hi hib
   obtain ⟨N, hN⟩ := f72_scan kk (kk (.bool (Go.Sort.partialIns ltK a b (s + 1) i d).2) [.arr rK2 (arL encK (Go.Sort.partialIns ltK a b (s + 1) i d).1) false]) a b q n d hd hn hb (by omega) (b - i) i (Nat.le_refl _) hi hib (by
    intro i2 e g1 g2
    rw [Go.Sort.partialIns]
    dsimp only
    rw [← e]
    by_cases c0 : i2 = b
    ·rw [if_pos c0]; exact ⟨0, if_pos c0⟩
    ·rw [if_neg c0]
     by_cases c1 : b - a < 50
     ·rw [if_pos c1]; exact ⟨0, (if_neg c0).trans (if_pos c1)⟩
     ·rw [if_neg c1]
      have hs : (Go.Sort.swp d i2 (i2 - 1)).size = n := by rw [swp_size]; exact hd
      generalize Go.Sort.swp d i2 (i2 - 1) = e1 at *
      have fin : ∀ e2 : Array KtP, e2.size = n → ∃ N, (if b - i2 ≥ 2 then vrun (E12 8) f72cuts 1 100000 (k72 kk) N f72t20 (f72s3 a b i2 q ((i2 + 1 : Nat) : Int) (arL encK e2)) else vrun (E12 8) f72cuts 1 100000 (k72 kk) N f72t3 (f72s0 a b i2 ((q + 1 : Nat) : Int) (arL encK e2))) = kk (.bool (Go.Sort.partialIns ltK a b s i2 (if b - i2 ≥ 2 then Go.Sort.shiftUp ltK b (i2 + 1) e2 else e2)).2) [.arr rK2 (arL encK (Go.Sort.partialIns ltK a b s i2 (if b - i2 ≥ 2 then Go.Sort.shiftUp ltK b (i2 + 1) e2 else e2)).1) false] := by
       intro e2 h2
       by_cases c3 : b - i2 ≥ 2
       ·rw [if_pos c3]
        obtain ⟨N, hN⟩ := f72_up kk _ a b i2 q n hn hb (by omega) (b - (i2 + 1)) (i2 + 1) e2 (Nat.le_refl _) (by omega) h2 (by omega) (ih (q + 1) i2 (Go.Sort.shiftUp ltK b (i2 + 1) e2) (by omega) (by rw [shiftUp_size ltK b _ _ _ (Nat.le_refl _)]; exact h2) (by omega) g2)
        exact ⟨N, (if_pos c3).trans hN⟩
       ·rw [if_neg c3]
        obtain ⟨N, hN⟩ := ih (q + 1) i2 e2 (by omega) h2 (by omega) g2
        exact ⟨N, (if_neg c3).trans hN⟩
      by_cases c2 : i2 - a ≥ 2
      ·rw [if_pos c2]
       obtain ⟨N, hN⟩ := f72_down kk _ a b i2 q n hn hb g2 (by omega) (i2 - 1) e1 (by omega) hs (fin (Go.Sort.shiftDown ltK (i2 - 1) e1) (by rw [shiftDown_size]; exact hs))
       exact ⟨N, (if_neg c0).trans ((if_neg c1).trans ((if_pos c2).trans hN))⟩
      ·rw [if_neg c2]
       obtain ⟨N, hN⟩ := fin e1 hs
       exact ⟨N, (if_neg c0).trans ((if_neg c1).trans ((if_neg c2).trans hN))⟩)
   refine ⟨N + 1, ?_⟩
   rw [vrun_succ, f72_0, bif_pos (by exact decide_eq_true (by omega))]
   exact hN
theorem f72_run {R : Type} (kk : V → List Ob → Option R) (a b : Nat) (d : Array KtP) (hn : d.size < 1000000000) (ha : a < b) (hb : b ≤ d.size) :
  ∃ N, vrun (E12 8) f72cuts 1 100000 (k72 kk) N [.code (fb Tryd.f72).2] (start [.own 0, .int .i64 a, .int .i64 b, .fn 50 [] []] [.arr rK2 (arL encK d) false]) = kk (.bool (Go.Sort.partialInsertionSort ltK d a b).2) [.arr rK2 (arL encK (Go.Sort.partialInsertionSort ltK d a b).1) false] := by
 obtain ⟨N, hN⟩ := f72_loop kk a b d.size hn hb 5 0 (a + 1) d rfl rfl (Nat.le_refl _) (by omega)
 refine ⟨N + 1, ?_⟩
 rw [vrun_succ]
 refine (f72_go _ kk a b (arL encK d)).trans ?_
 rw [wadd1 (by omega)]
 exact hN
end Vm.S14
open Go Go.Proofs
namespace Vm.S14
noncomputable def f67e : Entry Tryd.prog gls := .ownS 67 rK2 (some 50) (fun ns l => match ns with
  | [a, b] => (ckK l && decide ((0 ≤ a ∧ 0 ≤ b ∧ l.length < 1000000000) ∧ a < 1000000000 ∧ b ≤ l.length), .tuple [], arL encK (Go.Sort.insertionSort ltK (liftK l) a.toNat b.toNat))
  | _ => (false, .undef, l)) fun ns l h => by
 match ns, h with
 | [a, b], h =>
   simp only [Bool.and_eq_true, decide_eq_true_eq] at h
   obtain ⟨hc, hp, hg⟩ := h
   have e : arL encK (liftK l) = l := liftK_ok hc
   have hsz : (liftK l).size = l.length := by
    have := congrArg List.length e
    rwa [arL_len] at this
   obtain ⟨a, rfl⟩ := Int.eq_ofNat_of_zero_le (show (0 : Int) ≤ a by omega); obtain ⟨b, rfl⟩ := Int.eq_ofNat_of_zero_le (show (0 : Int) ≤ b by omega)
   obtain ⟨N, hN⟩ := f67_run (fun v os => some (v, os)) a b (liftK l) (by omega) (by omega) (by omega)
   rw [show [Ob.arr rK2 (arL encK (liftK l)) false] = [Ob.arr rK2 l false] from congrArg (fun z : List (Ks.Ty rK2) => [Ob.arr rK2 z false]) e] at hN
   have := contract_of (P := Tryd.prog) (E := E12 8) (args := [.own 0, .int .i64 (a : Int), .int .i64 (b : Int), .fn 50 [] []]) (os := [.arr rK2 l false]) mixed (ready12 8) (f := 67) (fn := (fb Tryd.f67).1) (c := (fb Tryd.f67).2) Tryd.func67 (by kernel_rfl) (by kernel_rfl) (by decide) (by rw [glE12]; exact rfOk_no (by kernel_rfl)) hN (Nat.le_refl 1)
   rw [glE12] at this
   exact this
noncomputable def f71e : Entry Tryd.prog gls := .ownS 71 rK2 (some 50) (fun ns l => match ns with
  | [a, b] => (ckK l && decide ((0 ≤ a ∧ 0 ≤ b ∧ l.length < 1000000000) ∧ 1 ≤ b ∧ b ≤ l.length), .tuple [], arL encK (Go.Sort.reverseRange (liftK l) a.toNat b.toNat))
  | _ => (false, .undef, l)) fun ns l h => by
 match ns, h with
 | [a, b], h =>
   simp only [Bool.and_eq_true, decide_eq_true_eq] at h
   obtain ⟨hc, hp, hg⟩ := h
   have e : arL encK (liftK l) = l := liftK_ok hc
   have hsz : (liftK l).size = l.length := by
    have := congrArg List.length e
    rwa [arL_len] at this
   obtain ⟨a, rfl⟩ := Int.eq_ofNat_of_zero_le (show (0 : Int) ≤ a by omega); obtain ⟨b, rfl⟩ := Int.eq_ofNat_of_zero_le (show (0 : Int) ≤ b by omega)
   obtain ⟨N, hN⟩ := f71_run (fun v os => some (v, os)) a b (liftK l) (by omega) (by omega) (by omega)
   rw [show [Ob.arr rK2 (arL encK (liftK l)) false] = [Ob.arr rK2 l false] from congrArg (fun z : List (Ks.Ty rK2) => [Ob.arr rK2 z false]) e] at hN
   have := contract_of (P := Tryd.prog) (E := E12 8) (args := [.own 0, .int .i64 (a : Int), .int .i64 (b : Int), .fn 50 [] []]) (os := [.arr rK2 l false]) mixed (ready12 8) (f := 71) (fn := (fb Tryd.f71).1) (c := (fb Tryd.f71).2) Tryd.func71 (by kernel_rfl) (by kernel_rfl) (by decide) (by rw [glE12]; exact rfOk_no (by kernel_rfl)) hN (Nat.le_refl 1)
   rw [glE12] at this
   exact this
noncomputable def f78e : Entry Tryd.prog gls := .ownS 78 rK2 (some 50) (fun ns l => match ns with
  | [lo, hi, first] => (ckK l && decide ((0 ≤ lo ∧ 0 ≤ hi ∧ 0 ≤ first ∧ l.length < 1000000000) ∧ first + hi ≤ l.length ∧ lo < 1000000000), .tuple [], arL encK (Go.Sort.siftDown ltK hi.toNat first.toNat lo.toNat (liftK l)))
  | _ => (false, .undef, l)) fun ns l h => by
 match ns, h with
 | [lo, hi, first], h =>
   simp only [Bool.and_eq_true, decide_eq_true_eq] at h
   obtain ⟨hc, hp, hg⟩ := h
   have e : arL encK (liftK l) = l := liftK_ok hc
   have hsz : (liftK l).size = l.length := by
    have := congrArg List.length e
    rwa [arL_len] at this
   obtain ⟨lo, rfl⟩ := Int.eq_ofNat_of_zero_le (show (0 : Int) ≤ lo by omega); obtain ⟨hi, rfl⟩ := Int.eq_ofNat_of_zero_le (show (0 : Int) ≤ hi by omega); obtain ⟨first, rfl⟩ := Int.eq_ofNat_of_zero_le (show (0 : Int) ≤ first by omega)
   obtain ⟨N, hN⟩ := f78_run (fun v os => some (v, os)) lo hi first (liftK l) (by omega) (by omega) (by omega)
   rw [show [Ob.arr rK2 (arL encK (liftK l)) false] = [Ob.arr rK2 l false] from congrArg (fun z : List (Ks.Ty rK2) => [Ob.arr rK2 z false]) e] at hN
   have := contract_of (P := Tryd.prog) (E := E12 8) (args := [.own 0, .int .i64 (lo : Int), .int .i64 (hi : Int), .int .i64 (first : Int), .fn 50 [] []]) (os := [.arr rK2 l false]) mixed (ready12 8) (f := 78) (fn := (fb Tryd.f78).1) (c := (fb Tryd.f78).2) Tryd.func78 (by kernel_rfl) (by kernel_rfl) (by decide) (by rw [glE12]; exact rfOk_no (by kernel_rfl)) hN (Nat.le_refl 1)
   rw [glE12] at this
   exact this
noncomputable def f74e : Entry Tryd.prog gls := .ownS 74 rK2 (some 50) (fun ns l => match ns with
  | [a, b, p] => (ckK l && decide ((0 ≤ a ∧ 0 ≤ b ∧ 0 ≤ p ∧ l.length < 1000000000) ∧ a < b ∧ b ≤ l.length ∧ p < b), .tuple [.int .i64 (Go.Sort.partition ltK (liftK l) a.toNat b.toNat p.toNat).1, .bool (Go.Sort.partition ltK (liftK l) a.toNat b.toNat p.toNat).2.1], arL encK ((Go.Sort.partition ltK (liftK l) a.toNat b.toNat p.toNat).2.2))
  | _ => (false, .undef, l)) fun ns l h => by
 match ns, h with
 | [a, b, p], h =>
   simp only [Bool.and_eq_true, decide_eq_true_eq] at h
   obtain ⟨hc, hp, hg⟩ := h
   have e : arL encK (liftK l) = l := liftK_ok hc
   have hsz : (liftK l).size = l.length := by
    have := congrArg List.length e
    rwa [arL_len] at this
   obtain ⟨a, rfl⟩ := Int.eq_ofNat_of_zero_le (show (0 : Int) ≤ a by omega); obtain ⟨b, rfl⟩ := Int.eq_ofNat_of_zero_le (show (0 : Int) ≤ b by omega); obtain ⟨p, rfl⟩ := Int.eq_ofNat_of_zero_le (show (0 : Int) ≤ p by omega)
   obtain ⟨N, hN⟩ := f74_run (fun v os => some (v, os)) a b p (liftK l) (by omega) (by omega) (by omega) (by omega)
   rw [show [Ob.arr rK2 (arL encK (liftK l)) false] = [Ob.arr rK2 l false] from congrArg (fun z : List (Ks.Ty rK2) => [Ob.arr rK2 z false]) e] at hN
   have := contract_of (P := Tryd.prog) (E := E12 8) (args := [.own 0, .int .i64 (a : Int), .int .i64 (b : Int), .int .i64 (p : Int), .fn 50 [] []]) (os := [.arr rK2 l false]) mixed (ready12 8) (f := 74) (fn := (fb Tryd.f74).1) (c := (fb Tryd.f74).2) Tryd.func74 (by kernel_rfl) (by kernel_rfl) (by decide) (by rw [glE12]; exact rfOk_no (by kernel_rfl)) hN (Nat.le_refl 1)
   rw [glE12] at this
   exact this
noncomputable def f73e : Entry Tryd.prog gls := .ownS 73 rK2 (some 50) (fun ns l => match ns with
  | [a, b, p] => (ckK l && decide ((0 ≤ a ∧ 0 ≤ b ∧ 0 ≤ p ∧ l.length < 1000000000) ∧ a < b ∧ b ≤ l.length ∧ p < b), .int .i64 (Go.Sort.partitionEqual ltK (liftK l) a.toNat b.toNat p.toNat).1, arL encK ((Go.Sort.partitionEqual ltK (liftK l) a.toNat b.toNat p.toNat).2))
  | _ => (false, .undef, l)) fun ns l h => by
 match ns, h with
 | [a, b, p], h =>
   simp only [Bool.and_eq_true, decide_eq_true_eq] at h
   obtain ⟨hc, hp, hg⟩ := h
   have e : arL encK (liftK l) = l := liftK_ok hc
   have hsz : (liftK l).size = l.length := by
    have := congrArg List.length e
    rwa [arL_len] at this
   obtain ⟨a, rfl⟩ := Int.eq_ofNat_of_zero_le (show (0 : Int) ≤ a by omega); obtain ⟨b, rfl⟩ := Int.eq_ofNat_of_zero_le (show (0 : Int) ≤ b by omega); obtain ⟨p, rfl⟩ := Int.eq_ofNat_of_zero_le (show (0 : Int) ≤ p by omega)
   obtain ⟨N, hN⟩ := f73_run (fun v os => some (v, os)) a b p (liftK l) (by omega) (by omega) (by omega) (by omega)
   rw [show [Ob.arr rK2 (arL encK (liftK l)) false] = [Ob.arr rK2 l false] from congrArg (fun z : List (Ks.Ty rK2) => [Ob.arr rK2 z false]) e] at hN
   have := contract_of (P := Tryd.prog) (E := E12 8) (args := [.own 0, .int .i64 (a : Int), .int .i64 (b : Int), .int .i64 (p : Int), .fn 50 [] []]) (os := [.arr rK2 l false]) mixed (ready12 8) (f := 73) (fn := (fb Tryd.f73).1) (c := (fb Tryd.f73).2) Tryd.func73 (by kernel_rfl) (by kernel_rfl) (by decide) (by rw [glE12]; exact rfOk_no (by kernel_rfl)) hN (Nat.le_refl 1)
   rw [glE12] at this
   exact this
noncomputable def f72e : Entry Tryd.prog gls := .ownS 72 rK2 (some 50) (fun ns l => match ns with
  | [a, b] => (ckK l && decide ((0 ≤ a ∧ 0 ≤ b ∧ l.length < 1000000000) ∧ a < b ∧ b ≤ l.length), .bool (Go.Sort.partialInsertionSort ltK (liftK l) a.toNat b.toNat).2, arL encK ((Go.Sort.partialInsertionSort ltK (liftK l) a.toNat b.toNat).1))
  | _ => (false, .undef, l)) fun ns l h => by
 match ns, h with
 | [a, b], h =>
   simp only [Bool.and_eq_true, decide_eq_true_eq] at h
   obtain ⟨hc, hp, hg⟩ := h
   have e : arL encK (liftK l) = l := liftK_ok hc
   have hsz : (liftK l).size = l.length := by
    have := congrArg List.length e
    rwa [arL_len] at this
   obtain ⟨a, rfl⟩ := Int.eq_ofNat_of_zero_le (show (0 : Int) ≤ a by omega); obtain ⟨b, rfl⟩ := Int.eq_ofNat_of_zero_le (show (0 : Int) ≤ b by omega)
   obtain ⟨N, hN⟩ := f72_run (fun v os => some (v, os)) a b (liftK l) (by omega) (by omega) (by omega)
   rw [show [Ob.arr rK2 (arL encK (liftK l)) false] = [Ob.arr rK2 l false] from congrArg (fun z : List (Ks.Ty rK2) => [Ob.arr rK2 z false]) e] at hN
   have := contract_of (P := Tryd.prog) (E := E12 8) (args := [.own 0, .int .i64 (a : Int), .int .i64 (b : Int), .fn 50 [] []]) (os := [.arr rK2 l false]) mixed (ready12 8) (f := 72) (fn := (fb Tryd.f72).1) (c := (fb Tryd.f72).2) Tryd.func72 (by kernel_rfl) (by kernel_rfl) (by decide) (by rw [glE12]; exact rfOk_no (by kernel_rfl)) hN (Nat.le_refl 1)
   rw [glE12] at this
   exact this
noncomputable def es13 : List (Entry Tryd.prog gls) := [f67e, f71e, f78e, f74e, f73e, f72e] ++ es12
noncomputable def E13 (n : Nat) : Env := interp fns (look tys) gls mvs (tabOf es13) 100000 n
theorem ready13 (n : Nat) : Ready Tryd.prog (E13 n) := ready_of mixed fnsAll tysOk rfsOk n
theorem glE13 (n : Nat) : (E13 n).gl = gls := by cases n <;> rfl
end Vm.S14
open Go Go.Proofs Go.IntKind
namespace Vm.S14
variable {R : Type} (J : List Item → St → Option R) (kk : V → List Ob → Option R)
noncomputable abbrev f68cuts : Cuts := look [(4, [0, 3, 8, 9, 10, 11]), (8, [0, 3, 8, 9, 12])]
noncomputable abbrev f68t8 : List Item := itemsAt (fb Tryd.f68).2 8
noncomputable abbrev f68t4 : List Item := itemsAt (fb Tryd.f68).2 4
def f68s0 (a b n1 : Int) (l2 : List (Int × Int)) : St := { fr := [(0, V.own 0), (3, V.fn 50 [] []), (8, V.int i64 a), (9, V.int i64 (0 : Int)), (10, V.int i64 (i64.wrap (b - a))), (11, V.int i64 n1)], hp := [(0, Ob.arr rK2 l2 false)], nx := 1 }
def f68s1 (a n3 : Int) (l4 : List (Int × Int)) : St := { fr := [(0, V.own 0), (3, V.fn 50 [] []), (8, V.int i64 a), (9, V.int i64 (0 : Int)), (12, V.int i64 n3)], hp := [(0, Ob.arr rK2 l4 false)], nx := 1 }
noncomputable abbrev k68 {Q : Type} (k : V → List Ob → Option Q) := vend (E13 8) 1 (fb Tryd.f68).1.results.toList false k
theorem f68_go (a b : Int) (l : List (Int × Int)) :
 vseg (E13 8) f68cuts 1 J (k68 kk) 100000 true [.code (fb Tryd.f68).2] (start ([V.own (0 : Nat), V.int i64 a, V.int i64 b, V.fn (50 : Nat) [] []]) ([Ob.arr rK2 l false])) =
 J f68t4 (f68s0 a b (i64.wrap ((i64.wrap (i64.wrap (b - a) - 1)).tdiv (2 : Int))) l) := by kernel_rfl
theorem f68_0 (a b n1 : Int) (l2 : List (Int × Int)) :
 vseg (E13 8) f68cuts 1 J (k68 kk) 100000 true f68t4 (f68s0 a b n1 l2) =
 (bif decide ((0 : Int) ≤ n1) then
 (bif ckK l2 && decide (((0 : Int) ≤ n1 ∧ (0 : Int) ≤ i64.wrap (b - a) ∧ (0 : Int) ≤ a ∧ l2.length < 1000000000) ∧ a + i64.wrap (b - a) ≤ (↑l2.length : Int) ∧ n1 < 1000000000) then
 J f68t4 (f68s0 a b (i64.wrap (n1 - 1)) (arL encK («Sort».siftDown ltK (i64.wrap (b - a)).toNat a.toNat n1.toNat (liftK l2))))
 else none)
 else J f68t8 (f68s1 a (i64.wrap (i64.wrap (b - a) - 1)) l2)) := by kernel_rfl
theorem f68_1 (a n3 : Int) (l4 : List (Int × Int)) :
 vseg (E13 8) f68cuts 1 J (k68 kk) 100000 true f68t8 (f68s1 a n3 l4) =
 (bif decide ((0 : Int) ≤ n3) then
 (match idx l4 (i64.wrap (a + n3)) with
 | some _ => (match l4[(i64.wrap (a + n3)).toNat]? with
 | some y6 => (match idx l4 a with
 | some _ => (match l4[a.toNat]? with
 | some y8 => (match idx l4 a with
 | some _ => (match l4[a.toNat]? with
 | some _ => (match idx (l4.set a.toNat y6) (i64.wrap (a + n3)) with
 | some _ => (match (l4.set a.toNat y6)[(i64.wrap (a + n3)).toNat]? with
 | some _ => (bif ckK ((l4.set a.toNat y6).set (i64.wrap (a + n3)).toNat y8) && decide (((0 : Int) ≤ 0 ∧ (0 : Int) ≤ n3 ∧ (0 : Int) ≤ a ∧ ((l4.set a.toNat y6).set (i64.wrap (a + n3)).toNat y8).length < 1000000000) ∧ a + n3 ≤ (↑((l4.set a.toNat y6).set (i64.wrap (a + n3)).toNat y8).length : Int) ∧ (0 : Int) < 1000000000) then
 J f68t8 (f68s1 a (i64.wrap (n3 - 1)) (arL encK («Sort».siftDown ltK n3.toNat a.toNat (0 : Int).toNat (liftK ((l4.set a.toNat y6).set (i64.wrap (a + n3)).toNat y8)))))
 else none)
 | none => none)
 | none => none)
 | none => none)
 | none => none)
 | none => none)
 | none => none)
 | none => none)
 | none => none)
 else kk (V.tuple []) ([Ob.arr rK2 l4 false])) := by kernel_rfl
noncomputable abbrev f83cuts : Cuts := fun _ => none
noncomputable abbrev k83 {Q : Type} (k : V → List Ob → Option Q) := vend (E13 8) 2 (fb Tryd.f83).1.results.toList false k
theorem f83_go (a b s : Int) (l : List (Int × Int)) :
 vseg (E13 8) f83cuts 2 J (k83 kk) 100000 true [.code (fb Tryd.f83).2] (start ([V.own (0 : Nat), V.int i64 a, V.int i64 b, V.ref (1 : Nat) (0 : Nat) (0 : Nat) (0 : Nat), V.fn (50 : Nat) [] []]) ([Ob.arr rK2 l false, Ob.var [V.int i64 s]])) =
 (match idx l b with
 | some _ => (match l[b.toNat]? with
 | some y2 => (match idx l a with
 | some _ => (match l[a.toNat]? with
 | some y4 => (bif decide (cmpK y2 y4 < 0) then
 kk (V.tuple [V.int i64 b, V.int i64 a]) ([Ob.arr rK2 l false, Ob.var [V.int i64 (i64.wrap (s + 1))]])
 else kk (V.tuple [V.int i64 a, V.int i64 b]) ([Ob.arr rK2 l false, Ob.var [V.int i64 s]]))
 | none => none)
 | none => none)
 | none => none)
 | none => none) := by kernel_rfl
end Vm.S14
open Go Go.Proofs
namespace Vm.S14
theorem f68_pop {R : Type} (kk : V → List Ob → Option R) (a n : Nat) (hn : n < 1000000000) : ∀ (k : Nat) (d : Array KtP), d.size = n → a + k ≤ n →
  ∃ N, vrun (E13 8) f68cuts 1 100000 (k68 kk) N f68t8 (f68s1 a ((k : Int) - 1) (arL encK d)) = kk (.tuple []) [.arr rK2 (arL encK (Go.Sort.heapPop ltK a k d)) false] := by
 intro k
 induction k with
 | zero =>
   intro d hd hk
   refine ⟨1, ?_⟩
   rw [vrun_succ, f68_1, bif_neg (by exact decide_eq_false (by omega))]
   rfl
 | succ k ih =>
   intro d hd hk
   obtain ⟨N, hN⟩ := ih (Go.Sort.siftDown ltK k a 0 (Go.Sort.swp d a (a + k))) (by rw [siftDown_size_K k a _ _ _ (Nat.le_refl _), swp_size]; exact hd) (by omega)
   refine ⟨N + 1, ?_⟩
   rw [show ((k + 1 : Nat) : Int) - 1 = (k : Int) by omega, vrun_succ, f68_1, bif_pos (by exact decide_eq_true (by omega))]
   simp (disch := omega) only [wadd, idx_nat, Int.toNat_natCast, arL_get, arL_set_get, arL_swp, lar_K, cka_K, arL_len, Bool.true_and]
   rw [bif_pos (by exact decide_eq_true (by rw [swp_size]; omega)), w64 (n := (k : Int) - 1) (by omega) (by omega)]
   exact hN
theorem f68_build {R : Type} (kk : V → List Ob → Option R) (a b n : Nat) (hn : n < 1000000000) (hab : a ≤ b) (hb : b ≤ n) : ∀ (k : Nat) (d : Array KtP), d.size = n → k ≤ n + 1 →
  ∃ N, vrun (E13 8) f68cuts 1 100000 (k68 kk) N f68t4 (f68s0 a b ((k : Int) - 1) (arL encK d)) = kk (.tuple []) [.arr rK2 (arL encK (Go.Sort.heapPop ltK a (b - a) (Go.Sort.heapBuild ltK (b - a) a k d))) false] := by
 intro k
 induction k with
 | zero =>
   intro d hd hk
   obtain ⟨N, hN⟩ := f68_pop kk a n hn (b - a) d hd (by omega)
   refine ⟨N + 1, ?_⟩
   rw [vrun_succ, f68_0, bif_neg (by exact decide_eq_false (by omega)), wsub hab (by omega), w64 (n := ((b - a : Nat) : Int) - 1) (by omega) (by omega)]
   exact hN
 | succ k ih =>
   intro d hd hk
   obtain ⟨N, hN⟩ := ih (Go.Sort.siftDown ltK (b - a) a k d) (by rw [siftDown_size_K (b - a) a _ _ _ (Nat.le_refl _)]; exact hd) (by omega)
   refine ⟨N + 1, ?_⟩
   rw [show ((k + 1 : Nat) : Int) - 1 = (k : Int) by omega, vrun_succ, f68_0, bif_pos (by exact decide_eq_true (by omega)), wsub hab (by omega)]
   simp (disch := omega) only [Int.toNat_natCast, lar_K, cka_K, arL_len, Bool.true_and]
   rw [bif_pos (by exact decide_eq_true (by omega)), w64 (n := (k : Int) - 1) (by omega) (by omega)]
   exact hN
theorem f68_run {R : Type} (kk : V → List Ob → Option R) (a b : Nat) (d : Array KtP) (hn : d.size < 1000000000) (ha : a < b) (hb : b ≤ d.size) :
  ∃ N, vrun (E13 8) f68cuts 1 100000 (k68 kk) N [.code (fb Tryd.f68).2] (start [.own 0, .int .i64 a, .int .i64 b, .fn 50 [] []] [.arr rK2 (arL encK d) false]) = kk (.tuple []) [.arr rK2 (arL encK (Go.Sort.heapSort ltK d a b)) false] := by
 obtain ⟨N, hN⟩ := f68_build kk a b d.size hn (by omega) hb ((b - a - 1) / 2 + 1) d rfl (by omega)
 refine ⟨N + 1, ?_⟩
 rw [vrun_succ]
 refine (f68_go _ kk a b (arL encK d)).trans ?_
 have e : IntKind.i64.wrap ((IntKind.i64.wrap (IntKind.i64.wrap ((b : Int) - (a : Int)) - 1)).tdiv 2) = (((b - a - 1) / 2 + 1 : Nat) : Int) - 1 := by
  rw [wsub (by omega) (by omega), wsub1 (by omega) (by omega)]
  have : ((b - a - 1 : Nat) : Int).tdiv 2 = (((b - a - 1) / 2 : Nat) : Int) := by
   rw [Int.tdiv_eq_ediv_of_nonneg (by omega)]; omega
  rw [this, w64 (by omega) (by omega)]
  omega
 rw [e]
 exact hN
theorem f83_run {R : Type} (kk : V → List Ob → Option R) (a b s : Nat) (d : Array KtP) (hn : d.size < 1000000000) (ha : a < d.size) (hb : b < d.size) (hs : s < 1000) :
  ∃ N, vrun (E13 8) f83cuts 2 100000 (k83 kk) N [.code (fb Tryd.f83).2] (start [.own 0, .int .i64 a, .int .i64 b, .ref 1 0 0 0, .fn 50 [] []] [.arr rK2 (arL encK d) false, .var [.int .i64 s]]) =
    kk (.tuple [.int .i64 (Go.Sort.order2 ltK d a b s).1, .int .i64 (Go.Sort.order2 ltK d a b s).2.1]) [.arr rK2 (arL encK d) false, .var [.int .i64 (Go.Sort.order2 ltK d a b s).2.2]] := by
 refine ⟨1, ?_⟩
 rw [vrun_succ]
 refine (f83_go _ kk a b s (arL encK d)).trans ?_
 unfold Go.Sort.order2
 cases h : ltK d[b]! d[a]! with
 | true =>
   simp (disch := omega) only [wadd1, idx_nat, Int.toNat_natCast, arL_get, ltK_fold, h, cond_true, if_true]
   all_goals rfl
 | false =>
   simp (disch := omega) only [idx_nat, Int.toNat_natCast, arL_get, ltK_fold, h, cond_false, Bool.false_eq_true, if_false]
   all_goals rfl
end Vm.S14
open Go Go.Proofs
namespace Vm.S14
noncomputable def f68e : Entry Tryd.prog gls := .ownS 68 rK2 (some 50) (fun ns l => match ns with
  | [a, b] => (ckK l && decide ((0 ≤ a ∧ 0 ≤ b ∧ l.length < 1000000000) ∧ a < b ∧ b ≤ l.length), .tuple [], arL encK (Go.Sort.heapSort ltK (liftK l) a.toNat b.toNat))
  | _ => (false, .undef, l)) fun ns l h => by
 match ns, h with
 | [a, b], h =>
   simp only [Bool.and_eq_true, decide_eq_true_eq] at h
   obtain ⟨hc, hp, hg⟩ := h
   have e : arL encK (liftK l) = l := liftK_ok hc
   have hsz : (liftK l).size = l.length := by
    have := congrArg List.length e
    rwa [arL_len] at this
   obtain ⟨a, rfl⟩ := Int.eq_ofNat_of_zero_le (show (0 : Int) ≤ a by omega); obtain ⟨b, rfl⟩ := Int.eq_ofNat_of_zero_le (show (0 : Int) ≤ b by omega)
   obtain ⟨N, hN⟩ := f68_run (fun v os => some (v, os)) a b (liftK l) (by omega) (by omega) (by omega)
   rw [show [Ob.arr rK2 (arL encK (liftK l)) false] = [Ob.arr rK2 l false] from congrArg (fun z : List (Ks.Ty rK2) => [Ob.arr rK2 z false]) e] at hN
   have := contract_of (P := Tryd.prog) (E := E13 8) (args := [.own 0, .int .i64 (a : Int), .int .i64 (b : Int), .fn 50 [] []]) (os := [.arr rK2 l false]) mixed (ready13 8) (f := 68) (fn := (fb Tryd.f68).1) (c := (fb Tryd.f68).2) Tryd.func68 (by kernel_rfl) (by kernel_rfl) (by decide) (by rw [glE13]; exact rfOk_no (by kernel_rfl)) hN (Nat.le_refl 1)
   rw [glE13] at this
   exact this
noncomputable def f83e : Entry Tryd.prog gls := .ownW 83 rK2 (some 50) (fun ns s l => match ns with
  | [a, b] => (ckK l && decide ((0 ≤ a ∧ 0 ≤ b ∧ 0 ≤ s ∧ s < 900 ∧ l.length < 1000000000) ∧ a < l.length ∧ b < l.length), .tuple [.int .i64 (Go.Sort.order2 ltK (liftK l) a.toNat b.toNat s.toNat).1, .int .i64 (Go.Sort.order2 ltK (liftK l) a.toNat b.toNat s.toNat).2.1], ((Go.Sort.order2 ltK (liftK l) a.toNat b.toNat s.toNat).2.2 : Int))
  | _ => (false, .undef, s)) fun ns s l h => by
 match ns, h with
 | [a, b], h =>
   simp only [Bool.and_eq_true, decide_eq_true_eq] at h
   obtain ⟨hc, hp, hg⟩ := h
   have e : arL encK (liftK l) = l := liftK_ok hc
   have hsz : (liftK l).size = l.length := by
    have := congrArg List.length e
    rwa [arL_len] at this
   obtain ⟨a, rfl⟩ := Int.eq_ofNat_of_zero_le (show (0 : Int) ≤ a by omega); obtain ⟨b, rfl⟩ := Int.eq_ofNat_of_zero_le (show (0 : Int) ≤ b by omega); obtain ⟨s, rfl⟩ := Int.eq_ofNat_of_zero_le (show (0 : Int) ≤ s by omega)
   obtain ⟨N, hN⟩ := f83_run (fun v os => some (v, os)) a b s (liftK l) (by omega) (by omega) (by omega) (by omega)
   have eo : ∀ o : Ob, [Ob.arr rK2 (arL encK (liftK l)) false, o] = [Ob.arr rK2 l false, o] := fun o => congrArg (fun z : List (Ks.Ty rK2) => [Ob.arr rK2 z false, o]) e
   rw [eo, eo] at hN
   have := contract_of (P := Tryd.prog) (E := E13 8) (args := [.own 0, .int .i64 (a : Int), .int .i64 (b : Int), .ref 1 0 0 0, .fn 50 [] []]) (os := [.arr rK2 l false, .var [.int .i64 (s : Int)]]) mixed (ready13 8) (f := 83) (fn := (fb Tryd.f83).1) (c := (fb Tryd.f83).2) Tryd.func83 (by kernel_rfl) (by kernel_rfl) (by decide) (by rw [glE13]; exact rfOk_no (by kernel_rfl)) hN (Nat.le_refl 2)
   rw [glE13] at this
   exact this
noncomputable def es14 : List (Entry Tryd.prog gls) := [f68e, f83e] ++ es13
noncomputable def E14 (n : Nat) : Env := interp fns (look tys) gls mvs (tabOf es14) 100000 n
theorem ready14 (n : Nat) : Ready Tryd.prog (E14 n) := ready_of mixed fnsAll tysOk rfsOk n
theorem glE14 (n : Nat) : (E14 n).gl = gls := by cases n <;> rfl
end Vm.S14
open Go Go.Proofs Go.IntKind
namespace Vm.S14
variable {R : Type} (J : List Item → St → Option R) (kk : V → List Ob → Option R)
noncomputable abbrev f82cuts : Cuts := fun _ => none
noncomputable abbrev k82 {Q : Type} (k : V → List Ob → Option Q) := vend (E14 8) 2 (fb Tryd.f82).1.results.toList false k
theorem f82_go (a b c s : Int) (l : List (Int × Int)) :
 vseg (E14 8) f82cuts 2 J (k82 kk) 100000 true [.code (fb Tryd.f82).2] (start ([V.own (0 : Nat), V.int i64 a, V.int i64 b, V.int i64 c, V.ref (1 : Nat) (0 : Nat) (0 : Nat) (0 : Nat), V.fn (50 : Nat) [] []]) ([Ob.arr rK2 l false, Ob.var [V.int i64 s]])) =
 (bif ckK l && decide (((0 : Int) ≤ a ∧ (0 : Int) ≤ b ∧ (0 : Int) ≤ s ∧ s < 900 ∧ l.length < 1000000000) ∧ a < (↑l.length : Int) ∧ b < (↑l.length : Int)) then
 (bif ckK l && decide (((0 : Int) ≤ (↑(«Sort».order2 ltK (liftK l) a.toNat b.toNat s.toNat).snd.fst : Int) ∧ (0 : Int) ≤ c ∧ (0 : Int) ≤ (↑(«Sort».order2 ltK (liftK l) a.toNat b.toNat s.toNat).snd.snd : Int) ∧ (↑(«Sort».order2 ltK (liftK l) a.toNat b.toNat s.toNat).snd.snd : Int) < 900 ∧ l.length < 1000000000) ∧ (↑(«Sort».order2 ltK (liftK l) a.toNat b.toNat s.toNat).snd.fst : Int) < (↑l.length : Int) ∧ c < (↑l.length : Int)) then
 (bif ckK l && decide (((0 : Int) ≤ (↑(«Sort».order2 ltK (liftK l) a.toNat b.toNat s.toNat).fst : Int) ∧ (0 : Int) ≤ (↑(«Sort».order2 ltK (liftK l) (↑(«Sort».order2 ltK (liftK l) a.toNat b.toNat s.toNat).snd.fst : Int).toNat c.toNat (↑(«Sort».order2 ltK (liftK l) a.toNat b.toNat s.toNat).snd.snd : Int).toNat).fst : Int) ∧ (0 : Int) ≤ (↑(«Sort».order2 ltK (liftK l) (↑(«Sort».order2 ltK (liftK l) a.toNat b.toNat s.toNat).snd.fst : Int).toNat c.toNat (↑(«Sort».order2 ltK (liftK l) a.toNat b.toNat s.toNat).snd.snd : Int).toNat).snd.snd : Int) ∧ (↑(«Sort».order2 ltK (liftK l) (↑(«Sort».order2 ltK (liftK l) a.toNat b.toNat s.toNat).snd.fst : Int).toNat c.toNat (↑(«Sort».order2 ltK (liftK l) a.toNat b.toNat s.toNat).snd.snd : Int).toNat).snd.snd : Int) < 900 ∧ l.length < 1000000000) ∧ (↑(«Sort».order2 ltK (liftK l) a.toNat b.toNat s.toNat).fst : Int) < (↑l.length : Int) ∧ (↑(«Sort».order2 ltK (liftK l) (↑(«Sort».order2 ltK (liftK l) a.toNat b.toNat s.toNat).snd.fst : Int).toNat c.toNat (↑(«Sort».order2 ltK (liftK l) a.toNat b.toNat s.toNat).snd.snd : Int).toNat).fst : Int) < (↑l.length : Int)) then
 kk (V.int i64 (↑(«Sort».order2 ltK (liftK l) (↑(«Sort».order2 ltK (liftK l) a.toNat b.toNat s.toNat).fst : Int).toNat (↑(«Sort».order2 ltK (liftK l) (↑(«Sort».order2 ltK (liftK l) a.toNat b.toNat s.toNat).snd.fst : Int).toNat c.toNat (↑(«Sort».order2 ltK (liftK l) a.toNat b.toNat s.toNat).snd.snd : Int).toNat).fst : Int).toNat (↑(«Sort».order2 ltK (liftK l) (↑(«Sort».order2 ltK (liftK l) a.toNat b.toNat s.toNat).snd.fst : Int).toNat c.toNat (↑(«Sort».order2 ltK (liftK l) a.toNat b.toNat s.toNat).snd.snd : Int).toNat).snd.snd : Int).toNat).snd.fst : Int)) ([Ob.arr rK2 l false, Ob.var [V.int i64 (↑(«Sort».order2 ltK (liftK l) (↑(«Sort».order2 ltK (liftK l) a.toNat b.toNat s.toNat).fst : Int).toNat (↑(«Sort».order2 ltK (liftK l) (↑(«Sort».order2 ltK (liftK l) a.toNat b.toNat s.toNat).snd.fst : Int).toNat c.toNat (↑(«Sort».order2 ltK (liftK l) a.toNat b.toNat s.toNat).snd.snd : Int).toNat).fst : Int).toNat (↑(«Sort».order2 ltK (liftK l) (↑(«Sort».order2 ltK (liftK l) a.toNat b.toNat s.toNat).snd.fst : Int).toNat c.toNat (↑(«Sort».order2 ltK (liftK l) a.toNat b.toNat s.toNat).snd.snd : Int).toNat).snd.snd : Int).toNat).snd.snd : Int)]])
 else none)
 else none)
 else none) := by kernel_rfl
end Vm.S14
open Go Go.Proofs
namespace Vm.S14
theorem order2_rng {α : Type} [Inhabited α] (lt : α → α → Bool) (d : Array α) (a b s n : Nat) (ha : a < n) (hb : b < n) : (Go.Sort.order2 lt d a b s).1 < n ∧ (Go.Sort.order2 lt d a b s).2.1 < n ∧ s ≤ (Go.Sort.order2 lt d a b s).2.2 ∧ (Go.Sort.order2 lt d a b s).2.2 ≤ s + 1 := by
 unfold Go.Sort.order2
 split
 ·exact ⟨hb, ha, Nat.le_succ _, Nat.le_refl _⟩
 ·exact ⟨ha, hb, Nat.le_refl _, Nat.le_succ _⟩
theorem median_rng {α : Type} [Inhabited α] (lt : α → α → Bool) (d : Array α) (a b c s n : Nat) (ha : a < n) (hb : b < n) (hc : c < n) : (Go.Sort.median lt d a b c s).1 < n ∧ s ≤ (Go.Sort.median lt d a b c s).2 ∧ (Go.Sort.median lt d a b c s).2 ≤ s + 3 := by
 have r1 := order2_rng lt d a b s n ha hb
 have r2 := order2_rng lt d (Go.Sort.order2 lt d a b s).2.1 c (Go.Sort.order2 lt d a b s).2.2 n r1.2.1 hc
 have r3 := order2_rng lt d (Go.Sort.order2 lt d a b s).1 (Go.Sort.order2 lt d (Go.Sort.order2 lt d a b s).2.1 c (Go.Sort.order2 lt d a b s).2.2).1 (Go.Sort.order2 lt d (Go.Sort.order2 lt d a b s).2.1 c (Go.Sort.order2 lt d a b s).2.2).2.2 n r1.1 r2.1
 unfold Go.Sort.median
 dsimp only
 omega
theorem f82_run {R : Type} (kk : V → List Ob → Option R) (a b c s : Nat) (d : Array KtP) (hn : d.size < 1000000000) (ha : a < d.size) (hb : b < d.size) (hc : c < d.size) (hs : s < 800) :
  ∃ N, vrun (E14 8) f82cuts 2 100000 (k82 kk) N [.code (fb Tryd.f82).2] (start [.own 0, .int .i64 a, .int .i64 b, .int .i64 c, .ref 1 0 0 0, .fn 50 [] []] [.arr rK2 (arL encK d) false, .var [.int .i64 s]]) =
    kk (.int .i64 (Go.Sort.median ltK d a b c s).1) [.arr rK2 (arL encK d) false, .var [.int .i64 (Go.Sort.median ltK d a b c s).2]] := by
 have r1 := order2_rng ltK d a b s d.size ha hb
 have r2 := order2_rng ltK d (Go.Sort.order2 ltK d a b s).2.1 c (Go.Sort.order2 ltK d a b s).2.2 d.size r1.2.1 hc
 refine ⟨1, ?_⟩
 rw [vrun_succ]
 refine (f82_go _ kk a b c s (arL encK d)).trans ?_
 simp only [Int.toNat_natCast, lar_K, cka_K, arL_len, Bool.true_and]
 rw [bif_pos (by exact decide_eq_true (by omega)), bif_pos (by exact decide_eq_true (by omega)), bif_pos (by exact decide_eq_true (by omega))]
 rfl
end Vm.S14
open Go Go.Proofs
namespace Vm.S14
noncomputable def f82e : Entry Tryd.prog gls := .ownW 82 rK2 (some 50) (fun ns s l => match ns with
  | [a, b, c] => (ckK l && decide ((0 ≤ a ∧ 0 ≤ b ∧ 0 ≤ c ∧ 0 ≤ s ∧ s < 900 ∧ l.length < 1000000000) ∧ s < 800 ∧ a < l.length ∧ b < l.length ∧ c < l.length), .int .i64 (Go.Sort.median ltK (liftK l) a.toNat b.toNat c.toNat s.toNat).1, ((Go.Sort.median ltK (liftK l) a.toNat b.toNat c.toNat s.toNat).2 : Int))
  | _ => (false, .undef, s)) fun ns s l h => by
 match ns, h with
 | [a, b, c], h =>
   simp only [Bool.and_eq_true, decide_eq_true_eq] at h
   obtain ⟨hc, hp, hg⟩ := h
   have e : arL encK (liftK l) = l := liftK_ok hc
   have hsz : (liftK l).size = l.length := by
    have := congrArg List.length e
    rwa [arL_len] at this
   obtain ⟨a, rfl⟩ := Int.eq_ofNat_of_zero_le (show (0 : Int) ≤ a by omega); obtain ⟨b, rfl⟩ := Int.eq_ofNat_of_zero_le (show (0 : Int) ≤ b by omega); obtain ⟨c, rfl⟩ := Int.eq_ofNat_of_zero_le (show (0 : Int) ≤ c by omega); obtain ⟨s, rfl⟩ := Int.eq_ofNat_of_zero_le (show (0 : Int) ≤ s by omega)
   obtain ⟨N, hN⟩ := f82_run (fun v os => some (v, os)) a b c s (liftK l) (by omega) (by omega) (by omega) (by omega) (by omega)
   have eo : ∀ o : Ob, [Ob.arr rK2 (arL encK (liftK l)) false, o] = [Ob.arr rK2 l false, o] := fun o => congrArg (fun z : List (Ks.Ty rK2) => [Ob.arr rK2 z false, o]) e
   rw [eo, eo] at hN
   have := contract_of (P := Tryd.prog) (E := E14 8) (args := [.own 0, .int .i64 (a : Int), .int .i64 (b : Int), .int .i64 (c : Int), .ref 1 0 0 0, .fn 50 [] []]) (os := [.arr rK2 l false, .var [.int .i64 (s : Int)]]) mixed (ready14 8) (f := 82) (fn := (fb Tryd.f82).1) (c := (fb Tryd.f82).2) Tryd.func82 (by kernel_rfl) (by kernel_rfl) (by decide) (by rw [glE14]; exact rfOk_no (by kernel_rfl)) hN (Nat.le_refl 2)
   rw [glE14] at this
   exact this
noncomputable def es15 : List (Entry Tryd.prog gls) := [f82e] ++ es14
noncomputable def E15 (n : Nat) : Env := interp fns (look tys) gls mvs (tabOf es15) 100000 n
theorem ready15 (n : Nat) : Ready Tryd.prog (E15 n) := ready_of mixed fnsAll tysOk rfsOk n
theorem glE15 (n : Nat) : (E15 n).gl = gls := by cases n <;> rfl
end Vm.S14
open Go Go.Proofs Go.IntKind
namespace Vm.S14
variable {R : Type} (J : List Item → St → Option R) (kk : V → List Ob → Option R)
noncomputable abbrev f81cuts : Cuts := fun _ => none
noncomputable abbrev k81 {Q : Type} (k : V → List Ob → Option Q) := vend (E15 8) 2 (fb Tryd.f81).1.results.toList false k
theorem f81_go (a s : Int) (l : List (Int × Int)) :
 vseg (E15 8) f81cuts 2 J (k81 kk) 100000 true [.code (fb Tryd.f81).2] (start ([V.own (0 : Nat), V.int i64 a, V.ref (1 : Nat) (0 : Nat) (0 : Nat) (0 : Nat), V.fn (50 : Nat) [] []]) ([Ob.arr rK2 l false, Ob.var [V.int i64 s]])) =
 (bif ckK l && decide (((0 : Int) ≤ i64.wrap (a - 1) ∧ (0 : Int) ≤ a ∧ (0 : Int) ≤ i64.wrap (a + 1) ∧ (0 : Int) ≤ s ∧ s < 900 ∧ l.length < 1000000000) ∧ s < 800 ∧ i64.wrap (a - 1) < (↑l.length : Int) ∧ a < (↑l.length : Int) ∧ i64.wrap (a + 1) < (↑l.length : Int)) then
 kk (V.int i64 (↑(«Sort».median ltK (liftK l) (i64.wrap (a - 1)).toNat a.toNat (i64.wrap (a + 1)).toNat s.toNat).fst : Int)) ([Ob.arr rK2 l false, Ob.var [V.int i64 (↑(«Sort».median ltK (liftK l) (i64.wrap (a - 1)).toNat a.toNat (i64.wrap (a + 1)).toNat s.toNat).snd : Int)]])
 else none) := by kernel_rfl
end Vm.S14
open Go Go.Proofs
namespace Vm.S14
theorem f81_run {R : Type} (kk : V → List Ob → Option R) (a s : Nat) (d : Array KtP) (hn : d.size < 1000000000) (ha : 1 ≤ a) (hb : a + 1 < d.size) (hs : s < 700) :
  ∃ N, vrun (E15 8) f81cuts 2 100000 (k81 kk) N [.code (fb Tryd.f81).2] (start [.own 0, .int .i64 a, .ref 1 0 0 0, .fn 50 [] []] [.arr rK2 (arL encK d) false, .var [.int .i64 s]]) =
    kk (.int .i64 (Go.Sort.medianAdjacent ltK d a s).1) [.arr rK2 (arL encK d) false, .var [.int .i64 (Go.Sort.medianAdjacent ltK d a s).2]] := by
 refine ⟨1, ?_⟩
 rw [vrun_succ]
 refine (f81_go _ kk a s (arL encK d)).trans ?_
 simp (disch := omega) only [wadd1, wsub1, Int.toNat_natCast, lar_K, cka_K, arL_len, Bool.true_and]
 rw [bif_pos (by exact decide_eq_true (by omega))]
 rfl
end Vm.S14
open Go Go.Proofs
namespace Vm.S14
noncomputable def f81e : Entry Tryd.prog gls := .ownW 81 rK2 (some 50) (fun ns s l => match ns with
  | [a] => (ckK l && decide ((0 ≤ a ∧ 0 ≤ s ∧ s < 900 ∧ l.length < 1000000000) ∧ s < 700 ∧ 1 ≤ a ∧ a + 1 < l.length), .int .i64 (Go.Sort.medianAdjacent ltK (liftK l) a.toNat s.toNat).1, ((Go.Sort.medianAdjacent ltK (liftK l) a.toNat s.toNat).2 : Int))
  | _ => (false, .undef, s)) fun ns s l h => by
 match ns, h with
 | [a], h =>
   simp only [Bool.and_eq_true, decide_eq_true_eq] at h
   obtain ⟨hc, hp, hg⟩ := h
   have e : arL encK (liftK l) = l := liftK_ok hc
   have hsz : (liftK l).size = l.length := by
    have := congrArg List.length e
    rwa [arL_len] at this
   obtain ⟨a, rfl⟩ := Int.eq_ofNat_of_zero_le (show (0 : Int) ≤ a by omega); obtain ⟨s, rfl⟩ := Int.eq_ofNat_of_zero_le (show (0 : Int) ≤ s by omega)
   obtain ⟨N, hN⟩ := f81_run (fun v os => some (v, os)) a s (liftK l) (by omega) (by omega) (by omega) (by omega)
   have eo : ∀ o : Ob, [Ob.arr rK2 (arL encK (liftK l)) false, o] = [Ob.arr rK2 l false, o] := fun o => congrArg (fun z : List (Ks.Ty rK2) => [Ob.arr rK2 z false, o]) e
   rw [eo, eo] at hN
   have := contract_of (P := Tryd.prog) (E := E15 8) (args := [.own 0, .int .i64 (a : Int), .ref 1 0 0 0, .fn 50 [] []]) (os := [.arr rK2 l false, .var [.int .i64 (s : Int)]]) mixed (ready15 8) (f := 81) (fn := (fb Tryd.f81).1) (c := (fb Tryd.f81).2) Tryd.func81 (by kernel_rfl) (by kernel_rfl) (by decide) (by rw [glE15]; exact rfOk_no (by kernel_rfl)) hN (Nat.le_refl 2)
   rw [glE15] at this
   exact this
noncomputable def es16 : List (Entry Tryd.prog gls) := [f81e] ++ es15
noncomputable def E16 (n : Nat) : Env := interp fns (look tys) gls mvs (tabOf es16) 100000 n
theorem ready16 (n : Nat) : Ready Tryd.prog (E16 n) := ready_of mixed fnsAll tysOk rfsOk n
theorem glE16 (n : Nat) : (E16 n).gl = gls := by cases n <;> rfl
end Vm.S14
